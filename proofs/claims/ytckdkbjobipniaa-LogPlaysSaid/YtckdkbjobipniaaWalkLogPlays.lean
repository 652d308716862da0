/- LogPlays' walk. Printed by wip/gen/logplays.py. -/
import Derived.Test.YtckdkbjobipniaaLogW
import Derived.Test.YtckdkbjobipniaaLogS
import Derived.Test.YtckdkbjobipniaaRefLog
import Derived.Test.YtckdkbjobipniaaRefDisk
import Derived.Test.YtckdkbjobipniaaKindsLogP
import Derived.Deep.DeepCutAuto
import Derived.Deep.CutBlock
set_option linter.unusedVariables false
set_option linter.unusedSimpArgs false
namespace Go.Proofs.Ytckdkbjobipniaa
open Go.RowKit Go.Proofs.YtckdkbjobipniaaW.PrintWords Go.Proofs.YtckdkbjobipniaaW.PrintLast
theorem isB_take {l : List Int} (h : isB l) (k : Nat) : isB (l.take k) := fun x hx => h x (List.mem_of_mem_take hx)
theorem addB_isB (m : Msg) {l : List Int} (h : isB l) (room : Int) : isB (addB m l room) := by
  unfold addB
  split
  · intro x hx
    rcases List.mem_append.1 hx with h1 | h1
    · exact h x h1
    · exact recOf_isB m x h1
  · exact h
/-- What Add does to the numbers. -/
theorem addB_room (m : Msg) (l : List Int) (room : Int) (h : (l.length : Int) ≤ room) : ((addB m l room).length : Int) ≤ room ∧ l.length ≤ (addB m l room).length := by
  unfold addB
  split
  · rename_i h0
    have := (addErr_ok h0).2
    rw [List.length_append]
    omega
  · exact ⟨h, Nat.le_refl _⟩
theorem addK_le (m : Msg) (l : List Int) (room cnt : Int) (h : cnt ≤ (l.length : Int)) (h0 : 0 ≤ cnt) : 0 ≤ addK m l.length room cnt ∧ addK m l.length room cnt ≤ ((addB m l room).length : Int) := by
  unfold addK addB
  split
  · rw [List.length_append, recOf_len]; omega
  · omega
theorem logB_cnt : ∀ (ms : List Msg), ms.length * 8 ≤ (logB ms).length
  | [] => by simp [logB]
  | m :: ms => by
    rw [logB_cons, List.length_append, recOf_len, List.length_cons]
    have := logB_cnt ms
    omega
theorem cnt_le {bs kk : List Int} (hb : isB bs) (hkk : bs.take (logRead bs).2 = kk) {l : List MH} (hl : l.map (·.m) = (logRead bs).1) {n : Nat} (hn : l.length = n) : n * 8 ≤ kk.length := by
  have h9 := decAll_inv _ bs (Nat.le_refl _) hb
  have h10 := logB_cnt (logRead bs).1
  have h11 : kk = logB (logRead bs).1 := by rw [← hkk]; exact h9.2.2.1
  rw [h11]
  rw [← hl, List.length_map, hl, hn] at h10
  exact h10
theorem maps_len {X : List Msg} {l l' : List MH} {n n' : Nat} (h : l.map (·.m) = X) (h' : l'.map (·.m) = X) (hn : l.length = n) (hn' : l'.length = n') : n = n' := by
  rw [← hn, ← hn']
  have := congrArg List.length (h.trans h'.symm)
  simpa using this
theorem pick3 {w0 w : World} {Q L Dk Rf R1 R2 R3 : HP} [a : Has L Q R1] [b : Has Dk R1 R2] [c : Has Rf R2 R3] (h : Hw w0 w Q) : Hw w0 w (L * (Dk * (Rf * HP.emp))) := by
  have h1 := h.as a.eq
  rw [b.eq, c.eq] at h1
  rw [HP.mul_emp]
  exact (h1.as (Q := L * (Dk * Rf) * R3) (by ac_rfl)).left
/-- What the switch leaves. -/
def Plays4 (w : World) (p g : Nat) (room : Int) (s7 s10 : Value) (wx : World) : Prop :=
  ∃ (q : Nat) (bytes : List Int) (dur cnt : Int), s7 = .pointer (some ⟨q, 0, none⟩) ∧ s10 = .int .i64 cnt ∧ Aside0 (isB bytes) ∧ 0 ≤ dur ∧ dur ≤ bytes.length ∧ (bytes.length : Int) ≤ room ∧ 0 ≤ cnt ∧ cnt ≤ bytes.length ∧ Aside0 (Hw w wx (logP q p cnt * (disk p bytes dur room * (blk g (.cells #[.string (strOfNums bytes), .int .i64 dur, .int .i64 room] 51) * HP.emp))))
theorem plays_le {w0 w : World} {L Dk R X E : HP} (h : Hw w0 w (L * (Dk * (R * (X * E))))) : Hw w0 w (L * (Dk * (R * E))) := (h.as (Q := L * (Dk * (R * E)) * X) (by ac_rfl)).left
set_option maxHeartbeats 12800000 in
set_option maxRecDepth 100000 in
theorem logPlays_ok (room : Int) (A : Option Addr) (n ca : Nat) (ys : List TO) (w : World) (hA : KOp4.C w A n ys) (hS : ∀ y ∈ ys, sO0 y) (hr : 0 ≤ room) (hr2 : room ≤ 1048576) :
    Calls Try.prog 4 #[.int .i64 room, .slice A n ca] w fun e w' => e = .returned (.bool true) ∧ Below w.heap.size w w' := by
  have hm := C_max' hA
  have HA := Aside0.mk hA
  have HS := Aside0.mk hS
  clear hA hS
  go_enter Try.func4, Try.ntmps4
  go_wp2_with fail
  refine (lawake_ok w).mono ?_
  rintro e w1 ⟨rfl, h1⟩
  have H1 := Aside0.mk ((Hw.start w).from_below h1)
  clear h1
  go_wp2_with fail
  refine (new_ok room hr hr2 H1.out).mono ?_
  rintro e w2 ⟨p, rfl, h2⟩
  have H2 := Aside0.mk h2
  clear h2 H1
  go_wp2_with fail
  refine (lopen_logB [] (fun m hm => by simp at hm) (by decide) H2.out).mono ?_
  rintro e w3 ⟨q, Ao, no, co, lo, rfl, _, _, hno, _, _, h3⟩
  obtain rfl : no = 0 := hno
  have H3 := Aside0.mk (((cut_move h3).drop (crow 12 27 Ao 0 co (lo.flatMap mhC))).drop (msgsP lo))
  have H4 := Aside0.mk (H3.out.alloc (.cells #[.string ⟨#[]⟩, .int .i64 0, .int .i64 room] 51))
  clear h3 H2 H3
  go_wp2_with fail
  obtain ⟨g, hg⟩ : ∃ g, g = w3.heap.size := ⟨_, rfl⟩
  rw [← hg] at H4
  rw [← hg]
  clear hg
  go_loopw [39, 7, 10] (fun i s7 s10 wr => ∃ (k : Nat), k ≤ n ∧ i = .int .i64 k ∧ Plays4 w p g room s7 s10 wr) (fun i _ _ _ => n - (intOf i).toNat)
  case atStart => exact ⟨0, Nat.zero_le _, rfl, q, [], 0, 0, rfl, rfl, ⟨fun x hx => by simp at hx⟩, by omega, by simp, by simpa using hr, by omega, by simp, ⟨H4.out.as (by show _ = logP q p 0 * (disk p [] 0 room * (blk g (.cells #[.string (⟨#[]⟩ : ByteArray), .int .i64 0, .int .i64 room] 51) * HP.emp)); ac_rfl)⟩⟩
  case round =>
    obtain ⟨k, hk, rfl, q, bytes, dur, cnt, rfl, rfl, BB, h0, h1, h2, hc0, hc1, HW⟩ := hrel
    clear H4
    by_cases hlt : k < n
    · obtain ⟨ad, ⟨kind, ⟨m, ⟨A1, n1, c1⟩, ⟨A2, n2, c2⟩, ⟨A3, n3, c3⟩, ⟨A4, n4, c4⟩⟩, B, nb, cb, bs, num⟩, rfl, OK, hcl⟩ := op4_at HA.out HS.out k hlt
      have k0 : wr.cell? (ad.add (k * 15)) = some (.int .i64 kind) := pw_cell_below HW.out.below (hcl 0 _ rfl)
      have k1 : wr.cell? ⟨(ad.add (k * 15)).block, (ad.add (k * 15)).off + 1, none⟩ = some (.int .i64 m.kind) := by
        have h := hcl 1 _ rfl
        rw [add_field _ _ _ (by decide)] at h
        exact pw_cell_below HW.out.below h
      have k2 : wr.cell? ⟨(ad.add (k * 15)).block, (ad.add (k * 15)).off + 2, none⟩ = some (.int .i64 m.src) := by
        have h := hcl 2 _ rfl
        rw [add_field _ _ _ (by decide)] at h
        exact pw_cell_below HW.out.below h
      have k3 : wr.cell? ⟨(ad.add (k * 15)).block, (ad.add (k * 15)).off + 3, none⟩ = some (.int .i64 m.dst) := by
        have h := hcl 3 _ rfl
        rw [add_field _ _ _ (by decide)] at h
        exact pw_cell_below HW.out.below h
      have k4 : wr.cell? ⟨(ad.add (k * 15)).block, (ad.add (k * 15)).off + 4, none⟩ = some (.int .i64 m.id) := by
        have h := hcl 4 _ rfl
        rw [add_field _ _ _ (by decide)] at h
        exact pw_cell_below HW.out.below h
      have k5 : wr.cell? ⟨(ad.add (k * 15)).block, (ad.add (k * 15)).off + 5, none⟩ = some (.int .i64 m.rev) := by
        have h := hcl 5 _ rfl
        rw [add_field _ _ _ (by decide)] at h
        exact pw_cell_below HW.out.below h
      have k6 : wr.cell? ⟨(ad.add (k * 15)).block, (ad.add (k * 15)).off + 6, none⟩ = some (.int .i64 m.epoch) := by
        have h := hcl 6 _ rfl
        rw [add_field _ _ _ (by decide)] at h
        exact pw_cell_below HW.out.below h
      have k7 : wr.cell? ⟨(ad.add (k * 15)).block, (ad.add (k * 15)).off + 7, none⟩ = some (.int .i64 m.slot) := by
        have h := hcl 7 _ rfl
        rw [add_field _ _ _ (by decide)] at h
        exact pw_cell_below HW.out.below h
      have k8 : wr.cell? ⟨(ad.add (k * 15)).block, (ad.add (k * 15)).off + 8, none⟩ = some (.bool m.flag) := by
        have h := hcl 8 _ rfl
        rw [add_field _ _ _ (by decide)] at h
        exact pw_cell_below HW.out.below h
      have k9 : wr.cell? ⟨(ad.add (k * 15)).block, (ad.add (k * 15)).off + 9, none⟩ = some (.slice A1 n1 c1) := by
        have h := hcl 9 _ rfl
        rw [add_field _ _ _ (by decide)] at h
        exact pw_cell_below HW.out.below h
      have k10 : wr.cell? ⟨(ad.add (k * 15)).block, (ad.add (k * 15)).off + 10, none⟩ = some (.slice A2 n2 c2) := by
        have h := hcl 10 _ rfl
        rw [add_field _ _ _ (by decide)] at h
        exact pw_cell_below HW.out.below h
      have k11 : wr.cell? ⟨(ad.add (k * 15)).block, (ad.add (k * 15)).off + 11, none⟩ = some (.slice A3 n3 c3) := by
        have h := hcl 11 _ rfl
        rw [add_field _ _ _ (by decide)] at h
        exact pw_cell_below HW.out.below h
      have k12 : wr.cell? ⟨(ad.add (k * 15)).block, (ad.add (k * 15)).off + 12, none⟩ = some (.slice A4 n4 c4) := by
        have h := hcl 12 _ rfl
        rw [add_field _ _ _ (by decide)] at h
        exact pw_cell_below HW.out.below h
      have k13 : wr.cell? ⟨(ad.add (k * 15)).block, (ad.add (k * 15)).off + 13, none⟩ = some (.slice B nb cb) := by
        have h := hcl 13 _ rfl
        rw [add_field _ _ _ (by decide)] at h
        exact pw_cell_below HW.out.below h
      have k14 : wr.cell? ⟨(ad.add (k * 15)).block, (ad.add (k * 15)).off + 14, none⟩ = some (.int .i64 num) := by
        have h := hcl 14 _ rfl
        rw [add_field _ _ _ (by decide)] at h
        exact pw_cell_below HW.out.below h
      clear hcl
      obtain ⟨b, hb⟩ : ∃ b, wr.heap.size = b := ⟨_, rfl⟩
      have ltg := HW.out.ltB g
      have ltq := HW.out.ltB q
      rw [hb] at ltg ltq
      have dgb : ¬ g = b := by omega
      have dbg : ¬ b = g := by omega
      have HX := Aside0.mk (HW.out.alloc (.cells #[.int .i64 0, .int .i64 0, .int .i64 0, .int .i64 0, .int .i64 0, .int .i64 0, .int .i64 0, .int .i64 0, .bool false, .slice none 0 0, .slice none 0 0, .slice none 0 0, .slice none 0 0, .slice none 0 0, .int .i64 0] 53))
      rw [hb] at HX
      go_upto_block 2 with (refine Hw.store_row rfl 53 (.tmp 12) (.tmp 42) rfl b #[.int .i64 kind, .int .i64 m.kind, .int .i64 m.src, .int .i64 m.dst, .int .i64 m.id, .int .i64 m.rev, .int .i64 m.epoch, .int .i64 m.slot, .bool m.flag, .slice A1 n1 c1, .slice A2 n2 c2, .slice A3 n3 c3, .slice A4 n4 c4, .slice B nb cb, .int .i64 num] (by simp [hb, go_sem]) rfl HX.out (by kernel_rfl) (by rfl) (by first | kernel_rfl | rfl | simp [Value.oneCell']) ?_; intro wa HB; have o0 := HB.out.cellAt b 0 (v := .int .i64 kind) rfl)
      clear HX HW k0 k1 k2 k3 k4 k5 k6 k7 k8 k9 k10 k11 k12 k13 k14 hb
      have H0 := Aside0.mk (HB.out.as (by ac_rfl : _ = logP q p cnt * (disk p bytes dur room * (blk g (.cells #[.string (strOfNums bytes), .int .i64 dur, .int .i64 room] 51) * (blk b (.cells #[.int .i64 kind, .int .i64 m.kind, .int .i64 m.src, .int .i64 m.dst, .int .i64 m.id, .int .i64 m.rev, .int .i64 m.epoch, .int .i64 m.slot, .bool m.flag, .slice A1 n1 c1, .slice A2 n2 c2, .slice A3 n3 c3, .slice A4 n4 c4, .slice B nb cb, .int .i64 num] 53) * HP.emp)))))
      clear HB
      have BL : bytes.length ≤ 1048576 := by omega
      go_cut [7, 10] (Plays4 w p g room)
      case first =>
        obtain ⟨s0, hs0⟩ : ∃ s0, s0 = strOfNums bytes := ⟨_, rfl⟩
        have S0 := Aside0.mk hs0
        have SL := Aside0.mk (show s0.size = bytes.length by rw [hs0, tx_size])
        rw [← hs0] at H0
        clear hs0
        by_cases q0 : kind = 0
        · subst q0
          have y1 := H0.out.cellAt b 1 (v := .int .i64 m.kind) rfl
          have y2 := H0.out.cellAt b 2 (v := .int .i64 m.src) rfl
          have y3 := H0.out.cellAt b 3 (v := .int .i64 m.dst) rfl
          have y4 := H0.out.cellAt b 4 (v := .int .i64 m.id) rfl
          have y5 := H0.out.cellAt b 5 (v := .int .i64 m.rev) rfl
          have y6 := H0.out.cellAt b 6 (v := .int .i64 m.epoch) rfl
          have y7 := H0.out.cellAt b 7 (v := .int .i64 m.slot) rfl
          have y8 := H0.out.cellAt b 8 (v := .bool m.flag) rfl
          have y9 := H0.out.cellAt b 9 (v := .slice A1 n1 c1) rfl
          have y10 := H0.out.cellAt b 10 (v := .slice A2 n2 c2) rfl
          have y11 := H0.out.cellAt b 11 (v := .slice A3 n3 c3) rfl
          have y12 := H0.out.cellAt b 12 (v := .slice A4 n4 c4) rfl
          have OO := OK.out.ok
          have OC := OK.out.c
          go_wp2_with fail
          refine (ladd_ok m A1 A2 A3 A4 n1 n2 n3 n4 c1 c2 c3 c4 (OC.below H0.out.below) OO H0.out hr hr2 hc0 (by omega)).mono ?_
          rintro e w5 ⟨rfl, h5⟩
          have H5 := Aside0.mk h5
          clear y1 y2 y3 y4 y5 y6 y7 y8 y9 y10 y11 y12
          clear h5 H0 OO OC o0
          have y1 := H5.out.cellAt b 1 (v := .int .i64 m.kind) rfl
          have y2 := H5.out.cellAt b 2 (v := .int .i64 m.src) rfl
          have y3 := H5.out.cellAt b 3 (v := .int .i64 m.dst) rfl
          have y4 := H5.out.cellAt b 4 (v := .int .i64 m.id) rfl
          have y5 := H5.out.cellAt b 5 (v := .int .i64 m.rev) rfl
          have y6 := H5.out.cellAt b 6 (v := .int .i64 m.epoch) rfl
          have y7 := H5.out.cellAt b 7 (v := .int .i64 m.slot) rfl
          have y8 := H5.out.cellAt b 8 (v := .bool m.flag) rfl
          have y9 := H5.out.cellAt b 9 (v := .slice A1 n1 c1) rfl
          have y10 := H5.out.cellAt b 10 (v := .slice A2 n2 c2) rfl
          have y11 := H5.out.cellAt b 11 (v := .slice A3 n3 c3) rfl
          have y12 := H5.out.cellAt b 12 (v := .slice A4 n4 c4) rfl
          have g0 := H5.out.cellAt g 0 (v := .string s0) rfl
          have g1 := H5.out.cellAt g 1 (v := .int .i64 dur) rfl
          have g2 := H5.out.cellAt g 2 (v := .int .i64 room) rfl
          have o0 := H5.out.cellAt b 0 (v := .int .i64 0) rfl
          have RA := Aside0.mk (radd_ok m A1 A2 A3 A4 n1 n2 n3 n4 c1 c2 c3 c4 bytes dur room w5 (OK.out.c.below H5.out.below) OK.out.ok OK.out.sz BL hr2)
          rw [← S0.out] at RA
          obtain ⟨er, her⟩ : ∃ er, addErr m bytes.length room = er := ⟨_, rfl⟩
          rw [her] at RA ⊢
          have ER := Aside0.mk her
          clear her
          obtain ⟨s1, hs1⟩ : ∃ s1, s1 = strOfNums (addB m bytes room) := ⟨_, rfl⟩
          rw [← hs1] at RA
          have S1 := Aside0.mk hs1
          clear hs1
          go_wp2_with fail
          refine RA.out.mono ?_
          rintro e w6 ⟨rfl, h6⟩
          have H6 := Aside0.mk (H5.out.from_below h6)
          clear y1 y2 y3 y4 y5 y6 y7 y8 y9 y10 y11 y12
          clear h6 H5 RA g0 g1 g2 o0
          have g0 := H6.out.cellAt g 0 (v := .string s0) rfl
          have g1 := H6.out.cellAt g 1 (v := .int .i64 dur) rfl
          have g2 := H6.out.cellAt g 2 (v := .int .i64 room) rfl
          have gf := H6.out.freeAt g
          have o0 := H6.out.cellAt b 0 (v := .int .i64 0) rfl
          have lg6 := H6.out.ltB g
          have dg6 : ¬ g = w6.heap.size := by omega
          have dg7 : ¬ w6.heap.size = g := by omega
          have lb6 := H6.out.ltB b
          have db6 : ¬ b = w6.heap.size := by omega
          have db7 : ¬ w6.heap.size = b := by omega
          have H7n := ((H6.out.atB g).put3l (.string s1) (.int .i64 dur) (.int .i64 room)).alloc (.cells #[.string s1, .int .i64 dur, .int .i64 room] 51)
          have H7 := Aside0.mk (H7n.right.as (by ac_rfl : _ = logP q p (addK m bytes.length room cnt) * (disk p (addB m bytes room) dur room * (blk g (.cells #[.string s1, .int .i64 dur, .int .i64 room] 51) * (blk b (.cells #[.int .i64 0, .int .i64 m.kind, .int .i64 m.src, .int .i64 m.dst, .int .i64 m.id, .int .i64 m.rev, .int .i64 m.epoch, .int .i64 m.slot, .bool m.flag, .slice A1 n1 c1, .slice A2 n2 c2, .slice A3 n3 c3, .slice A4 n4 c4, .slice B nb cb, .int .i64 num] 53) * HP.emp)))))
          clear H7n H6
          obtain ⟨ab1, ab2⟩ := addB_room m bytes room h2
          obtain ⟨ak1, ak2⟩ := addK_le m bytes room cnt hc1 hc0
          have IB := Aside0.mk (addB_isB m BB.out room)
          obtain ⟨nb', hnb⟩ : ∃ x, addB m bytes room = x := ⟨_, rfl⟩
          obtain ⟨nk, hnk⟩ : ∃ x, addK m bytes.length room cnt = x := ⟨_, rfl⟩
          by_cases he : er = 0
          · subst he
            have KK : nk = cnt + 1 := by rw [← hnk]; unfold addK; rw [if_pos ER.out]
            rw [hnb] at H7 ab1 ab2 IB S1 ak2
            rw [hnk] at H7 ak1 ak2
            subst KK
            clear hnb hnk
            have hw1 := (i64_in2 (cnt + 1) (by omega) (by omega)).1
            have hw2 := (i64_in2 (cnt + 1) (by omega) (by omega)).2
            go_wp2_with fail
            go_meet
            exact ⟨q, nb', dur, cnt + 1, rfl, rfl, IB, h0, by omega, ab1, ak1, ak2, ⟨by rw [← S1.out]; exact plays_le H7.out⟩⟩
          · have KK : nk = cnt := by rw [← hnk]; unfold addK; rw [if_neg (by rw [ER.out]; exact he)]
            have BBe : nb' = bytes := by rw [← hnb]; unfold addB; rw [if_neg (by rw [ER.out]; exact he)]
            rw [hnb] at H7 ab1 ab2 IB S1 ak2
            rw [hnk] at H7 ak1 ak2
            subst KK
            clear hnb hnk
            have he2 : (er == 0) = false := by simpa using he
            have he3 : (er != 0) = true := by simpa using he
            clear he
            go_wp2_with fail
            go_meet
            exact ⟨q, nb', dur, nk, rfl, rfl, IB, h0, by omega, ab1, ak1, ak2, ⟨by rw [← S1.out]; exact plays_le H7.out⟩⟩
        by_cases q1 : kind = 1
        · subst q1
          have y1 := H0.out.cellAt b 1 (v := .int .i64 m.kind) rfl
          have y2 := H0.out.cellAt b 2 (v := .int .i64 m.src) rfl
          have y3 := H0.out.cellAt b 3 (v := .int .i64 m.dst) rfl
          have y4 := H0.out.cellAt b 4 (v := .int .i64 m.id) rfl
          have y5 := H0.out.cellAt b 5 (v := .int .i64 m.rev) rfl
          have y6 := H0.out.cellAt b 6 (v := .int .i64 m.epoch) rfl
          have y7 := H0.out.cellAt b 7 (v := .int .i64 m.slot) rfl
          have y8 := H0.out.cellAt b 8 (v := .bool m.flag) rfl
          have y9 := H0.out.cellAt b 9 (v := .slice A1 n1 c1) rfl
          have y10 := H0.out.cellAt b 10 (v := .slice A2 n2 c2) rfl
          have y11 := H0.out.cellAt b 11 (v := .slice A3 n3 c3) rfl
          have y12 := H0.out.cellAt b 12 (v := .slice A4 n4 c4) rfl
          have OO := OK.out.ok
          have OC := OK.out.c
          go_wp2_with fail
          refine (lwrite_ok m A1 A2 A3 A4 n1 n2 n3 n4 c1 c2 c3 c4 (OC.below H0.out.below) OO H0.out hr hr2 hc0 (by omega)).mono ?_
          rintro e w5 ⟨rfl, h5⟩
          have H5 := Aside0.mk h5
          clear y1 y2 y3 y4 y5 y6 y7 y8 y9 y10 y11 y12
          clear h5 H0 OO OC o0
          have y1 := H5.out.cellAt b 1 (v := .int .i64 m.kind) rfl
          have y2 := H5.out.cellAt b 2 (v := .int .i64 m.src) rfl
          have y3 := H5.out.cellAt b 3 (v := .int .i64 m.dst) rfl
          have y4 := H5.out.cellAt b 4 (v := .int .i64 m.id) rfl
          have y5 := H5.out.cellAt b 5 (v := .int .i64 m.rev) rfl
          have y6 := H5.out.cellAt b 6 (v := .int .i64 m.epoch) rfl
          have y7 := H5.out.cellAt b 7 (v := .int .i64 m.slot) rfl
          have y8 := H5.out.cellAt b 8 (v := .bool m.flag) rfl
          have y9 := H5.out.cellAt b 9 (v := .slice A1 n1 c1) rfl
          have y10 := H5.out.cellAt b 10 (v := .slice A2 n2 c2) rfl
          have y11 := H5.out.cellAt b 11 (v := .slice A3 n3 c3) rfl
          have y12 := H5.out.cellAt b 12 (v := .slice A4 n4 c4) rfl
          have g0 := H5.out.cellAt g 0 (v := .string s0) rfl
          have g1 := H5.out.cellAt g 1 (v := .int .i64 dur) rfl
          have g2 := H5.out.cellAt g 2 (v := .int .i64 room) rfl
          have o0 := H5.out.cellAt b 0 (v := .int .i64 1) rfl
          have RA := Aside0.mk (radd_ok m A1 A2 A3 A4 n1 n2 n3 n4 c1 c2 c3 c4 bytes dur room w5 (OK.out.c.below H5.out.below) OK.out.ok OK.out.sz BL hr2)
          rw [← S0.out] at RA
          obtain ⟨er, her⟩ : ∃ er, addErr m bytes.length room = er := ⟨_, rfl⟩
          rw [her] at RA ⊢
          have ER := Aside0.mk her
          clear her
          obtain ⟨s1, hs1⟩ : ∃ s1, s1 = strOfNums (addB m bytes room) := ⟨_, rfl⟩
          rw [← hs1] at RA
          have S1 := Aside0.mk hs1
          clear hs1
          go_wp2_with fail
          refine RA.out.mono ?_
          rintro e w6 ⟨rfl, h6⟩
          have H6 := Aside0.mk (H5.out.from_below h6)
          clear y1 y2 y3 y4 y5 y6 y7 y8 y9 y10 y11 y12
          clear h6 H5 RA g0 g1 g2 o0
          have g0 := H6.out.cellAt g 0 (v := .string s0) rfl
          have g1 := H6.out.cellAt g 1 (v := .int .i64 dur) rfl
          have g2 := H6.out.cellAt g 2 (v := .int .i64 room) rfl
          have gf := H6.out.freeAt g
          have o0 := H6.out.cellAt b 0 (v := .int .i64 1) rfl
          have lg6 := H6.out.ltB g
          have dg6 : ¬ g = w6.heap.size := by omega
          have dg7 : ¬ w6.heap.size = g := by omega
          have lb6 := H6.out.ltB b
          have db6 : ¬ b = w6.heap.size := by omega
          have db7 : ¬ w6.heap.size = b := by omega
          have H7n := ((H6.out.atB g).put3l (.string s1) (.int .i64 dur) (.int .i64 room)).alloc (.cells #[.string s1, .int .i64 dur, .int .i64 room] 51)
          have H7 := Aside0.mk (H7n.right.as (by ac_rfl : _ = logP q p (addK m bytes.length room cnt) * (disk p (addB m bytes room) (addD m bytes dur room) room * (blk g (.cells #[.string s1, .int .i64 dur, .int .i64 room] 51) * (blk b (.cells #[.int .i64 1, .int .i64 m.kind, .int .i64 m.src, .int .i64 m.dst, .int .i64 m.id, .int .i64 m.rev, .int .i64 m.epoch, .int .i64 m.slot, .bool m.flag, .slice A1 n1 c1, .slice A2 n2 c2, .slice A3 n3 c3, .slice A4 n4 c4, .slice B nb cb, .int .i64 num] 53) * HP.emp)))))
          clear H7n H6
          obtain ⟨ab1, ab2⟩ := addB_room m bytes room h2
          obtain ⟨ak1, ak2⟩ := addK_le m bytes room cnt hc1 hc0
          have IB := Aside0.mk (addB_isB m BB.out room)
          obtain ⟨nb', hnb⟩ : ∃ x, addB m bytes room = x := ⟨_, rfl⟩
          obtain ⟨nk, hnk⟩ : ∃ x, addK m bytes.length room cnt = x := ⟨_, rfl⟩
          by_cases he : er = 0
          · subst he
            have KK : nk = cnt + 1 := by rw [← hnk]; unfold addK; rw [if_pos ER.out]
            have AD : addD m bytes dur room = (nb'.length : Int) := by unfold addD; rw [if_pos ER.out, hnb]
            rw [AD] at H7
            rw [hnb] at H7 ab1 ab2 IB S1 ak2
            rw [hnk] at H7 ak1 ak2
            subst KK
            clear hnb hnk AD
            have hw1 := (i64_in2 (cnt + 1) (by omega) (by omega)).1
            have hw2 := (i64_in2 (cnt + 1) (by omega) (by omega)).2
            go_wp2_with fail
            clear hw1 hw2 o0 g0 g1 g2 gf
            have SZ1 := Aside0.mk (show s1.size = nb'.length by rw [S1.out, tx_size])
            refine (refSync_ok s1 dur room _ (by rw [SZ1.out]; omega)).mono ?_
            rintro e w8 ⟨rfl, h8⟩
            have H8 := Aside0.mk (H7.out.from_below h8)
            clear h8 H7
            unfold refD
            have g0 := H8.out.cellAt g 0 (v := .string s1) rfl
            have g1 := H8.out.cellAt g 1 (v := .int .i64 dur) rfl
            have g2 := H8.out.cellAt g 2 (v := .int .i64 room) rfl
            have gf := H8.out.freeAt g
            rw [SZ1.out]
            have H9 := Aside0.mk (((H8.out.atB g).put3l (.string s1) (.int .i64 nb'.length) (.int .i64 room)).as (by ac_rfl : _ = logP q p (cnt + 1) * (disk p nb' (nb'.length : Int) room * (blk g (.cells #[.string s1, .int .i64 (nb'.length : Int), .int .i64 room] 51) * (blk b (.cells #[.int .i64 1, .int .i64 m.kind, .int .i64 m.src, .int .i64 m.dst, .int .i64 m.id, .int .i64 m.rev, .int .i64 m.epoch, .int .i64 m.slot, .bool m.flag, .slice A1 n1 c1, .slice A2 n2 c2, .slice A3 n3 c3, .slice A4 n4 c4, .slice B nb cb, .int .i64 num] 53) * HP.emp)))))
            clear H8
            go_wp2_with fail
            go_meet
            exact ⟨q, nb', nb'.length, cnt + 1, rfl, rfl, IB, by omega, by omega, ab1, ak1, ak2, ⟨by rw [← S1.out]; exact plays_le H9.out⟩⟩
          · have KK : nk = cnt := by rw [← hnk]; unfold addK; rw [if_neg (by rw [ER.out]; exact he)]
            have BBe : nb' = bytes := by rw [← hnb]; unfold addB; rw [if_neg (by rw [ER.out]; exact he)]
            have AD : addD m bytes dur room = dur := by unfold addD; rw [if_neg (by rw [ER.out]; exact he)]
            rw [AD] at H7
            rw [hnb] at H7 ab1 ab2 IB S1 ak2
            rw [hnk] at H7 ak1 ak2
            subst KK
            clear hnb hnk AD
            have he2 : (er == 0) = false := by simpa using he
            have he3 : (er != 0) = true := by simpa using he
            clear he
            go_wp2_with fail
            go_meet
            exact ⟨q, nb', dur, nk, rfl, rfl, IB, h0, by omega, ab1, ak1, ak2, ⟨by rw [← S1.out]; exact plays_le H7.out⟩⟩
        by_cases q2 : kind = 2
        · subst q2
          go_wp2_with fail
          refine (lsync_ok H0.out).mono ?_
          rintro e w5 ⟨rfl, h5⟩
          have H5 := Aside0.mk h5
          clear h5 H0
          have g0 := H5.out.cellAt g 0 (v := .string s0) rfl
          have g1 := H5.out.cellAt g 1 (v := .int .i64 dur) rfl
          have g2 := H5.out.cellAt g 2 (v := .int .i64 room) rfl
          go_wp2_with fail
          refine (refSync_ok s0 dur room _ (by rw [SL.out]; omega)).mono ?_
          rintro e w6 ⟨rfl, h6⟩
          have H6 := Aside0.mk (H5.out.from_below h6)
          clear h6 H5 g0 g1 g2
          unfold refD
          have g0 := H6.out.cellAt g 0 (v := .string s0) rfl
          have g1 := H6.out.cellAt g 1 (v := .int .i64 dur) rfl
          have g2 := H6.out.cellAt g 2 (v := .int .i64 room) rfl
          have gf := H6.out.freeAt g
          rw [SL.out]
          have H7 := Aside0.mk (((H6.out.atB g).put3l (.string s0) (.int .i64 bytes.length) (.int .i64 room)).as (by ac_rfl : _ = logP q p cnt * (disk p bytes (bytes.length : Int) room * (blk g (.cells #[.string s0, .int .i64 (bytes.length : Int), .int .i64 room] 51) * (blk b (.cells #[.int .i64 2, .int .i64 m.kind, .int .i64 m.src, .int .i64 m.dst, .int .i64 m.id, .int .i64 m.rev, .int .i64 m.epoch, .int .i64 m.slot, .bool m.flag, .slice A1 n1 c1, .slice A2 n2 c2, .slice A3 n3 c3, .slice A4 n4 c4, .slice B nb cb, .int .i64 num] 53) * HP.emp)))))
          clear H6
          go_wp2_with fail
          go_meet
          exact ⟨q, bytes, bytes.length, cnt, rfl, rfl, BB, by omega, by omega, h2, hc0, hc1, ⟨by rw [← S0.out]; exact plays_le H7.out⟩⟩
        by_cases q3 : kind = 3
        · subst q3
          have o14 := H0.out.cellAt b 14 (v := .int .i64 num) rfl
          have hke : (kept dur num bytes.length).toNat ≤ bytes.length := by unfold kept; split <;> (try split) <;> omega
          obtain ⟨nb1, hnb1⟩ : ∃ x, x = bytes.take (kept dur num bytes.length).toNat := ⟨_, rfl⟩
          have NB1 := Aside0.mk hnb1
          have NL : nb1.length ≤ bytes.length := by rw [hnb1, List.length_take]; omega
          have IB := Aside0.mk (show isB nb1 by rw [hnb1]; exact isB_take BB.out _)
          obtain ⟨t, ht⟩ : ∃ t, t = strOfNums nb1 := ⟨_, rfl⟩
          have TS := Aside0.mk ht
          have TZ := Aside0.mk (show t.size = nb1.length by rw [ht, tx_size])
          have TE := Aside0.mk (show s0.extract 0 (if num < 0 then dur else if (s0.size : Int) - dur < num then s0.size else dur + num).toNat = t by rw [S0.out, ht, hnb1, tx_size]; exact tx_to _ _)
          have CR := Aside0.mk (crash_ok p bytes dur room num (H0.out.at (disk p bytes dur room)) h0 h1)
          rw [← NB1.out] at CR
          clear hnb1 ht hke
          go_wp2_with fail
          refine CR.out.mono ?_
          rintro e w5 ⟨rfl, h5⟩
          have H5 := Aside0.mk h5
          clear h5 H0 CR o0 o14
          have g0 := H5.out.cellAt g 0 (v := .string s0) rfl
          have g1 := H5.out.cellAt g 1 (v := .int .i64 dur) rfl
          have g2 := H5.out.cellAt g 2 (v := .int .i64 room) rfl
          have o14 := H5.out.cellAt b 14 (v := .int .i64 num) rfl
          go_wp2_with fail
          refine (refCrash_ok s0 dur room num _ (by rw [SL.out]; omega) h0 (by rw [SL.out]; exact h1) t TE.out).mono ?_
          rintro e w6 ⟨rfl, h6⟩
          have H6 := Aside0.mk (H5.out.from_below h6)
          clear h6 H5 g0 g1 g2 o14
          unfold refD
          have g0 := H6.out.cellAt g 0 (v := .string s0) rfl
          have g1 := H6.out.cellAt g 1 (v := .int .i64 dur) rfl
          have g2 := H6.out.cellAt g 2 (v := .int .i64 room) rfl
          have gf := H6.out.freeAt g
          rw [TZ.out]
          have H6b := Aside0.mk ((H6.out.atB g).put3l (.string t) (.int .i64 nb1.length) (.int .i64 room))
          clear H6
          have TH := Aside0.mk (H6b.out.as (by ac_rfl : _ = disk p nb1 (nb1.length : Int) room * (blk g (.cells #[.string t, .int .i64 (nb1.length : Int), .int .i64 room] 51) * (logP q p cnt * (blk b (.cells #[.int .i64 3, .int .i64 m.kind, .int .i64 m.src, .int .i64 m.dst, .int .i64 m.id, .int .i64 m.rev, .int .i64 m.epoch, .int .i64 m.slot, .bool m.flag, .slice A1 n1 c1, .slice A2 n2 c2, .slice A3 n3 c3, .slice A4 n4 c4, .slice B nb cb, .int .i64 num] 53) * HP.emp)))))
          clear H6b
          go_wp2_with fail
          refine (lopen_ok IB.out (by have := NL; omega) TH.out).mono ?_
          rintro e w7 ⟨q7, A7, n7, c7, l7, rfl, hl7, hn7, hh7, hk7, h7⟩
          have H7 := Aside0.mk h7
          have L7 := Aside0.mk hl7
          have N7 := Aside0.mk hn7
          have HH7 := Aside0.mk hh7
          clear h7 TH hl7 hn7 hh7 g0 g1 g2 gf
          have g0 := H7.out.cellAt g 0 (v := .string t) rfl
          have g1 := H7.out.cellAt g 1 (v := .int .i64 (nb1.length : Int)) rfl
          have g2 := H7.out.cellAt g 2 (v := .int .i64 room) rfl
          have gf := H7.out.freeAt g
          have RO := Aside0.mk (fun W => rlopen_ok nb1 (nb1.length : Int) room W IB.out (by have := NL; omega))
          rw [← TS.out] at RO
          go_wp2_with fail
          refine (RO.out _).mono ?_
          rintro e w8 ⟨A8, n8, c8, l8, rfl, hl8, hn8, hh8, h8⟩
          have H8 := Aside0.mk (H7.out.trans h8)
          have L8 := Aside0.mk hl8
          have N8 := Aside0.mk hn8
          have HH8 := Aside0.mk hh8
          clear h8 H7 RO hl8 hn8 hh8 g0 g1 g2 gf
          have g0 := H8.out.cellAt g 0 (v := .string t) rfl
          have g1 := H8.out.cellAt g 1 (v := .int .i64 (nb1.length : Int)) rfl
          have g2 := H8.out.cellAt g 2 (v := .int .i64 room) rfl
          have gf := H8.out.freeAt g
          obtain ⟨kk, hkk⟩ : ∃ kk, nb1.take (logRead nb1).2 = kk := ⟨_, rfl⟩
          rw [hkk] at H8 ⊢
          have IK := Aside0.mk (show isB kk by rw [← hkk]; exact isB_take IB.out _)
          have LK : kk.length ≤ nb1.length := by rw [← hkk, List.length_take]; omega
          have NK : n8 * 8 ≤ kk.length := cnt_le IB.out hkk L8.out N8.out
          obtain ⟨sk, hsk⟩ : ∃ sk, sk = strOfNums kk := ⟨_, rfl⟩
          rw [← hsk]
          have SK := Aside0.mk hsk
          clear hkk hsk
          have H9 := Aside0.mk ((H8.out.atB g).put3l (.string sk) (.int .i64 kk.length) (.int .i64 room))
          clear H8
          have MA7 := Aside0.mk (msgs_of (H9.out.at (crow 12 27 A7 n7 c7 (l7.flatMap mhC))) N7.out (by omega) (msgsP_C l7 (H9.out.at (msgsP l7)) HH7.out))
          have MA8 := Aside0.mk (msgs_of (H9.out.at (crow 12 27 A8 n8 c8 (l8.flatMap mhC))) N8.out (by omega) (msgsP_C l8 (H9.out.at (msgsP l8)) HH8.out))
          go_wp2_with fail
          refine (msame_ok A7 n7 c7 l7 A8 n8 c8 l8 _ MA7.out MA8.out).mono ?_
          rintro e w9 ⟨bb, rfl, hbb, h9⟩
          obtain rfl : bb = true := hbb.2 (L7.out.trans L8.out.symm)
          have H10 := Aside0.mk (((H9.out.from_below h9).at (logP q7 p n7)).at (disk p kk (kk.length : Int) room))
          have N78 : n7 = n8 := maps_len L7.out L8.out N7.out N8.out
          subst N78
          skip
          clear h9 hbb MA7 MA8 g0 g1 g2 gf
          go_wp2_with fail
          go_meet
          refine ⟨q7, kk, kk.length, n7, rfl, rfl, IK, by omega, by omega, by omega, by omega, by omega, ⟨?_⟩⟩
          rw [← SK.out]
          exact pick3 H10.out
        by_cases q4 : kind = 4
        · subst q4
          have o13 := H0.out.cellAt b 13 (v := .slice B nb cb) rfl
          have BLe : nb ≤ cb := OK.out.le
          have BMx : nb ≤ 140737488351232 := OK.out.max
          have BLn := Aside0.mk (show bs.length = nb from OK.out.len)
          have BBy := Aside0.mk (show isB bs from OK.out.by_)
          have BC := Aside0.mk (show (Kd.int .u8).C w B nb bs from OK.out.b)
          have BS := Aside0.mk (show (strOfNums bs).size = nb by rw [tx_size, BLn.out])
          have DH := Aside0.mk (H0.out.at (disk p bytes dur room))
          by_cases fit : (bytes.length : Int) + nb ≤ room
          · skip
            go_wp2_with fail
            refine (append1g_ok p bytes dur room bs B nb cb _ (by rfl) DH.out hr hr2 BLn.out.symm BLe (Ent_arg BC.out _) (by omega)).mono ?_
            rintro e w5 ⟨rfl, h5⟩
            have H5 := Aside0.mk h5
            clear h5 H0 DH o0 o13
            have g0 := H5.out.cellAt g 0 (v := .string s0) rfl
            have g1 := H5.out.cellAt g 1 (v := .int .i64 dur) rfl
            have g2 := H5.out.cellAt g 2 (v := .int .i64 room) rfl
            have o13 := H5.out.cellAt b 13 (v := .slice B nb cb) rfl
            have cB : (convert 28 9 (.slice B nb cb)).run Try.prog w5 = .ok (.string (strOfNums bs)) w5 := Kd.C_string Try.underlying28 Try.underlying5 Try.underlying9 (Kd.C_below BC.out H5.out.below)
            obtain ⟨nb1, hnb1⟩ : ∃ x, bytes ++ bs = x := ⟨_, rfl⟩
            have IB := Aside0.mk (show isB nb1 by rw [← hnb1]; intro x hx; rcases List.mem_append.1 hx with h | h; exact BB.out x h; exact BBy.out x h)
            have NL : nb1.length ≤ 1048576 := by rw [← hnb1, List.length_append, BLn.out]; omega
            have NR : (nb1.length : Int) ≤ room := by rw [← hnb1, List.length_append, BLn.out]; omega
            have ND : dur ≤ (nb1.length : Int) := by rw [← hnb1, List.length_append]; omega
            obtain ⟨t, ht⟩ : ∃ t, s0 ++ strOfNums bs = t := ⟨_, rfl⟩
            have TS := Aside0.mk (show t = strOfNums nb1 by rw [← ht, S0.out, ← hnb1, tx_append])
            have RA := Aside0.mk (refAppend_ok s0 (strOfNums bs) dur room w5 (by rw [SL.out, BS.out]; exact fit) hr2)
            rw [ht] at RA
            rw [hnb1] at H5
            clear hnb1 ht
            unfold refD at RA
            go_wp2_with fail
            refine RA.out.mono ?_
            rintro e w6 ⟨rfl, h6⟩
            have H6 := Aside0.mk (H5.out.from_below h6)
            clear h6 H5 RA g0 g1 g2 o13 cB
            have g0 := H6.out.cellAt g 0 (v := .string s0) rfl
            have g1 := H6.out.cellAt g 1 (v := .int .i64 dur) rfl
            have g2 := H6.out.cellAt g 2 (v := .int .i64 room) rfl
            have gf := H6.out.freeAt g
            have H6b := Aside0.mk ((H6.out.atB g).put3l (.string t) (.int .i64 dur) (.int .i64 room))
            clear H6
            have TH := Aside0.mk (H6b.out.as (by ac_rfl : _ = disk p nb1 dur room * (blk g (.cells #[.string t, .int .i64 dur, .int .i64 room] 51) * (logP q p cnt * (blk b (.cells #[.int .i64 4, .int .i64 m.kind, .int .i64 m.src, .int .i64 m.dst, .int .i64 m.id, .int .i64 m.rev, .int .i64 m.epoch, .int .i64 m.slot, .bool m.flag, .slice A1 n1 c1, .slice A2 n2 c2, .slice A3 n3 c3, .slice A4 n4 c4, .slice B nb cb, .int .i64 num] 53) * HP.emp)))))
            clear H6b
            go_wp2_with fail
            refine (lopen_ok IB.out (by have := NL; omega) TH.out).mono ?_
            rintro e w7 ⟨q7, A7, n7, c7, l7, rfl, hl7, hn7, hh7, hk7, h7⟩
            have H7 := Aside0.mk h7
            have L7 := Aside0.mk hl7
            have N7 := Aside0.mk hn7
            have HH7 := Aside0.mk hh7
            clear h7 TH hl7 hn7 hh7 g0 g1 g2 gf
            have g0 := H7.out.cellAt g 0 (v := .string t) rfl
            have g1 := H7.out.cellAt g 1 (v := .int .i64 dur) rfl
            have g2 := H7.out.cellAt g 2 (v := .int .i64 room) rfl
            have gf := H7.out.freeAt g
            have RO := Aside0.mk (fun W => rlopen_ok nb1 dur room W IB.out (by have := NL; omega))
            rw [← TS.out] at RO
            go_wp2_with fail
            refine (RO.out _).mono ?_
            rintro e w8 ⟨A8, n8, c8, l8, rfl, hl8, hn8, hh8, h8⟩
            have H8 := Aside0.mk (H7.out.trans h8)
            have L8 := Aside0.mk hl8
            have N8 := Aside0.mk hn8
            have HH8 := Aside0.mk hh8
            clear h8 H7 RO hl8 hn8 hh8 g0 g1 g2 gf
            have g0 := H8.out.cellAt g 0 (v := .string t) rfl
            have g1 := H8.out.cellAt g 1 (v := .int .i64 dur) rfl
            have g2 := H8.out.cellAt g 2 (v := .int .i64 room) rfl
            have gf := H8.out.freeAt g
            obtain ⟨kk, hkk⟩ : ∃ kk, nb1.take (logRead nb1).2 = kk := ⟨_, rfl⟩
            rw [hkk] at H8 ⊢
            have IK := Aside0.mk (show isB kk by rw [← hkk]; exact isB_take IB.out _)
            have LK : kk.length ≤ nb1.length := by rw [← hkk, List.length_take]; omega
            have NK : n8 * 8 ≤ kk.length := cnt_le IB.out hkk L8.out N8.out
            obtain ⟨sk, hsk⟩ : ∃ sk, sk = strOfNums kk := ⟨_, rfl⟩
            rw [← hsk]
            have SK := Aside0.mk hsk
            clear hkk hsk
            have H9 := Aside0.mk ((H8.out.atB g).put3l (.string sk) (.int .i64 kk.length) (.int .i64 room))
            clear H8
            have MA7 := Aside0.mk (msgs_of (H9.out.at (crow 12 27 A7 n7 c7 (l7.flatMap mhC))) N7.out (by omega) (msgsP_C l7 (H9.out.at (msgsP l7)) HH7.out))
            have MA8 := Aside0.mk (msgs_of (H9.out.at (crow 12 27 A8 n8 c8 (l8.flatMap mhC))) N8.out (by omega) (msgsP_C l8 (H9.out.at (msgsP l8)) HH8.out))
            go_wp2_with fail
            refine (msame_ok A7 n7 c7 l7 A8 n8 c8 l8 _ MA7.out MA8.out).mono ?_
            rintro e w9 ⟨bb, rfl, hbb, h9⟩
            obtain rfl : bb = true := hbb.2 (L7.out.trans L8.out.symm)
            have H10 := Aside0.mk (((H9.out.from_below h9).at (logP q7 p n7)).at (disk p kk (kk.length : Int) room))
            have N78 : n7 = n8 := maps_len L7.out L8.out N7.out N8.out
            subst N78
            skip
            clear h9 hbb MA7 MA8 g0 g1 g2 gf
            go_wp2_with fail
            go_meet
            refine ⟨q7, kk, kk.length, n7, rfl, rfl, IK, by omega, by omega, by omega, by omega, by omega, ⟨?_⟩⟩
            rw [← SK.out]
            exact pick3 H10.out
          · skip
            go_wp2_with fail
            refine (append1g_full p bytes dur room bs B nb cb _ (by rfl) DH.out hr hr2 BLn.out.symm BLe (Ent_arg BC.out _) (by omega) (by omega)).mono ?_
            rintro e w5 ⟨rfl, h5⟩
            have H5 := Aside0.mk h5
            clear h5 H0 DH o0 o13
            have g0 := H5.out.cellAt g 0 (v := .string s0) rfl
            have g1 := H5.out.cellAt g 1 (v := .int .i64 dur) rfl
            have g2 := H5.out.cellAt g 2 (v := .int .i64 room) rfl
            have o13 := H5.out.cellAt b 13 (v := .slice B nb cb) rfl
            have cB : (convert 28 9 (.slice B nb cb)).run Try.prog w5 = .ok (.string (strOfNums bs)) w5 := Kd.C_string Try.underlying28 Try.underlying5 Try.underlying9 (Kd.C_below BC.out H5.out.below)
            have NL : bytes.length ≤ 1048576 := BL
            have RA := Aside0.mk (refAppend_full s0 (strOfNums bs) dur room w5 (by rw [SL.out, BS.out]; omega) (by rw [SL.out]; omega) (by rw [BS.out]; omega))
            unfold refD at RA
            go_wp2_with fail
            refine RA.out.mono ?_
            rintro e w6 ⟨rfl, h6⟩
            have H6 := Aside0.mk (H5.out.from_below h6)
            clear h6 H5 RA g0 g1 g2 o13 cB
            have g0 := H6.out.cellAt g 0 (v := .string s0) rfl
            have g1 := H6.out.cellAt g 1 (v := .int .i64 dur) rfl
            have g2 := H6.out.cellAt g 2 (v := .int .i64 room) rfl
            have gf := H6.out.freeAt g
            have H6b := Aside0.mk ((H6.out.atB g).put3l (.string s0) (.int .i64 dur) (.int .i64 room))
            clear H6
            have TH := Aside0.mk (H6b.out.as (by ac_rfl : _ = disk p bytes dur room * (blk g (.cells #[.string s0, .int .i64 dur, .int .i64 room] 51) * (logP q p cnt * (blk b (.cells #[.int .i64 4, .int .i64 m.kind, .int .i64 m.src, .int .i64 m.dst, .int .i64 m.id, .int .i64 m.rev, .int .i64 m.epoch, .int .i64 m.slot, .bool m.flag, .slice A1 n1 c1, .slice A2 n2 c2, .slice A3 n3 c3, .slice A4 n4 c4, .slice B nb cb, .int .i64 num] 53) * HP.emp)))))
            clear H6b
            go_wp2_with fail
            refine (lopen_ok BB.out (by have := NL; omega) TH.out).mono ?_
            rintro e w7 ⟨q7, A7, n7, c7, l7, rfl, hl7, hn7, hh7, hk7, h7⟩
            have H7 := Aside0.mk h7
            have L7 := Aside0.mk hl7
            have N7 := Aside0.mk hn7
            have HH7 := Aside0.mk hh7
            clear h7 TH hl7 hn7 hh7 g0 g1 g2 gf
            have g0 := H7.out.cellAt g 0 (v := .string s0) rfl
            have g1 := H7.out.cellAt g 1 (v := .int .i64 dur) rfl
            have g2 := H7.out.cellAt g 2 (v := .int .i64 room) rfl
            have gf := H7.out.freeAt g
            have RO := Aside0.mk (fun W => rlopen_ok bytes dur room W BB.out (by have := NL; omega))
            rw [← S0.out] at RO
            go_wp2_with fail
            refine (RO.out _).mono ?_
            rintro e w8 ⟨A8, n8, c8, l8, rfl, hl8, hn8, hh8, h8⟩
            have H8 := Aside0.mk (H7.out.trans h8)
            have L8 := Aside0.mk hl8
            have N8 := Aside0.mk hn8
            have HH8 := Aside0.mk hh8
            clear h8 H7 RO hl8 hn8 hh8 g0 g1 g2 gf
            have g0 := H8.out.cellAt g 0 (v := .string s0) rfl
            have g1 := H8.out.cellAt g 1 (v := .int .i64 dur) rfl
            have g2 := H8.out.cellAt g 2 (v := .int .i64 room) rfl
            have gf := H8.out.freeAt g
            obtain ⟨kk, hkk⟩ : ∃ kk, bytes.take (logRead bytes).2 = kk := ⟨_, rfl⟩
            rw [hkk] at H8 ⊢
            have IK := Aside0.mk (show isB kk by rw [← hkk]; exact isB_take BB.out _)
            have LK : kk.length ≤ bytes.length := by rw [← hkk, List.length_take]; omega
            have NK : n8 * 8 ≤ kk.length := cnt_le BB.out hkk L8.out N8.out
            obtain ⟨sk, hsk⟩ : ∃ sk, sk = strOfNums kk := ⟨_, rfl⟩
            rw [← hsk]
            have SK := Aside0.mk hsk
            clear hkk hsk
            have H9 := Aside0.mk ((H8.out.atB g).put3l (.string sk) (.int .i64 kk.length) (.int .i64 room))
            clear H8
            have MA7 := Aside0.mk (msgs_of (H9.out.at (crow 12 27 A7 n7 c7 (l7.flatMap mhC))) N7.out (by omega) (msgsP_C l7 (H9.out.at (msgsP l7)) HH7.out))
            have MA8 := Aside0.mk (msgs_of (H9.out.at (crow 12 27 A8 n8 c8 (l8.flatMap mhC))) N8.out (by omega) (msgsP_C l8 (H9.out.at (msgsP l8)) HH8.out))
            go_wp2_with fail
            refine (msame_ok A7 n7 c7 l7 A8 n8 c8 l8 _ MA7.out MA8.out).mono ?_
            rintro e w9 ⟨bb, rfl, hbb, h9⟩
            obtain rfl : bb = true := hbb.2 (L7.out.trans L8.out.symm)
            have H10 := Aside0.mk (((H9.out.from_below h9).at (logP q7 p n7)).at (disk p kk (kk.length : Int) room))
            have N78 : n7 = n8 := maps_len L7.out L8.out N7.out N8.out
            subst N78
            skip
            clear h9 hbb MA7 MA8 g0 g1 g2 gf
            go_wp2_with fail
            go_meet
            refine ⟨q7, kk, kk.length, n7, rfl, rfl, IK, by omega, by omega, by omega, by omega, by omega, ⟨?_⟩⟩
            rw [← SK.out]
            exact pick3 H10.out
        · go_wp2_with fail
          go_meet
          exact ⟨q, bytes, dur, cnt, rfl, rfl, BB, h0, h1, h2, hc0, hc1, ⟨by rw [← S0.out]; exact plays_le H0.out⟩⟩
      case rest =>
        obtain ⟨q', bytes', dur', cnt', rfl, rfl, BB', h0', h1', h2', hc0', hc1', HR⟩ := hcut
        clear H0 h0 h1 h2 hc0 hc1 BL dgb dbg ltg ltq
        obtain ⟨s1, hs1⟩ : ∃ s1, s1 = strOfNums bytes' := ⟨_, rfl⟩
        have hsz1 : s1.size = bytes'.length := by rw [hs1, tx_size]
        rw [← hs1] at HR
        have S1 := Aside0.mk hs1
        have HR1 := Aside0.mk HR.out.drew
        have g0 := HR1.out.cellAt g 0 (v := .string s1) rfl
        have g1 := HR1.out.cellAt g 1 (v := .int .i64 dur') rfl
        have g2 := HR1.out.cellAt g 2 (v := .int .i64 room) rfl
        have SZ1 := Aside0.mk hsz1
        have ml : s1.size ≤ 1048576 := by omega
        clear hs1 hsz1 HR
        obtain ⟨z1, hz1⟩ : ∃ z : Nat, s1.size = z := ⟨_, rfl⟩
        have e14 : wrap64 (room - (z1 : Int)) = room - z1 := (i64_in2 _ (by omega) (by omega)).1
        go_upto_region 43 with fail
        refine start_ (n := 34) (S := fun w' => w'.cell? ⟨g, 0, none⟩ = some (.string s1) ∧ w'.cell? ⟨g, 1, none⟩ = some (.int .i64 dur') ∧ w'.cell? ⟨g, 2, none⟩ = some (.int .i64 room)) (ds := []) #[false, false, false, false, false, false, false, false, false, false, false, false, false, false, false, false, false, false, false, false, false, false, false, false, false, false, false, false, false, false, false, false, false, false] (by kernel_rfl) rfl rfl ⟨g0, g1, g2⟩ (fun hHeld => ?_)
        refine pure_ (i := 0) (N := some 132) (v := ?_) (a' := ?_) #[true, false, false, false, false, false, false, false, false, false, false, false, false, false, false, false, false, false, false, false, false, false, false, false, false, false, false, false, false, false, false, false, false, false] rfl rfl (by kernel_rfl) (fun _ _ _ h => h) (Or.inl ⟨by rfl, ?_⟩) ?_ ?_
        rotate_left
        · intro w'
          go_simp
          with_reducible rfl
        rotate_left
        · simp only [Act.put, List.setIfInBounds_toArray, List.set_cons_zero, List.set_cons_succ, i64_w, i32_w]
          rfl
        refine pure_ (i := 2) (N := some 134) (v := ?_) (a' := ?_) #[true, false, true, false, false, false, false, false, false, false, false, false, false, false, false, false, false, false, false, false, false, false, false, false, false, false, false, false, false, false, false, false, false, false] rfl rfl (by kernel_rfl) (fun _ _ _ h => h) (Or.inl ⟨by rfl, ?_⟩) ?_ ?_
        rotate_left
        · intro w'
          go_simp
          with_reducible rfl
        rotate_left
        · simp only [Act.put, List.setIfInBounds_toArray, List.set_cons_zero, List.set_cons_succ, i64_w, i32_w]
          rfl
        refine one_ (i := 1) (N := some 133) #[true, true, true, false, false, false, false, false, false, false, false, false, false, false, false, false, false, false, false, false, false, false, false, false, false, false, false, false, false, false, false, false, false, false] rfl rfl (by kernel_rfl) (by decide) (fun K hK => ?_)
        refine goes_ Try.func32 (by kernel_rfl) rfl #[.pointer (some ⟨q', 0, none⟩)] (by rfl) rfl rfl (by simp only [List.map_toArray, List.map_cons, List.map_nil]; rfl) ?_
        with_reducible refine (lcount_ok HR1.out).mono ?_
        rintro e x7 ⟨rfl, hxx⟩
        refine ⟨_, rfl, ?_⟩
        subst hxx
        refine hK.out _ _ ⟨g0, g1, g2⟩ (fun hHeld => ?_)
        clear hK K
        refine norm_ (a' := ?_) ?_ ?_
        rotate_left
        · show Act.put _ (some 133) _ = _
          simp only [Act.put, List.setIfInBounds_toArray, List.set_cons_zero, List.set_cons_succ, i64_w, i32_w]
          rfl
        refine pure_ (i := 3) (N := some 135) (v := ?_) (a' := ?_) #[true, true, true, true, false, false, false, false, false, false, false, false, false, false, false, false, false, false, false, false, false, false, false, false, false, false, false, false, false, false, false, false, false, false] rfl rfl (by kernel_rfl) (fun _ _ _ h => h) (Or.inl ⟨by rfl, ?_⟩) ?_ ?_
        rotate_left
        · intro w'
          go_simp
          with_reducible rfl
        rotate_left
        · simp only [Act.put, List.setIfInBounds_toArray, List.set_cons_zero, List.set_cons_succ, i64_w, i32_w]
          rfl
        refine pure_ (i := 4) (N := some 136) (v := ?_) (a' := ?_) #[true, true, true, true, true, false, false, false, false, false, false, false, false, false, false, false, false, false, false, false, false, false, false, false, false, false, false, false, false, false, false, false, false, false] rfl rfl (by kernel_rfl) (fun _ _ _ h => h) (Or.inl ⟨by rfl, ?_⟩) ?_ ?_
        rotate_left
        · intro w'
          go_simp
          with_reducible rfl
        rotate_left
        · simp only [Act.put, List.setIfInBounds_toArray, List.set_cons_zero, List.set_cons_succ, i64_w, i32_w]
          rfl
        refine pure_ (i := 5) (N := some 137) (v := ?_) (a' := ?_) #[true, true, true, true, true, true, false, false, false, false, false, false, false, false, false, false, false, false, false, false, false, false, false, false, false, false, false, false, false, false, false, false, false, false] rfl rfl (by kernel_rfl) (fun _ _ _ h => h) (Or.inl ⟨by rfl, ?_⟩) ?_ ?_
        rotate_left
        · intro w'
          go_simp
          with_reducible rfl
        rotate_left
        · simp only [Act.put, List.setIfInBounds_toArray, List.set_cons_zero, List.set_cons_succ, i64_w, i32_w]
          rfl
        refine pure_ (i := 6) (N := some 138) (v := ?_) (a' := ?_) #[true, true, true, true, true, true, true, false, false, false, false, false, false, false, false, false, false, false, false, false, false, false, false, false, false, false, false, false, false, false, false, false, false, false] rfl rfl (by kernel_rfl) (fun _ _ _ h => h) (Or.inl ⟨by rfl, ?_⟩) ?_ ?_
        rotate_left
        · intro w'
          go_simp
          with_reducible rfl
        rotate_left
        · simp only [Act.put, List.setIfInBounds_toArray, List.set_cons_zero, List.set_cons_succ, i64_w, i32_w]
          rfl
        refine pure_ (i := 7) (N := some 139) (v := ?_) (a' := ?_) #[true, true, true, true, true, true, true, true, false, false, false, false, false, false, false, false, false, false, false, false, false, false, false, false, false, false, false, false, false, false, false, false, false, false] rfl rfl (by kernel_rfl) (fun _ _ _ h => h) (Or.inl ⟨by rfl, ?_⟩) ?_ ?_
        rotate_left
        · intro w'
          go_simp
          with_reducible rfl
        rotate_left
        · simp only [Act.put, List.setIfInBounds_toArray, List.set_cons_zero, List.set_cons_succ, i64_w, i32_w]
          rfl
        refine pure_ (i := 10) (N := some 142) (v := ?_) (a' := ?_) #[true, true, true, true, true, true, true, true, false, false, true, false, false, false, false, false, false, false, false, false, false, false, false, false, false, false, false, false, false, false, false, false, false, false] rfl rfl (by kernel_rfl) (fun _ _ _ h => h) (Or.inl ⟨by rfl, ?_⟩) ?_ ?_
        rotate_left
        · intro w'
          go_simp
          with_reducible rfl
        rotate_left
        · simp only [Act.put, List.setIfInBounds_toArray, List.set_cons_zero, List.set_cons_succ, i64_w, i32_w]
          rfl
        refine take_ (i := 11) (N := some 143) (v := ?_) (a' := ?_) #[true, true, true, true, true, true, true, true, false, false, true, true, false, false, false, false, false, false, false, false, false, false, false, false, false, false, false, false, false, false, false, false, false, false] rfl rfl (by kernel_rfl) (fun _ _ _ h => h) (Or.inl ⟨by rfl, ?_⟩) hHeld ?_ ?_
        rotate_left
        · rintro w' ⟨s0, s1, s2⟩
          go_simp
          with_reducible rfl
        rotate_left
        · simp only [Act.put, List.setIfInBounds_toArray, List.set_cons_zero, List.set_cons_succ, i64_w, i32_w]
          rfl
        refine one_ (i := 8) (N := some 140) #[true, true, true, true, true, true, true, true, true, false, true, true, false, false, false, false, false, false, false, false, false, false, false, false, false, false, false, false, false, false, false, false, false, false] rfl rfl (by kernel_rfl) (by decide) (fun K hK => ?_)
        refine goes_ Try.func33 (by kernel_rfl) rfl #[.pointer (some ⟨p, 0, none⟩)] (by rfl) rfl rfl (by simp only [List.map_toArray, List.map_cons, List.map_nil]; rfl) ?_
        with_reducible refine (bytes_n p bytes' dur' room bytes'.length rfl (by omega) (HR1.out.at (disk p bytes' dur' room))).mono ?_
        rintro e x8 ⟨AA, cc, rfl, hc1, h8⟩
        refine ⟨_, rfl, ?_⟩
        have hs8 := h8.row_string Try.underlying28 Try.underlying5 Try.underlying9
        rw [← S1.out] at hs8
        have H8 := Aside0.mk h8.right
        clear h8
        have g0 := H8.out.cellAt g 0 (v := .string s1) rfl
        have g1 := H8.out.cellAt g 1 (v := .int .i64 dur') rfl
        have g2 := H8.out.cellAt g 2 (v := .int .i64 room) rfl
        refine hK.out _ _ ⟨g0, g1, g2⟩ (fun hHeld => ?_)
        clear hK K
        refine norm_ (a' := ?_) ?_ ?_
        rotate_left
        · show Act.put _ (some 140) _ = _
          simp only [Act.put, List.setIfInBounds_toArray, List.set_cons_zero, List.set_cons_succ, i64_w, i32_w]
          rfl
        refine one_ (i := 9) (N := some 141) #[true, true, true, true, true, true, true, true, true, true, true, true, false, false, false, false, false, false, false, false, false, false, false, false, false, false, false, false, false, false, false, false, false, false] rfl rfl (by kernel_rfl) (by decide) (fun K hK => ?_)
        refine value_ (w1 := ?_) (v := ?_) (by rfl) rfl ?_ ?_
        rotate_left 2
        · go_simp
          constructor
          · rfl
          · rfl
        refine hK.out _ _ ⟨g0, g1, g2⟩ (fun hHeld => ?_)
        clear hK K
        refine norm_ (a' := ?_) ?_ ?_
        rotate_left
        · show Act.put _ (some 141) _ = _
          simp only [Act.put, List.setIfInBounds_toArray, List.set_cons_zero, List.set_cons_succ, i64_w, i32_w]
          rfl
        refine pure_ (i := 12) (N := some 144) (v := ?_) (a' := ?_) #[true, true, true, true, true, true, true, true, true, true, true, true, true, false, false, false, false, false, false, false, false, false, false, false, false, false, false, false, false, false, false, false, false, false] rfl rfl (by kernel_rfl) (fun _ _ _ h => h) (Or.inl ⟨by rfl, ?_⟩) ?_ ?_
        rotate_left
        · intro w'
          go_simp
          with_reducible rfl
        rotate_left
        · simp only [Act.put, List.setIfInBounds_toArray, List.set_cons_zero, List.set_cons_succ, i64_w, i32_w]
          rfl
        refine pure_ (i := 13) (N := some 145) (v := ?_) (a' := ?_) #[true, true, true, true, true, true, true, true, true, true, true, true, true, true, false, false, false, false, false, false, false, false, false, false, false, false, false, false, false, false, false, false, false, false] rfl rfl (by kernel_rfl) (fun _ _ _ h => h) (Or.inl ⟨by rfl, ?_⟩) ?_ ?_
        rotate_left
        · intro w'
          go_simp
          with_reducible rfl
        rotate_left
        · simp only [Act.put, List.setIfInBounds_toArray, List.set_cons_zero, List.set_cons_succ, i64_w, i32_w]
          rfl
        refine pure_ (i := 14) (N := some 146) (v := ?_) (a' := ?_) #[true, true, true, true, true, true, true, true, true, true, true, true, true, true, true, false, false, false, false, false, false, false, false, false, false, false, false, false, false, false, false, false, false, false] rfl rfl (by kernel_rfl) (fun _ _ _ h => h) (Or.inl ⟨by rfl, ?_⟩) ?_ ?_
        rotate_left
        · intro w'
          go_simp
          with_reducible rfl
        rotate_left
        · simp only [Act.put, List.setIfInBounds_toArray, List.set_cons_zero, List.set_cons_succ, i64_w, i32_w]
          rfl
        refine pure_ (i := 15) (N := some 147) (v := ?_) (a' := ?_) #[true, true, true, true, true, true, true, true, true, true, true, true, true, true, true, true, false, false, false, false, false, false, false, false, false, false, false, false, false, false, false, false, false, false] rfl rfl (by kernel_rfl) (fun _ _ _ h => h) (Or.inl ⟨by rfl, ?_⟩) ?_ ?_
        rotate_left
        · intro w'
          go_simp
          with_reducible rfl
        rotate_left
        · simp only [Act.put, List.setIfInBounds_toArray, List.set_cons_zero, List.set_cons_succ, i64_w, i32_w]
          rfl
        refine pure_ (i := 16) (N := some 148) (v := ?_) (a' := ?_) #[true, true, true, true, true, true, true, true, true, true, true, true, true, true, true, true, true, false, false, false, false, false, false, false, false, false, false, false, false, false, false, false, false, false] rfl rfl (by kernel_rfl) (fun _ _ _ h => h) (Or.inl ⟨by rfl, ?_⟩) ?_ ?_
        rotate_left
        · intro w'
          go_simp
          with_reducible rfl
        rotate_left
        · simp only [Act.put, List.setIfInBounds_toArray, List.set_cons_zero, List.set_cons_succ, i64_w, i32_w]
          rfl
        refine pure_ (i := 17) (N := some 149) (v := ?_) (a' := ?_) #[true, true, true, true, true, true, true, true, true, true, true, true, true, true, true, true, true, true, false, false, false, false, false, false, false, false, false, false, false, false, false, false, false, false] rfl rfl (by kernel_rfl) (fun _ _ _ h => h) (Or.inl ⟨by rfl, ?_⟩) ?_ ?_
        rotate_left
        · intro w'
          go_simp
          with_reducible rfl
        rotate_left
        · simp only [Act.put, List.setIfInBounds_toArray, List.set_cons_zero, List.set_cons_succ, i64_w, i32_w]
          rfl
        refine pure_ (i := 19) (N := some 151) (v := ?_) (a' := ?_) #[true, true, true, true, true, true, true, true, true, true, true, true, true, true, true, true, true, true, false, true, false, false, false, false, false, false, false, false, false, false, false, false, false, false] rfl rfl (by kernel_rfl) (fun _ _ _ h => h) (Or.inl ⟨by rfl, ?_⟩) ?_ ?_
        rotate_left
        · intro w'
          go_simp
          with_reducible rfl
        rotate_left
        · simp only [Act.put, List.setIfInBounds_toArray, List.set_cons_zero, List.set_cons_succ, i64_w, i32_w]
          rfl
        refine take_ (i := 20) (N := some 152) (v := ?_) (a' := ?_) #[true, true, true, true, true, true, true, true, true, true, true, true, true, true, true, true, true, true, false, true, true, false, false, false, false, false, false, false, false, false, false, false, false, false] rfl rfl (by kernel_rfl) (fun _ _ _ h => h) (Or.inl ⟨by rfl, ?_⟩) hHeld ?_ ?_
        rotate_left
        · rintro w' ⟨s0, s1, s2⟩
          go_simp
          with_reducible rfl
        rotate_left
        · simp only [Act.put, List.setIfInBounds_toArray, List.set_cons_zero, List.set_cons_succ, i64_w, i32_w]
          rfl
        refine one_ (i := 18) (N := some 150) #[true, true, true, true, true, true, true, true, true, true, true, true, true, true, true, true, true, true, true, true, true, false, false, false, false, false, false, false, false, false, false, false, false, false] rfl rfl (by kernel_rfl) (by decide) (fun K hK => ?_)
        refine goes_ Try.func34 (by kernel_rfl) rfl #[.pointer (some ⟨p, 0, none⟩)] (by rfl) rfl rfl (by simp only [List.map_toArray, List.map_cons, List.map_nil]; rfl) ?_
        with_reducible refine (durable_ok p bytes' dur' room (H8.out.at (disk p bytes' dur' room))).mono ?_
        rintro e x9 ⟨rfl, hd⟩
        refine ⟨_, rfl, ?_⟩
        have H9 := Aside0.mk (H8.out.drawn hd)
        have LFT := Aside0.mk (lleft_ok (H9.out.as (by ac_rfl : _ = logP q' p cnt' * (disk p bytes' dur' room * (blk g (.cells #[.string s1, .int .i64 dur', .int .i64 room] 51) * HP.emp)))) hr hr2)
        rw [← SZ1.out] at LFT
        clear hd
        have g0 := H9.out.cellAt g 0 (v := .string s1) rfl
        have g1 := H9.out.cellAt g 1 (v := .int .i64 dur') rfl
        have g2 := H9.out.cellAt g 2 (v := .int .i64 room) rfl
        refine hK.out _ _ ⟨g0, g1, g2⟩ (fun hHeld => ?_)
        clear hK K
        refine norm_ (a' := ?_) ?_ ?_
        rotate_left
        · show Act.put _ (some 150) _ = _
          simp only [Act.put, List.setIfInBounds_toArray, List.set_cons_zero, List.set_cons_succ, i64_w, i32_w]
          rfl
        refine pure_ (i := 21) (N := some 153) (v := ?_) (a' := ?_) #[true, true, true, true, true, true, true, true, true, true, true, true, true, true, true, true, true, true, true, true, true, true, false, false, false, false, false, false, false, false, false, false, false, false] rfl rfl (by kernel_rfl) (fun _ _ _ h => h) (Or.inl ⟨by rfl, ?_⟩) ?_ ?_
        rotate_left
        · intro w'
          go_simp
          with_reducible rfl
        rotate_left
        · simp only [Act.put, List.setIfInBounds_toArray, List.set_cons_zero, List.set_cons_succ, i64_w, i32_w]
          rfl
        refine pure_ (i := 22) (N := some 154) (v := ?_) (a' := ?_) #[true, true, true, true, true, true, true, true, true, true, true, true, true, true, true, true, true, true, true, true, true, true, true, false, false, false, false, false, false, false, false, false, false, false] rfl rfl (by kernel_rfl) (fun _ _ _ h => h) (Or.inl ⟨by rfl, ?_⟩) ?_ ?_
        rotate_left
        · intro w'
          go_simp
          with_reducible rfl
        rotate_left
        · simp only [Act.put, List.setIfInBounds_toArray, List.set_cons_zero, List.set_cons_succ, i64_w, i32_w]
          rfl
        refine pure_ (i := 23) (N := some 155) (v := ?_) (a' := ?_) #[true, true, true, true, true, true, true, true, true, true, true, true, true, true, true, true, true, true, true, true, true, true, true, true, false, false, false, false, false, false, false, false, false, false] rfl rfl (by kernel_rfl) (fun _ _ _ h => h) (Or.inl ⟨by rfl, ?_⟩) ?_ ?_
        rotate_left
        · intro w'
          go_simp
          with_reducible rfl
        rotate_left
        · simp only [Act.put, List.setIfInBounds_toArray, List.set_cons_zero, List.set_cons_succ, i64_w, i32_w]
          rfl
        refine pure_ (i := 24) (N := some 156) (v := ?_) (a' := ?_) #[true, true, true, true, true, true, true, true, true, true, true, true, true, true, true, true, true, true, true, true, true, true, true, true, true, false, false, false, false, false, false, false, false, false] rfl rfl (by kernel_rfl) (fun _ _ _ h => h) (Or.inl ⟨by rfl, ?_⟩) ?_ ?_
        rotate_left
        · intro w'
          go_simp
          with_reducible rfl
        rotate_left
        · simp only [Act.put, List.setIfInBounds_toArray, List.set_cons_zero, List.set_cons_succ, i64_w, i32_w]
          rfl
        refine pure_ (i := 26) (N := some 158) (v := ?_) (a' := ?_) #[true, true, true, true, true, true, true, true, true, true, true, true, true, true, true, true, true, true, true, true, true, true, true, true, true, false, true, false, false, false, false, false, false, false] rfl rfl (by kernel_rfl) (fun _ _ _ h => h) (Or.inl ⟨by rfl, ?_⟩) ?_ ?_
        rotate_left
        · intro w'
          go_simp
          with_reducible rfl
        rotate_left
        · simp only [Act.put, List.setIfInBounds_toArray, List.set_cons_zero, List.set_cons_succ, i64_w, i32_w]
          rfl
        refine pure_ (i := 28) (N := some 160) (v := ?_) (a' := ?_) #[true, true, true, true, true, true, true, true, true, true, true, true, true, true, true, true, true, true, true, true, true, true, true, true, true, false, true, false, true, false, false, false, false, false] rfl rfl (by kernel_rfl) (fun _ _ _ h => h) (Or.inl ⟨by rfl, ?_⟩) ?_ ?_
        rotate_left
        · intro w'
          go_simp
          with_reducible rfl
        rotate_left
        · simp only [Act.put, List.setIfInBounds_toArray, List.set_cons_zero, List.set_cons_succ, i64_w, i32_w]
          rfl
        refine take_ (i := 27) (N := some 159) (v := ?_) (a' := ?_) #[true, true, true, true, true, true, true, true, true, true, true, true, true, true, true, true, true, true, true, true, true, true, true, true, true, false, true, true, true, false, false, false, false, false] rfl rfl (by kernel_rfl) (fun _ _ _ h => h) (Or.inl ⟨by rfl, ?_⟩) hHeld ?_ ?_
        rotate_left
        · rintro w' ⟨s0, s1, s2⟩
          go_simp
          with_reducible rfl
        rotate_left
        · simp only [Act.put, List.setIfInBounds_toArray, List.set_cons_zero, List.set_cons_succ, i64_w, i32_w]
          rfl
        refine take_ (i := 29) (N := some 161) (v := ?_) (a' := ?_) #[true, true, true, true, true, true, true, true, true, true, true, true, true, true, true, true, true, true, true, true, true, true, true, true, true, false, true, true, true, true, false, false, false, false] rfl rfl (by kernel_rfl) (fun _ _ _ h => h) (Or.inl ⟨by rfl, ?_⟩) hHeld ?_ ?_
        rotate_left
        · rintro w' ⟨s0, s1, s2⟩
          go_simp
          with_reducible rfl
        rotate_left
        · simp only [Act.put, List.setIfInBounds_toArray, List.set_cons_zero, List.set_cons_succ, i64_w, i32_w]
          rfl
        refine pure_ (i := 30) (N := some 162) (v := ?_) (a' := ?_) #[true, true, true, true, true, true, true, true, true, true, true, true, true, true, true, true, true, true, true, true, true, true, true, true, true, false, true, true, true, true, true, false, false, false] rfl rfl (by kernel_rfl) (fun _ _ _ h => h) (Or.inl ⟨by rfl, ?_⟩) ?_ ?_
        rotate_left
        · intro w'
          go_simp
          with_reducible rfl
        rotate_left
        · simp only [Act.put, List.setIfInBounds_toArray, List.set_cons_zero, List.set_cons_succ, i64_w, i32_w]
          rfl
        refine pure_ (i := 31) (N := some 163) (v := ?_) (a' := ?_) #[true, true, true, true, true, true, true, true, true, true, true, true, true, true, true, true, true, true, true, true, true, true, true, true, true, false, true, true, true, true, true, true, false, false] rfl rfl (by kernel_rfl) (fun _ _ _ h => h) (Or.inl ⟨by rfl, ?_⟩) ?_ ?_
        rotate_left
        · intro w'
          go_simp
          with_reducible rfl
        rotate_left
        · simp only [Act.put, List.setIfInBounds_toArray, List.set_cons_zero, List.set_cons_succ, i64_w, i32_w]
          rfl
        refine one_ (i := 25) (N := some 157) #[true, true, true, true, true, true, true, true, true, true, true, true, true, true, true, true, true, true, true, true, true, true, true, true, true, true, true, true, true, true, true, true, false, false] rfl rfl (by kernel_rfl) (by decide) (fun K hK => ?_)
        refine goes_ Try.func35 (by kernel_rfl) rfl #[.pointer (some ⟨q', 0, none⟩)] (by rfl) rfl rfl (by simp only [List.map_toArray, List.map_cons, List.map_nil]; rfl) ?_
        with_reducible refine (LFT.out).mono ?_
        rintro e x11 ⟨rfl, hd⟩
        refine ⟨_, rfl, ?_⟩
        have H11 := Aside0.mk (H9.out.drawn hd)
        clear hd
        have g0 := H11.out.cellAt g 0 (v := .string s1) rfl
        have g1 := H11.out.cellAt g 1 (v := .int .i64 dur') rfl
        have g2 := H11.out.cellAt g 2 (v := .int .i64 room) rfl
        refine hK.out _ _ ⟨g0, g1, g2⟩ (fun hHeld => ?_)
        clear hK K
        refine norm_ (a' := ?_) ?_ ?_
        rotate_left
        · show Act.put _ (some 157) _ = _
          simp only [Act.put, List.setIfInBounds_toArray, List.set_cons_zero, List.set_cons_succ, i64_w, i32_w]
          rfl
        refine pure_ (i := 32) (N := some 164) (v := ?_) (a' := ?_) #[true, true, true, true, true, true, true, true, true, true, true, true, true, true, true, true, true, true, true, true, true, true, true, true, true, true, true, true, true, true, true, true, true, false] rfl rfl (by kernel_rfl) (fun _ _ _ h => h) (Or.inl ⟨by rfl, ?_⟩) ?_ ?_
        rotate_left
        · intro w'
          go_simp
          with_reducible rfl
        rotate_left
        · simp only [Act.put, List.setIfInBounds_toArray, List.set_cons_zero, List.set_cons_succ, i64_w, i32_w]
          rfl
        refine pure_ (i := 33) (N := some 165) (v := ?_) (a' := ?_) #[true, true, true, true, true, true, true, true, true, true, true, true, true, true, true, true, true, true, true, true, true, true, true, true, true, true, true, true, true, true, true, true, true, true] rfl rfl (by kernel_rfl) (fun _ _ _ h => h) (Or.inl ⟨by rfl, ?_⟩) ?_ ?_
        rotate_left
        · intro w'
          go_simp
          with_reducible rfl
        rotate_left
        · simp only [Act.put, List.setIfInBounds_toArray, List.set_cons_zero, List.set_cons_succ, i64_w, i32_w]
          rfl
        refine done_ (by kernel_rfl) ?_
        go_wp2_with fail
        go_roundw
        case rel => exact ⟨k + 1, by omega, by go_num, q', bytes', dur', cnt', rfl, rfl, BB', h0', h1', h2', hc0', hc1', ⟨by rw [← S1.out]; exact H11.out.as (by ac_rfl)⟩⟩
        case measure => simp [intOf]; omega
    · go_wp2_with fail
      go_ret
      exact ⟨rfl, HW.out.below⟩
set_option maxHeartbeats 3200000 in
set_option maxRecDepth 100000 in
theorem logPlays_bad (room : Int) (A : Option Addr) (n ca : Nat) (w : World) (hr : room < 0 ∨ 1048576 < room) :
    Calls Try.prog 4 #[.int .i64 room, .slice A n ca] w fun e w' => e = .returned (.bool true) ∧ Below w.heap.size w w' := by
  go_enter Try.func4, Try.ntmps4
  go_wp2_with fail
  refine (lawake_ok w).mono ?_
  rintro e w1 ⟨rfl, h1⟩
  have H1 := Aside0.mk ((Hw.start w).from_below h1)
  clear h1
  go_wp2_with fail
  refine (new_bad room hr).mono ?_
  rintro e w2 ⟨rfl, rfl⟩
  go_wp2_with fail
  refine (refWrong_bad room _ hr).mono ?_
  rintro e w3 ⟨rfl, hd⟩
  have H3 := Aside0.mk (H1.out.drawn hd)
  clear hd H1
  go_wp2_with fail
  go_ret
  exact ⟨rfl, H3.out.below⟩
theorem logPlays_walk (room : Int) (A : Option Addr) (ca : Nat) (ys : List TO) (w : World) (_ : (Lit.int .i64 room).wf = true) (hA : KOp4.C w A ys.length ys) (hca : ys.length ≤ ca)
    (sa : ys.length * 200 ≤ 140737488351232 ∧ ∀ y ∈ ys, sO0 y) :
    Calls Try.prog 4 #[.int .i64 room, .slice A ys.length ca] w fun e w' => e = .returned (.bool true) ∧ Below w.heap.size w w' := by
  by_cases h : room < 0 ∨ 1048576 < room
  · exact logPlays_bad room A _ ca w h
  · exact logPlays_ok room A _ ca ys w hA sa.2 (by omega) (by omega)
end Go.Proofs.Ytckdkbjobipniaa
