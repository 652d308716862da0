/- A message written: message, Encode. -/
import Derived.Test.YtloiclalcepbeaaCodeC
set_option linter.unusedVariables false
set_option linter.unusedSimpArgs false
namespace Go.Proofs.Ytloiclalcepbeaa
open Go.RowKit Go.Proofs.YtloiclalcepbeaaW.PrintWords Go.Proofs.YtloiclalcepbeaaW.PrintLast
structure Msg where
  kind : Int
  src : Int
  dst : Int
  id : Int
  rev : Int
  epoch : Int
  slot : Int
  flag : Bool
  nodes : List Int
  muts : List Mut
  pre : List Mut
  rows : List Rw
def Msg.ints (m : Msg) : List Int := [m.kind, m.src, m.dst, m.id, m.rev, m.epoch, m.slot]
/-- A message, as a value: its lists' heads. -/
abbrev msgV (m : Msg) (s1 s2 s3 s4 : Hdr) : Value := .agg #[.int .i64 m.kind, .int .i64 m.src, .int .i64 m.dst, .int .i64 m.id, .int .i64 m.rev, .int .i64 m.epoch, .int .i64 m.slot, .bool m.flag, .slice s1.1 s1.2.1 s1.2.2, .slice s2.1 s2.2.1 s2.2.2, .slice s3.1 s3.2.1 s3.2.2, .slice s4.1 s4.2.1 s4.2.2]
structure MsgC (w : World) (m : Msg) (s1 s2 s3 s4 : Hdr) : Prop where
  c1 : (Kd.int .i64).C w s1.1 s1.2.1 m.nodes
  c2 : KMut.C w s2.1 s2.2.1 m.muts
  c3 : KMut.C w s3.1 s3.2.1 m.pre
  c4 : KRow.C w s4.1 s4.2.1 m.rows
structure MsgOk (m : Msg) : Prop where
  ints : ∀ n ∈ m.ints, i64r n
  nodes : ∀ n ∈ m.nodes, i64r n
  rows : ∀ r ∈ m.rows, okR r
structure MsgFits (m : Msg) : Prop where
  l1 : m.nodes.length ≤ 1024
  l2 : m.muts.length ≤ 1024 ∧ ∀ x ∈ m.muts, fitsM x
  l3 : m.pre.length ≤ 1024 ∧ ∀ x ∈ m.pre, fitsM x
  l4 : m.rows.length ≤ 1024 ∧ ∀ x ∈ m.rows, fitsR x
def enc1 (l : List Int) : List Int := encI l.length ++ l.flatMap encI
def enc2 (l : List Mut) : List Int := encI l.length ++ l.flatMap encM
def enc4 (l : List Rw) : List Int := encI l.length ++ l.flatMap encR
def encMsg (m : Msg) : List Int := m.ints.flatMap encI ++ [bitN m.flag] ++ enc1 m.nodes ++ enc2 m.muts ++ enc2 m.pre ++ enc4 m.rows
theorem MsgC.below {w w' : World} {m : Msg} {s1 s2 s3 s4 : Hdr} (h : MsgC w m s1 s2 s3 s4) (hb : Below w.heap.size w w') : MsgC w' m s1 s2 s3 s4 := ⟨Kd.C_below h.c1 hb, Kd.C_below h.c2 hb, Kd.C_below h.c3 hb, Kd.C_below h.c4 hb⟩
theorem enc1_len (l : List Int) (h1 : l.length ≤ 1024) (h : ∀ n ∈ l, i64r n) : (enc1 l).length ≤ 1000000 := by
  have e := (encI_len (l.length : Int) (by unfold i64r; omega)).2
  have := flat_len encI 10 l (fun n hn => (encI_len n (h n hn)).2)
  unfold enc1; rw [List.length_append]; omega
theorem enc2_len (l : List Mut) (h1 : l.length ≤ 1024) (h : ∀ n ∈ l, fitsM n) : (enc2 l).length ≤ 1000000 := by
  have e := (encI_len (l.length : Int) (by unfold i64r; omega)).2
  have := flat_len encM 440 l (fun n hn => encM_len n trivial (h n hn))
  unfold enc2; rw [List.length_append]; omega
theorem enc4_len (l : List Rw) (h1 : l.length ≤ 1024) (h : ∀ n ∈ l, fitsR n) (h0 : ∀ n ∈ l, okR n) : (enc4 l).length ≤ 1000000 := by
  have e := (encI_len (l.length : Int) (by unfold i64r; omega)).2
  have := flat_len encR 440 l (fun n hn => encR_len n (h0 n hn) (h n hn))
  unfold enc4; rw [List.length_append]; omega
theorem ints_len (m : Msg) (h : MsgOk m) (k : Nat) : ((m.ints.take k).flatMap encI).length ≤ 70 := by
  have := flat_len encI 10 (m.ints.take k) (fun n hn => (encI_len n (h.ints n (List.mem_of_mem_take hn))).2)
  rw [List.length_take] at this
  have e : m.ints.length = 7 := rfl
  omega
section
variable {w0 w : World} {F : HP} {p : Nat}
set_option maxHeartbeats 6400000 in
set_option maxRecDepth 100000 in
theorem smessage_ok (m : Msg) (A1 A2 A3 A4 : Option Addr) (n1 n2 n3 n4 c1 c2 c3 c4 : Nat) (hC : MsgC w0 m (A1, n1, c1) (A2, n2, c2) (A3, n3, c3) (A4, n4, c4)) (hok : MsgOk m) (h : Hw w0 w (sinkP p [] * F)) :
    Calls Try.prog 39 #[.pointer (some ⟨p, 0, none⟩), msgV m (A1, n1, c1) (A2, n2, c2) (A3, n3, c3) (A4, n4, c4)] w fun e w' =>
      (MsgFits m ∧ e = .returned (.int .i64 0) ∧ Hw w0 w' (sinkP p (encMsg m) * F)) ∨ (¬ MsgFits m ∧ e = .returned (.int .i64 2) ∧ ∃ ys, Hw w0 w' (sinkP p ys * F)) := by
  obtain ⟨q1, q2, q3, q4⟩ := hC
  have C1 := Aside0.mk q1
  have C2 := Aside0.mk q2
  have C3 := Aside0.mk q3
  have C4 := Aside0.mk q4
  have OK := Aside0.mk hok
  have hmf : ∀ (fn : Fn) (first cap : Array Value) (w : World), (Instr.makeFunc fn first cap).run Try.prog w = .ok (.func fn first cap) w := fun _ _ _ _ => rfl
  have N1 := Aside0.mk q1.1
  have N2 := Aside0.mk q2.1
  have N3 := Aside0.mk q3.1
  have N4 := Aside0.mk q4.1
  simp only at C1 C2 C3 C4 N1 N2 N3 N4
  clear q1 q2 q3 q4 hok
  have INT := Aside0.mk (show m.ints = [m.kind, m.src, m.dst, m.id, m.rev, m.epoch, m.slot] from rfl)
  obtain ⟨kind, src, dst, id, rev, epoch, slot, flag, nodes, muts, pre, rows⟩ := m
  simp only at C1 C2 C3 C4 N1 N2 N3 N4 INT
  have H1 := Aside0.mk (((h.alloc (.cells #[.pointer (some ⟨p, 0, none⟩)] 110)).alloc (.cells #[.int .i64 kind, .int .i64 src, .int .i64 dst, .int .i64 id, .int .i64 rev, .int .i64 epoch, .int .i64 slot, .bool flag, .slice A1 n1 c1, .slice A2 n2 c2, .slice A3 n3 c3, .slice A4 n4 c4] 53)).alloc (.cells #[.int .i64 0] 25))
  simp only [World.size_alloc] at H1
  have L7 := Aside0.mk (H1.out.alloc (.cells #[.int .i64 kind, .int .i64 src, .int .i64 dst, .int .i64 id, .int .i64 rev, .int .i64 epoch, .int .i64 slot] 2))
  simp only [World.size_alloc] at L7
  clear h
  go_enter_defers Try.func39, Try.ntmps39
  go_wp2_with fail
  obtain ⟨q, hq⟩ : ∃ q, q = w.heap.size := ⟨_, rfl⟩
  have R0 := Aside0.mk (L7.out.as (Q := sinkP p [] * (capP w.heap.size p * (blk (w.heap.size + 1 + 1 + 1) (.cells #[.int .i64 kind, .int .i64 src, .int .i64 dst, .int .i64 id, .int .i64 rev, .int .i64 epoch, .int .i64 slot] 2) * (blk (w.heap.size + 1) (.cells #[.int .i64 kind, .int .i64 src, .int .i64 dst, .int .i64 id, .int .i64 rev, .int .i64 epoch, .int .i64 slot, .bool flag, .slice A1 n1 c1, .slice A2 n2 c2, .slice A3 n3 c3, .slice A4 n4 c4] 53) * (blk (w.heap.size + 1 + 1) (.cells #[.int .i64 0] 25) * F))))) (by unfold capP; ac_rfl))
  rw [← hq] at R0 ⊢
  clear hq H1 L7
  have INTL := Aside0.mk (show ∀ k : Nat, (([kind, src, dst, id, rev, epoch, slot] : List Int).take k |>.flatMap encI).length ≤ 70 from fun k => ints_len _ OK.out k)
  go_loopw [23] (fun i wr => ∃ k : Nat, k ≤ 7 ∧ i = .int .i64 k ∧ Aside0 (Hw w0 wr (sinkP p ((([kind, src, dst, id, rev, epoch, slot] : List Int).take k).flatMap encI) * (capP q p * (blk (q + 1 + 1 + 1) (.cells #[.int .i64 kind, .int .i64 src, .int .i64 dst, .int .i64 id, .int .i64 rev, .int .i64 epoch, .int .i64 slot] 2) * (blk (q + 1) (.cells #[.int .i64 kind, .int .i64 src, .int .i64 dst, .int .i64 id, .int .i64 rev, .int .i64 epoch, .int .i64 slot, .bool flag, .slice A1 n1 c1, .slice A2 n2 c2, .slice A3 n3 c3, .slice A4 n4 c4] 53) * (blk (q + 1 + 1) (.cells #[.int .i64 0] 25) * F))))))) (fun i _ => 7 - (intOf i).toNat)
  case atStart => exact ⟨0, Nat.zero_le _, rfl, R0⟩
  case round =>
    obtain ⟨k, hk, rfl, HW⟩ := hrel
    clear R0
    by_cases hlt : k < 7
    · obtain ⟨x, hx⟩ : ∃ x, ([kind, src, dst, id, rev, epoch, slot] : List Int)[k]? = some x := ⟨_, List.getElem?_eq_getElem (by simpa using hlt)⟩
      have k0 := HW.out.cellAt q 0 (v := .pointer (some ⟨p, 0, none⟩)) rfl
      have k1 := HW.out.cellAt (q + 1 + 1 + 1) k (v := .int .i64 x) (by
        have := congrArg (Option.map (Value.int .i64)) hx
        rw [← List.getElem?_map] at this
        simp only [cellOf, List.getElem?_toArray]
        exact this)
      have hxi := OK.out.ints x (by rw [INT.out]; exact List.mem_of_getElem? hx)
      have FT := Aside0.mk (flat_take encI hx)
      clear hx
      go_wp2_with fail
      refine (sint_ok x hxi (by have := INTL.out k; omega) HW.out).mono ?_
      rintro e w4 ⟨rfl, g4⟩
      have H4 := Aside0.mk g4
      clear g4 HW k0 k1
      go_wp2_with fail
      go_roundw
      case rel => exact ⟨k + 1, by omega, by go_num, ⟨by rw [FT.out]; exact H4.out⟩⟩
      case measure => simp [intOf]; omega
    · have hk2 : k = 7 := by omega
      subst hk2
      have hI : ([kind, src, dst, id, rev, epoch, slot] : List Int).take 7 = [kind, src, dst, id, rev, epoch, slot] := rfl
      have L70 := INTL.out 7
      rw [hI] at HW L70
      rw [← INT.out] at HW L70
      obtain ⟨x0, hx0⟩ : ∃ x0, x0 = (Msg.mk kind src dst id rev epoch slot flag nodes muts pre rows).ints.flatMap encI := ⟨_, rfl⟩
      rw [← hx0] at HW L70
      have X0 := Aside0.mk hx0
      clear hI hx0 hlt hk INTL
      have k0 := HW.out.cellAt q 0 (v := .pointer (some ⟨p, 0, none⟩)) rfl
      have k1 := HW.out.cellAt (q + 1) 7 (v := .bool flag) rfl
      go_wp2_with fail
      refine (sflag_ok flag (by omega) HW.out).mono ?_
      rintro e w4 ⟨rfl, g4⟩
      have H4 := Aside0.mk g4
      clear g4 HW k0 k1
      have k0 := H4.out.cellAt q 0 (v := .pointer (some ⟨p, 0, none⟩)) rfl
      have k1 := H4.out.cellAt (q + 1) 8 (v := .slice A1 n1 c1) rfl
      go_wp2_with fail
      refine (slist1_ok A1 n1 c1 nodes C1.out OK.out.nodes (by simp; omega) H4.out).mono ?_
      rintro e w5 (⟨f1, rfl, g5⟩ | ⟨f1, rfl, ys, g5⟩)
      · have H5 := Aside0.mk g5
        have hE1 : encI n1 ++ nodes.flatMap encI = enc1 nodes := by unfold enc1; rw [N1.out]
        rw [hE1] at H5
        have B1 := Aside0.mk (enc1_len nodes (by rw [N1.out]; exact f1) OK.out.nodes)
        clear g5 H4 k0 k1 hE1
        have k0 := H5.out.cellAt q 0 (v := .pointer (some ⟨p, 0, none⟩)) rfl
        have k1 := H5.out.cellAt (q + 1) 9 (v := .slice A2 n2 c2) rfl
        go_wp2_with fail
        refine (slist2_ok A2 n2 c2 muts C2.out (fun _ _ => trivial) (by have := B1.out; simp only [List.length_append, List.length_singleton]; omega) H5.out).mono ?_
        rintro e w6 (⟨f2, rfl, g6⟩ | ⟨f2, rfl, ys, g6⟩)
        · have H6 := Aside0.mk g6
          have hE2 : encI n2 ++ muts.flatMap encM = enc2 muts := by unfold enc2; rw [N2.out]
          rw [hE2] at H6
          have B2 := Aside0.mk (enc2_len muts (by rw [N2.out]; exact f2.1) f2.2)
          clear g6 H5 k0 k1 hE2
          have k0 := H6.out.cellAt q 0 (v := .pointer (some ⟨p, 0, none⟩)) rfl
          have k1 := H6.out.cellAt (q + 1) 10 (v := .slice A3 n3 c3) rfl
          go_wp2_with fail
          refine (slist3_ok A3 n3 c3 pre C3.out (fun _ _ => trivial) (by have := B1.out; have := B2.out; simp only [List.length_append, List.length_singleton]; omega) H6.out).mono ?_
          rintro e w7 (⟨f3, rfl, g7⟩ | ⟨f3, rfl, ys, g7⟩)
          · have H7 := Aside0.mk g7
            have hE3 : encI n3 ++ pre.flatMap encM = enc2 pre := by unfold enc2; rw [N3.out]
            rw [hE3] at H7
            have B3 := Aside0.mk (enc2_len pre (by rw [N3.out]; exact f3.1) f3.2)
            clear g7 H6 k0 k1 hE3
            have k0 := H7.out.cellAt q 0 (v := .pointer (some ⟨p, 0, none⟩)) rfl
            have k1 := H7.out.cellAt (q + 1) 11 (v := .slice A4 n4 c4) rfl
            go_wp2_with fail
            refine (slist4_ok A4 n4 c4 rows C4.out OK.out.rows (by have := B1.out; have := B2.out; have := B3.out; simp only [List.length_append, List.length_singleton]; omega) H7.out).mono ?_
            rintro e w8 (⟨f4, rfl, g8⟩ | ⟨f4, rfl, ys, g8⟩)
            · have H8 := Aside0.mk (g8.atB (q + 1 + 1))
              have hE4 : encI n4 ++ rows.flatMap encR = enc4 rows := by unfold enc4; rw [N4.out]
              rw [hE4] at H8
              clear g8 H7 k0 k1 hE4
              have k2 := H8.out.cell (i := 0) (v := .int .i64 0) rfl
              have f2' := H8.out.unfrozen 0
              have HZ := Aside0.mk (H8.out.set 0 (.int .i64 0))
              go_wp2_with fail
              refine leaves_cons (f := 50) (args := #[.pointer (some ⟨q + 1 + 1, 0, none⟩)]) (by simp) (by simp [go_sem]) ?_
              refine (caught_idle (q + 1 + 1) _).mono ?_
              rintro e u' w9 ⟨rfl, rfl, rfl⟩
              have HY := Aside0.mk ((HZ.out.alloc (.cells #[.int .i64 0] 141)).atB (q + 1 + 1))
              have z0 := HY.out.cell (i := 0) (v := .int .i64 0) rfl
              have EM : encMsg ⟨kind, src, dst, id, rev, epoch, slot, flag, nodes, muts, pre, rows⟩ = x0 ++ [bitN flag] ++ enc1 nodes ++ enc2 muts ++ enc2 pre ++ enc4 rows := by rw [X0.out]; rfl
              refine ⟨.int .i64 0, by simp [results, Try.results39, go_sem, z0], .inl ⟨⟨by rw [N1.out]; exact f1, ⟨by rw [N2.out]; exact f2.1, f2.2⟩, ⟨by rw [N3.out]; exact f3.1, f3.2⟩, ⟨by rw [N4.out]; exact f4.1, f4.2⟩⟩, rfl, ?_⟩⟩
              rw [EM]
              exact (HY.out.right.right.as (Q := sinkP p (x0 ++ [bitN flag] ++ enc1 nodes ++ enc2 muts ++ enc2 pre ++ enc4 rows) * F * (capP q p * (blk (q + 1 + 1 + 1) (.cells #[.int .i64 kind, .int .i64 src, .int .i64 dst, .int .i64 id, .int .i64 rev, .int .i64 epoch, .int .i64 slot] 2) * blk (q + 1) (.cells #[.int .i64 kind, .int .i64 src, .int .i64 dst, .int .i64 id, .int .i64 rev, .int .i64 epoch, .int .i64 slot, .bool flag, .slice A1 n1 c1, .slice A2 n2 c2, .slice A3 n3 c3, .slice A4 n4 c4] 53)))) (by unfold capP; ac_rfl)).left
            · have H8 := Aside0.mk g8
              clear g8 H7 k0 k1
              have k2 := (H8.out.atB (q + 1 + 1)).cell (i := 0) (v := .int .i64 0) rfl
              have zf := (H8.out.atB (q + 1 + 1)).unfrozen 0
              have l2 := (H8.out.atB (q + 1 + 1)).lt
              refine leaves_cons (f := 50) (args := #[.pointer (some ⟨q + 1 + 1, 0, none⟩)]) (by simp) (by simp [go_sem]) ?_
              refine (caught_some (q + 1 + 1) _ 2 _ k2 zf l2).mono ?_
              rintro e u' w6 ⟨rfl, rfl, rfl⟩
              have HZ := Aside0.mk (((H8.out.alloc (.cells #[.int .i64 2] 141)).atB (q + 1 + 1)).set 0 (.int .i64 2))
              have z0 := HZ.out.cell (i := 0) (v := .int .i64 2) rfl
              refine ⟨.int .i64 2, by simp [results, Try.results39, go_sem, z0], .inr ⟨fun hh => f4 ⟨by rw [← N4.out]; exact hh.l4.1, hh.l4.2⟩, rfl, ys, ((HZ.out.at (sinkP p ys)).as (Q := sinkP p ys * F * (blk w8.heap.size (.cells #[.int .i64 2] 141) * (capP q p * (blk (q + 1 + 1 + 1) (.cells #[.int .i64 kind, .int .i64 src, .int .i64 dst, .int .i64 id, .int .i64 rev, .int .i64 epoch, .int .i64 slot] 2) * (blk (q + 1) (.cells #[.int .i64 kind, .int .i64 src, .int .i64 dst, .int .i64 id, .int .i64 rev, .int .i64 epoch, .int .i64 slot, .bool flag, .slice A1 n1 c1, .slice A2 n2 c2, .slice A3 n3 c3, .slice A4 n4 c4] 53) * blk (q + 1 + 1) (.cells #[.int .i64 2] 25)))))) (by
                show sinkP p ys * _ = _
                unfold capP
                ac_rfl)).left⟩⟩
          · have H7 := Aside0.mk g7
            clear g7 H6 k0 k1
            have k2 := (H7.out.atB (q + 1 + 1)).cell (i := 0) (v := .int .i64 0) rfl
            have zf := (H7.out.atB (q + 1 + 1)).unfrozen 0
            have l2 := (H7.out.atB (q + 1 + 1)).lt
            refine leaves_cons (f := 50) (args := #[.pointer (some ⟨q + 1 + 1, 0, none⟩)]) (by simp) (by simp [go_sem]) ?_
            refine (caught_some (q + 1 + 1) _ 2 _ k2 zf l2).mono ?_
            rintro e u' w6 ⟨rfl, rfl, rfl⟩
            have HZ := Aside0.mk (((H7.out.alloc (.cells #[.int .i64 2] 141)).atB (q + 1 + 1)).set 0 (.int .i64 2))
            have z0 := HZ.out.cell (i := 0) (v := .int .i64 2) rfl
            refine ⟨.int .i64 2, by simp [results, Try.results39, go_sem, z0], .inr ⟨fun hh => f3 ⟨by rw [← N3.out]; exact hh.l3.1, hh.l3.2⟩, rfl, ys, ((HZ.out.at (sinkP p ys)).as (Q := sinkP p ys * F * (blk w7.heap.size (.cells #[.int .i64 2] 141) * (capP q p * (blk (q + 1 + 1 + 1) (.cells #[.int .i64 kind, .int .i64 src, .int .i64 dst, .int .i64 id, .int .i64 rev, .int .i64 epoch, .int .i64 slot] 2) * (blk (q + 1) (.cells #[.int .i64 kind, .int .i64 src, .int .i64 dst, .int .i64 id, .int .i64 rev, .int .i64 epoch, .int .i64 slot, .bool flag, .slice A1 n1 c1, .slice A2 n2 c2, .slice A3 n3 c3, .slice A4 n4 c4] 53) * blk (q + 1 + 1) (.cells #[.int .i64 2] 25)))))) (by
              show sinkP p ys * _ = _
              unfold capP
              ac_rfl)).left⟩⟩
        · have H6 := Aside0.mk g6
          clear g6 H5 k0 k1
          have k2 := (H6.out.atB (q + 1 + 1)).cell (i := 0) (v := .int .i64 0) rfl
          have zf := (H6.out.atB (q + 1 + 1)).unfrozen 0
          have l2 := (H6.out.atB (q + 1 + 1)).lt
          refine leaves_cons (f := 50) (args := #[.pointer (some ⟨q + 1 + 1, 0, none⟩)]) (by simp) (by simp [go_sem]) ?_
          refine (caught_some (q + 1 + 1) _ 2 _ k2 zf l2).mono ?_
          rintro e u' w6 ⟨rfl, rfl, rfl⟩
          have HZ := Aside0.mk (((H6.out.alloc (.cells #[.int .i64 2] 141)).atB (q + 1 + 1)).set 0 (.int .i64 2))
          have z0 := HZ.out.cell (i := 0) (v := .int .i64 2) rfl
          refine ⟨.int .i64 2, by simp [results, Try.results39, go_sem, z0], .inr ⟨fun hh => f2 ⟨by rw [← N2.out]; exact hh.l2.1, hh.l2.2⟩, rfl, ys, ((HZ.out.at (sinkP p ys)).as (Q := sinkP p ys * F * (blk w6.heap.size (.cells #[.int .i64 2] 141) * (capP q p * (blk (q + 1 + 1 + 1) (.cells #[.int .i64 kind, .int .i64 src, .int .i64 dst, .int .i64 id, .int .i64 rev, .int .i64 epoch, .int .i64 slot] 2) * (blk (q + 1) (.cells #[.int .i64 kind, .int .i64 src, .int .i64 dst, .int .i64 id, .int .i64 rev, .int .i64 epoch, .int .i64 slot, .bool flag, .slice A1 n1 c1, .slice A2 n2 c2, .slice A3 n3 c3, .slice A4 n4 c4] 53) * blk (q + 1 + 1) (.cells #[.int .i64 2] 25)))))) (by
            show sinkP p ys * _ = _
            unfold capP
            ac_rfl)).left⟩⟩
      · have H5 := Aside0.mk g5
        clear g5 H4 k0 k1
        have k2 := (H5.out.atB (q + 1 + 1)).cell (i := 0) (v := .int .i64 0) rfl
        have zf := (H5.out.atB (q + 1 + 1)).unfrozen 0
        have l2 := (H5.out.atB (q + 1 + 1)).lt
        refine leaves_cons (f := 50) (args := #[.pointer (some ⟨q + 1 + 1, 0, none⟩)]) (by simp) (by simp [go_sem]) ?_
        refine (caught_some (q + 1 + 1) _ 2 _ k2 zf l2).mono ?_
        rintro e u' w6 ⟨rfl, rfl, rfl⟩
        have HZ := Aside0.mk (((H5.out.alloc (.cells #[.int .i64 2] 141)).atB (q + 1 + 1)).set 0 (.int .i64 2))
        have z0 := HZ.out.cell (i := 0) (v := .int .i64 2) rfl
        refine ⟨.int .i64 2, by simp [results, Try.results39, go_sem, z0], .inr ⟨fun hh => f1 (by rw [← N1.out]; exact hh.l1), rfl, ys, ((HZ.out.at (sinkP p ys)).as (Q := sinkP p ys * F * (blk w5.heap.size (.cells #[.int .i64 2] 141) * (capP q p * (blk (q + 1 + 1 + 1) (.cells #[.int .i64 kind, .int .i64 src, .int .i64 dst, .int .i64 id, .int .i64 rev, .int .i64 epoch, .int .i64 slot] 2) * (blk (q + 1) (.cells #[.int .i64 kind, .int .i64 src, .int .i64 dst, .int .i64 id, .int .i64 rev, .int .i64 epoch, .int .i64 slot, .bool flag, .slice A1 n1 c1, .slice A2 n2 c2, .slice A3 n3 c3, .slice A4 n4 c4] 53) * blk (q + 1 + 1) (.cells #[.int .i64 2] 25)))))) (by
          show sinkP p ys * _ = _
          unfold capP
          ac_rfl)).left⟩⟩
end
/-- What Encode answers. -/
noncomputable def encGood (m : Msg) : Bool := @decide (MsgFits m ∧ (encMsg m).length ≤ 16384) (Classical.propDecidable _)
noncomputable def encTxt (m : Msg) : List Int := if encGood m = true then encMsg m else []
noncomputable def encErr (m : Msg) : Int := if encGood m = true then 0 else 2
theorem encGood_true {m : Msg} (h1 : MsgFits m) (h2 : (encMsg m).length ≤ 16384) : encTxt m = encMsg m ∧ encErr m = 0 := by
  have : encGood m = true := @decide_eq_true _ (Classical.propDecidable _) ⟨h1, h2⟩
  unfold encTxt encErr
  rw [if_pos this, if_pos this]
  exact ⟨rfl, rfl⟩
theorem encGood_false {m : Msg} (h : ¬ (MsgFits m ∧ (encMsg m).length ≤ 16384)) : encTxt m = [] ∧ encErr m = 2 := by
  have : ¬ encGood m = true := fun hh => h (@of_decide_eq_true _ (Classical.propDecidable _) hh)
  unfold encTxt encErr
  rw [if_neg this, if_neg this]
  exact ⟨rfl, rfl⟩
set_option maxHeartbeats 1600000 in
set_option maxRecDepth 100000 in
theorem encode_ok (m : Msg) (A1 A2 A3 A4 : Option Addr) (n1 n2 n3 n4 c1 c2 c3 c4 : Nat) (w : World) (hC : MsgC w m (A1, n1, c1) (A2, n2, c2) (A3, n3, c3) (A4, n4, c4)) (hok : MsgOk m) :
    Calls Try.prog 26 #[msgV m (A1, n1, c1) (A2, n2, c2) (A3, n3, c3) (A4, n4, c4)] w fun e w' =>
      ∃ (A : Option Addr) (n c : Nat), e = .returned (.tuple #[.slice A n c, .int .i64 (encErr m)]) ∧ n = (encTxt m).length ∧ Hw w w' (row (Kd.int .u8) 5 (.slice A n c) (encTxt m) * HP.emp) := by
  have CC := Aside0.mk hC
  have OK := Aside0.mk hok
  clear hC hok
  have H1 := Aside0.mk ((((Hw.start w).alloc (.cells #[.int .i64 m.kind, .int .i64 m.src, .int .i64 m.dst, .int .i64 m.id, .int .i64 m.rev, .int .i64 m.epoch, .int .i64 m.slot, .bool m.flag, .slice A1 n1 c1, .slice A2 n2 c2, .slice A3 n3 c3, .slice A4 n4 c4] 53)).alloc (.cells #[.slice none 0 0] 85)).as (by rfl))
  simp only [World.size_alloc] at H1
  have k := fun (i : Nat) (v : Value) (hv : (#[.int .i64 m.kind, .int .i64 m.src, .int .i64 m.dst, .int .i64 m.id, .int .i64 m.rev, .int .i64 m.epoch, .int .i64 m.slot, .bool m.flag, .slice A1 n1 c1, .slice A2 n2 c2, .slice A3 n3 c3, .slice A4 n4 c4] : Array Value)[i]? = some v) => (H1.out.atB w.heap.size).cell hv
  have k0 := k 0 _ rfl
  have k1 := k 1 _ rfl
  have k2 := k 2 _ rfl
  have k3 := k 3 _ rfl
  have k4 := k 4 _ rfl
  have k5 := k 5 _ rfl
  have k6 := k 6 _ rfl
  have k7 := k 7 _ rfl
  have k8 := k 8 _ rfl
  have k9 := k 9 _ rfl
  have k10 := k 10 _ rfl
  have k11 := k 11 _ rfl
  clear k
  show Calls Try.prog 26 #[.agg #[.int .i64 m.kind, .int .i64 m.src, .int .i64 m.dst, .int .i64 m.id, .int .i64 m.rev, .int .i64 m.epoch, .int .i64 m.slot, .bool m.flag, .slice A1 n1 c1, .slice A2 n2 c2, .slice A3 n3 c3, .slice A4 n4 c4]] w _
  go_enter Try.func26, Try.ntmps26
  go_wp2_with fail
  clear k0 k1 k2 k3 k4 k5 k6 k7 k8 k9 k10 k11
  refine (smessage_ok m A1 A2 A3 A4 n1 n2 n3 n4 c1 c2 c3 c4 CC.out OK.out (sink_mk (v := .slice none 0 0) ((H1.out.row_nil (Kd.int .u8) 5).as (HP.left_comm _ _ _)))).mono ?_
  rintro e w1 (⟨hf, rfl, g1⟩ | ⟨hf, rfl, ys, g1⟩)
  · obtain ⟨A, n, c, hn, g2⟩ := sink_open g1
    have H2 := Aside0.mk g2
    have k0 := g2.cell (i := 0) (v := .slice A n c) rfl
    have NL := Aside0.mk hn
    have hm : n ≤ 9223372036854775807 := ((g2.as (Q := row (Kd.int .u8) 5 (.slice A n c) (encMsg m) * (blk (w.heap.size + 1) (.cells #[.slice A n c] 85) * _)) (HP.left_comm _ _ _)).row_C.2.2).2.1
    clear g1 g2 hn H1
    by_cases hlong : 16384 < n
    · have hE := encGood_false (m := m) (fun hh => by have := NL.out; have := hh.2; omega)
      have E1 := Aside0.mk hE
      have d1 : decide ((16384 : Int) < n) = true := decide_eq_true (by omega)
      have d2 : decide (16384 < n) = true := decide_eq_true hlong
      clear hE
      go_wp2_with fail
      go_ret2
      exact ⟨none, 0, 0, by rw [E1.out.2]; rfl, by rw [E1.out.1]; rfl, by rw [E1.out.1]; exact (show Hw w w1 HP.emp from ⟨H2.out.below, fun _ => none, fun _ => rfl, fun i o h => by cases h⟩).row_nil _ _⟩
    · have hE := encGood_true (m := m) hf (by have := NL.out; omega)
      have E1 := Aside0.mk hE
      have d1 : decide ((16384 : Int) < n) = false := decide_eq_false (by omega)
      have d2 : decide (16384 < n) = false := decide_eq_false hlong
      clear hE
      go_wp2_with fail
      go_ret2
      exact ⟨A, n, c, by rw [E1.out.2]; rfl, by rw [E1.out.1]; exact NL.out, by rw [E1.out.1]; exact ((H2.out.atR (Kd.int .u8) 5 (.slice A n c)).left).as (HP.mul_emp _).symm⟩
  · have hE := encGood_false (m := m) (fun hh => hf hh.1)
    have E1 := Aside0.mk hE
    have H2 := Aside0.mk g1
    clear hE g1 H1
    go_wp2_with fail
    go_ret2
    exact ⟨none, 0, 0, by rw [E1.out.2]; rfl, by rw [E1.out.1]; rfl, by rw [E1.out.1]; exact (show Hw w w1 HP.emp from ⟨H2.out.below, fun _ => none, fun _ => rfl, fun i o h => by cases h⟩).row_nil _ _⟩
end Go.Proofs.Ytloiclalcepbeaa
