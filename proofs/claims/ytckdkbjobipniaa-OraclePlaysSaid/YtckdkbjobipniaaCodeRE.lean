/- The reference's Encode: what it answers. Printed by wip/gen/refenc.py. -/
import Derived.Test.YtckdkbjobipniaaCodeJ
import Derived.Test.YtckdkbjobipniaaCA
import Derived.Deep.DeepCutAuto
import Derived.Deep.CutBlock
set_option linter.unusedVariables false
set_option linter.unusedSimpArgs false
namespace Go.Proofs.Ytckdkbjobipniaa
open Go.RowKit Go.Proofs.YtckdkbjobipniaaW.PrintWords Go.Proofs.YtckdkbjobipniaaW.PrintLast
/-- How large a message's texts are. -/
def szT (t : Tup) : Prop := t.1.size ≤ 140737488351232 ∧ t.2.1.size ≤ 140737488351232 ∧ t.2.2.size ≤ 140737488351232
structure MsgSz (m : Msg) : Prop where
  muts : ∀ x ∈ m.muts, szT x.2
  pre : ∀ x ∈ m.pre, szT x.2
  rows : ∀ x ∈ m.rows, szT x.1
theorem encT_big (t : Tup) (h : szT t) : (encT t).length ≤ 422212465053800 := by
  obtain ⟨h1, h2, h3⟩ := h
  have e1 := (encI_len (t.1.size : Int) (by unfold i64r; omega)).2
  have e2 := (encI_len (t.2.1.size : Int) (by unfold i64r; omega)).2
  have e3 := (encI_len (t.2.2.size : Int) (by unfold i64r; omega)).2
  unfold encT
  simp only [List.length_append, numsOf_len]
  omega
/-- How far Encode has come: is something too long, what is written. -/
structure EI (bad : Bool) (ys good : List Int) (P N : Prop) (L : Nat) : Prop where
  g : bad = false → P ∧ ys = good
  b : bad = true → N
  l : ys.length ≤ L
section
variable {bad : Bool} {ys good G : List Int} {P N : Prop} {L : Nat} {α : Type} {enc : α → List Int} {fits : α → Prop} {l : List α} {k : Nat} {x : α}
theorem EI.start (h : EI bad ys G P N L) : EI bad ys (G ++ (l.take 0).flatMap enc) (P ∧ ∀ x ∈ l.take 0, fits x) N L :=
  ⟨fun hb => ⟨⟨(h.g hb).1, by simp⟩, by simpa using (h.g hb).2⟩, h.b, h.l⟩
theorem EI.step {b : Bool} (h : EI false ys (G ++ (l.take k).flatMap enc) (P ∧ ∀ x ∈ l.take k, fits x) N L) (hx : l[k]? = some x) (hb : b = true ↔ ¬ fits x) (hN : ¬ fits x → N) {ys' : List Int} (hy : ys' = ys ++ enc x) (hL : ys'.length ≤ L) :
    EI b ys' (G ++ (l.take (k + 1)).flatMap enc) (P ∧ ∀ x ∈ l.take (k + 1), fits x) N L := by
  obtain ⟨⟨h1, h2⟩, h3⟩ := h.g rfl
  refine ⟨fun hf => ⟨⟨h1, fun y hy => ?_⟩, ?_⟩, fun ht => hN (hb.1 ht), hL⟩
  · rw [take_snoc_of hx] at hy
    rcases List.mem_append.1 hy with h4 | h4
    · exact h2 y h4
    · obtain rfl : y = x := by simpa using h4
      exact Classical.byContradiction fun hh => by rw [hb.2 hh] at hf; cases hf
  · rw [hy, h3, flat_take enc hx, List.append_assoc]
theorem EI.done (h : EI bad ys (G ++ (l.take k).flatMap enc) (P ∧ ∀ x ∈ l.take k, fits x) N L) (hk : bad = false → l.length ≤ k) : EI bad ys (G ++ l.flatMap enc) (P ∧ ∀ x ∈ l, fits x) N L :=
  ⟨fun hb => by
    obtain ⟨h1, h2⟩ := h.g hb
    rw [List.take_of_length_le (hk hb)] at h1 h2
    exact ⟨h1, h2⟩, h.b, h.l⟩
theorem EI.more (h : EI bad ys good P N L) {s t : List Int} {L' : Nat} (ht : t = ys ++ s) (hL : t.length ≤ L') : EI bad t (good ++ s) P N L' :=
  ⟨fun hb => ⟨(h.g hb).1, by rw [ht, (h.g hb).2]⟩, h.b, hL⟩
theorem EI.to (h : EI bad ys good P N L) {good' : List Int} (e : good = good') : EI bad ys good' P N L := e ▸ h
end
def LN (m : Msg) : Prop := m.nodes.length ≤ 1024 ∧ m.muts.length ≤ 1024 ∧ m.pre.length ≤ 1024 ∧ m.rows.length ≤ 1024
def G0 (m : Msg) : List Int := m.ints.flatMap encI ++ [bitN m.flag]
theorem enc1_eq {G : List Int} {l : List Int} {n : Nat} (h : l.length = n) : G ++ encI n ++ l.flatMap encI = G ++ enc1 l := by subst h; unfold enc1; rw [List.append_assoc]
theorem enc2_eq {G : List Int} {l : List Mut} {n : Nat} (h : l.length = n) : G ++ encI n ++ l.flatMap encM = G ++ enc2 l := by subst h; unfold enc2; rw [List.append_assoc]
theorem enc4_eq {G : List Int} {l : List Rw} {n : Nat} (h : l.length = n) : G ++ encI n ++ l.flatMap encR = G ++ enc4 l := by subst h; unfold enc4; rw [List.append_assoc]
set_option maxHeartbeats 12800000 in
set_option maxRecDepth 100000 in
theorem refenc_ok (m : Msg) (A1 A2 A3 A4 : Option Addr) (n1 n2 n3 n4 c1 c2 c3 c4 : Nat) (w : World) (hC : MsgC w m (A1, n1, c1) (A2, n2, c2) (A3, n3, c3) (A4, n4, c4)) (hok : MsgOk m) (hsz : MsgSz m) :
    Calls Try.prog 13 #[.agg #[.int .i64 m.kind, .int .i64 m.src, .int .i64 m.dst, .int .i64 m.id, .int .i64 m.rev, .int .i64 m.epoch, .int .i64 m.slot, .bool m.flag, .slice A1 n1 c1, .slice A2 n2 c2, .slice A3 n3 c3, .slice A4 n4 c4]] w fun e w' => e = .returned (.tuple #[.string (strOfNums (encTxt m)), .int .i64 (encErr m)]) ∧ Below w.heap.size w w' := by
  have C1 := Aside0.mk hC.c1
  have C2 := Aside0.mk hC.c2
  have C3 := Aside0.mk hC.c3
  have C4 := Aside0.mk hC.c4
  have OK := Aside0.mk hok
  have SZ := Aside0.mk hsz
  have m1 := hC.c1.2.1
  have m2 := hC.c2.2.1
  have m3 := hC.c3.2.1
  have m4 := hC.c4.2.1
  dsimp only at m1 m2 m3 m4 C1 C2 C3 C4
  have H1 := Aside0.mk ((Hw.start w).alloc (.cells #[.int .i64 m.kind, .int .i64 m.src, .int .i64 m.dst, .int .i64 m.id, .int .i64 m.rev, .int .i64 m.epoch, .int .i64 m.slot, .bool m.flag, .slice A1 n1 c1, .slice A2 n2 c2, .slice A3 n3 c3, .slice A4 n4 c4] 27))
  have k8 := H1.out.cellAt w.heap.size 8 (v := .slice A1 n1 c1) rfl
  have k9 := H1.out.cellAt w.heap.size 9 (v := .slice A2 n2 c2) rfl
  have k10 := H1.out.cellAt w.heap.size 10 (v := .slice A3 n3 c3) rfl
  have k11 := H1.out.cellAt w.heap.size 11 (v := .slice A4 n4 c4) rfl
  clear hC hok hsz
  have NL := Aside0.mk (show m.nodes.length = n1 ∧ m.muts.length = n2 ∧ m.pre.length = n3 ∧ m.rows.length = n4 from ⟨C1.out.1, C2.out.1, C3.out.1, C4.out.1⟩)
  have L0 := Aside0.mk (show (G0 m).length ≤ 80 by
    unfold G0
    have := ints_len m OK.out 7
    rw [List.take_of_length_le (by simp [Msg.ints])] at this
    rw [List.length_append, List.length_singleton]
    omega)
  go_enter Try.func13, Try.ntmps13
  go_upto_region 1 with fail
  go_cut [4] (fun s4 wc => ∃ bd : Bool, s4 = .bool bd ∧ Aside0 (bd = false → LN m) ∧ Aside0 (bd = true → ¬ MsgFits m) ∧ Aside0 (Hw w wc (blk w.heap.size (.cells #[.int .i64 m.kind, .int .i64 m.src, .int .i64 m.dst, .int .i64 m.id, .int .i64 m.rev, .int .i64 m.epoch, .int .i64 m.slot, .bool m.flag, .slice A1 n1 c1, .slice A2 n2 c2, .slice A3 n3 c3, .slice A4 n4 c4] 27) * HP.emp)))
  case first =>
    go_wp2_with fail
    all_goals
      go_meet
      refine ⟨_, rfl, ⟨fun hb => ?_⟩, ⟨fun hb hf => ?_⟩, H1⟩
      · obtain ⟨e1, e2, e3, e4⟩ := NL.out
        unfold LN
        simp at hb
        try omega
      · obtain ⟨e1, e2, e3, e4⟩ := NL.out
        have q1 := hf.l1
        have q2 := hf.l2.1
        have q3 := hf.l3.1
        have q4 := hf.l4.1
        simp at hb
        try omega
  case rest =>
    obtain ⟨bd, rfl, BZ, BT, hW⟩ := hcut
    clear H1 k8 k9 k10 k11
    have hWd := hW.out.drew
    have a0 := hWd.cellAt w.heap.size 0 (v := .int .i64 m.kind) rfl
    have a1 := hWd.cellAt w.heap.size 1 (v := .int .i64 m.src) rfl
    have a2 := hWd.cellAt w.heap.size 2 (v := .int .i64 m.dst) rfl
    have a3 := hWd.cellAt w.heap.size 3 (v := .int .i64 m.id) rfl
    have a4 := hWd.cellAt w.heap.size 4 (v := .int .i64 m.rev) rfl
    have a5 := hWd.cellAt w.heap.size 5 (v := .int .i64 m.epoch) rfl
    have a6 := hWd.cellAt w.heap.size 6 (v := .int .i64 m.slot) rfl
    have a7 := hWd.cellAt w.heap.size 7 (v := .bool m.flag) rfl
    have a8 := hWd.cellAt w.heap.size 8 (v := .slice A1 n1 c1) rfl
    have a9 := hWd.cellAt w.heap.size 9 (v := .slice A2 n2 c2) rfl
    have a10 := hWd.cellAt w.heap.size 10 (v := .slice A3 n3 c3) rfl
    have a11 := hWd.cellAt w.heap.size 11 (v := .slice A4 n4 c4) rfl
    obtain ⟨s0, hs0⟩ : ∃ s, s = strOfNums (encI m.kind) := ⟨_, rfl⟩
    have ii0 : i64r m.kind := OK.out.ints _ (by simp [Msg.ints])
    have RI0 := Aside0.mk (refint_ok m.kind ii0)
    rw [← hs0] at RI0
    obtain ⟨z0, hz0, hl0⟩ : ∃ n, s0.size = n ∧ n ≤ 10 := ⟨_, rfl, by rw [hs0, tx_size]; exact (encI_len _ ii0).2⟩
    obtain ⟨s1, hs1⟩ : ∃ s, s = strOfNums (encI m.src) := ⟨_, rfl⟩
    have ii1 : i64r m.src := OK.out.ints _ (by simp [Msg.ints])
    have RI1 := Aside0.mk (refint_ok m.src ii1)
    rw [← hs1] at RI1
    obtain ⟨z1, hz1, hl1⟩ : ∃ n, s1.size = n ∧ n ≤ 10 := ⟨_, rfl, by rw [hs1, tx_size]; exact (encI_len _ ii1).2⟩
    obtain ⟨s2, hs2⟩ : ∃ s, s = strOfNums (encI m.dst) := ⟨_, rfl⟩
    have ii2 : i64r m.dst := OK.out.ints _ (by simp [Msg.ints])
    have RI2 := Aside0.mk (refint_ok m.dst ii2)
    rw [← hs2] at RI2
    obtain ⟨z2, hz2, hl2⟩ : ∃ n, s2.size = n ∧ n ≤ 10 := ⟨_, rfl, by rw [hs2, tx_size]; exact (encI_len _ ii2).2⟩
    obtain ⟨s3, hs3⟩ : ∃ s, s = strOfNums (encI m.id) := ⟨_, rfl⟩
    have ii3 : i64r m.id := OK.out.ints _ (by simp [Msg.ints])
    have RI3 := Aside0.mk (refint_ok m.id ii3)
    rw [← hs3] at RI3
    obtain ⟨z3, hz3, hl3⟩ : ∃ n, s3.size = n ∧ n ≤ 10 := ⟨_, rfl, by rw [hs3, tx_size]; exact (encI_len _ ii3).2⟩
    obtain ⟨s4, hs4⟩ : ∃ s, s = strOfNums (encI m.rev) := ⟨_, rfl⟩
    have ii4 : i64r m.rev := OK.out.ints _ (by simp [Msg.ints])
    have RI4 := Aside0.mk (refint_ok m.rev ii4)
    rw [← hs4] at RI4
    obtain ⟨z4, hz4, hl4⟩ : ∃ n, s4.size = n ∧ n ≤ 10 := ⟨_, rfl, by rw [hs4, tx_size]; exact (encI_len _ ii4).2⟩
    obtain ⟨s5, hs5⟩ : ∃ s, s = strOfNums (encI m.epoch) := ⟨_, rfl⟩
    have ii5 : i64r m.epoch := OK.out.ints _ (by simp [Msg.ints])
    have RI5 := Aside0.mk (refint_ok m.epoch ii5)
    rw [← hs5] at RI5
    obtain ⟨z5, hz5, hl5⟩ : ∃ n, s5.size = n ∧ n ≤ 10 := ⟨_, rfl, by rw [hs5, tx_size]; exact (encI_len _ ii5).2⟩
    obtain ⟨s6, hs6⟩ : ∃ s, s = strOfNums (encI m.slot) := ⟨_, rfl⟩
    have ii6 : i64r m.slot := OK.out.ints _ (by simp [Msg.ints])
    have RI6 := Aside0.mk (refint_ok m.slot ii6)
    rw [← hs6] at RI6
    obtain ⟨z6, hz6, hl6⟩ : ∃ n, s6.size = n ∧ n ≤ 10 := ⟨_, rfl, by rw [hs6, tx_size]; exact (encI_len _ ii6).2⟩
    obtain ⟨s7, hs7⟩ : ∃ s, s = strOfNums [bitN m.flag] := ⟨_, rfl⟩
    have RB := Aside0.mk (refbit_ok m.flag)
    rw [← hs7] at RB
    have hz7 : s7.size = 1 := by rw [hs7, tx_size]; rfl
    have nn1 : ¬ 9223372036854775807 < z0 + z1 := by omega
    have nn2 : ¬ 9223372036854775807 < z0 + z1 + z2 := by omega
    have nn3 : ¬ 9223372036854775807 < z0 + z1 + z2 + z3 := by omega
    have nn4 : ¬ 9223372036854775807 < z0 + z1 + z2 + z3 + z4 := by omega
    have nn5 : ¬ 9223372036854775807 < z0 + z1 + z2 + z3 + z4 + z5 := by omega
    have nn6 : ¬ 9223372036854775807 < z0 + z1 + z2 + z3 + z4 + z5 + z6 := by omega
    have nn7 : ¬ 9223372036854775807 < z0 + z1 + z2 + z3 + z4 + z5 + z6 + 1 := by omega
    have GS := Aside0.mk (show s0 ++ s1 ++ s2 ++ s3 ++ s4 ++ s5 ++ s6 ++ s7 = strOfNums (G0 m) by
      unfold G0 Msg.ints
      simp only [List.flatMap_cons, List.flatMap_nil, List.append_nil, List.append_assoc, tx_append, ← hs0, ← hs1, ← hs2, ← hs3, ← hs4, ← hs5, ← hs6, ← hs7, ByteArray.append_assoc])
    clear hs0 hs1 hs2 hs3 hs4 hs5 hs6 hs7 ii0 hl0 ii1 hl1 ii2 hl2 ii3 hl3 ii4 hl4 ii5 hl5 ii6 hl6
    go_upto_region 2 with fail
    refine start_ (n := 32) (S := fun w' => w'.cell? ⟨w.heap.size, 0, none⟩ = some (.int .i64 m.kind) ∧ w'.cell? ⟨w.heap.size, 1, none⟩ = some (.int .i64 m.src) ∧ w'.cell? ⟨w.heap.size, 2, none⟩ = some (.int .i64 m.dst) ∧ w'.cell? ⟨w.heap.size, 3, none⟩ = some (.int .i64 m.id) ∧ w'.cell? ⟨w.heap.size, 4, none⟩ = some (.int .i64 m.rev) ∧ w'.cell? ⟨w.heap.size, 5, none⟩ = some (.int .i64 m.epoch) ∧ w'.cell? ⟨w.heap.size, 6, none⟩ = some (.int .i64 m.slot) ∧ w'.cell? ⟨w.heap.size, 7, none⟩ = some (.bool m.flag) ∧ w'.cell? ⟨w.heap.size, 8, none⟩ = some (.slice A1 n1 c1) ∧ w'.cell? ⟨w.heap.size, 9, none⟩ = some (.slice A2 n2 c2) ∧ w'.cell? ⟨w.heap.size, 10, none⟩ = some (.slice A3 n3 c3) ∧ w'.cell? ⟨w.heap.size, 11, none⟩ = some (.slice A4 n4 c4)) (ds := []) #[false, false, false, false, false, false, false, false, false, false, false, false, false, false, false, false, false, false, false, false, false, false, false, false, false, false, false, false, false, false, false, false] (by kernel_rfl) rfl rfl ⟨a0, a1, a2, a3, a4, a5, a6, a7, a8, a9, a10, a11⟩ (fun hHeld => ?_)
    refine pure_ (i := 0) (N := some 32) (v := ?_) (a' := ?_) #[true, false, false, false, false, false, false, false, false, false, false, false, false, false, false, false, false, false, false, false, false, false, false, false, false, false, false, false, false, false, false, false] rfl rfl (by kernel_rfl) (fun _ _ _ h => h) (Or.inl ⟨by rfl, ?_⟩) ?_ ?_
    rotate_left
    · intro w'
      go_simp
      with_reducible rfl
    rotate_left
    · simp only [Act.put, List.setIfInBounds_toArray, List.set_cons_zero, List.set_cons_succ, i64_w, i32_w]
      rfl
    refine pure_ (i := 3) (N := some 35) (v := ?_) (a' := ?_) #[true, false, false, true, false, false, false, false, false, false, false, false, false, false, false, false, false, false, false, false, false, false, false, false, false, false, false, false, false, false, false, false] rfl rfl (by kernel_rfl) (fun _ _ _ h => h) (Or.inl ⟨by rfl, ?_⟩) ?_ ?_
    rotate_left
    · intro w'
      go_simp
      with_reducible rfl
    rotate_left
    · simp only [Act.put, List.setIfInBounds_toArray, List.set_cons_zero, List.set_cons_succ, i64_w, i32_w]
      rfl
    refine pure_ (i := 7) (N := some 39) (v := ?_) (a' := ?_) #[true, false, false, true, false, false, false, true, false, false, false, false, false, false, false, false, false, false, false, false, false, false, false, false, false, false, false, false, false, false, false, false] rfl rfl (by kernel_rfl) (fun _ _ _ h => h) (Or.inl ⟨by rfl, ?_⟩) ?_ ?_
    rotate_left
    · intro w'
      go_simp
      with_reducible rfl
    rotate_left
    · simp only [Act.put, List.setIfInBounds_toArray, List.set_cons_zero, List.set_cons_succ, i64_w, i32_w]
      rfl
    refine pure_ (i := 11) (N := some 43) (v := ?_) (a' := ?_) #[true, false, false, true, false, false, false, true, false, false, false, true, false, false, false, false, false, false, false, false, false, false, false, false, false, false, false, false, false, false, false, false] rfl rfl (by kernel_rfl) (fun _ _ _ h => h) (Or.inl ⟨by rfl, ?_⟩) ?_ ?_
    rotate_left
    · intro w'
      go_simp
      with_reducible rfl
    rotate_left
    · simp only [Act.put, List.setIfInBounds_toArray, List.set_cons_zero, List.set_cons_succ, i64_w, i32_w]
      rfl
    refine pure_ (i := 15) (N := some 47) (v := ?_) (a' := ?_) #[true, false, false, true, false, false, false, true, false, false, false, true, false, false, false, true, false, false, false, false, false, false, false, false, false, false, false, false, false, false, false, false] rfl rfl (by kernel_rfl) (fun _ _ _ h => h) (Or.inl ⟨by rfl, ?_⟩) ?_ ?_
    rotate_left
    · intro w'
      go_simp
      with_reducible rfl
    rotate_left
    · simp only [Act.put, List.setIfInBounds_toArray, List.set_cons_zero, List.set_cons_succ, i64_w, i32_w]
      rfl
    refine pure_ (i := 19) (N := some 51) (v := ?_) (a' := ?_) #[true, false, false, true, false, false, false, true, false, false, false, true, false, false, false, true, false, false, false, true, false, false, false, false, false, false, false, false, false, false, false, false] rfl rfl (by kernel_rfl) (fun _ _ _ h => h) (Or.inl ⟨by rfl, ?_⟩) ?_ ?_
    rotate_left
    · intro w'
      go_simp
      with_reducible rfl
    rotate_left
    · simp only [Act.put, List.setIfInBounds_toArray, List.set_cons_zero, List.set_cons_succ, i64_w, i32_w]
      rfl
    refine pure_ (i := 23) (N := some 55) (v := ?_) (a' := ?_) #[true, false, false, true, false, false, false, true, false, false, false, true, false, false, false, true, false, false, false, true, false, false, false, true, false, false, false, false, false, false, false, false] rfl rfl (by kernel_rfl) (fun _ _ _ h => h) (Or.inl ⟨by rfl, ?_⟩) ?_ ?_
    rotate_left
    · intro w'
      go_simp
      with_reducible rfl
    rotate_left
    · simp only [Act.put, List.setIfInBounds_toArray, List.set_cons_zero, List.set_cons_succ, i64_w, i32_w]
      rfl
    refine pure_ (i := 27) (N := some 59) (v := ?_) (a' := ?_) #[true, false, false, true, false, false, false, true, false, false, false, true, false, false, false, true, false, false, false, true, false, false, false, true, false, false, false, true, false, false, false, false] rfl rfl (by kernel_rfl) (fun _ _ _ h => h) (Or.inl ⟨by rfl, ?_⟩) ?_ ?_
    rotate_left
    · intro w'
      go_simp
      with_reducible rfl
    rotate_left
    · simp only [Act.put, List.setIfInBounds_toArray, List.set_cons_zero, List.set_cons_succ, i64_w, i32_w]
      rfl
    refine take_ (i := 1) (N := some 33) (v := ?_) (a' := ?_) #[true, true, false, true, false, false, false, true, false, false, false, true, false, false, false, true, false, false, false, true, false, false, false, true, false, false, false, true, false, false, false, false] rfl rfl (by kernel_rfl) (fun _ _ _ h => h) (Or.inl ⟨by rfl, ?_⟩) hHeld ?_ ?_
    rotate_left
    · rintro w' ⟨s0, s1, s2, s3, s4, s5, s6, s7, s8, s9, s10, s11⟩
      go_simp
      with_reducible rfl
    rotate_left
    · simp only [Act.put, List.setIfInBounds_toArray, List.set_cons_zero, List.set_cons_succ, i64_w, i32_w]
      rfl
    refine take_ (i := 4) (N := some 36) (v := ?_) (a' := ?_) #[true, true, false, true, true, false, false, true, false, false, false, true, false, false, false, true, false, false, false, true, false, false, false, true, false, false, false, true, false, false, false, false] rfl rfl (by kernel_rfl) (fun _ _ _ h => h) (Or.inl ⟨by rfl, ?_⟩) hHeld ?_ ?_
    rotate_left
    · rintro w' ⟨s0, s1, s2, s3, s4, s5, s6, s7, s8, s9, s10, s11⟩
      go_simp
      with_reducible rfl
    rotate_left
    · simp only [Act.put, List.setIfInBounds_toArray, List.set_cons_zero, List.set_cons_succ, i64_w, i32_w]
      rfl
    refine take_ (i := 8) (N := some 40) (v := ?_) (a' := ?_) #[true, true, false, true, true, false, false, true, true, false, false, true, false, false, false, true, false, false, false, true, false, false, false, true, false, false, false, true, false, false, false, false] rfl rfl (by kernel_rfl) (fun _ _ _ h => h) (Or.inl ⟨by rfl, ?_⟩) hHeld ?_ ?_
    rotate_left
    · rintro w' ⟨s0, s1, s2, s3, s4, s5, s6, s7, s8, s9, s10, s11⟩
      go_simp
      with_reducible rfl
    rotate_left
    · simp only [Act.put, List.setIfInBounds_toArray, List.set_cons_zero, List.set_cons_succ, i64_w, i32_w]
      rfl
    refine take_ (i := 12) (N := some 44) (v := ?_) (a' := ?_) #[true, true, false, true, true, false, false, true, true, false, false, true, true, false, false, true, false, false, false, true, false, false, false, true, false, false, false, true, false, false, false, false] rfl rfl (by kernel_rfl) (fun _ _ _ h => h) (Or.inl ⟨by rfl, ?_⟩) hHeld ?_ ?_
    rotate_left
    · rintro w' ⟨s0, s1, s2, s3, s4, s5, s6, s7, s8, s9, s10, s11⟩
      go_simp
      with_reducible rfl
    rotate_left
    · simp only [Act.put, List.setIfInBounds_toArray, List.set_cons_zero, List.set_cons_succ, i64_w, i32_w]
      rfl
    refine take_ (i := 16) (N := some 48) (v := ?_) (a' := ?_) #[true, true, false, true, true, false, false, true, true, false, false, true, true, false, false, true, true, false, false, true, false, false, false, true, false, false, false, true, false, false, false, false] rfl rfl (by kernel_rfl) (fun _ _ _ h => h) (Or.inl ⟨by rfl, ?_⟩) hHeld ?_ ?_
    rotate_left
    · rintro w' ⟨s0, s1, s2, s3, s4, s5, s6, s7, s8, s9, s10, s11⟩
      go_simp
      with_reducible rfl
    rotate_left
    · simp only [Act.put, List.setIfInBounds_toArray, List.set_cons_zero, List.set_cons_succ, i64_w, i32_w]
      rfl
    refine take_ (i := 20) (N := some 52) (v := ?_) (a' := ?_) #[true, true, false, true, true, false, false, true, true, false, false, true, true, false, false, true, true, false, false, true, true, false, false, true, false, false, false, true, false, false, false, false] rfl rfl (by kernel_rfl) (fun _ _ _ h => h) (Or.inl ⟨by rfl, ?_⟩) hHeld ?_ ?_
    rotate_left
    · rintro w' ⟨s0, s1, s2, s3, s4, s5, s6, s7, s8, s9, s10, s11⟩
      go_simp
      with_reducible rfl
    rotate_left
    · simp only [Act.put, List.setIfInBounds_toArray, List.set_cons_zero, List.set_cons_succ, i64_w, i32_w]
      rfl
    refine take_ (i := 24) (N := some 56) (v := ?_) (a' := ?_) #[true, true, false, true, true, false, false, true, true, false, false, true, true, false, false, true, true, false, false, true, true, false, false, true, true, false, false, true, false, false, false, false] rfl rfl (by kernel_rfl) (fun _ _ _ h => h) (Or.inl ⟨by rfl, ?_⟩) hHeld ?_ ?_
    rotate_left
    · rintro w' ⟨s0, s1, s2, s3, s4, s5, s6, s7, s8, s9, s10, s11⟩
      go_simp
      with_reducible rfl
    rotate_left
    · simp only [Act.put, List.setIfInBounds_toArray, List.set_cons_zero, List.set_cons_succ, i64_w, i32_w]
      rfl
    refine take_ (i := 28) (N := some 60) (v := ?_) (a' := ?_) #[true, true, false, true, true, false, false, true, true, false, false, true, true, false, false, true, true, false, false, true, true, false, false, true, true, false, false, true, true, false, false, false] rfl rfl (by kernel_rfl) (fun _ _ _ h => h) (Or.inl ⟨by rfl, ?_⟩) hHeld ?_ ?_
    rotate_left
    · rintro w' ⟨s0, s1, s2, s3, s4, s5, s6, s7, s8, s9, s10, s11⟩
      go_simp
      with_reducible rfl
    rotate_left
    · simp only [Act.put, List.setIfInBounds_toArray, List.set_cons_zero, List.set_cons_succ, i64_w, i32_w]
      rfl
    refine one_ (i := 2) (N := some 34) #[true, true, true, true, true, false, false, true, true, false, false, true, true, false, false, true, true, false, false, true, true, false, false, true, true, false, false, true, true, false, false, false] rfl rfl (by kernel_rfl) (by decide) (fun K hK => ?_)
    refine goes_ Try.func71 (by kernel_rfl) rfl #[.int .i64 m.kind] (by rfl) rfl rfl (by simp only [List.map_toArray, List.map_cons, List.map_nil]; rfl) ?_
    with_reducible refine (RI0.out _).mono ?_
    rintro e w10 ⟨rfl, hbel⟩
    refine ⟨_, rfl, ?_⟩
    have hW0 := hWd.from_below hbel
    clear hbel
    have b0_0 := hW0.cellAt w.heap.size 0 (v := .int .i64 m.kind) rfl
    have b0_1 := hW0.cellAt w.heap.size 1 (v := .int .i64 m.src) rfl
    have b0_2 := hW0.cellAt w.heap.size 2 (v := .int .i64 m.dst) rfl
    have b0_3 := hW0.cellAt w.heap.size 3 (v := .int .i64 m.id) rfl
    have b0_4 := hW0.cellAt w.heap.size 4 (v := .int .i64 m.rev) rfl
    have b0_5 := hW0.cellAt w.heap.size 5 (v := .int .i64 m.epoch) rfl
    have b0_6 := hW0.cellAt w.heap.size 6 (v := .int .i64 m.slot) rfl
    have b0_7 := hW0.cellAt w.heap.size 7 (v := .bool m.flag) rfl
    have b0_8 := hW0.cellAt w.heap.size 8 (v := .slice A1 n1 c1) rfl
    have b0_9 := hW0.cellAt w.heap.size 9 (v := .slice A2 n2 c2) rfl
    have b0_10 := hW0.cellAt w.heap.size 10 (v := .slice A3 n3 c3) rfl
    have b0_11 := hW0.cellAt w.heap.size 11 (v := .slice A4 n4 c4) rfl
    refine hK.out _ _ ⟨b0_0, b0_1, b0_2, b0_3, b0_4, b0_5, b0_6, b0_7, b0_8, b0_9, b0_10, b0_11⟩ (fun hHeld => ?_)
    clear hK K
    refine norm_ (a' := ?_) ?_ ?_
    rotate_left
    · show Act.put _ (some 34) _ = _
      simp only [Act.put, List.setIfInBounds_toArray, List.set_cons_zero, List.set_cons_succ, i64_w, i32_w]
      rfl
    refine one_ (i := 5) (N := some 37) #[true, true, true, true, true, true, false, true, true, false, false, true, true, false, false, true, true, false, false, true, true, false, false, true, true, false, false, true, true, false, false, false] rfl rfl (by kernel_rfl) (by decide) (fun K hK => ?_)
    refine goes_ Try.func71 (by kernel_rfl) rfl #[.int .i64 m.src] (by rfl) rfl rfl (by simp only [List.map_toArray, List.map_cons, List.map_nil]; rfl) ?_
    with_reducible refine (RI1.out _).mono ?_
    rintro e w11 ⟨rfl, hbel⟩
    refine ⟨_, rfl, ?_⟩
    have hW1 := hW0.from_below hbel
    clear hbel
    have b1_0 := hW1.cellAt w.heap.size 0 (v := .int .i64 m.kind) rfl
    have b1_1 := hW1.cellAt w.heap.size 1 (v := .int .i64 m.src) rfl
    have b1_2 := hW1.cellAt w.heap.size 2 (v := .int .i64 m.dst) rfl
    have b1_3 := hW1.cellAt w.heap.size 3 (v := .int .i64 m.id) rfl
    have b1_4 := hW1.cellAt w.heap.size 4 (v := .int .i64 m.rev) rfl
    have b1_5 := hW1.cellAt w.heap.size 5 (v := .int .i64 m.epoch) rfl
    have b1_6 := hW1.cellAt w.heap.size 6 (v := .int .i64 m.slot) rfl
    have b1_7 := hW1.cellAt w.heap.size 7 (v := .bool m.flag) rfl
    have b1_8 := hW1.cellAt w.heap.size 8 (v := .slice A1 n1 c1) rfl
    have b1_9 := hW1.cellAt w.heap.size 9 (v := .slice A2 n2 c2) rfl
    have b1_10 := hW1.cellAt w.heap.size 10 (v := .slice A3 n3 c3) rfl
    have b1_11 := hW1.cellAt w.heap.size 11 (v := .slice A4 n4 c4) rfl
    refine hK.out _ _ ⟨b1_0, b1_1, b1_2, b1_3, b1_4, b1_5, b1_6, b1_7, b1_8, b1_9, b1_10, b1_11⟩ (fun hHeld => ?_)
    clear hK K
    refine norm_ (a' := ?_) ?_ ?_
    rotate_left
    · show Act.put _ (some 37) _ = _
      simp only [Act.put, List.setIfInBounds_toArray, List.set_cons_zero, List.set_cons_succ, i64_w, i32_w]
      rfl
    refine pure_ (i := 6) (N := some 38) (v := ?_) (a' := ?_) #[true, true, true, true, true, true, true, true, true, false, false, true, true, false, false, true, true, false, false, true, true, false, false, true, true, false, false, true, true, false, false, false] rfl rfl (by kernel_rfl) (fun _ _ _ h => h) (Or.inl ⟨by rfl, ?_⟩) ?_ ?_
    rotate_left
    · intro w'
      go_simp
      with_reducible rfl
    rotate_left
    · simp only [Act.put, List.setIfInBounds_toArray, List.set_cons_zero, List.set_cons_succ, i64_w, i32_w]
      rfl
    refine one_ (i := 9) (N := some 41) #[true, true, true, true, true, true, true, true, true, true, false, true, true, false, false, true, true, false, false, true, true, false, false, true, true, false, false, true, true, false, false, false] rfl rfl (by kernel_rfl) (by decide) (fun K hK => ?_)
    refine goes_ Try.func71 (by kernel_rfl) rfl #[.int .i64 m.dst] (by rfl) rfl rfl (by simp only [List.map_toArray, List.map_cons, List.map_nil]; rfl) ?_
    with_reducible refine (RI2.out _).mono ?_
    rintro e w12 ⟨rfl, hbel⟩
    refine ⟨_, rfl, ?_⟩
    have hW2 := hW1.from_below hbel
    clear hbel
    have b2_0 := hW2.cellAt w.heap.size 0 (v := .int .i64 m.kind) rfl
    have b2_1 := hW2.cellAt w.heap.size 1 (v := .int .i64 m.src) rfl
    have b2_2 := hW2.cellAt w.heap.size 2 (v := .int .i64 m.dst) rfl
    have b2_3 := hW2.cellAt w.heap.size 3 (v := .int .i64 m.id) rfl
    have b2_4 := hW2.cellAt w.heap.size 4 (v := .int .i64 m.rev) rfl
    have b2_5 := hW2.cellAt w.heap.size 5 (v := .int .i64 m.epoch) rfl
    have b2_6 := hW2.cellAt w.heap.size 6 (v := .int .i64 m.slot) rfl
    have b2_7 := hW2.cellAt w.heap.size 7 (v := .bool m.flag) rfl
    have b2_8 := hW2.cellAt w.heap.size 8 (v := .slice A1 n1 c1) rfl
    have b2_9 := hW2.cellAt w.heap.size 9 (v := .slice A2 n2 c2) rfl
    have b2_10 := hW2.cellAt w.heap.size 10 (v := .slice A3 n3 c3) rfl
    have b2_11 := hW2.cellAt w.heap.size 11 (v := .slice A4 n4 c4) rfl
    refine hK.out _ _ ⟨b2_0, b2_1, b2_2, b2_3, b2_4, b2_5, b2_6, b2_7, b2_8, b2_9, b2_10, b2_11⟩ (fun hHeld => ?_)
    clear hK K
    refine norm_ (a' := ?_) ?_ ?_
    rotate_left
    · show Act.put _ (some 41) _ = _
      simp only [Act.put, List.setIfInBounds_toArray, List.set_cons_zero, List.set_cons_succ, i64_w, i32_w]
      rfl
    refine pure_ (i := 10) (N := some 42) (v := ?_) (a' := ?_) #[true, true, true, true, true, true, true, true, true, true, true, true, true, false, false, true, true, false, false, true, true, false, false, true, true, false, false, true, true, false, false, false] rfl rfl (by kernel_rfl) (fun _ _ _ h => h) (Or.inl ⟨by rfl, ?_⟩) ?_ ?_
    rotate_left
    · intro w'
      go_simp
      with_reducible rfl
    rotate_left
    · simp only [Act.put, List.setIfInBounds_toArray, List.set_cons_zero, List.set_cons_succ, i64_w, i32_w]
      rfl
    refine one_ (i := 13) (N := some 45) #[true, true, true, true, true, true, true, true, true, true, true, true, true, true, false, true, true, false, false, true, true, false, false, true, true, false, false, true, true, false, false, false] rfl rfl (by kernel_rfl) (by decide) (fun K hK => ?_)
    refine goes_ Try.func71 (by kernel_rfl) rfl #[.int .i64 m.id] (by rfl) rfl rfl (by simp only [List.map_toArray, List.map_cons, List.map_nil]; rfl) ?_
    with_reducible refine (RI3.out _).mono ?_
    rintro e w13 ⟨rfl, hbel⟩
    refine ⟨_, rfl, ?_⟩
    have hW3 := hW2.from_below hbel
    clear hbel
    have b3_0 := hW3.cellAt w.heap.size 0 (v := .int .i64 m.kind) rfl
    have b3_1 := hW3.cellAt w.heap.size 1 (v := .int .i64 m.src) rfl
    have b3_2 := hW3.cellAt w.heap.size 2 (v := .int .i64 m.dst) rfl
    have b3_3 := hW3.cellAt w.heap.size 3 (v := .int .i64 m.id) rfl
    have b3_4 := hW3.cellAt w.heap.size 4 (v := .int .i64 m.rev) rfl
    have b3_5 := hW3.cellAt w.heap.size 5 (v := .int .i64 m.epoch) rfl
    have b3_6 := hW3.cellAt w.heap.size 6 (v := .int .i64 m.slot) rfl
    have b3_7 := hW3.cellAt w.heap.size 7 (v := .bool m.flag) rfl
    have b3_8 := hW3.cellAt w.heap.size 8 (v := .slice A1 n1 c1) rfl
    have b3_9 := hW3.cellAt w.heap.size 9 (v := .slice A2 n2 c2) rfl
    have b3_10 := hW3.cellAt w.heap.size 10 (v := .slice A3 n3 c3) rfl
    have b3_11 := hW3.cellAt w.heap.size 11 (v := .slice A4 n4 c4) rfl
    refine hK.out _ _ ⟨b3_0, b3_1, b3_2, b3_3, b3_4, b3_5, b3_6, b3_7, b3_8, b3_9, b3_10, b3_11⟩ (fun hHeld => ?_)
    clear hK K
    refine norm_ (a' := ?_) ?_ ?_
    rotate_left
    · show Act.put _ (some 45) _ = _
      simp only [Act.put, List.setIfInBounds_toArray, List.set_cons_zero, List.set_cons_succ, i64_w, i32_w]
      rfl
    refine pure_ (i := 14) (N := some 46) (v := ?_) (a' := ?_) #[true, true, true, true, true, true, true, true, true, true, true, true, true, true, true, true, true, false, false, true, true, false, false, true, true, false, false, true, true, false, false, false] rfl rfl (by kernel_rfl) (fun _ _ _ h => h) (Or.inl ⟨by rfl, ?_⟩) ?_ ?_
    rotate_left
    · intro w'
      go_simp
      with_reducible rfl
    rotate_left
    · simp only [Act.put, List.setIfInBounds_toArray, List.set_cons_zero, List.set_cons_succ, i64_w, i32_w]
      rfl
    refine one_ (i := 17) (N := some 49) #[true, true, true, true, true, true, true, true, true, true, true, true, true, true, true, true, true, true, false, true, true, false, false, true, true, false, false, true, true, false, false, false] rfl rfl (by kernel_rfl) (by decide) (fun K hK => ?_)
    refine goes_ Try.func71 (by kernel_rfl) rfl #[.int .i64 m.rev] (by rfl) rfl rfl (by simp only [List.map_toArray, List.map_cons, List.map_nil]; rfl) ?_
    with_reducible refine (RI4.out _).mono ?_
    rintro e w14 ⟨rfl, hbel⟩
    refine ⟨_, rfl, ?_⟩
    have hW4 := hW3.from_below hbel
    clear hbel
    have b4_0 := hW4.cellAt w.heap.size 0 (v := .int .i64 m.kind) rfl
    have b4_1 := hW4.cellAt w.heap.size 1 (v := .int .i64 m.src) rfl
    have b4_2 := hW4.cellAt w.heap.size 2 (v := .int .i64 m.dst) rfl
    have b4_3 := hW4.cellAt w.heap.size 3 (v := .int .i64 m.id) rfl
    have b4_4 := hW4.cellAt w.heap.size 4 (v := .int .i64 m.rev) rfl
    have b4_5 := hW4.cellAt w.heap.size 5 (v := .int .i64 m.epoch) rfl
    have b4_6 := hW4.cellAt w.heap.size 6 (v := .int .i64 m.slot) rfl
    have b4_7 := hW4.cellAt w.heap.size 7 (v := .bool m.flag) rfl
    have b4_8 := hW4.cellAt w.heap.size 8 (v := .slice A1 n1 c1) rfl
    have b4_9 := hW4.cellAt w.heap.size 9 (v := .slice A2 n2 c2) rfl
    have b4_10 := hW4.cellAt w.heap.size 10 (v := .slice A3 n3 c3) rfl
    have b4_11 := hW4.cellAt w.heap.size 11 (v := .slice A4 n4 c4) rfl
    refine hK.out _ _ ⟨b4_0, b4_1, b4_2, b4_3, b4_4, b4_5, b4_6, b4_7, b4_8, b4_9, b4_10, b4_11⟩ (fun hHeld => ?_)
    clear hK K
    refine norm_ (a' := ?_) ?_ ?_
    rotate_left
    · show Act.put _ (some 49) _ = _
      simp only [Act.put, List.setIfInBounds_toArray, List.set_cons_zero, List.set_cons_succ, i64_w, i32_w]
      rfl
    refine pure_ (i := 18) (N := some 50) (v := ?_) (a' := ?_) #[true, true, true, true, true, true, true, true, true, true, true, true, true, true, true, true, true, true, true, true, true, false, false, true, true, false, false, true, true, false, false, false] rfl rfl (by kernel_rfl) (fun _ _ _ h => h) (Or.inl ⟨by rfl, ?_⟩) ?_ ?_
    rotate_left
    · intro w'
      go_simp
      with_reducible rfl
    rotate_left
    · simp only [Act.put, List.setIfInBounds_toArray, List.set_cons_zero, List.set_cons_succ, i64_w, i32_w]
      rfl
    refine one_ (i := 21) (N := some 53) #[true, true, true, true, true, true, true, true, true, true, true, true, true, true, true, true, true, true, true, true, true, true, false, true, true, false, false, true, true, false, false, false] rfl rfl (by kernel_rfl) (by decide) (fun K hK => ?_)
    refine goes_ Try.func71 (by kernel_rfl) rfl #[.int .i64 m.epoch] (by rfl) rfl rfl (by simp only [List.map_toArray, List.map_cons, List.map_nil]; rfl) ?_
    with_reducible refine (RI5.out _).mono ?_
    rintro e w15 ⟨rfl, hbel⟩
    refine ⟨_, rfl, ?_⟩
    have hW5 := hW4.from_below hbel
    clear hbel
    have b5_0 := hW5.cellAt w.heap.size 0 (v := .int .i64 m.kind) rfl
    have b5_1 := hW5.cellAt w.heap.size 1 (v := .int .i64 m.src) rfl
    have b5_2 := hW5.cellAt w.heap.size 2 (v := .int .i64 m.dst) rfl
    have b5_3 := hW5.cellAt w.heap.size 3 (v := .int .i64 m.id) rfl
    have b5_4 := hW5.cellAt w.heap.size 4 (v := .int .i64 m.rev) rfl
    have b5_5 := hW5.cellAt w.heap.size 5 (v := .int .i64 m.epoch) rfl
    have b5_6 := hW5.cellAt w.heap.size 6 (v := .int .i64 m.slot) rfl
    have b5_7 := hW5.cellAt w.heap.size 7 (v := .bool m.flag) rfl
    have b5_8 := hW5.cellAt w.heap.size 8 (v := .slice A1 n1 c1) rfl
    have b5_9 := hW5.cellAt w.heap.size 9 (v := .slice A2 n2 c2) rfl
    have b5_10 := hW5.cellAt w.heap.size 10 (v := .slice A3 n3 c3) rfl
    have b5_11 := hW5.cellAt w.heap.size 11 (v := .slice A4 n4 c4) rfl
    refine hK.out _ _ ⟨b5_0, b5_1, b5_2, b5_3, b5_4, b5_5, b5_6, b5_7, b5_8, b5_9, b5_10, b5_11⟩ (fun hHeld => ?_)
    clear hK K
    refine norm_ (a' := ?_) ?_ ?_
    rotate_left
    · show Act.put _ (some 53) _ = _
      simp only [Act.put, List.setIfInBounds_toArray, List.set_cons_zero, List.set_cons_succ, i64_w, i32_w]
      rfl
    refine pure_ (i := 22) (N := some 54) (v := ?_) (a' := ?_) #[true, true, true, true, true, true, true, true, true, true, true, true, true, true, true, true, true, true, true, true, true, true, true, true, true, false, false, true, true, false, false, false] rfl rfl (by kernel_rfl) (fun _ _ _ h => h) (Or.inl ⟨by rfl, ?_⟩) ?_ ?_
    rotate_left
    · intro w'
      go_simp
      with_reducible rfl
    rotate_left
    · simp only [Act.put, List.setIfInBounds_toArray, List.set_cons_zero, List.set_cons_succ, i64_w, i32_w]
      rfl
    refine one_ (i := 25) (N := some 57) #[true, true, true, true, true, true, true, true, true, true, true, true, true, true, true, true, true, true, true, true, true, true, true, true, true, true, false, true, true, false, false, false] rfl rfl (by kernel_rfl) (by decide) (fun K hK => ?_)
    refine goes_ Try.func71 (by kernel_rfl) rfl #[.int .i64 m.slot] (by rfl) rfl rfl (by simp only [List.map_toArray, List.map_cons, List.map_nil]; rfl) ?_
    with_reducible refine (RI6.out _).mono ?_
    rintro e w16 ⟨rfl, hbel⟩
    refine ⟨_, rfl, ?_⟩
    have hW6 := hW5.from_below hbel
    clear hbel
    have b6_0 := hW6.cellAt w.heap.size 0 (v := .int .i64 m.kind) rfl
    have b6_1 := hW6.cellAt w.heap.size 1 (v := .int .i64 m.src) rfl
    have b6_2 := hW6.cellAt w.heap.size 2 (v := .int .i64 m.dst) rfl
    have b6_3 := hW6.cellAt w.heap.size 3 (v := .int .i64 m.id) rfl
    have b6_4 := hW6.cellAt w.heap.size 4 (v := .int .i64 m.rev) rfl
    have b6_5 := hW6.cellAt w.heap.size 5 (v := .int .i64 m.epoch) rfl
    have b6_6 := hW6.cellAt w.heap.size 6 (v := .int .i64 m.slot) rfl
    have b6_7 := hW6.cellAt w.heap.size 7 (v := .bool m.flag) rfl
    have b6_8 := hW6.cellAt w.heap.size 8 (v := .slice A1 n1 c1) rfl
    have b6_9 := hW6.cellAt w.heap.size 9 (v := .slice A2 n2 c2) rfl
    have b6_10 := hW6.cellAt w.heap.size 10 (v := .slice A3 n3 c3) rfl
    have b6_11 := hW6.cellAt w.heap.size 11 (v := .slice A4 n4 c4) rfl
    refine hK.out _ _ ⟨b6_0, b6_1, b6_2, b6_3, b6_4, b6_5, b6_6, b6_7, b6_8, b6_9, b6_10, b6_11⟩ (fun hHeld => ?_)
    clear hK K
    refine norm_ (a' := ?_) ?_ ?_
    rotate_left
    · show Act.put _ (some 57) _ = _
      simp only [Act.put, List.setIfInBounds_toArray, List.set_cons_zero, List.set_cons_succ, i64_w, i32_w]
      rfl
    refine pure_ (i := 26) (N := some 58) (v := ?_) (a' := ?_) #[true, true, true, true, true, true, true, true, true, true, true, true, true, true, true, true, true, true, true, true, true, true, true, true, true, true, true, true, true, false, false, false] rfl rfl (by kernel_rfl) (fun _ _ _ h => h) (Or.inl ⟨by rfl, ?_⟩) ?_ ?_
    rotate_left
    · intro w'
      go_simp
      with_reducible rfl
    rotate_left
    · simp only [Act.put, List.setIfInBounds_toArray, List.set_cons_zero, List.set_cons_succ, i64_w, i32_w]
      rfl
    refine one_ (i := 29) (N := some 61) #[true, true, true, true, true, true, true, true, true, true, true, true, true, true, true, true, true, true, true, true, true, true, true, true, true, true, true, true, true, true, false, false] rfl rfl (by kernel_rfl) (by decide) (fun K hK => ?_)
    refine goes_ Try.func72 (by kernel_rfl) rfl #[.bool m.flag] (by rfl) rfl rfl (by simp only [List.map_toArray, List.map_cons, List.map_nil]; rfl) ?_
    with_reducible refine (RB.out _).mono ?_
    rintro e w20 ⟨rfl, rfl⟩
    refine ⟨_, rfl, ?_⟩
    refine hK.out _ _ ⟨b6_0, b6_1, b6_2, b6_3, b6_4, b6_5, b6_6, b6_7, b6_8, b6_9, b6_10, b6_11⟩ (fun hHeld => ?_)
    clear hK K
    refine norm_ (a' := ?_) ?_ ?_
    rotate_left
    · show Act.put _ (some 61) _ = _
      simp only [Act.put, List.setIfInBounds_toArray, List.set_cons_zero, List.set_cons_succ, i64_w, i32_w]
      rfl
    refine pure_ (i := 30) (N := some 62) (v := ?_) (a' := ?_) #[true, true, true, true, true, true, true, true, true, true, true, true, true, true, true, true, true, true, true, true, true, true, true, true, true, true, true, true, true, true, true, false] rfl rfl (by kernel_rfl) (fun _ _ _ h => h) (Or.inl ⟨by rfl, ?_⟩) ?_ ?_
    rotate_left
    · intro w'
      go_simp
      with_reducible rfl
    rotate_left
    · simp only [Act.put, List.setIfInBounds_toArray, List.set_cons_zero, List.set_cons_succ, i64_w, i32_w]
      rfl
    refine pure_ (i := 31) (N := some 5) (v := ?_) (a' := ?_) #[true, true, true, true, true, true, true, true, true, true, true, true, true, true, true, true, true, true, true, true, true, true, true, true, true, true, true, true, true, true, true, true] rfl rfl (by kernel_rfl) (fun _ _ _ h => h) (Or.inl ⟨by rfl, ?_⟩) ?_ ?_
    rotate_left
    · intro w'
      go_simp
      with_reducible rfl
    rotate_left
    · simp only [Act.put, List.setIfInBounds_toArray, List.set_cons_zero, List.set_cons_succ, i64_w, i32_w]
      rfl
    refine done_ (by kernel_rfl) ?_
    clear hHeld
    rw [GS.out]
    have H2 := Aside0.mk hW6
    clear hW hWd hW0 hW1 hW2 hW3 hW4 hW5 GS RB hz7 RI0 hz0 RI1 hz1 RI2 hz2 RI3 hz3 RI4 hz4 RI5 hz5 RI6 hz6 nn1 nn2 nn3 nn4 nn5 nn6 nn7 a0 a1 a2 a3 a4 a5 a6 a7 a8 a9 a10 a11 b0_0 b0_1 b0_2 b0_3 b0_4 b0_5 b0_6 b0_7 b0_8 b0_9 b0_10 b0_11 b1_0 b1_1 b1_2 b1_3 b1_4 b1_5 b1_6 b1_7 b1_8 b1_9 b1_10 b1_11 b2_0 b2_1 b2_2 b2_3 b2_4 b2_5 b2_6 b2_7 b2_8 b2_9 b2_10 b2_11 b3_0 b3_1 b3_2 b3_3 b3_4 b3_5 b3_6 b3_7 b3_8 b3_9 b3_10 b3_11 b4_0 b4_1 b4_2 b4_3 b4_4 b4_5 b4_6 b4_7 b4_8 b4_9 b4_10 b4_11 b5_0 b5_1 b5_2 b5_3 b5_4 b5_5 b5_6 b5_7 b5_8 b5_9 b5_10 b5_11 b6_0 b6_1 b6_2 b6_3 b6_4 b6_5 b6_6 b6_7
    obtain ⟨ys0, hys0⟩ : ∃ ys, ys = G0 m := ⟨_, rfl⟩
    rw [← hys0]
    have E0 := Aside0.mk (show EI bd ys0 (G0 m) (LN m) (¬ MsgFits m) 500000000000000 from ⟨fun hb => ⟨BZ.out hb, hys0⟩, BT.out, by rw [hys0]; have := L0.out; omega⟩)
    clear hys0 BZ BT
    have k8 := H2.out.cellAt w.heap.size 8 (v := .slice A1 n1 c1) rfl
    have ic1 : i64r (n1 : Int) := by unfold i64r; omega
    obtain ⟨sg1, hsg1⟩ : ∃ s, s = strOfNums ys0 := ⟨_, rfl⟩
    rw [← hsg1]
    obtain ⟨sc1, hsc1⟩ : ∃ s, s = strOfNums (encI n1) := ⟨_, rfl⟩
    obtain ⟨ya1, hya1, hyl1⟩ : ∃ n, sg1.size = n ∧ n ≤ 500000000000000 := ⟨_, rfl, by rw [hsg1, tx_size]; exact E0.out.l⟩
    obtain ⟨yb1, hyb1, hym1⟩ : ∃ n, sc1.size = n ∧ n ≤ 10 := ⟨_, rfl, by rw [hsc1, tx_size]; exact (encI_len _ ic1).2⟩
    have hcat1 : ¬ 9223372036854775807 < ya1 + yb1 := by omega
    have RC1 := Aside0.mk (refint_ok n1 ic1)
    rw [← hsc1] at RC1
    obtain ⟨yt1, hyt1⟩ : ∃ zs, zs = ys0 ++ encI n1 := ⟨_, rfl⟩
    have CAT1 := Aside0.mk (show sg1 ++ sc1 = strOfNums yt1 by rw [hyt1, hsg1, hsc1, tx_append])
    have ET1 := Aside0.mk (show EI bd yt1 (G0 m ++ encI n1) (LN m) (¬ MsgFits m) 1000000000000000 from E0.out.more hyt1 (by rw [hyt1, List.length_append]; have h1 := E0.out.l; have h2 := (encI_len _ ic1).2; omega))
    clear hsg1 hsc1 ic1 hyl1 hym1 hyt1 E0
    go_wp2_with fail
    refine (RC1.out _).mono ?_
    rintro e wc1 ⟨rfl, hbel⟩
    have HC1 := Aside0.mk (H2.out.from_below hbel)
    clear hbel H2 RC1 k8
    go_upto_block 0 with fail
    rw [CAT1.out]
    clear CAT1 hya1 hyb1 hcat1
    go_cut [4, 5] (fun s4 s5 wc => ∃ (bd : Bool) (ys : List Int), s4 = .bool bd ∧ s5 = .string (strOfNums ys) ∧ Aside0 (EI bd ys (G0 m ++ enc1 m.nodes) (LN m) (¬ MsgFits m) 1000000000000000) ∧ Aside0 (Hw w wc (blk w.heap.size (.cells #[.int .i64 m.kind, .int .i64 m.src, .int .i64 m.dst, .int .i64 m.id, .int .i64 m.rev, .int .i64 m.epoch, .int .i64 m.slot, .bool m.flag, .slice A1 n1 c1, .slice A2 n2 c2, .slice A3 n3 c3, .slice A4 n4 c4] 27) * HP.emp)))
    case first =>
      go_wp2_with fail
      go_loopw [6, 5] (fun i v wr => ∃ (k : Nat) (ys : List Int), k ≤ n1 ∧ i = .int .i64 k ∧ v = .string (strOfNums ys) ∧ Aside0 (EI bd ys (G0 m ++ encI n1 ++ (m.nodes.take k).flatMap encI) (LN m ∧ ∀ x ∈ m.nodes.take k, True) (¬ MsgFits m) 1000000000000000) ∧ Aside0 (Hw w wr (blk w.heap.size (.cells #[.int .i64 m.kind, .int .i64 m.src, .int .i64 m.dst, .int .i64 m.id, .int .i64 m.rev, .int .i64 m.epoch, .int .i64 m.slot, .bool m.flag, .slice A1 n1 c1, .slice A2 n2 c2, .slice A3 n3 c3, .slice A4 n4 c4] 27) * HP.emp))) (fun i _ _ => n1 - (intOf i).toNat)
      case atStart => exact ⟨0, _, Nat.zero_le _, rfl, rfl, ⟨ET1.out.start⟩, HC1⟩
      case round =>
        obtain ⟨k, ys, hk, rfl, rfl, EE, HW⟩ := hrel
        have k8 := HW.out.cellAt w.heap.size 8 (v := .slice A1 n1 c1) rfl
        clear HC1 ET1
        rcases bd with _ | _
        · by_cases hlt : k < n1
          · obtain ⟨ad, x, rfl, hcell, hx⟩ := C_scalar_at (enc := Value.int .i64) (h1 := fun _ => rfl) (Kd.C_below C1.out HW.out.below) k hlt
            have ix := OK.out.nodes x (List.mem_of_getElem? hx.out)
            have YL : ys.length ≤ 20000 := by
              obtain ⟨⟨hln, _⟩, he⟩ := EE.out.g rfl
              have h1 := flat_len encI 10 (m.nodes.take k) (fun n hn => (encI_len n (OK.out.nodes n (List.mem_of_mem_take hn))).2)
              have h2 : (m.nodes.take k).length ≤ 1024 := by have := hln.1; rw [List.length_take]; omega
              have h4 := L0.out
              have h5 := (encI_len (n1 : Int) (by unfold i64r; omega)).2
              rw [he, List.length_append, List.length_append]
              omega
            obtain ⟨sy, hsy⟩ : ∃ s, s = strOfNums ys := ⟨_, rfl⟩
            rw [← hsy]
            obtain ⟨za, hza, hzl⟩ : ∃ n, sy.size = n ∧ n ≤ 20000 := ⟨_, rfl, by rw [hsy, tx_size]; exact YL⟩
            obtain ⟨sx, hsx⟩ : ∃ s, s = strOfNums (encI x) := ⟨_, rfl⟩
            obtain ⟨zb, hzb, hzm⟩ : ∃ n, sx.size = n ∧ n ≤ 10 := ⟨_, rfl, by rw [hsx, tx_size]; exact (encI_len _ ix).2⟩
            have hcat : ¬ 9223372036854775807 < za + zb := by omega
            have CAT := Aside0.mk (show sy ++ sx = strOfNums (ys ++ encI x) by rw [hsy, hsx, tx_append])
            have RX := Aside0.mk (refint_ok x ix)
            rw [← hsx] at RX
            have E2 := Aside0.mk (EE.out.step (b := false) hx.out ⟨(fun h => nomatch h), fun h => absurd trivial h⟩ (fun h => absurd trivial h) rfl (by rw [List.length_append]; have := (encI_len _ ix).2; omega))
            clear hsy hsx ix YL EE hzl hzm
            go_wp2_with fail
            refine (RX.out _).mono ?_
            rintro e w30 ⟨rfl, hbel⟩
            have H4 := Aside0.mk (HW.out.from_below hbel)
            clear hbel HW hcell RX
            go_wp2_with fail
            go_roundw
            case rel => exact ⟨k + 1, ys ++ encI x, by omega, by go_num, by rw [← CAT.out], E2, H4⟩
            case measure => simp [intOf]; omega
          · have EF := Aside0.mk ((EE.out.done (fun _ => by rw [NL.out.1]; omega)).to (enc1_eq NL.out.1))
            go_wp2_with fail
            go_meet
            exact ⟨_, _, rfl, rfl, ⟨⟨fun hb => ⟨(EF.out.g hb).1.1, (EF.out.g hb).2⟩, EF.out.b, EF.out.l⟩⟩, HW⟩
        · have EF : Aside0 (EI true ys (G0 m ++ enc1 m.nodes) (LN m) (¬ MsgFits m) 1000000000000000) := ⟨⟨(fun h => nomatch h), EE.out.b, EE.out.l⟩⟩
          by_cases hlt : k < n1
          all_goals
            go_wp2_with fail
            go_meet
            exact ⟨_, _, rfl, rfl, EF, HW⟩
    case rest =>
      obtain ⟨bd, ys, rfl, rfl, EE, HD1⟩ := hcut
      clear HC1 ET1
      have k9 := HD1.out.cellAt w.heap.size 9 (v := .slice A2 n2 c2) rfl
      have ic2 : i64r (n2 : Int) := by unfold i64r; omega
      obtain ⟨sg2, hsg2⟩ : ∃ s, s = strOfNums ys := ⟨_, rfl⟩
      rw [← hsg2]
      obtain ⟨sc2, hsc2⟩ : ∃ s, s = strOfNums (encI n2) := ⟨_, rfl⟩
      obtain ⟨ya2, hya2, hyl2⟩ : ∃ n, sg2.size = n ∧ n ≤ 1000000000000000 := ⟨_, rfl, by rw [hsg2, tx_size]; exact EE.out.l⟩
      obtain ⟨yb2, hyb2, hym2⟩ : ∃ n, sc2.size = n ∧ n ≤ 10 := ⟨_, rfl, by rw [hsc2, tx_size]; exact (encI_len _ ic2).2⟩
      have hcat2 : ¬ 9223372036854775807 < ya2 + yb2 := by omega
      have RC2 := Aside0.mk (refint_ok n2 ic2)
      rw [← hsc2] at RC2
      obtain ⟨yt2, hyt2⟩ : ∃ zs, zs = ys ++ encI n2 := ⟨_, rfl⟩
      have CAT2 := Aside0.mk (show sg2 ++ sc2 = strOfNums yt2 by rw [hyt2, hsg2, hsc2, tx_append])
      have ET2 := Aside0.mk (show EI bd yt2 (G0 m ++ enc1 m.nodes ++ encI n2) (LN m) (¬ MsgFits m) 1500000000000000 from EE.out.more hyt2 (by rw [hyt2, List.length_append]; have h1 := EE.out.l; have h2 := (encI_len _ ic2).2; omega))
      clear hsg2 hsc2 ic2 hyl2 hym2 hyt2 EE
      go_wp2_with fail
      refine (RC2.out _).mono ?_
      rintro e wc2 ⟨rfl, hbel⟩
      have HC2 := Aside0.mk (HD1.out.from_below hbel)
      clear hbel HD1 RC2 k9
      go_upto_block 2 with fail
      rw [CAT2.out]
      clear CAT2 hya2 hyb2 hcat2
      go_cut [4, 5] (fun s4 s5 wc => ∃ (bd : Bool) (ys : List Int), s4 = .bool bd ∧ s5 = .string (strOfNums ys) ∧ Aside0 (EI bd ys (G0 m ++ enc1 m.nodes ++ enc2 m.muts) ((LN m) ∧ ∀ x ∈ m.muts, fitsM x) (¬ MsgFits m) 1500000000000000) ∧ Aside0 (Hw w wc (blk w.heap.size (.cells #[.int .i64 m.kind, .int .i64 m.src, .int .i64 m.dst, .int .i64 m.id, .int .i64 m.rev, .int .i64 m.epoch, .int .i64 m.slot, .bool m.flag, .slice A1 n1 c1, .slice A2 n2 c2, .slice A3 n3 c3, .slice A4 n4 c4] 27) * HP.emp)))
      case first =>
        go_wp2_with fail
        go_loopw [7, 4, 5] (fun i s4 s5 wr => ∃ (k : Nat) (bd : Bool) (ys : List Int), k ≤ n2 ∧ i = .int .i64 k ∧ s4 = .bool bd ∧ s5 = .string (strOfNums ys) ∧ Aside0 (EI bd ys (G0 m ++ enc1 m.nodes ++ encI n2 ++ (m.muts.take k).flatMap encM) ((LN m) ∧ ∀ x ∈ m.muts.take k, fitsM x) (¬ MsgFits m) 1500000000000000) ∧ Aside0 (Hw w wr (blk w.heap.size (.cells #[.int .i64 m.kind, .int .i64 m.src, .int .i64 m.dst, .int .i64 m.id, .int .i64 m.rev, .int .i64 m.epoch, .int .i64 m.slot, .bool m.flag, .slice A1 n1 c1, .slice A2 n2 c2, .slice A3 n3 c3, .slice A4 n4 c4] 27) * HP.emp))) (fun i _ _ _ => n2 - (intOf i).toNat)
        case atStart => exact ⟨0, _, _, Nat.zero_le _, rfl, rfl, rfl, ⟨ET2.out.start⟩, HC2⟩
        case round =>
          obtain ⟨k, bd, ys, hk, rfl, rfl, rfl, EE, HW⟩ := hrel
          clear HC2 ET2
          rcases bd with _ | _
          · by_cases hlt : k < n2
            · obtain ⟨ad, x, rfl, hx, hcl⟩ := elem_at mutC @KMut_cells C2.out (Below.refl _ _) k hlt
              have hc0 : w.cell? (ad.add (k * 4)) = some (.bool x.1) := hcl 0 _ rfl
              have hc1 : w.cell? (⟨(ad.add (k * 4)).block, (ad.add (k * 4)).off + 1, none⟩) = some (.string x.2.1) := by
                have h := hcl 1 _ rfl
                rw [add_field _ _ _ (by decide)] at h
                exact h
              have hc2 : w.cell? (⟨(ad.add (k * 4)).block, (ad.add (k * 4)).off + 1 + 1, none⟩) = some (.string x.2.2.1) := by
                have h := hcl 2 _ rfl
                rw [add_field _ _ _ (by decide)] at h
                exact h
              have hc3 : w.cell? (⟨(ad.add (k * 4)).block, (ad.add (k * 4)).off + 1 + 2, none⟩) = some (.string x.2.2.2) := by
                have h := hcl 3 _ rfl
                rw [add_field _ _ _ (by decide)] at h
                exact h
              clear hcl
              have kh := HW.out.cellAt w.heap.size 9 (v := .slice (some ad) n2 c2) rfl
              have k0 : wr.cell? (ad.add (k * 4)) = some (.bool x.1) := pw_cell_below HW.out.below hc0
              have k1 : wr.cell? (⟨(ad.add (k * 4)).block, (ad.add (k * 4)).off + 1, none⟩) = some (.string x.2.1) := pw_cell_below HW.out.below hc1
              have k2 : wr.cell? (⟨(ad.add (k * 4)).block, (ad.add (k * 4)).off + 1 + 1, none⟩) = some (.string x.2.2.1) := pw_cell_below HW.out.below hc2
              have k3 : wr.cell? (⟨(ad.add (k * 4)).block, (ad.add (k * 4)).off + 1 + 2, none⟩) = some (.string x.2.2.2) := pw_cell_below HW.out.below hc3
              have SX := SZ.out.muts x (List.mem_of_getElem? hx.out)
              have YL : ys.length ≤ 9000000 := by
                obtain ⟨⟨hln, hfk⟩, he⟩ := EE.out.g rfl
                have g2 := enc1_len m.nodes hln.1 OK.out.nodes
                have h1 := flat_len encM 440 (m.muts.take k) (fun x hx => encM_len x trivial (hfk x hx))
                have h2 : (m.muts.take k).length ≤ 1024 := by have := hln.2.1; rw [List.length_take]; omega
                have h4 := L0.out
                have h5 := (encI_len (n2 : Int) (by unfold i64r; omega)).2
                rw [he]
                simp only [List.length_append]
                omega
              obtain ⟨sy, hsy⟩ : ∃ s, s = strOfNums ys := ⟨_, rfl⟩
              rw [← hsy]
              obtain ⟨za, hza, hzl⟩ : ∃ n, sy.size = n ∧ n ≤ 9000000 := ⟨_, rfl, by rw [hsy, tx_size]; exact YL⟩
              obtain ⟨sb, hsb⟩ : ∃ s, s = strOfNums [bitN x.1] := ⟨_, rfl⟩
              have RB := Aside0.mk (refbit_ok x.1)
              rw [← hsb] at RB
              have hzb : sb.size = 1 := by rw [hsb, tx_size]; rfl
              obtain ⟨st, hst⟩ : ∃ s, s = strOfNums (encT x.2) := ⟨_, rfl⟩
              have RT := Aside0.mk (reftexts_ok x.2.1 x.2.2.1 x.2.2.2 SX.1 SX.2.1 SX.2.2)
              rw [← hst] at RT
              obtain ⟨zt, hzt, hzm⟩ : ∃ n, st.size = n ∧ n ≤ 422212465053800 := ⟨_, rfl, by rw [hst, tx_size]; exact encT_big _ SX⟩
              have hcat1 : ¬ 9223372036854775807 < 1 + zt := by omega
              have hcat2 : ¬ 9223372036854775807 < za + (1 + zt) := by omega
              have CAT := Aside0.mk (show sy ++ (sb ++ st) = strOfNums (ys ++ encM x) by rw [hsy, hsb, hst, ← tx_append, ← tx_append]; rfl)
              have LX : (encM x).length ≤ 422212465053900 := by have := encT_big _ SX; unfold encM; rw [List.length_cons]; omega
              have NF : ∀ {p : Prop}, (MsgFits m → False) → ¬ MsgFits m := fun h => h
              have E2 : ∀ b : Bool, Aside0 ((b = true ↔ ¬ fitsM x) → EI b (ys ++ encM x) (G0 m ++ enc1 m.nodes ++ encI n2 ++ (m.muts.take (k + 1)).flatMap encM) ((LN m) ∧ ∀ x ∈ m.muts.take (k + 1), fitsM x) (¬ MsgFits m) 1500000000000000) :=
                fun b => ⟨fun hb => EE.out.step hx.out hb (fun h hf => h (hf.l2.2 x (List.mem_of_getElem? hx.out))) rfl (by rw [List.length_append]; omega)⟩
              have SX2 := Aside0.mk E2
              have LO := Aside0.mk (reflong_ok x.2.1 x.2.2.1 x.2.2.2)
              have Q0 := Aside0.mk hc0
              have Q1 := Aside0.mk hc1
              have Q2 := Aside0.mk hc2
              have Q3 := Aside0.mk hc3
              clear hsy hsb hst hzm YL EE hzl E2 NF SX LX hc0 hc1 hc2 hc3
              go_wp2_with fail
              refine (LO.out _).mono ?_
              rintro e w5 ⟨b, rfl, hb, hbel⟩
              have H4 := Aside0.mk (HW.out.from_below hbel)
              have E3 := Aside0.mk ((SX2.out b).out hb)
              clear hbel HW LO SX2 hb kh k0 k1 k2 k3
              have H5 := Aside0.mk H4.out.drew
              have hc0 := Q0.out
              have hc1 := Q1.out
              have hc2 := Q2.out
              have hc3 := Q3.out
              have qh := H5.out.cellAt w.heap.size 9 (v := .slice (some ad) n2 c2) rfl
              have q0 : w5.drew.cell? (ad.add (k * 4)) = some (.bool x.1) := pw_cell_below H5.out.below hc0
              have q1 : w5.drew.cell? (⟨(ad.add (k * 4)).block, (ad.add (k * 4)).off + 1, none⟩) = some (.string x.2.1) := pw_cell_below H5.out.below hc1
              have q2 : w5.drew.cell? (⟨(ad.add (k * 4)).block, (ad.add (k * 4)).off + 1 + 1, none⟩) = some (.string x.2.2.1) := pw_cell_below H5.out.below hc2
              have q3 : w5.drew.cell? (⟨(ad.add (k * 4)).block, (ad.add (k * 4)).off + 1 + 2, none⟩) = some (.string x.2.2.2) := pw_cell_below H5.out.below hc3
              clear H4
              go_upto_region 13 with fail
              refine start_ (n := 18) (S := fun w' => w'.cell? ⟨w.heap.size, 9, none⟩ = some (.slice (some ad) n2 c2) ∧ w'.cell? (ad.add (k * 4)) = some (.bool x.1) ∧ w'.cell? (⟨(ad.add (k * 4)).block, (ad.add (k * 4)).off + 1, none⟩) = some (.string x.2.1) ∧ w'.cell? (⟨(ad.add (k * 4)).block, (ad.add (k * 4)).off + 1 + 1, none⟩) = some (.string x.2.2.1) ∧ w'.cell? (⟨(ad.add (k * 4)).block, (ad.add (k * 4)).off + 1 + 2, none⟩) = some (.string x.2.2.2)) (ds := []) #[false, false, false, false, false, false, false, false, false, false, false, false, false, false, false, false, false, false] (by kernel_rfl) rfl rfl ⟨qh, q0, q1, q2, q3⟩ (fun hHeld => ?_)
              refine pure_ (i := 0) (N := some 112) (v := ?_) (a' := ?_) #[true, false, false, false, false, false, false, false, false, false, false, false, false, false, false, false, false, false] rfl rfl (by kernel_rfl) (fun _ _ _ h => h) (Or.inl ⟨by rfl, ?_⟩) ?_ ?_
              rotate_left
              · intro w'
                go_simp
                with_reducible rfl
              rotate_left
              · simp only [Act.put, List.setIfInBounds_toArray, List.set_cons_zero, List.set_cons_succ, i64_w, i32_w]
                rfl
              refine pure_ (i := 1) (N := some 113) (v := ?_) (a' := ?_) #[true, true, false, false, false, false, false, false, false, false, false, false, false, false, false, false, false, false] rfl rfl (by kernel_rfl) (fun _ _ _ h => h) (Or.inl ⟨by rfl, ?_⟩) ?_ ?_
              rotate_left
              · intro w'
                go_simp
                with_reducible rfl
              rotate_left
              · simp only [Act.put, List.setIfInBounds_toArray, List.set_cons_zero, List.set_cons_succ, i64_w, i32_w]
                rfl
              refine pure_ (i := 3) (N := some 115) (v := ?_) (a' := ?_) #[true, true, false, true, false, false, false, false, false, false, false, false, false, false, false, false, false, false] rfl rfl (by kernel_rfl) (fun _ _ _ h => h) (Or.inl ⟨by rfl, ?_⟩) ?_ ?_
              rotate_left
              · intro w'
                go_simp
                with_reducible rfl
              rotate_left
              · simp only [Act.put, List.setIfInBounds_toArray, List.set_cons_zero, List.set_cons_succ, i64_w, i32_w]
                rfl
              refine pure_ (i := 8) (N := some 120) (v := ?_) (a' := ?_) #[true, true, false, true, false, false, false, false, true, false, false, false, false, false, false, false, false, false] rfl rfl (by kernel_rfl) (fun _ _ _ h => h) (Or.inl ⟨by rfl, ?_⟩) ?_ ?_
              rotate_left
              · intro w'
                go_simp
                with_reducible rfl
              rotate_left
              · simp only [Act.put, List.setIfInBounds_toArray, List.set_cons_zero, List.set_cons_succ, i64_w, i32_w]
                rfl
              refine pure_ (i := 10) (N := some 122) (v := ?_) (a' := ?_) #[true, true, false, true, false, false, false, false, true, false, true, false, false, false, false, false, false, false] rfl rfl (by kernel_rfl) (fun _ _ _ h => h) (Or.inl ⟨by rfl, ?_⟩) ?_ ?_
              rotate_left
              · intro w'
                go_simp
                with_reducible rfl
              rotate_left
              · simp only [Act.put, List.setIfInBounds_toArray, List.set_cons_zero, List.set_cons_succ, i64_w, i32_w]
                rfl
              refine take_ (i := 2) (N := some 114) (v := ?_) (a' := ?_) #[true, true, true, true, false, false, false, false, true, false, true, false, false, false, false, false, false, false] rfl rfl (by kernel_rfl) (fun _ _ _ h => h) (Or.inl ⟨by rfl, ?_⟩) hHeld ?_ ?_
              rotate_left
              · rintro w' ⟨s0, s1, s2, s3, s4⟩
                go_simp
                with_reducible rfl
              rotate_left
              · simp only [Act.put, List.setIfInBounds_toArray, List.set_cons_zero, List.set_cons_succ, i64_w, i32_w]
                rfl
              refine pure_ (i := 4) (N := some 116) (v := ?_) (a' := ?_) #[true, true, true, true, true, false, false, false, true, false, true, false, false, false, false, false, false, false] rfl rfl (by kernel_rfl) (fun _ _ _ h => h) (Or.inl ⟨by rfl, ?_⟩) ?_ ?_
              rotate_left
              · intro w'
                go_simp
                with_reducible rfl
              rotate_left
              · simp only [Act.put, List.setIfInBounds_toArray, List.set_cons_zero, List.set_cons_succ, i64_w, i32_w]
                rfl
              refine pure_ (i := 5) (N := some 117) (v := ?_) (a' := ?_) #[true, true, true, true, true, true, false, false, true, false, true, false, false, false, false, false, false, false] rfl rfl (by kernel_rfl) (fun _ _ _ h => h) (Or.inl ⟨by rfl, ?_⟩) ?_ ?_
              rotate_left
              · intro w'
                go_simp
                with_reducible rfl
              rotate_left
              · simp only [Act.put, List.setIfInBounds_toArray, List.set_cons_zero, List.set_cons_succ, i64_w, i32_w]
                rfl
              refine take_ (i := 6) (N := some 118) (v := ?_) (a' := ?_) #[true, true, true, true, true, true, true, false, true, false, true, false, false, false, false, false, false, false] rfl rfl (by kernel_rfl) (fun _ _ _ h => h) (Or.inl ⟨by rfl, ?_⟩) hHeld ?_ ?_
              rotate_left
              · rintro w' ⟨s0, s1, s2, s3, s4⟩
                go_simp
                with_reducible rfl
              rotate_left
              · simp only [Act.put, List.setIfInBounds_toArray, List.set_cons_zero, List.set_cons_succ, i64_w, i32_w]
                rfl
              refine take_ (i := 9) (N := some 121) (v := ?_) (a' := ?_) #[true, true, true, true, true, true, true, false, true, true, true, false, false, false, false, false, false, false] rfl rfl (by kernel_rfl) (fun _ _ _ h => h) (Or.inl ⟨by rfl, ?_⟩) hHeld ?_ ?_
              rotate_left
              · rintro w' ⟨s0, s1, s2, s3, s4⟩
                go_simp
                with_reducible rfl
              rotate_left
              · simp only [Act.put, List.setIfInBounds_toArray, List.set_cons_zero, List.set_cons_succ, i64_w, i32_w]
                rfl
              refine pure_ (i := 11) (N := some 123) (v := ?_) (a' := ?_) #[true, true, true, true, true, true, true, false, true, true, true, true, false, false, false, false, false, false] rfl rfl (by kernel_rfl) (fun _ _ _ h => h) (Or.inl ⟨by rfl, ?_⟩) ?_ ?_
              rotate_left
              · intro w'
                go_simp
                with_reducible rfl
              rotate_left
              · simp only [Act.put, List.setIfInBounds_toArray, List.set_cons_zero, List.set_cons_succ, i64_w, i32_w]
                rfl
              refine pure_ (i := 12) (N := some 124) (v := ?_) (a' := ?_) #[true, true, true, true, true, true, true, false, true, true, true, true, true, false, false, false, false, false] rfl rfl (by kernel_rfl) (fun _ _ _ h => h) (Or.inl ⟨by rfl, ?_⟩) ?_ ?_
              rotate_left
              · intro w'
                go_simp
                with_reducible rfl
              rotate_left
              · simp only [Act.put, List.setIfInBounds_toArray, List.set_cons_zero, List.set_cons_succ, i64_w, i32_w]
                rfl
              refine take_ (i := 13) (N := some 125) (v := ?_) (a' := ?_) #[true, true, true, true, true, true, true, false, true, true, true, true, true, true, false, false, false, false] rfl rfl (by kernel_rfl) (fun _ _ _ h => h) (Or.inl ⟨by rfl, ?_⟩) hHeld ?_ ?_
              rotate_left
              · rintro w' ⟨s0, s1, s2, s3, s4⟩
                go_simp
                with_reducible rfl
              rotate_left
              · simp only [Act.put, List.setIfInBounds_toArray, List.set_cons_zero, List.set_cons_succ, i64_w, i32_w]
                rfl
              refine one_ (i := 7) (N := some 119) #[true, true, true, true, true, true, true, true, true, true, true, true, true, true, false, false, false, false] rfl rfl (by kernel_rfl) (by decide) (fun K hK => ?_)
              refine goes_ Try.func72 (by kernel_rfl) rfl #[.bool x.1] (by rfl) rfl rfl (by simp only [List.map_toArray, List.map_cons, List.map_nil]; rfl) ?_
              with_reducible refine (RB.out _).mono ?_
              rintro e w20 ⟨rfl, rfl⟩
              refine ⟨_, rfl, ?_⟩
              refine hK.out _ _ ⟨qh, q0, q1, q2, q3⟩ (fun hHeld => ?_)
              clear hK K
              refine norm_ (a' := ?_) ?_ ?_
              rotate_left
              · show Act.put _ (some 119) _ = _
                simp only [Act.put, List.setIfInBounds_toArray, List.set_cons_zero, List.set_cons_succ, i64_w, i32_w]
                rfl
              refine one_ (i := 14) (N := some 126) #[true, true, true, true, true, true, true, true, true, true, true, true, true, true, true, false, false, false] rfl rfl (by kernel_rfl) (by decide) (fun K hK => ?_)
              refine goes_ Try.func74 (by kernel_rfl) rfl #[.agg #[.string x.2.1, .string x.2.2.1, .string x.2.2.2]] (by rfl) rfl rfl (by simp only [List.map_toArray, List.map_cons, List.map_nil]; rfl) ?_
              with_reducible refine (RT.out _).mono ?_
              rintro e w21 ⟨rfl, hbel⟩
              refine ⟨_, rfl, ?_⟩
              have H6 := Aside0.mk (H5.out.from_below hbel)
              clear hbel
              have rh := H6.out.cellAt w.heap.size 9 (v := .slice (some ad) n2 c2) rfl
              have r0 : w21.cell? (ad.add (k * 4)) = some (.bool x.1) := pw_cell_below H6.out.below hc0
              have r1 : w21.cell? (⟨(ad.add (k * 4)).block, (ad.add (k * 4)).off + 1, none⟩) = some (.string x.2.1) := pw_cell_below H6.out.below hc1
              have r2 : w21.cell? (⟨(ad.add (k * 4)).block, (ad.add (k * 4)).off + 1 + 1, none⟩) = some (.string x.2.2.1) := pw_cell_below H6.out.below hc2
              have r3 : w21.cell? (⟨(ad.add (k * 4)).block, (ad.add (k * 4)).off + 1 + 2, none⟩) = some (.string x.2.2.2) := pw_cell_below H6.out.below hc3
              refine hK.out _ _ ⟨rh, r0, r1, r2, r3⟩ (fun hHeld => ?_)
              clear hK K
              refine norm_ (a' := ?_) ?_ ?_
              rotate_left
              · show Act.put _ (some 126) _ = _
                simp only [Act.put, List.setIfInBounds_toArray, List.set_cons_zero, List.set_cons_succ, i64_w, i32_w]
                rfl
              refine pure_ (i := 15) (N := some 127) (v := ?_) (a' := ?_) #[true, true, true, true, true, true, true, true, true, true, true, true, true, true, true, true, false, false] rfl rfl (by kernel_rfl) (fun _ _ _ h => h) (Or.inl ⟨by rfl, ?_⟩) ?_ ?_
              rotate_left
              · intro w'
                go_simp
                with_reducible rfl
              rotate_left
              · simp only [Act.put, List.setIfInBounds_toArray, List.set_cons_zero, List.set_cons_succ, i64_w, i32_w]
                rfl
              refine pure_ (i := 16) (N := some 128) (v := ?_) (a' := ?_) #[true, true, true, true, true, true, true, true, true, true, true, true, true, true, true, true, true, false] rfl rfl (by kernel_rfl) (fun _ _ _ h => h) (Or.inl ⟨by rfl, ?_⟩) ?_ ?_
              rotate_left
              · intro w'
                go_simp
                with_reducible rfl
              rotate_left
              · simp only [Act.put, List.setIfInBounds_toArray, List.set_cons_zero, List.set_cons_succ, i64_w, i32_w]
                rfl
              refine pure_ (i := 17) (N := some 5) (v := ?_) (a' := ?_) #[true, true, true, true, true, true, true, true, true, true, true, true, true, true, true, true, true, true] rfl rfl (by kernel_rfl) (fun _ _ _ h => h) (Or.inl ⟨by rfl, ?_⟩) ?_ ?_
              rotate_left
              · intro w'
                go_simp
                with_reducible rfl
              rotate_left
              · simp only [Act.put, List.setIfInBounds_toArray, List.set_cons_zero, List.set_cons_succ, i64_w, i32_w]
                rfl
              refine done_ (by kernel_rfl) ?_
              clear hHeld
              rw [CAT.out]
              clear RB RT hzb hzt hcat1 hcat2 qh q0 q1 q2 q3 rh r0 r1 r2 r3 hc0 hc1 hc2 hc3 H5
              go_wp2_with fail
              go_roundw
              case rel => exact ⟨k + 1, b, _, by omega, by go_num, rfl, rfl, E3, H6⟩
              case measure => simp [intOf]; omega
            · have EF := Aside0.mk ((EE.out.done (fun _ => by rw [NL.out.2.1]; omega)).to (enc2_eq NL.out.2.1))
              have k9 := HW.out.cellAt w.heap.size 9 (v := .slice A2 n2 c2) rfl
              go_wp2_with fail
              go_meet
              exact ⟨_, _, rfl, rfl, EF, HW⟩
          · have EF := Aside0.mk (show EI true ys (G0 m ++ enc1 m.nodes ++ enc2 m.muts) ((LN m) ∧ ∀ x ∈ m.muts, fitsM x) (¬ MsgFits m) 1500000000000000 from ⟨(fun h => nomatch h), EE.out.b, EE.out.l⟩)
            have k9 := HW.out.cellAt w.heap.size 9 (v := .slice A2 n2 c2) rfl
            by_cases hlt : k < n2
            all_goals
              go_wp2_with fail
              go_meet
              exact ⟨_, _, rfl, rfl, EF, HW⟩
      case rest =>
        obtain ⟨bd, ys, rfl, rfl, EE, HD2⟩ := hcut
        clear HC2 ET2
        have k10 := HD2.out.cellAt w.heap.size 10 (v := .slice A3 n3 c3) rfl
        have ic3 : i64r (n3 : Int) := by unfold i64r; omega
        obtain ⟨sg3, hsg3⟩ : ∃ s, s = strOfNums ys := ⟨_, rfl⟩
        rw [← hsg3]
        obtain ⟨sc3, hsc3⟩ : ∃ s, s = strOfNums (encI n3) := ⟨_, rfl⟩
        obtain ⟨ya3, hya3, hyl3⟩ : ∃ n, sg3.size = n ∧ n ≤ 1500000000000000 := ⟨_, rfl, by rw [hsg3, tx_size]; exact EE.out.l⟩
        obtain ⟨yb3, hyb3, hym3⟩ : ∃ n, sc3.size = n ∧ n ≤ 10 := ⟨_, rfl, by rw [hsc3, tx_size]; exact (encI_len _ ic3).2⟩
        have hcat3 : ¬ 9223372036854775807 < ya3 + yb3 := by omega
        have RC3 := Aside0.mk (refint_ok n3 ic3)
        rw [← hsc3] at RC3
        obtain ⟨yt3, hyt3⟩ : ∃ zs, zs = ys ++ encI n3 := ⟨_, rfl⟩
        have CAT3 := Aside0.mk (show sg3 ++ sc3 = strOfNums yt3 by rw [hyt3, hsg3, hsc3, tx_append])
        have ET3 := Aside0.mk (show EI bd yt3 (G0 m ++ enc1 m.nodes ++ enc2 m.muts ++ encI n3) ((LN m) ∧ ∀ x ∈ m.muts, fitsM x) (¬ MsgFits m) 2000000000000000 from EE.out.more hyt3 (by rw [hyt3, List.length_append]; have h1 := EE.out.l; have h2 := (encI_len _ ic3).2; omega))
        clear hsg3 hsc3 ic3 hyl3 hym3 hyt3 EE
        go_wp2_with fail
        refine (RC3.out _).mono ?_
        rintro e wc3 ⟨rfl, hbel⟩
        have HC3 := Aside0.mk (HD2.out.from_below hbel)
        clear hbel HD2 RC3 k10
        go_upto_block 4 with fail
        rw [CAT3.out]
        clear CAT3 hya3 hyb3 hcat3
        go_cut [4, 5] (fun s4 s5 wc => ∃ (bd : Bool) (ys : List Int), s4 = .bool bd ∧ s5 = .string (strOfNums ys) ∧ Aside0 (EI bd ys (G0 m ++ enc1 m.nodes ++ enc2 m.muts ++ enc2 m.pre) (((LN m) ∧ ∀ x ∈ m.muts, fitsM x) ∧ ∀ x ∈ m.pre, fitsM x) (¬ MsgFits m) 2000000000000000) ∧ Aside0 (Hw w wc (blk w.heap.size (.cells #[.int .i64 m.kind, .int .i64 m.src, .int .i64 m.dst, .int .i64 m.id, .int .i64 m.rev, .int .i64 m.epoch, .int .i64 m.slot, .bool m.flag, .slice A1 n1 c1, .slice A2 n2 c2, .slice A3 n3 c3, .slice A4 n4 c4] 27) * HP.emp)))
        case first =>
          go_wp2_with fail
          go_loopw [8, 4, 5] (fun i s4 s5 wr => ∃ (k : Nat) (bd : Bool) (ys : List Int), k ≤ n3 ∧ i = .int .i64 k ∧ s4 = .bool bd ∧ s5 = .string (strOfNums ys) ∧ Aside0 (EI bd ys (G0 m ++ enc1 m.nodes ++ enc2 m.muts ++ encI n3 ++ (m.pre.take k).flatMap encM) (((LN m) ∧ ∀ x ∈ m.muts, fitsM x) ∧ ∀ x ∈ m.pre.take k, fitsM x) (¬ MsgFits m) 2000000000000000) ∧ Aside0 (Hw w wr (blk w.heap.size (.cells #[.int .i64 m.kind, .int .i64 m.src, .int .i64 m.dst, .int .i64 m.id, .int .i64 m.rev, .int .i64 m.epoch, .int .i64 m.slot, .bool m.flag, .slice A1 n1 c1, .slice A2 n2 c2, .slice A3 n3 c3, .slice A4 n4 c4] 27) * HP.emp))) (fun i _ _ _ => n3 - (intOf i).toNat)
          case atStart => exact ⟨0, _, _, Nat.zero_le _, rfl, rfl, rfl, ⟨ET3.out.start⟩, HC3⟩
          case round =>
            obtain ⟨k, bd, ys, hk, rfl, rfl, rfl, EE, HW⟩ := hrel
            clear HC3 ET3
            rcases bd with _ | _
            · by_cases hlt : k < n3
              · obtain ⟨ad, x, rfl, hx, hcl⟩ := elem_at mutC @KMut_cells C3.out (Below.refl _ _) k hlt
                have hc0 : w.cell? (ad.add (k * 4)) = some (.bool x.1) := hcl 0 _ rfl
                have hc1 : w.cell? (⟨(ad.add (k * 4)).block, (ad.add (k * 4)).off + 1, none⟩) = some (.string x.2.1) := by
                  have h := hcl 1 _ rfl
                  rw [add_field _ _ _ (by decide)] at h
                  exact h
                have hc2 : w.cell? (⟨(ad.add (k * 4)).block, (ad.add (k * 4)).off + 1 + 1, none⟩) = some (.string x.2.2.1) := by
                  have h := hcl 2 _ rfl
                  rw [add_field _ _ _ (by decide)] at h
                  exact h
                have hc3 : w.cell? (⟨(ad.add (k * 4)).block, (ad.add (k * 4)).off + 1 + 2, none⟩) = some (.string x.2.2.2) := by
                  have h := hcl 3 _ rfl
                  rw [add_field _ _ _ (by decide)] at h
                  exact h
                clear hcl
                have kh := HW.out.cellAt w.heap.size 10 (v := .slice (some ad) n3 c3) rfl
                have k0 : wr.cell? (ad.add (k * 4)) = some (.bool x.1) := pw_cell_below HW.out.below hc0
                have k1 : wr.cell? (⟨(ad.add (k * 4)).block, (ad.add (k * 4)).off + 1, none⟩) = some (.string x.2.1) := pw_cell_below HW.out.below hc1
                have k2 : wr.cell? (⟨(ad.add (k * 4)).block, (ad.add (k * 4)).off + 1 + 1, none⟩) = some (.string x.2.2.1) := pw_cell_below HW.out.below hc2
                have k3 : wr.cell? (⟨(ad.add (k * 4)).block, (ad.add (k * 4)).off + 1 + 2, none⟩) = some (.string x.2.2.2) := pw_cell_below HW.out.below hc3
                have SX := SZ.out.pre x (List.mem_of_getElem? hx.out)
                have YL : ys.length ≤ 9000000 := by
                  obtain ⟨⟨⟨hln, hf2⟩, hfk⟩, he⟩ := EE.out.g rfl
                  have g2 := enc1_len m.nodes hln.1 OK.out.nodes
                  have g3 := enc2_len m.muts hln.2.1 hf2
                  have h1 := flat_len encM 440 (m.pre.take k) (fun x hx => encM_len x trivial (hfk x hx))
                  have h2 : (m.pre.take k).length ≤ 1024 := by have := hln.2.2.1; rw [List.length_take]; omega
                  have h4 := L0.out
                  have h5 := (encI_len (n3 : Int) (by unfold i64r; omega)).2
                  rw [he]
                  simp only [List.length_append]
                  omega
                obtain ⟨sy, hsy⟩ : ∃ s, s = strOfNums ys := ⟨_, rfl⟩
                rw [← hsy]
                obtain ⟨za, hza, hzl⟩ : ∃ n, sy.size = n ∧ n ≤ 9000000 := ⟨_, rfl, by rw [hsy, tx_size]; exact YL⟩
                obtain ⟨sb, hsb⟩ : ∃ s, s = strOfNums [bitN x.1] := ⟨_, rfl⟩
                have RB := Aside0.mk (refbit_ok x.1)
                rw [← hsb] at RB
                have hzb : sb.size = 1 := by rw [hsb, tx_size]; rfl
                obtain ⟨st, hst⟩ : ∃ s, s = strOfNums (encT x.2) := ⟨_, rfl⟩
                have RT := Aside0.mk (reftexts_ok x.2.1 x.2.2.1 x.2.2.2 SX.1 SX.2.1 SX.2.2)
                rw [← hst] at RT
                obtain ⟨zt, hzt, hzm⟩ : ∃ n, st.size = n ∧ n ≤ 422212465053800 := ⟨_, rfl, by rw [hst, tx_size]; exact encT_big _ SX⟩
                have hcat1 : ¬ 9223372036854775807 < 1 + zt := by omega
                have hcat2 : ¬ 9223372036854775807 < za + (1 + zt) := by omega
                have CAT := Aside0.mk (show sy ++ (sb ++ st) = strOfNums (ys ++ encM x) by rw [hsy, hsb, hst, ← tx_append, ← tx_append]; rfl)
                have LX : (encM x).length ≤ 422212465053900 := by have := encT_big _ SX; unfold encM; rw [List.length_cons]; omega
                have NF : ∀ {p : Prop}, (MsgFits m → False) → ¬ MsgFits m := fun h => h
                have E2 : ∀ b : Bool, Aside0 ((b = true ↔ ¬ fitsM x) → EI b (ys ++ encM x) (G0 m ++ enc1 m.nodes ++ enc2 m.muts ++ encI n3 ++ (m.pre.take (k + 1)).flatMap encM) (((LN m) ∧ ∀ x ∈ m.muts, fitsM x) ∧ ∀ x ∈ m.pre.take (k + 1), fitsM x) (¬ MsgFits m) 2000000000000000) :=
                  fun b => ⟨fun hb => EE.out.step hx.out hb (fun h hf => h (hf.l3.2 x (List.mem_of_getElem? hx.out))) rfl (by rw [List.length_append]; omega)⟩
                have SX2 := Aside0.mk E2
                have LO := Aside0.mk (reflong_ok x.2.1 x.2.2.1 x.2.2.2)
                have Q0 := Aside0.mk hc0
                have Q1 := Aside0.mk hc1
                have Q2 := Aside0.mk hc2
                have Q3 := Aside0.mk hc3
                clear hsy hsb hst hzm YL EE hzl E2 NF SX LX hc0 hc1 hc2 hc3
                go_wp2_with fail
                refine (LO.out _).mono ?_
                rintro e w5 ⟨b, rfl, hb, hbel⟩
                have H4 := Aside0.mk (HW.out.from_below hbel)
                have E3 := Aside0.mk ((SX2.out b).out hb)
                clear hbel HW LO SX2 hb kh k0 k1 k2 k3
                have H5 := Aside0.mk H4.out.drew
                have hc0 := Q0.out
                have hc1 := Q1.out
                have hc2 := Q2.out
                have hc3 := Q3.out
                have qh := H5.out.cellAt w.heap.size 10 (v := .slice (some ad) n3 c3) rfl
                have q0 : w5.drew.cell? (ad.add (k * 4)) = some (.bool x.1) := pw_cell_below H5.out.below hc0
                have q1 : w5.drew.cell? (⟨(ad.add (k * 4)).block, (ad.add (k * 4)).off + 1, none⟩) = some (.string x.2.1) := pw_cell_below H5.out.below hc1
                have q2 : w5.drew.cell? (⟨(ad.add (k * 4)).block, (ad.add (k * 4)).off + 1 + 1, none⟩) = some (.string x.2.2.1) := pw_cell_below H5.out.below hc2
                have q3 : w5.drew.cell? (⟨(ad.add (k * 4)).block, (ad.add (k * 4)).off + 1 + 2, none⟩) = some (.string x.2.2.2) := pw_cell_below H5.out.below hc3
                clear H4
                go_upto_region 19 with fail
                refine start_ (n := 18) (S := fun w' => w'.cell? ⟨w.heap.size, 10, none⟩ = some (.slice (some ad) n3 c3) ∧ w'.cell? (ad.add (k * 4)) = some (.bool x.1) ∧ w'.cell? (⟨(ad.add (k * 4)).block, (ad.add (k * 4)).off + 1, none⟩) = some (.string x.2.1) ∧ w'.cell? (⟨(ad.add (k * 4)).block, (ad.add (k * 4)).off + 1 + 1, none⟩) = some (.string x.2.2.1) ∧ w'.cell? (⟨(ad.add (k * 4)).block, (ad.add (k * 4)).off + 1 + 2, none⟩) = some (.string x.2.2.2)) (ds := []) #[false, false, false, false, false, false, false, false, false, false, false, false, false, false, false, false, false, false] (by kernel_rfl) rfl rfl ⟨qh, q0, q1, q2, q3⟩ (fun hHeld => ?_)
                refine pure_ (i := 0) (N := some 153) (v := ?_) (a' := ?_) #[true, false, false, false, false, false, false, false, false, false, false, false, false, false, false, false, false, false] rfl rfl (by kernel_rfl) (fun _ _ _ h => h) (Or.inl ⟨by rfl, ?_⟩) ?_ ?_
                rotate_left
                · intro w'
                  go_simp
                  with_reducible rfl
                rotate_left
                · simp only [Act.put, List.setIfInBounds_toArray, List.set_cons_zero, List.set_cons_succ, i64_w, i32_w]
                  rfl
                refine pure_ (i := 1) (N := some 154) (v := ?_) (a' := ?_) #[true, true, false, false, false, false, false, false, false, false, false, false, false, false, false, false, false, false] rfl rfl (by kernel_rfl) (fun _ _ _ h => h) (Or.inl ⟨by rfl, ?_⟩) ?_ ?_
                rotate_left
                · intro w'
                  go_simp
                  with_reducible rfl
                rotate_left
                · simp only [Act.put, List.setIfInBounds_toArray, List.set_cons_zero, List.set_cons_succ, i64_w, i32_w]
                  rfl
                refine pure_ (i := 3) (N := some 156) (v := ?_) (a' := ?_) #[true, true, false, true, false, false, false, false, false, false, false, false, false, false, false, false, false, false] rfl rfl (by kernel_rfl) (fun _ _ _ h => h) (Or.inl ⟨by rfl, ?_⟩) ?_ ?_
                rotate_left
                · intro w'
                  go_simp
                  with_reducible rfl
                rotate_left
                · simp only [Act.put, List.setIfInBounds_toArray, List.set_cons_zero, List.set_cons_succ, i64_w, i32_w]
                  rfl
                refine pure_ (i := 8) (N := some 161) (v := ?_) (a' := ?_) #[true, true, false, true, false, false, false, false, true, false, false, false, false, false, false, false, false, false] rfl rfl (by kernel_rfl) (fun _ _ _ h => h) (Or.inl ⟨by rfl, ?_⟩) ?_ ?_
                rotate_left
                · intro w'
                  go_simp
                  with_reducible rfl
                rotate_left
                · simp only [Act.put, List.setIfInBounds_toArray, List.set_cons_zero, List.set_cons_succ, i64_w, i32_w]
                  rfl
                refine pure_ (i := 10) (N := some 163) (v := ?_) (a' := ?_) #[true, true, false, true, false, false, false, false, true, false, true, false, false, false, false, false, false, false] rfl rfl (by kernel_rfl) (fun _ _ _ h => h) (Or.inl ⟨by rfl, ?_⟩) ?_ ?_
                rotate_left
                · intro w'
                  go_simp
                  with_reducible rfl
                rotate_left
                · simp only [Act.put, List.setIfInBounds_toArray, List.set_cons_zero, List.set_cons_succ, i64_w, i32_w]
                  rfl
                refine take_ (i := 2) (N := some 155) (v := ?_) (a' := ?_) #[true, true, true, true, false, false, false, false, true, false, true, false, false, false, false, false, false, false] rfl rfl (by kernel_rfl) (fun _ _ _ h => h) (Or.inl ⟨by rfl, ?_⟩) hHeld ?_ ?_
                rotate_left
                · rintro w' ⟨s0, s1, s2, s3, s4⟩
                  go_simp
                  with_reducible rfl
                rotate_left
                · simp only [Act.put, List.setIfInBounds_toArray, List.set_cons_zero, List.set_cons_succ, i64_w, i32_w]
                  rfl
                refine pure_ (i := 4) (N := some 157) (v := ?_) (a' := ?_) #[true, true, true, true, true, false, false, false, true, false, true, false, false, false, false, false, false, false] rfl rfl (by kernel_rfl) (fun _ _ _ h => h) (Or.inl ⟨by rfl, ?_⟩) ?_ ?_
                rotate_left
                · intro w'
                  go_simp
                  with_reducible rfl
                rotate_left
                · simp only [Act.put, List.setIfInBounds_toArray, List.set_cons_zero, List.set_cons_succ, i64_w, i32_w]
                  rfl
                refine pure_ (i := 5) (N := some 158) (v := ?_) (a' := ?_) #[true, true, true, true, true, true, false, false, true, false, true, false, false, false, false, false, false, false] rfl rfl (by kernel_rfl) (fun _ _ _ h => h) (Or.inl ⟨by rfl, ?_⟩) ?_ ?_
                rotate_left
                · intro w'
                  go_simp
                  with_reducible rfl
                rotate_left
                · simp only [Act.put, List.setIfInBounds_toArray, List.set_cons_zero, List.set_cons_succ, i64_w, i32_w]
                  rfl
                refine take_ (i := 6) (N := some 159) (v := ?_) (a' := ?_) #[true, true, true, true, true, true, true, false, true, false, true, false, false, false, false, false, false, false] rfl rfl (by kernel_rfl) (fun _ _ _ h => h) (Or.inl ⟨by rfl, ?_⟩) hHeld ?_ ?_
                rotate_left
                · rintro w' ⟨s0, s1, s2, s3, s4⟩
                  go_simp
                  with_reducible rfl
                rotate_left
                · simp only [Act.put, List.setIfInBounds_toArray, List.set_cons_zero, List.set_cons_succ, i64_w, i32_w]
                  rfl
                refine take_ (i := 9) (N := some 162) (v := ?_) (a' := ?_) #[true, true, true, true, true, true, true, false, true, true, true, false, false, false, false, false, false, false] rfl rfl (by kernel_rfl) (fun _ _ _ h => h) (Or.inl ⟨by rfl, ?_⟩) hHeld ?_ ?_
                rotate_left
                · rintro w' ⟨s0, s1, s2, s3, s4⟩
                  go_simp
                  with_reducible rfl
                rotate_left
                · simp only [Act.put, List.setIfInBounds_toArray, List.set_cons_zero, List.set_cons_succ, i64_w, i32_w]
                  rfl
                refine pure_ (i := 11) (N := some 164) (v := ?_) (a' := ?_) #[true, true, true, true, true, true, true, false, true, true, true, true, false, false, false, false, false, false] rfl rfl (by kernel_rfl) (fun _ _ _ h => h) (Or.inl ⟨by rfl, ?_⟩) ?_ ?_
                rotate_left
                · intro w'
                  go_simp
                  with_reducible rfl
                rotate_left
                · simp only [Act.put, List.setIfInBounds_toArray, List.set_cons_zero, List.set_cons_succ, i64_w, i32_w]
                  rfl
                refine pure_ (i := 12) (N := some 165) (v := ?_) (a' := ?_) #[true, true, true, true, true, true, true, false, true, true, true, true, true, false, false, false, false, false] rfl rfl (by kernel_rfl) (fun _ _ _ h => h) (Or.inl ⟨by rfl, ?_⟩) ?_ ?_
                rotate_left
                · intro w'
                  go_simp
                  with_reducible rfl
                rotate_left
                · simp only [Act.put, List.setIfInBounds_toArray, List.set_cons_zero, List.set_cons_succ, i64_w, i32_w]
                  rfl
                refine take_ (i := 13) (N := some 166) (v := ?_) (a' := ?_) #[true, true, true, true, true, true, true, false, true, true, true, true, true, true, false, false, false, false] rfl rfl (by kernel_rfl) (fun _ _ _ h => h) (Or.inl ⟨by rfl, ?_⟩) hHeld ?_ ?_
                rotate_left
                · rintro w' ⟨s0, s1, s2, s3, s4⟩
                  go_simp
                  with_reducible rfl
                rotate_left
                · simp only [Act.put, List.setIfInBounds_toArray, List.set_cons_zero, List.set_cons_succ, i64_w, i32_w]
                  rfl
                refine one_ (i := 7) (N := some 160) #[true, true, true, true, true, true, true, true, true, true, true, true, true, true, false, false, false, false] rfl rfl (by kernel_rfl) (by decide) (fun K hK => ?_)
                refine goes_ Try.func72 (by kernel_rfl) rfl #[.bool x.1] (by rfl) rfl rfl (by simp only [List.map_toArray, List.map_cons, List.map_nil]; rfl) ?_
                with_reducible refine (RB.out _).mono ?_
                rintro e w20 ⟨rfl, rfl⟩
                refine ⟨_, rfl, ?_⟩
                refine hK.out _ _ ⟨qh, q0, q1, q2, q3⟩ (fun hHeld => ?_)
                clear hK K
                refine norm_ (a' := ?_) ?_ ?_
                rotate_left
                · show Act.put _ (some 160) _ = _
                  simp only [Act.put, List.setIfInBounds_toArray, List.set_cons_zero, List.set_cons_succ, i64_w, i32_w]
                  rfl
                refine one_ (i := 14) (N := some 167) #[true, true, true, true, true, true, true, true, true, true, true, true, true, true, true, false, false, false] rfl rfl (by kernel_rfl) (by decide) (fun K hK => ?_)
                refine goes_ Try.func74 (by kernel_rfl) rfl #[.agg #[.string x.2.1, .string x.2.2.1, .string x.2.2.2]] (by rfl) rfl rfl (by simp only [List.map_toArray, List.map_cons, List.map_nil]; rfl) ?_
                with_reducible refine (RT.out _).mono ?_
                rintro e w21 ⟨rfl, hbel⟩
                refine ⟨_, rfl, ?_⟩
                have H6 := Aside0.mk (H5.out.from_below hbel)
                clear hbel
                have rh := H6.out.cellAt w.heap.size 10 (v := .slice (some ad) n3 c3) rfl
                have r0 : w21.cell? (ad.add (k * 4)) = some (.bool x.1) := pw_cell_below H6.out.below hc0
                have r1 : w21.cell? (⟨(ad.add (k * 4)).block, (ad.add (k * 4)).off + 1, none⟩) = some (.string x.2.1) := pw_cell_below H6.out.below hc1
                have r2 : w21.cell? (⟨(ad.add (k * 4)).block, (ad.add (k * 4)).off + 1 + 1, none⟩) = some (.string x.2.2.1) := pw_cell_below H6.out.below hc2
                have r3 : w21.cell? (⟨(ad.add (k * 4)).block, (ad.add (k * 4)).off + 1 + 2, none⟩) = some (.string x.2.2.2) := pw_cell_below H6.out.below hc3
                refine hK.out _ _ ⟨rh, r0, r1, r2, r3⟩ (fun hHeld => ?_)
                clear hK K
                refine norm_ (a' := ?_) ?_ ?_
                rotate_left
                · show Act.put _ (some 167) _ = _
                  simp only [Act.put, List.setIfInBounds_toArray, List.set_cons_zero, List.set_cons_succ, i64_w, i32_w]
                  rfl
                refine pure_ (i := 15) (N := some 168) (v := ?_) (a' := ?_) #[true, true, true, true, true, true, true, true, true, true, true, true, true, true, true, true, false, false] rfl rfl (by kernel_rfl) (fun _ _ _ h => h) (Or.inl ⟨by rfl, ?_⟩) ?_ ?_
                rotate_left
                · intro w'
                  go_simp
                  with_reducible rfl
                rotate_left
                · simp only [Act.put, List.setIfInBounds_toArray, List.set_cons_zero, List.set_cons_succ, i64_w, i32_w]
                  rfl
                refine pure_ (i := 16) (N := some 169) (v := ?_) (a' := ?_) #[true, true, true, true, true, true, true, true, true, true, true, true, true, true, true, true, true, false] rfl rfl (by kernel_rfl) (fun _ _ _ h => h) (Or.inl ⟨by rfl, ?_⟩) ?_ ?_
                rotate_left
                · intro w'
                  go_simp
                  with_reducible rfl
                rotate_left
                · simp only [Act.put, List.setIfInBounds_toArray, List.set_cons_zero, List.set_cons_succ, i64_w, i32_w]
                  rfl
                refine pure_ (i := 17) (N := some 5) (v := ?_) (a' := ?_) #[true, true, true, true, true, true, true, true, true, true, true, true, true, true, true, true, true, true] rfl rfl (by kernel_rfl) (fun _ _ _ h => h) (Or.inl ⟨by rfl, ?_⟩) ?_ ?_
                rotate_left
                · intro w'
                  go_simp
                  with_reducible rfl
                rotate_left
                · simp only [Act.put, List.setIfInBounds_toArray, List.set_cons_zero, List.set_cons_succ, i64_w, i32_w]
                  rfl
                refine done_ (by kernel_rfl) ?_
                clear hHeld
                rw [CAT.out]
                clear RB RT hzb hzt hcat1 hcat2 qh q0 q1 q2 q3 rh r0 r1 r2 r3 hc0 hc1 hc2 hc3 H5
                go_wp2_with fail
                go_roundw
                case rel => exact ⟨k + 1, b, _, by omega, by go_num, rfl, rfl, E3, H6⟩
                case measure => simp [intOf]; omega
              · have EF := Aside0.mk ((EE.out.done (fun _ => by rw [NL.out.2.2.1]; omega)).to (enc2_eq NL.out.2.2.1))
                have k10 := HW.out.cellAt w.heap.size 10 (v := .slice A3 n3 c3) rfl
                go_wp2_with fail
                go_meet
                exact ⟨_, _, rfl, rfl, EF, HW⟩
            · have EF := Aside0.mk (show EI true ys (G0 m ++ enc1 m.nodes ++ enc2 m.muts ++ enc2 m.pre) (((LN m) ∧ ∀ x ∈ m.muts, fitsM x) ∧ ∀ x ∈ m.pre, fitsM x) (¬ MsgFits m) 2000000000000000 from ⟨(fun h => nomatch h), EE.out.b, EE.out.l⟩)
              have k10 := HW.out.cellAt w.heap.size 10 (v := .slice A3 n3 c3) rfl
              by_cases hlt : k < n3
              all_goals
                go_wp2_with fail
                go_meet
                exact ⟨_, _, rfl, rfl, EF, HW⟩
        case rest =>
          obtain ⟨bd, ys, rfl, rfl, EE, HD3⟩ := hcut
          clear HC3 ET3
          have k11 := HD3.out.cellAt w.heap.size 11 (v := .slice A4 n4 c4) rfl
          have ic4 : i64r (n4 : Int) := by unfold i64r; omega
          obtain ⟨sg4, hsg4⟩ : ∃ s, s = strOfNums ys := ⟨_, rfl⟩
          rw [← hsg4]
          obtain ⟨sc4, hsc4⟩ : ∃ s, s = strOfNums (encI n4) := ⟨_, rfl⟩
          obtain ⟨ya4, hya4, hyl4⟩ : ∃ n, sg4.size = n ∧ n ≤ 2000000000000000 := ⟨_, rfl, by rw [hsg4, tx_size]; exact EE.out.l⟩
          obtain ⟨yb4, hyb4, hym4⟩ : ∃ n, sc4.size = n ∧ n ≤ 10 := ⟨_, rfl, by rw [hsc4, tx_size]; exact (encI_len _ ic4).2⟩
          have hcat4 : ¬ 9223372036854775807 < ya4 + yb4 := by omega
          have RC4 := Aside0.mk (refint_ok n4 ic4)
          rw [← hsc4] at RC4
          obtain ⟨yt4, hyt4⟩ : ∃ zs, zs = ys ++ encI n4 := ⟨_, rfl⟩
          have CAT4 := Aside0.mk (show sg4 ++ sc4 = strOfNums yt4 by rw [hyt4, hsg4, hsc4, tx_append])
          have ET4 := Aside0.mk (show EI bd yt4 (G0 m ++ enc1 m.nodes ++ enc2 m.muts ++ enc2 m.pre ++ encI n4) (((LN m) ∧ ∀ x ∈ m.muts, fitsM x) ∧ ∀ x ∈ m.pre, fitsM x) (¬ MsgFits m) 2500000000000000 from EE.out.more hyt4 (by rw [hyt4, List.length_append]; have h1 := EE.out.l; have h2 := (encI_len _ ic4).2; omega))
          clear hsg4 hsc4 ic4 hyl4 hym4 hyt4 EE
          go_wp2_with fail
          refine (RC4.out _).mono ?_
          rintro e wc4 ⟨rfl, hbel⟩
          have HC4 := Aside0.mk (HD3.out.from_below hbel)
          clear hbel HD3 RC4 k11
          go_upto_block 6 with fail
          rw [CAT4.out]
          clear CAT4 hya4 hyb4 hcat4
          go_cut [4, 5] (fun s4 s5 wc => ∃ (bd : Bool) (ys : List Int), s4 = .bool bd ∧ s5 = .string (strOfNums ys) ∧ Aside0 (EI bd ys (G0 m ++ enc1 m.nodes ++ enc2 m.muts ++ enc2 m.pre ++ enc4 m.rows) ((((LN m) ∧ ∀ x ∈ m.muts, fitsM x) ∧ ∀ x ∈ m.pre, fitsM x) ∧ ∀ x ∈ m.rows, fitsR x) (¬ MsgFits m) 2500000000000000) ∧ Aside0 (Hw w wc (blk w.heap.size (.cells #[.int .i64 m.kind, .int .i64 m.src, .int .i64 m.dst, .int .i64 m.id, .int .i64 m.rev, .int .i64 m.epoch, .int .i64 m.slot, .bool m.flag, .slice A1 n1 c1, .slice A2 n2 c2, .slice A3 n3 c3, .slice A4 n4 c4] 27) * HP.emp)))
          case first =>
            go_wp2_with fail
            go_loopw [9, 4, 5] (fun i s4 s5 wr => ∃ (k : Nat) (bd : Bool) (ys : List Int), k ≤ n4 ∧ i = .int .i64 k ∧ s4 = .bool bd ∧ s5 = .string (strOfNums ys) ∧ Aside0 (EI bd ys (G0 m ++ enc1 m.nodes ++ enc2 m.muts ++ enc2 m.pre ++ encI n4 ++ (m.rows.take k).flatMap encR) ((((LN m) ∧ ∀ x ∈ m.muts, fitsM x) ∧ ∀ x ∈ m.pre, fitsM x) ∧ ∀ x ∈ m.rows.take k, fitsR x) (¬ MsgFits m) 2500000000000000) ∧ Aside0 (Hw w wr (blk w.heap.size (.cells #[.int .i64 m.kind, .int .i64 m.src, .int .i64 m.dst, .int .i64 m.id, .int .i64 m.rev, .int .i64 m.epoch, .int .i64 m.slot, .bool m.flag, .slice A1 n1 c1, .slice A2 n2 c2, .slice A3 n3 c3, .slice A4 n4 c4] 27) * HP.emp))) (fun i _ _ _ => n4 - (intOf i).toNat)
            case atStart => exact ⟨0, _, _, Nat.zero_le _, rfl, rfl, rfl, ⟨ET4.out.start⟩, HC4⟩
            case round =>
              obtain ⟨k, bd, ys, hk, rfl, rfl, rfl, EE, HW⟩ := hrel
              clear HC4 ET4
              rcases bd with _ | _
              · by_cases hlt : k < n4
                · obtain ⟨ad, x, rfl, hx, hcl⟩ := elem_at rowC @KRow_cells C4.out (Below.refl _ _) k hlt
                  have hc0 : w.cell? (ad.add (k * 5)) = some (.string x.1.1) := hcl 0 _ rfl
                  have hc1 : w.cell? (⟨(ad.add (k * 5)).block, (ad.add (k * 5)).off + 1, none⟩) = some (.string x.1.2.1) := by
                    have h := hcl 1 _ rfl
                    rw [add_field _ _ _ (by decide)] at h
                    exact h
                  have hc2 : w.cell? (⟨(ad.add (k * 5)).block, (ad.add (k * 5)).off + 2, none⟩) = some (.string x.1.2.2) := by
                    have h := hcl 2 _ rfl
                    rw [add_field _ _ _ (by decide)] at h
                    exact h
                  have hc3 : w.cell? (⟨(ad.add (k * 5)).block, (ad.add (k * 5)).off + 3, none⟩) = some (.int .i64 x.2.1) := by
                    have h := hcl 3 _ rfl
                    rw [add_field _ _ _ (by decide)] at h
                    exact h
                  have hc4 : w.cell? (⟨(ad.add (k * 5)).block, (ad.add (k * 5)).off + 4, none⟩) = some (.int .i64 x.2.2) := by
                    have h := hcl 4 _ rfl
                    rw [add_field _ _ _ (by decide)] at h
                    exact h
                  clear hcl
                  have kh := HW.out.cellAt w.heap.size 11 (v := .slice (some ad) n4 c4) rfl
                  have k0 : wr.cell? (ad.add (k * 5)) = some (.string x.1.1) := pw_cell_below HW.out.below hc0
                  have k1 : wr.cell? (⟨(ad.add (k * 5)).block, (ad.add (k * 5)).off + 1, none⟩) = some (.string x.1.2.1) := pw_cell_below HW.out.below hc1
                  have k2 : wr.cell? (⟨(ad.add (k * 5)).block, (ad.add (k * 5)).off + 2, none⟩) = some (.string x.1.2.2) := pw_cell_below HW.out.below hc2
                  have k3 : wr.cell? (⟨(ad.add (k * 5)).block, (ad.add (k * 5)).off + 3, none⟩) = some (.int .i64 x.2.1) := pw_cell_below HW.out.below hc3
                  have k4 : wr.cell? (⟨(ad.add (k * 5)).block, (ad.add (k * 5)).off + 4, none⟩) = some (.int .i64 x.2.2) := pw_cell_below HW.out.below hc4
                  have SX := SZ.out.rows x (List.mem_of_getElem? hx.out)
                  have YL : ys.length ≤ 9000000 := by
                    obtain ⟨⟨⟨⟨hln, hf2⟩, hf3⟩, hfk⟩, he⟩ := EE.out.g rfl
                    have g2 := enc1_len m.nodes hln.1 OK.out.nodes
                    have g3 := enc2_len m.muts hln.2.1 hf2
                    have g4 := enc2_len m.pre hln.2.2.1 hf3
                    have h1 := flat_len encR 440 (m.rows.take k) (fun x hx => encR_len x (OK.out.rows x (List.mem_of_mem_take hx)) (hfk x hx))
                    have h2 : (m.rows.take k).length ≤ 1024 := by have := hln.2.2.2; rw [List.length_take]; omega
                    have h4 := L0.out
                    have h5 := (encI_len (n4 : Int) (by unfold i64r; omega)).2
                    rw [he]
                    simp only [List.length_append]
                    omega
                  obtain ⟨sy, hsy⟩ : ∃ s, s = strOfNums ys := ⟨_, rfl⟩
                  rw [← hsy]
                  obtain ⟨za, hza, hzl⟩ : ∃ n, sy.size = n ∧ n ≤ 9000000 := ⟨_, rfl, by rw [hsy, tx_size]; exact YL⟩
                  obtain ⟨st, hst⟩ : ∃ s, s = strOfNums (encT x.1) := ⟨_, rfl⟩
                  have RT := Aside0.mk (reftexts_ok x.1.1 x.1.2.1 x.1.2.2 SX.1 SX.2.1 SX.2.2)
                  rw [← hst] at RT
                  obtain ⟨zt, hzt, hzm⟩ : ∃ n, st.size = n ∧ n ≤ 422212465053800 := ⟨_, rfl, by rw [hst, tx_size]; exact encT_big _ SX⟩
                  have OX := OK.out.rows x (List.mem_of_getElem? hx.out)
                  obtain ⟨su, hsu⟩ : ∃ s, s = strOfNums (encI x.2.1) := ⟨_, rfl⟩
                  have RU := Aside0.mk (refint_ok x.2.1 OX.1)
                  rw [← hsu] at RU
                  obtain ⟨zu, hzu, hzn⟩ : ∃ n, su.size = n ∧ n ≤ 10 := ⟨_, rfl, by rw [hsu, tx_size]; exact (encI_len _ OX.1).2⟩
                  obtain ⟨sv, hsv⟩ : ∃ s, s = strOfNums (encI x.2.2) := ⟨_, rfl⟩
                  have RV := Aside0.mk (refint_ok x.2.2 OX.2)
                  rw [← hsv] at RV
                  obtain ⟨zv, hzv, hzo⟩ : ∃ n, sv.size = n ∧ n ≤ 10 := ⟨_, rfl, by rw [hsv, tx_size]; exact (encI_len _ OX.2).2⟩
                  have hcat1 : ¬ 9223372036854775807 < zt + zu := by omega
                  have hcat2 : ¬ 9223372036854775807 < zt + zu + zv := by omega
                  have hcat3 : ¬ 9223372036854775807 < za + (zt + zu + zv) := by omega
                  have CAT := Aside0.mk (show sy ++ (st ++ su ++ sv) = strOfNums (ys ++ encR x) by rw [hsy, hst, hsu, hsv, ← tx_append, ← tx_append, ← tx_append]; rfl)
                  have LX : (encR x).length ≤ 422212465053900 := by have h1 := encT_big _ SX; have h2 := (encI_len _ OX.1).2; have h3 := (encI_len _ OX.2).2; unfold encR; rw [List.length_append, List.length_append]; omega
                  have NF : ∀ {p : Prop}, (MsgFits m → False) → ¬ MsgFits m := fun h => h
                  have E2 : ∀ b : Bool, Aside0 ((b = true ↔ ¬ fitsR x) → EI b (ys ++ encR x) (G0 m ++ enc1 m.nodes ++ enc2 m.muts ++ enc2 m.pre ++ encI n4 ++ (m.rows.take (k + 1)).flatMap encR) ((((LN m) ∧ ∀ x ∈ m.muts, fitsM x) ∧ ∀ x ∈ m.pre, fitsM x) ∧ ∀ x ∈ m.rows.take (k + 1), fitsR x) (¬ MsgFits m) 2500000000000000) :=
                    fun b => ⟨fun hb => EE.out.step hx.out hb (fun h hf => h (hf.l4.2 x (List.mem_of_getElem? hx.out))) rfl (by rw [List.length_append]; omega)⟩
                  have SX2 := Aside0.mk E2
                  have LO := Aside0.mk (reflong_ok x.1.1 x.1.2.1 x.1.2.2)
                  have Q0 := Aside0.mk hc0
                  have Q1 := Aside0.mk hc1
                  have Q2 := Aside0.mk hc2
                  have Q3 := Aside0.mk hc3
                  have Q4 := Aside0.mk hc4
                  clear hsy hst hsu hsv hzm hzn hzo OX YL EE hzl E2 NF SX LX hc0 hc1 hc2 hc3 hc4
                  go_wp2_with fail
                  refine (LO.out _).mono ?_
                  rintro e w5 ⟨b, rfl, hb, hbel⟩
                  have H4 := Aside0.mk (HW.out.from_below hbel)
                  have E3 := Aside0.mk ((SX2.out b).out hb)
                  clear hbel HW LO SX2 hb kh k0 k1 k2 k3 k4
                  have H5 := Aside0.mk H4.out.drew
                  have hc0 := Q0.out
                  have hc1 := Q1.out
                  have hc2 := Q2.out
                  have hc3 := Q3.out
                  have hc4 := Q4.out
                  have qh := H5.out.cellAt w.heap.size 11 (v := .slice (some ad) n4 c4) rfl
                  have q0 : w5.drew.cell? (ad.add (k * 5)) = some (.string x.1.1) := pw_cell_below H5.out.below hc0
                  have q1 : w5.drew.cell? (⟨(ad.add (k * 5)).block, (ad.add (k * 5)).off + 1, none⟩) = some (.string x.1.2.1) := pw_cell_below H5.out.below hc1
                  have q2 : w5.drew.cell? (⟨(ad.add (k * 5)).block, (ad.add (k * 5)).off + 2, none⟩) = some (.string x.1.2.2) := pw_cell_below H5.out.below hc2
                  have q3 : w5.drew.cell? (⟨(ad.add (k * 5)).block, (ad.add (k * 5)).off + 3, none⟩) = some (.int .i64 x.2.1) := pw_cell_below H5.out.below hc3
                  have q4 : w5.drew.cell? (⟨(ad.add (k * 5)).block, (ad.add (k * 5)).off + 4, none⟩) = some (.int .i64 x.2.2) := pw_cell_below H5.out.below hc4
                  clear H4
                  go_upto_region 25 with fail
                  refine start_ (n := 26) (S := fun w' => w'.cell? ⟨w.heap.size, 11, none⟩ = some (.slice (some ad) n4 c4) ∧ w'.cell? (ad.add (k * 5)) = some (.string x.1.1) ∧ w'.cell? (⟨(ad.add (k * 5)).block, (ad.add (k * 5)).off + 1, none⟩) = some (.string x.1.2.1) ∧ w'.cell? (⟨(ad.add (k * 5)).block, (ad.add (k * 5)).off + 2, none⟩) = some (.string x.1.2.2) ∧ w'.cell? (⟨(ad.add (k * 5)).block, (ad.add (k * 5)).off + 3, none⟩) = some (.int .i64 x.2.1) ∧ w'.cell? (⟨(ad.add (k * 5)).block, (ad.add (k * 5)).off + 4, none⟩) = some (.int .i64 x.2.2)) (ds := []) #[false, false, false, false, false, false, false, false, false, false, false, false, false, false, false, false, false, false, false, false, false, false, false, false, false, false] (by kernel_rfl) rfl rfl ⟨qh, q0, q1, q2, q3, q4⟩ (fun hHeld => ?_)
                  refine pure_ (i := 0) (N := some 194) (v := ?_) (a' := ?_) #[true, false, false, false, false, false, false, false, false, false, false, false, false, false, false, false, false, false, false, false, false, false, false, false, false, false] rfl rfl (by kernel_rfl) (fun _ _ _ h => h) (Or.inl ⟨by rfl, ?_⟩) ?_ ?_
                  rotate_left
                  · intro w'
                    go_simp
                    with_reducible rfl
                  rotate_left
                  · simp only [Act.put, List.setIfInBounds_toArray, List.set_cons_zero, List.set_cons_succ, i64_w, i32_w]
                    rfl
                  refine pure_ (i := 1) (N := some 195) (v := ?_) (a' := ?_) #[true, true, false, false, false, false, false, false, false, false, false, false, false, false, false, false, false, false, false, false, false, false, false, false, false, false] rfl rfl (by kernel_rfl) (fun _ _ _ h => h) (Or.inl ⟨by rfl, ?_⟩) ?_ ?_
                  rotate_left
                  · intro w'
                    go_simp
                    with_reducible rfl
                  rotate_left
                  · simp only [Act.put, List.setIfInBounds_toArray, List.set_cons_zero, List.set_cons_succ, i64_w, i32_w]
                    rfl
                  refine pure_ (i := 3) (N := some 197) (v := ?_) (a' := ?_) #[true, true, false, true, false, false, false, false, false, false, false, false, false, false, false, false, false, false, false, false, false, false, false, false, false, false] rfl rfl (by kernel_rfl) (fun _ _ _ h => h) (Or.inl ⟨by rfl, ?_⟩) ?_ ?_
                  rotate_left
                  · intro w'
                    go_simp
                    with_reducible rfl
                  rotate_left
                  · simp only [Act.put, List.setIfInBounds_toArray, List.set_cons_zero, List.set_cons_succ, i64_w, i32_w]
                    rfl
                  refine pure_ (i := 8) (N := some 202) (v := ?_) (a' := ?_) #[true, true, false, true, false, false, false, false, true, false, false, false, false, false, false, false, false, false, false, false, false, false, false, false, false, false] rfl rfl (by kernel_rfl) (fun _ _ _ h => h) (Or.inl ⟨by rfl, ?_⟩) ?_ ?_
                  rotate_left
                  · intro w'
                    go_simp
                    with_reducible rfl
                  rotate_left
                  · simp only [Act.put, List.setIfInBounds_toArray, List.set_cons_zero, List.set_cons_succ, i64_w, i32_w]
                    rfl
                  refine pure_ (i := 10) (N := some 204) (v := ?_) (a' := ?_) #[true, true, false, true, false, false, false, false, true, false, true, false, false, false, false, false, false, false, false, false, false, false, false, false, false, false] rfl rfl (by kernel_rfl) (fun _ _ _ h => h) (Or.inl ⟨by rfl, ?_⟩) ?_ ?_
                  rotate_left
                  · intro w'
                    go_simp
                    with_reducible rfl
                  rotate_left
                  · simp only [Act.put, List.setIfInBounds_toArray, List.set_cons_zero, List.set_cons_succ, i64_w, i32_w]
                    rfl
                  refine pure_ (i := 16) (N := some 210) (v := ?_) (a' := ?_) #[true, true, false, true, false, false, false, false, true, false, true, false, false, false, false, false, true, false, false, false, false, false, false, false, false, false] rfl rfl (by kernel_rfl) (fun _ _ _ h => h) (Or.inl ⟨by rfl, ?_⟩) ?_ ?_
                  rotate_left
                  · intro w'
                    go_simp
                    with_reducible rfl
                  rotate_left
                  · simp only [Act.put, List.setIfInBounds_toArray, List.set_cons_zero, List.set_cons_succ, i64_w, i32_w]
                    rfl
                  refine pure_ (i := 18) (N := some 212) (v := ?_) (a' := ?_) #[true, true, false, true, false, false, false, false, true, false, true, false, false, false, false, false, true, false, true, false, false, false, false, false, false, false] rfl rfl (by kernel_rfl) (fun _ _ _ h => h) (Or.inl ⟨by rfl, ?_⟩) ?_ ?_
                  rotate_left
                  · intro w'
                    go_simp
                    with_reducible rfl
                  rotate_left
                  · simp only [Act.put, List.setIfInBounds_toArray, List.set_cons_zero, List.set_cons_succ, i64_w, i32_w]
                    rfl
                  refine take_ (i := 2) (N := some 196) (v := ?_) (a' := ?_) #[true, true, true, true, false, false, false, false, true, false, true, false, false, false, false, false, true, false, true, false, false, false, false, false, false, false] rfl rfl (by kernel_rfl) (fun _ _ _ h => h) (Or.inl ⟨by rfl, ?_⟩) hHeld ?_ ?_
                  rotate_left
                  · rintro w' ⟨s0, s1, s2, s3, s4, s5⟩
                    go_simp
                    with_reducible rfl
                  rotate_left
                  · simp only [Act.put, List.setIfInBounds_toArray, List.set_cons_zero, List.set_cons_succ, i64_w, i32_w]
                    rfl
                  refine pure_ (i := 4) (N := some 198) (v := ?_) (a' := ?_) #[true, true, true, true, true, false, false, false, true, false, true, false, false, false, false, false, true, false, true, false, false, false, false, false, false, false] rfl rfl (by kernel_rfl) (fun _ _ _ h => h) (Or.inl ⟨by rfl, ?_⟩) ?_ ?_
                  rotate_left
                  · intro w'
                    go_simp
                    with_reducible rfl
                  rotate_left
                  · simp only [Act.put, List.setIfInBounds_toArray, List.set_cons_zero, List.set_cons_succ, i64_w, i32_w]
                    rfl
                  refine pure_ (i := 5) (N := some 199) (v := ?_) (a' := ?_) #[true, true, true, true, true, true, false, false, true, false, true, false, false, false, false, false, true, false, true, false, false, false, false, false, false, false] rfl rfl (by kernel_rfl) (fun _ _ _ h => h) (Or.inl ⟨by rfl, ?_⟩) ?_ ?_
                  rotate_left
                  · intro w'
                    go_simp
                    with_reducible rfl
                  rotate_left
                  · simp only [Act.put, List.setIfInBounds_toArray, List.set_cons_zero, List.set_cons_succ, i64_w, i32_w]
                    rfl
                  refine take_ (i := 6) (N := some 200) (v := ?_) (a' := ?_) #[true, true, true, true, true, true, true, false, true, false, true, false, false, false, false, false, true, false, true, false, false, false, false, false, false, false] rfl rfl (by kernel_rfl) (fun _ _ _ h => h) (Or.inl ⟨by rfl, ?_⟩) hHeld ?_ ?_
                  rotate_left
                  · rintro w' ⟨s0, s1, s2, s3, s4, s5⟩
                    go_simp
                    with_reducible rfl
                  rotate_left
                  · simp only [Act.put, List.setIfInBounds_toArray, List.set_cons_zero, List.set_cons_succ, i64_w, i32_w]
                    rfl
                  refine take_ (i := 9) (N := some 203) (v := ?_) (a' := ?_) #[true, true, true, true, true, true, true, false, true, true, true, false, false, false, false, false, true, false, true, false, false, false, false, false, false, false] rfl rfl (by kernel_rfl) (fun _ _ _ h => h) (Or.inl ⟨by rfl, ?_⟩) hHeld ?_ ?_
                  rotate_left
                  · rintro w' ⟨s0, s1, s2, s3, s4, s5⟩
                    go_simp
                    with_reducible rfl
                  rotate_left
                  · simp only [Act.put, List.setIfInBounds_toArray, List.set_cons_zero, List.set_cons_succ, i64_w, i32_w]
                    rfl
                  refine pure_ (i := 11) (N := some 205) (v := ?_) (a' := ?_) #[true, true, true, true, true, true, true, false, true, true, true, true, false, false, false, false, true, false, true, false, false, false, false, false, false, false] rfl rfl (by kernel_rfl) (fun _ _ _ h => h) (Or.inl ⟨by rfl, ?_⟩) ?_ ?_
                  rotate_left
                  · intro w'
                    go_simp
                    with_reducible rfl
                  rotate_left
                  · simp only [Act.put, List.setIfInBounds_toArray, List.set_cons_zero, List.set_cons_succ, i64_w, i32_w]
                    rfl
                  refine pure_ (i := 12) (N := some 206) (v := ?_) (a' := ?_) #[true, true, true, true, true, true, true, false, true, true, true, true, true, false, false, false, true, false, true, false, false, false, false, false, false, false] rfl rfl (by kernel_rfl) (fun _ _ _ h => h) (Or.inl ⟨by rfl, ?_⟩) ?_ ?_
                  rotate_left
                  · intro w'
                    go_simp
                    with_reducible rfl
                  rotate_left
                  · simp only [Act.put, List.setIfInBounds_toArray, List.set_cons_zero, List.set_cons_succ, i64_w, i32_w]
                    rfl
                  refine take_ (i := 13) (N := some 207) (v := ?_) (a' := ?_) #[true, true, true, true, true, true, true, false, true, true, true, true, true, true, false, false, true, false, true, false, false, false, false, false, false, false] rfl rfl (by kernel_rfl) (fun _ _ _ h => h) (Or.inl ⟨by rfl, ?_⟩) hHeld ?_ ?_
                  rotate_left
                  · rintro w' ⟨s0, s1, s2, s3, s4, s5⟩
                    go_simp
                    with_reducible rfl
                  rotate_left
                  · simp only [Act.put, List.setIfInBounds_toArray, List.set_cons_zero, List.set_cons_succ, i64_w, i32_w]
                    rfl
                  refine take_ (i := 17) (N := some 211) (v := ?_) (a' := ?_) #[true, true, true, true, true, true, true, false, true, true, true, true, true, true, false, false, true, true, true, false, false, false, false, false, false, false] rfl rfl (by kernel_rfl) (fun _ _ _ h => h) (Or.inl ⟨by rfl, ?_⟩) hHeld ?_ ?_
                  rotate_left
                  · rintro w' ⟨s0, s1, s2, s3, s4, s5⟩
                    go_simp
                    with_reducible rfl
                  rotate_left
                  · simp only [Act.put, List.setIfInBounds_toArray, List.set_cons_zero, List.set_cons_succ, i64_w, i32_w]
                    rfl
                  refine pure_ (i := 19) (N := some 213) (v := ?_) (a' := ?_) #[true, true, true, true, true, true, true, false, true, true, true, true, true, true, false, false, true, true, true, true, false, false, false, false, false, false] rfl rfl (by kernel_rfl) (fun _ _ _ h => h) (Or.inl ⟨by rfl, ?_⟩) ?_ ?_
                  rotate_left
                  · intro w'
                    go_simp
                    with_reducible rfl
                  rotate_left
                  · simp only [Act.put, List.setIfInBounds_toArray, List.set_cons_zero, List.set_cons_succ, i64_w, i32_w]
                    rfl
                  refine pure_ (i := 20) (N := some 214) (v := ?_) (a' := ?_) #[true, true, true, true, true, true, true, false, true, true, true, true, true, true, false, false, true, true, true, true, true, false, false, false, false, false] rfl rfl (by kernel_rfl) (fun _ _ _ h => h) (Or.inl ⟨by rfl, ?_⟩) ?_ ?_
                  rotate_left
                  · intro w'
                    go_simp
                    with_reducible rfl
                  rotate_left
                  · simp only [Act.put, List.setIfInBounds_toArray, List.set_cons_zero, List.set_cons_succ, i64_w, i32_w]
                    rfl
                  refine take_ (i := 21) (N := some 215) (v := ?_) (a' := ?_) #[true, true, true, true, true, true, true, false, true, true, true, true, true, true, false, false, true, true, true, true, true, true, false, false, false, false] rfl rfl (by kernel_rfl) (fun _ _ _ h => h) (Or.inl ⟨by rfl, ?_⟩) hHeld ?_ ?_
                  rotate_left
                  · rintro w' ⟨s0, s1, s2, s3, s4, s5⟩
                    go_simp
                    with_reducible rfl
                  rotate_left
                  · simp only [Act.put, List.setIfInBounds_toArray, List.set_cons_zero, List.set_cons_succ, i64_w, i32_w]
                    rfl
                  refine one_ (i := 7) (N := some 201) #[true, true, true, true, true, true, true, true, true, true, true, true, true, true, false, false, true, true, true, true, true, true, false, false, false, false] rfl rfl (by kernel_rfl) (by decide) (fun K hK => ?_)
                  refine goes_ Try.func74 (by kernel_rfl) rfl #[.agg #[.string x.1.1, .string x.1.2.1, .string x.1.2.2]] (by rfl) rfl rfl (by simp only [List.map_toArray, List.map_cons, List.map_nil]; rfl) ?_
                  with_reducible refine (RT.out _).mono ?_
                  rintro e w21 ⟨rfl, hbel⟩
                  refine ⟨_, rfl, ?_⟩
                  have H61 := Aside0.mk (H5.out.from_below hbel)
                  clear hbel
                  have rh := H61.out.cellAt w.heap.size 11 (v := .slice (some ad) n4 c4) rfl
                  have r0 : w21.cell? (ad.add (k * 5)) = some (.string x.1.1) := pw_cell_below H61.out.below hc0
                  have r1 : w21.cell? (⟨(ad.add (k * 5)).block, (ad.add (k * 5)).off + 1, none⟩) = some (.string x.1.2.1) := pw_cell_below H61.out.below hc1
                  have r2 : w21.cell? (⟨(ad.add (k * 5)).block, (ad.add (k * 5)).off + 2, none⟩) = some (.string x.1.2.2) := pw_cell_below H61.out.below hc2
                  have r3 : w21.cell? (⟨(ad.add (k * 5)).block, (ad.add (k * 5)).off + 3, none⟩) = some (.int .i64 x.2.1) := pw_cell_below H61.out.below hc3
                  have r4 : w21.cell? (⟨(ad.add (k * 5)).block, (ad.add (k * 5)).off + 4, none⟩) = some (.int .i64 x.2.2) := pw_cell_below H61.out.below hc4
                  refine hK.out _ _ ⟨rh, r0, r1, r2, r3, r4⟩ (fun hHeld => ?_)
                  clear hK K
                  refine norm_ (a' := ?_) ?_ ?_
                  rotate_left
                  · show Act.put _ (some 201) _ = _
                    simp only [Act.put, List.setIfInBounds_toArray, List.set_cons_zero, List.set_cons_succ, i64_w, i32_w]
                    rfl
                  refine one_ (i := 14) (N := some 208) #[true, true, true, true, true, true, true, true, true, true, true, true, true, true, true, false, true, true, true, true, true, true, false, false, false, false] rfl rfl (by kernel_rfl) (by decide) (fun K hK => ?_)
                  refine goes_ Try.func71 (by kernel_rfl) rfl #[.int .i64 x.2.1] (by rfl) rfl rfl (by simp only [List.map_toArray, List.map_cons, List.map_nil]; rfl) ?_
                  with_reducible refine (RU.out _).mono ?_
                  rintro e w22 ⟨rfl, hbel⟩
                  refine ⟨_, rfl, ?_⟩
                  have H62 := Aside0.mk (H61.out.from_below hbel)
                  clear hbel
                  have vh := H62.out.cellAt w.heap.size 11 (v := .slice (some ad) n4 c4) rfl
                  have v0 : w22.cell? (ad.add (k * 5)) = some (.string x.1.1) := pw_cell_below H62.out.below hc0
                  have v1 : w22.cell? (⟨(ad.add (k * 5)).block, (ad.add (k * 5)).off + 1, none⟩) = some (.string x.1.2.1) := pw_cell_below H62.out.below hc1
                  have v2 : w22.cell? (⟨(ad.add (k * 5)).block, (ad.add (k * 5)).off + 2, none⟩) = some (.string x.1.2.2) := pw_cell_below H62.out.below hc2
                  have v3 : w22.cell? (⟨(ad.add (k * 5)).block, (ad.add (k * 5)).off + 3, none⟩) = some (.int .i64 x.2.1) := pw_cell_below H62.out.below hc3
                  have v4 : w22.cell? (⟨(ad.add (k * 5)).block, (ad.add (k * 5)).off + 4, none⟩) = some (.int .i64 x.2.2) := pw_cell_below H62.out.below hc4
                  refine hK.out _ _ ⟨vh, v0, v1, v2, v3, v4⟩ (fun hHeld => ?_)
                  clear hK K
                  refine norm_ (a' := ?_) ?_ ?_
                  rotate_left
                  · show Act.put _ (some 208) _ = _
                    simp only [Act.put, List.setIfInBounds_toArray, List.set_cons_zero, List.set_cons_succ, i64_w, i32_w]
                    rfl
                  refine pure_ (i := 15) (N := some 209) (v := ?_) (a' := ?_) #[true, true, true, true, true, true, true, true, true, true, true, true, true, true, true, true, true, true, true, true, true, true, false, false, false, false] rfl rfl (by kernel_rfl) (fun _ _ _ h => h) (Or.inl ⟨by rfl, ?_⟩) ?_ ?_
                  rotate_left
                  · intro w'
                    go_simp
                    with_reducible rfl
                  rotate_left
                  · simp only [Act.put, List.setIfInBounds_toArray, List.set_cons_zero, List.set_cons_succ, i64_w, i32_w]
                    rfl
                  refine one_ (i := 22) (N := some 216) #[true, true, true, true, true, true, true, true, true, true, true, true, true, true, true, true, true, true, true, true, true, true, true, false, false, false] rfl rfl (by kernel_rfl) (by decide) (fun K hK => ?_)
                  refine goes_ Try.func71 (by kernel_rfl) rfl #[.int .i64 x.2.2] (by rfl) rfl rfl (by simp only [List.map_toArray, List.map_cons, List.map_nil]; rfl) ?_
                  with_reducible refine (RV.out _).mono ?_
                  rintro e w23 ⟨rfl, hbel⟩
                  refine ⟨_, rfl, ?_⟩
                  have H6 := Aside0.mk (H62.out.from_below hbel)
                  clear hbel
                  have yh := H6.out.cellAt w.heap.size 11 (v := .slice (some ad) n4 c4) rfl
                  have y0 : w23.cell? (ad.add (k * 5)) = some (.string x.1.1) := pw_cell_below H6.out.below hc0
                  have y1 : w23.cell? (⟨(ad.add (k * 5)).block, (ad.add (k * 5)).off + 1, none⟩) = some (.string x.1.2.1) := pw_cell_below H6.out.below hc1
                  have y2 : w23.cell? (⟨(ad.add (k * 5)).block, (ad.add (k * 5)).off + 2, none⟩) = some (.string x.1.2.2) := pw_cell_below H6.out.below hc2
                  have y3 : w23.cell? (⟨(ad.add (k * 5)).block, (ad.add (k * 5)).off + 3, none⟩) = some (.int .i64 x.2.1) := pw_cell_below H6.out.below hc3
                  have y4 : w23.cell? (⟨(ad.add (k * 5)).block, (ad.add (k * 5)).off + 4, none⟩) = some (.int .i64 x.2.2) := pw_cell_below H6.out.below hc4
                  refine hK.out _ _ ⟨yh, y0, y1, y2, y3, y4⟩ (fun hHeld => ?_)
                  clear hK K
                  refine norm_ (a' := ?_) ?_ ?_
                  rotate_left
                  · show Act.put _ (some 216) _ = _
                    simp only [Act.put, List.setIfInBounds_toArray, List.set_cons_zero, List.set_cons_succ, i64_w, i32_w]
                    rfl
                  refine pure_ (i := 23) (N := some 217) (v := ?_) (a' := ?_) #[true, true, true, true, true, true, true, true, true, true, true, true, true, true, true, true, true, true, true, true, true, true, true, true, false, false] rfl rfl (by kernel_rfl) (fun _ _ _ h => h) (Or.inl ⟨by rfl, ?_⟩) ?_ ?_
                  rotate_left
                  · intro w'
                    go_simp
                    with_reducible rfl
                  rotate_left
                  · simp only [Act.put, List.setIfInBounds_toArray, List.set_cons_zero, List.set_cons_succ, i64_w, i32_w]
                    rfl
                  refine pure_ (i := 24) (N := some 218) (v := ?_) (a' := ?_) #[true, true, true, true, true, true, true, true, true, true, true, true, true, true, true, true, true, true, true, true, true, true, true, true, true, false] rfl rfl (by kernel_rfl) (fun _ _ _ h => h) (Or.inl ⟨by rfl, ?_⟩) ?_ ?_
                  rotate_left
                  · intro w'
                    go_simp
                    with_reducible rfl
                  rotate_left
                  · simp only [Act.put, List.setIfInBounds_toArray, List.set_cons_zero, List.set_cons_succ, i64_w, i32_w]
                    rfl
                  refine pure_ (i := 25) (N := some 5) (v := ?_) (a' := ?_) #[true, true, true, true, true, true, true, true, true, true, true, true, true, true, true, true, true, true, true, true, true, true, true, true, true, true] rfl rfl (by kernel_rfl) (fun _ _ _ h => h) (Or.inl ⟨by rfl, ?_⟩) ?_ ?_
                  rotate_left
                  · intro w'
                    go_simp
                    with_reducible rfl
                  rotate_left
                  · simp only [Act.put, List.setIfInBounds_toArray, List.set_cons_zero, List.set_cons_succ, i64_w, i32_w]
                    rfl
                  refine done_ (by kernel_rfl) ?_
                  clear hHeld
                  rw [CAT.out]
                  clear RT RU RV hzt hzu hzv hcat1 hcat2 hcat3 qh q0 q1 q2 q3 q4 rh r0 r1 r2 r3 r4 hc0 hc1 hc2 hc3 hc4 H5
                  go_wp2_with fail
                  go_roundw
                  case rel => exact ⟨k + 1, b, _, by omega, by go_num, rfl, rfl, E3, H6⟩
                  case measure => simp [intOf]; omega
                · have EF := Aside0.mk ((EE.out.done (fun _ => by rw [NL.out.2.2.2]; omega)).to (enc4_eq NL.out.2.2.2))
                  have k11 := HW.out.cellAt w.heap.size 11 (v := .slice A4 n4 c4) rfl
                  go_wp2_with fail
                  go_meet
                  exact ⟨_, _, rfl, rfl, EF, HW⟩
              · have EF := Aside0.mk (show EI true ys (G0 m ++ enc1 m.nodes ++ enc2 m.muts ++ enc2 m.pre ++ enc4 m.rows) ((((LN m) ∧ ∀ x ∈ m.muts, fitsM x) ∧ ∀ x ∈ m.pre, fitsM x) ∧ ∀ x ∈ m.rows, fitsR x) (¬ MsgFits m) 2500000000000000 from ⟨(fun h => nomatch h), EE.out.b, EE.out.l⟩)
                have k11 := HW.out.cellAt w.heap.size 11 (v := .slice A4 n4 c4) rfl
                by_cases hlt : k < n4
                all_goals
                  go_wp2_with fail
                  go_meet
                  exact ⟨_, _, rfl, rfl, EF, HW⟩
          case rest =>
            obtain ⟨bd, ys, rfl, rfl, EE, HD4⟩ := hcut
            clear HC4 ET4
            obtain ⟨sy, hsy⟩ : ∃ s, s = strOfNums ys := ⟨_, rfl⟩
            rw [← hsy]
            obtain ⟨za, hza⟩ : ∃ n, sy.size = n := ⟨_, rfl⟩
            have hzy : za = ys.length := by rw [← hza, hsy, tx_size]
            have BEL := Aside0.mk HD4.out.below
            rcases bd with _ | _
            · obtain ⟨⟨⟨⟨⟨ln1, ln2, ln3, ln4⟩, hf2⟩, hf3⟩, hf4⟩, he⟩ := EE.out.g rfl
              have FT : MsgFits m := ⟨ln1, ⟨ln2, hf2⟩, ⟨ln3, hf3⟩, ⟨ln4, hf4⟩⟩
              have he2 : ys = encMsg m := he
              by_cases hl : 16384 < za
              · have EG := Aside0.mk (encGood_false (m := m) (fun hh => by have h1 := hh.2; rw [← he2] at h1; omega))
                clear EE he he2 hzy ln1 ln2 ln3 ln4 hf2 hf3 hf4 FT hsy
                have d1 : decide ((16384 : Int) < za) = true := decide_eq_true (by omega)
                have d2 : decide (16384 < za) = true := decide_eq_true hl
                go_wp2_with fail
                go_ret2
                exact ⟨by rw [EG.out.1, EG.out.2]; rfl, BEL.out⟩
              · have EG := Aside0.mk (encGood_true FT (by rw [← he2]; omega))
                have SY := Aside0.mk (show sy = strOfNums (encTxt m) by rw [EG.out.1, ← he2]; exact hsy)
                clear EE he he2 hzy ln1 ln2 ln3 ln4 hf2 hf3 hf4 FT hsy
                have d1 : decide ((16384 : Int) < za) = false := decide_eq_false (by omega)
                have d2 : decide (16384 < za) = false := decide_eq_false hl
                go_wp2_with fail
                go_ret2
                exact ⟨by rw [EG.out.2, ← SY.out]; rfl, BEL.out⟩
            · have EG := Aside0.mk (encGood_false (m := m) (fun hh => EE.out.b rfl hh.1))
              clear EE hzy hsy
              go_wp2_with fail
              go_ret2
              exact ⟨by rw [EG.out.1, EG.out.2]; rfl, BEL.out⟩
end Go.Proofs.Ytckdkbjobipniaa
