/- CodeKeeps' walk. Printed by wip/gen/codekeeps.py. -/
import Derived.Test.YtloiclalcepbeaaCodeF
import Derived.Test.YtloiclalcepbeaaCodeA
import Derived.Test.YtloiclalcepbeaaCodeDD
import Derived.Test.YtloiclalcepbeaaCodeK
import Derived.Test.YtloiclalcepbeaaInc
set_option linter.unusedVariables false
set_option linter.unusedSimpArgs false
namespace Go.Proofs.Ytloiclalcepbeaa
open Go.RowKit Go.Proofs.YtloiclalcepbeaaW.PrintWords Go.Proofs.YtloiclalcepbeaaW.PrintLast
theorem nodes_C {w0 w : World} {F : HP} {A : Option Addr} {n c : Nat} {l : List Int} (h : Hw w0 w (crow 1 3 A (n + 1) c (l.map (Value.int .i64) ++ [.int .i64 77]) * F)) (hl : l.length = n) (hm : n ≤ 9223372036854775807) : (Kd.int .i64).C w A n l := by
  have h1 := crow_take (m := n) (c' := c) h (by omega) (by have := crow_le h; omega) (Nat.le_refl _)
  rw [Nat.mul_one, List.take_left' (by rw [List.length_map, hl]), List.map_eq_flatMap] at h1
  exact crow_C (d := Kd.int .i64) intC KInt_mk (by decide) h1 hl hm
theorem nodes_some {w0 w : World} {F : HP} {A : Option Addr} {n c : Nat} {l : List Value} (h : Hw w0 w (crow 1 3 A (n + 1) c l * F)) : ∃ ad, A = some ad := by
  obtain ⟨ad, e, _⟩ := crow_reads h (by omega)
  exact ⟨ad, e⟩
theorem nodes_77 {w0 w : World} {F : HP} {ad : Addr} {n c : Nat} {l : List Int} (h : Hw w0 w (crow 1 3 (some ad) (n + 1) c (l.map (Value.int .i64) ++ [.int .i64 77]) * F)) (hl : l.length = n) : w.cell? (ad.add n) = some (.int .i64 77) := by
  obtain ⟨ad', e, hc⟩ := crow_reads h (by omega)
  injection e with e
  subst e
  exact hc n _ (by rw [List.getElem?_append_right (by simp [hl])]; simp [hl])
theorem kp1 {w0 w : World} {L C E R : HP} (h : Hw w0 w (L * (C * (E * R)))) : Hw w0 w (C * (L * R)) := (h.as (Q := C * (L * R) * E) (by ac_rfl)).left
theorem kp2 {w0 w : World} {L C E R : HP} (h : Hw w0 w (C * (L * (E * R)))) : Hw w0 w (C * (L * R)) := (h.as (Q := C * (L * R) * E) (by ac_rfl)).left
theorem kp3 {w0 w : World} {L C E R : HP} (h : Hw w0 w (C * (E * (L * R)))) : Hw w0 w (C * (L * R)) := (h.as (Q := C * (L * R) * E) (by ac_rfl)).left
set_option maxHeartbeats 12800000 in
set_option maxRecDepth 100000 in
theorem codeKeeps_ok (m : Msg) (s1 s2 s3 s4 : Hdr) (B : Option Addr) (nb cb : Nat) (bs : List Int) (w : World) (hC : MsgC w m s1 s2 s3 s4) (hok : MsgOk m) (hle : s1.2.1 ≤ s1.2.2 ∧ s1.2.1 * 8 ≤ 140737488351232) (hB : (Kd.int .u8).C w B nb bs) (hcb : nb ≤ cb) (hbl : nb ≤ 140737488351232) (hbs : bytes bs) :
    Calls Try.prog 12 #[msgV m s1 s2 s3 s4, .slice B nb cb] w fun e w' => e = .returned (.bool true) ∧ Below w.heap.size w w' := by
  obtain ⟨A1, n1, c1⟩ := s1
  obtain ⟨A2, n2, c2⟩ := s2
  obtain ⟨A3, n3, c3⟩ := s3
  obtain ⟨A4, n4, c4⟩ := s4
  have MC := Aside0.mk hC
  have OK := Aside0.mk hok
  have CB := Aside0.mk hB
  have BB := Aside0.mk hbs
  have LB := Aside0.mk hbl
  have LE : Aside0 (n1 ≤ c1 ∧ n1 * 8 ≤ 140737488351232) := ⟨hle⟩
  have NN := Aside0.mk (show m.nodes.length = n1 from hC.c1.1)
  have NL : Aside0 ((m.nodes.map (Value.int .i64)).length = n1 * 1) := ⟨by rw [List.length_map, NN.out, Nat.mul_one]⟩
  have ONE : Aside0 (∀ u ∈ m.nodes.map (Value.int .i64), u.oneCell' = true) := ⟨fun u hu => by obtain ⟨x, _, rfl⟩ := List.mem_map.1 hu; rfl⟩
  have RDN : Aside0 (∀ W, Below w.heap.size w W → 0 < n1 → ∃ ad, A1 = some ad ∧ ∀ j u, (m.nodes.map (Value.int .i64))[j]? = some u → W.cell? (ad.add j) = some u) := ⟨fun W hW h0 => by
    have hc := Kd.C_below MC.out.c1 hW
    obtain ⟨ad, e, hcc⟩ := hc.2.2 h0
    refine ⟨ad, e, fun j u hu => ?_⟩
    rw [List.getElem?_map] at hu
    obtain ⟨x, hx, rfl⟩ := Option.map_eq_some_iff.1 hu
    obtain ⟨l, hl, hK, hcell⟩ := hcc j x hx
    have hK : l = [Value.int .i64 x] := hK
    subst hK
    have := hcell 0 _ rfl
    rw [show (Kd.int .i64).sz = 1 from rfl, Nat.mul_one] at this
    simpa using this⟩
  have H1 := Aside0.mk ((Hw.start w).alloc (.cells #[.int .i64 m.kind, .int .i64 m.src, .int .i64 m.dst, .int .i64 m.id, .int .i64 m.rev, .int .i64 m.epoch, .int .i64 m.slot, .bool m.flag, .slice A1 n1 c1, .slice A2 n2 c2, .slice A3 n3 c3, .slice A4 n4 c4] 53))
  obtain ⟨inf, hinf, hiz0, hiz1, hiz2⟩ := info_parts Try.infoInt
  clear hC hok hB hbs hle hiz0 hiz1 hiz2 hbl
  show Calls Try.prog 12 #[.agg #[.int .i64 m.kind, .int .i64 m.src, .int .i64 m.dst, .int .i64 m.id, .int .i64 m.rev, .int .i64 m.epoch, .int .i64 m.slot, .bool m.flag, .slice A1 n1 c1, .slice A2 n2 c2, .slice A3 n3 c3, .slice A4 n4 c4], .slice B nb cb] w _
  go_enter Try.func12, Try.ntmps12
  go_wp2_with fail
  refine (cawake_ok _).mono ?_
  rintro e w1 ⟨rfl, h1⟩
  have H3 := Aside0.mk (H1.out.from_below h1)
  clear H1 h1
  have H3d := Aside0.mk H3.out.drew
  have k8 := H3d.out.cellAt w.heap.size 8 (v := .slice A1 n1 c1) rfl
  go_upto_region 3 with fail
  refine start_ (n := 11) (S := fun w' => w'.cell? ⟨w.heap.size, 8, none⟩ = some (.slice A1 n1 c1)) (ds := []) #[false, false, false, false, false, false, false, false, false, false, false] (by kernel_rfl) rfl rfl (k8) (fun hHeld => ?_)
  refine pure_ (i := 1) (N := some 16) (v := ?_) (a' := ?_) #[false, true, false, false, false, false, false, false, false, false, false] rfl rfl (by kernel_rfl) (fun _ _ _ h => h) (Or.inl ⟨by rfl, ?_⟩) ?_ ?_
  rotate_left
  · intro w'
    go_simp
    with_reducible rfl
  rotate_left
  · simp only [Act.put, List.setIfInBounds_toArray, List.set_cons_zero, List.set_cons_succ, i64_w, i32_w]
    rfl
  refine pure_ (i := 6) (N := some 21) (v := ?_) (a' := ?_) #[false, true, false, false, false, false, true, false, false, false, false] rfl rfl (by kernel_rfl) (fun _ _ _ h => h) (Or.inl ⟨by rfl, ?_⟩) ?_ ?_
  rotate_left
  · intro w'
    go_simp
    with_reducible rfl
  rotate_left
  · simp only [Act.put, List.setIfInBounds_toArray, List.set_cons_zero, List.set_cons_succ, i64_w, i32_w]
    rfl
  refine take_ (i := 2) (N := some 17) (v := ?_) (a' := ?_) #[false, true, true, false, false, false, true, false, false, false, false] rfl rfl (by kernel_rfl) (fun _ _ _ h => h) (Or.inl ⟨by rfl, ?_⟩) hHeld ?_ ?_
  rotate_left
  · intro w' s0
    go_simp
    with_reducible rfl
  rotate_left
  · simp only [Act.put, List.setIfInBounds_toArray, List.set_cons_zero, List.set_cons_succ, i64_w, i32_w]
    rfl
  refine take_ (i := 7) (N := some 22) (v := ?_) (a' := ?_) #[false, true, true, false, false, false, true, true, false, false, false] rfl rfl (by kernel_rfl) (fun _ _ _ h => h) (Or.inl ⟨by rfl, ?_⟩) hHeld ?_ ?_
  rotate_left
  · intro w' s0
    go_simp
    with_reducible rfl
  rotate_left
  · simp only [Act.put, List.setIfInBounds_toArray, List.set_cons_zero, List.set_cons_succ, i64_w, i32_w]
    rfl
  refine pure_ (i := 8) (N := some 23) (v := ?_) (a' := ?_) #[false, true, true, false, false, false, true, true, true, false, false] rfl rfl (by kernel_rfl) (fun _ _ _ h => h) (Or.inl ⟨by rfl, ?_⟩) ?_ ?_
  rotate_left
  · intro w'
    go_simp
    with_reducible rfl
  rotate_left
  · simp only [Act.put, List.setIfInBounds_toArray, List.set_cons_zero, List.set_cons_succ, i64_w, i32_w]
    rfl
  refine join_ (σ := Option Addr × Nat × Nat × Nat × Nat) 3 #[true, true, true, true, true, false, true, true, true, false, false] (fun s_ => [(15, .slice (some ⟨s_.2.2.2.2, 0, none⟩) 0 0), (18, .slice s_.1 (0 + n1) s_.2.1), (19, .slice (some ⟨s_.2.2.1, 0, none⟩) 1 1)]) (fun s_ w' => Hw w w' (crow 1 3 s_.1 (0 + n1) s_.2.1 ([] ++ m.nodes.map (Value.int .i64)) * (blk s_.2.2.1 (.cells #[.int .i64 77] 3) * (blk w.heap.size (.cells #[.int .i64 m.kind, .int .i64 m.src, .int .i64 m.dst, .int .i64 m.id, .int .i64 m.rev, .int .i64 m.epoch, .int .i64 m.slot, .bool m.flag, .slice A1 n1 c1, .slice A2 n2 c2, .slice A3 n3 c3, .slice A4 n4 c4] 53) * HP.emp)))) ?_ ?_
  rotate_left
  · intro hCont
    refine two_ (i := 0) (j := 4) (Ni := some 15) (Nj := some 19) #[true, true, true, false, false, false, true, true, true, false, false] #[false, true, true, false, true, false, true, true, true, false, false] rfl rfl rfl rfl (by kernel_rfl) (by decide) (by decide) (fun K hK => ?_) (fun K hK => ?_)
    · skip
      refine value_ (w1 := ?_) (v := ?_) (by rfl) rfl ?_ ?_
      rotate_left 2
      · go_simp
        constructor
        · rfl
        · rfl
      have HK0 := Aside0.mk (H3d.out.alloc (.cells #[] 3))
      have k0 := HK0.out.cellAt w.heap.size 8 (v := .slice A1 n1 c1) rfl
      refine hK.out _ _ (k0) (fun hHeld => ?_)
      clear hK K
      refine norm_ (a' := ?_) ?_ ?_
      rotate_left
      · show Act.put _ (some 15) _ = _
        simp only [Act.put, List.setIfInBounds_toArray, List.set_cons_zero, List.set_cons_succ, i64_w, i32_w]
        rfl
      refine two_ (i := 3) (j := 4) (Ni := some 18) (Nj := some 19) #[true, true, true, true, false, false, true, true, true, false, false] #[true, true, true, false, true, false, true, true, true, false, false] rfl rfl rfl rfl (by kernel_rfl) (by decide) (by decide) (fun K hK => ?_) (fun K hK => ?_)
      · skip
        refine crow_append_step (sz := 1) (news := m.nodes.map (Value.int .i64)) (m := n1) (c := c1) (by first | rfl | simp [Region.wanted]) (.tmp 15) (.tmp 17) 48 (.int .i64 0) 8 rfl Try.underlying48 Try.infoInt rfl (by decide) rfl rfl (crow_none (A := some ⟨_, 0, none⟩) rfl rfl HK0.out) NL.out ONE.out (RDN.out _ HK0.out.below) (by decide) (by have := LE.out; omega) ?_
        intro A5 c5 w5 h5
        have HK03 := Aside0.mk (h5.out.at (crow 1 3 A5 (0 + n1) c5 ([] ++ m.nodes.map (Value.int .i64))))
        clear h5
        have k03 := HK03.out.cellAt w.heap.size 8 (v := .slice A1 n1 c1) rfl
        refine hK.out _ _ (k03) (fun hHeld => ?_)
        clear hK K
        refine norm_ (a' := ?_) ?_ ?_
        rotate_left
        · show Act.put _ (some 18) _ = _
          simp only [Act.put, List.setIfInBounds_toArray, List.set_cons_zero, List.set_cons_succ, i64_w, i32_w]
          rfl
        refine one_ (i := 4) (N := some 19) #[true, true, true, true, true, false, true, true, true, false, false] rfl rfl (by kernel_rfl) (by decide) (fun K hK => ?_)
        refine value_ (w1 := ?_) (v := ?_) (by rfl) rfl ?_ ?_
        rotate_left 2
        · go_simp
          constructor
          · rfl
          · rfl
        have HK034 := Aside0.mk (HK03.out.alloc (.cells #[.int .i64 77] 3))
        have k034 := HK034.out.cellAt w.heap.size 8 (v := .slice A1 n1 c1) rfl
        refine hK.out _ _ (k034) (fun hHeld => ?_)
        clear hK K
        refine norm_ (a' := ?_) ?_ ?_
        rotate_left
        · show Act.put _ (some 19) _ = _
          simp only [Act.put, List.setIfInBounds_toArray, List.set_cons_zero, List.set_cons_succ, i64_w, i32_w]
          rfl
        exact norm_ (by simp only [putAll, Act.put, List.setIfInBounds_toArray, List.set_cons_zero, List.set_cons_succ]) (hCont (A5, c5, w5.heap.size, 0, w1.heap.size) _ (kp1 HK034.out))
      · skip
        refine value_ (w1 := ?_) (v := ?_) (by rfl) rfl ?_ ?_
        rotate_left 2
        · go_simp
          constructor
          · rfl
          · rfl
        have HK04 := Aside0.mk (HK0.out.alloc (.cells #[.int .i64 77] 3))
        simp only [World.size_alloc] at HK04
        have k04 := HK04.out.cellAt w.heap.size 8 (v := .slice A1 n1 c1) rfl
        refine hK.out _ _ (k04) (fun hHeld => ?_)
        clear hK K
        refine norm_ (a' := ?_) ?_ ?_
        rotate_left
        · show Act.put _ (some 19) _ = _
          simp only [Act.put, List.setIfInBounds_toArray, List.set_cons_zero, List.set_cons_succ, i64_w, i32_w]
          rfl
        refine one_ (i := 3) (N := some 18) #[true, true, true, true, true, false, true, true, true, false, false] rfl rfl (by kernel_rfl) (by decide) (fun K hK => ?_)
        refine crow_append_step (sz := 1) (news := m.nodes.map (Value.int .i64)) (m := n1) (c := c1) (by first | rfl | simp [Region.wanted]) (.tmp 15) (.tmp 17) 48 (.int .i64 0) 8 rfl Try.underlying48 Try.infoInt rfl (by decide) rfl rfl (crow_none (A := some ⟨_, 0, none⟩) rfl rfl HK04.out) NL.out ONE.out (RDN.out _ HK04.out.below) (by decide) (by have := LE.out; omega) ?_
        intro A5 c5 w5 h5
        have HK043 := Aside0.mk (h5.out.at (crow 1 3 A5 (0 + n1) c5 ([] ++ m.nodes.map (Value.int .i64))))
        clear h5
        have k043 := HK043.out.cellAt w.heap.size 8 (v := .slice A1 n1 c1) rfl
        refine hK.out _ _ (k043) (fun hHeld => ?_)
        clear hK K
        refine norm_ (a' := ?_) ?_ ?_
        rotate_left
        · show Act.put _ (some 18) _ = _
          simp only [Act.put, List.setIfInBounds_toArray, List.set_cons_zero, List.set_cons_succ, i64_w, i32_w]
          rfl
        exact norm_ (by simp only [putAll, Act.put, List.setIfInBounds_toArray, List.set_cons_zero, List.set_cons_succ]) (hCont (A5, c5, w1.heap.size + 1, 0, w1.heap.size) _ (kp2 HK043.out))
    · skip
      refine value_ (w1 := ?_) (v := ?_) (by rfl) rfl ?_ ?_
      rotate_left 2
      · go_simp
        constructor
        · rfl
        · rfl
      have HK4 := Aside0.mk (H3d.out.alloc (.cells #[.int .i64 77] 3))
      have k4 := HK4.out.cellAt w.heap.size 8 (v := .slice A1 n1 c1) rfl
      refine hK.out _ _ (k4) (fun hHeld => ?_)
      clear hK K
      refine norm_ (a' := ?_) ?_ ?_
      rotate_left
      · show Act.put _ (some 19) _ = _
        simp only [Act.put, List.setIfInBounds_toArray, List.set_cons_zero, List.set_cons_succ, i64_w, i32_w]
        rfl
      refine one_ (i := 0) (N := some 15) #[true, true, true, false, true, false, true, true, true, false, false] rfl rfl (by kernel_rfl) (by decide) (fun K hK => ?_)
      refine value_ (w1 := ?_) (v := ?_) (by rfl) rfl ?_ ?_
      rotate_left 2
      · go_simp
        constructor
        · rfl
        · rfl
      have HK40 := Aside0.mk (HK4.out.alloc (.cells #[] 3))
      simp only [World.size_alloc] at HK40
      have k40 := HK40.out.cellAt w.heap.size 8 (v := .slice A1 n1 c1) rfl
      refine hK.out _ _ (k40) (fun hHeld => ?_)
      clear hK K
      refine norm_ (a' := ?_) ?_ ?_
      rotate_left
      · show Act.put _ (some 15) _ = _
        simp only [Act.put, List.setIfInBounds_toArray, List.set_cons_zero, List.set_cons_succ, i64_w, i32_w]
        rfl
      refine one_ (i := 3) (N := some 18) #[true, true, true, true, true, false, true, true, true, false, false] rfl rfl (by kernel_rfl) (by decide) (fun K hK => ?_)
      refine crow_append_step (sz := 1) (news := m.nodes.map (Value.int .i64)) (m := n1) (c := c1) (by first | rfl | simp [Region.wanted]) (.tmp 15) (.tmp 17) 48 (.int .i64 0) 8 rfl Try.underlying48 Try.infoInt rfl (by decide) rfl rfl (crow_none (A := some ⟨_, 0, none⟩) rfl rfl HK40.out) NL.out ONE.out (RDN.out _ HK40.out.below) (by decide) (by have := LE.out; omega) ?_
      intro A5 c5 w5 h5
      have HK403 := Aside0.mk (h5.out.at (crow 1 3 A5 (0 + n1) c5 ([] ++ m.nodes.map (Value.int .i64))))
      clear h5
      have k403 := HK403.out.cellAt w.heap.size 8 (v := .slice A1 n1 c1) rfl
      refine hK.out _ _ (k403) (fun hHeld => ?_)
      clear hK K
      refine norm_ (a' := ?_) ?_ ?_
      rotate_left
      · show Act.put _ (some 18) _ = _
        simp only [Act.put, List.setIfInBounds_toArray, List.set_cons_zero, List.set_cons_succ, i64_w, i32_w]
        rfl
      exact norm_ (by simp only [putAll, Act.put, List.setIfInBounds_toArray, List.set_cons_zero, List.set_cons_succ]) (hCont (A5, c5, w1.heap.size, 0, w1.heap.size + 1) _ (kp3 HK403.out))
  rintro ⟨A5, c5, g77, _, g0⟩ wd hF
  have HF := Aside0.mk hF
  clear hF
  have hHeld := HF.out.cellAt w.heap.size 8 (v := .slice A1 n1 c1) rfl
  refine norm_ (a' := ?_) ?_ ?_
  rotate_left
  · simp only [putAll, Act.put, List.setIfInBounds_toArray, List.set_cons_zero, List.set_cons_succ]
    rfl
  refine one_ (i := 5) (N := some 20) #[true, true, true, true, true, true, true, true, true, false, false] rfl rfl (by kernel_rfl) (by decide) (fun K hK => ?_)
  refine crow_append_step (sz := 1) (news := [.int .i64 77]) (m := 1) (c := 1) (by first | rfl | simp [Region.wanted]) (.tmp 18) (.tmp 19) 48 (.int .i64 0) 8 rfl Try.underlying48 Try.infoInt rfl (by decide) rfl rfl HF.out rfl (fun u hu => by rw [List.mem_singleton] at hu; subst hu; rfl) (fun _ => ⟨_, rfl, blk_cells (HF.out.atB g77)⟩) (by decide) (by have := LE.out; omega) ?_
  intro A6 c6 w6 h6
  have H6 : Aside0 (Hw w w6 (crow 1 3 A6 (n1 + 1) c6 (m.nodes.map (Value.int .i64) ++ [.int .i64 77]) * (blk g77 (.cells #[.int .i64 77] 3) * (blk w.heap.size (.cells #[.int .i64 m.kind, .int .i64 m.src, .int .i64 m.dst, .int .i64 m.id, .int .i64 m.rev, .int .i64 m.epoch, .int .i64 m.slot, .bool m.flag, .slice A1 n1 c1, .slice A2 n2 c2, .slice A3 n3 c3, .slice A4 n4 c4] 53) * HP.emp)))) := ⟨by have h := h6.out; rw [Nat.zero_add, List.nil_append] at h; exact h⟩
  clear h6 HF
  have hc6 : n1 + 1 ≤ c6 := crow_le H6.out
  have k8' := H6.out.cellAt w.heap.size 8 (v := .slice A1 n1 c1) rfl
  have hle6 : n1 ≤ c6 := by omega
  refine hK.out _ _ (k8') (fun hHeld => ?_)
  clear hK K
  refine norm_ (a' := ?_) ?_ ?_
  rotate_left
  · show Act.put _ (some 20) _ = _
    simp only [Act.put, List.setIfInBounds_toArray, List.set_cons_zero, List.set_cons_succ, i64_w, i32_w]
    rfl
  refine pure_ (i := 9) (N := some 24) (v := ?_) (a' := ?_) #[true, true, true, true, true, true, true, true, true, true, false] rfl rfl (by kernel_rfl) (fun _ _ _ h => h) (Or.inl ⟨by rfl, ?_⟩) ?_ ?_
  rotate_left
  · intro w'
    go_simp
    with_reducible rfl
  rotate_left
  · simp only [Act.put, List.setIfInBounds_toArray, List.set_cons_zero, List.set_cons_succ, i64_w, i32_w]
    rfl
  refine pure_ (i := 10) (N := some 5) (v := ?_) (a' := ?_) #[true, true, true, true, true, true, true, true, true, true, true] rfl rfl (by kernel_rfl) (fun _ _ _ h => h) (Or.inl ⟨by rfl, ?_⟩) ?_ ?_
  rotate_left
  · intro w'
    go_simp
    with_reducible rfl
  rotate_left
  · simp only [Act.put, List.setIfInBounds_toArray, List.set_cons_zero, List.set_cons_succ, i64_w, i32_w]
    rfl
  refine done_ (by kernel_rfl) ?_
  clear hHeld k8' hle6
  have hc6 : n1 + 1 ≤ c6 := crow_le H6.out
  have H7 := Aside0.mk (H6.out.alloc (.cells #[.int .i64 0, .int .i64 0, .int .i64 0, .int .i64 0, .int .i64 0, .int .i64 0, .int .i64 0, .bool false, .slice none 0 0, .slice none 0 0, .slice none 0 0, .slice none 0 0] 53))
  have k0 := H6.out.cellAt w.heap.size 0 (v := .int .i64 m.kind) rfl
  have k1 := H6.out.cellAt w.heap.size 1 (v := .int .i64 m.src) rfl
  have k2 := H6.out.cellAt w.heap.size 2 (v := .int .i64 m.dst) rfl
  have k3 := H6.out.cellAt w.heap.size 3 (v := .int .i64 m.id) rfl
  have k4 := H6.out.cellAt w.heap.size 4 (v := .int .i64 m.rev) rfl
  have k5 := H6.out.cellAt w.heap.size 5 (v := .int .i64 m.epoch) rfl
  have k6 := H6.out.cellAt w.heap.size 6 (v := .int .i64 m.slot) rfl
  have k7 := H6.out.cellAt w.heap.size 7 (v := .bool m.flag) rfl
  have k8 := H6.out.cellAt w.heap.size 8 (v := .slice A1 n1 c1) rfl
  have k9 := H6.out.cellAt w.heap.size 9 (v := .slice A2 n2 c2) rfl
  have k10 := H6.out.cellAt w.heap.size 10 (v := .slice A3 n3 c3) rfl
  have k11 := H6.out.cellAt w.heap.size 11 (v := .slice A4 n4 c4) rfl
  go_wp2_with (refine Hw.store_row rfl 53 (.tmp 6) (.tmp 25) rfl w6.heap.size #[.int .i64 m.kind, .int .i64 m.src, .int .i64 m.dst, .int .i64 m.id, .int .i64 m.rev, .int .i64 m.epoch, .int .i64 m.slot, .bool m.flag, .slice A1 n1 c1, .slice A2 n2 c2, .slice A3 n3 c3, .slice A4 n4 c4] rfl rfl H7.out (by kernel_rfl) (by rfl) (by first | kernel_rfl | rfl | simp [Value.oneCell']) ?_; intro w7 H8; have q8 := H8.out.cellAt w6.heap.size 8 (v := .slice A1 n1 c1) rfl; have yf := H8.out.freeAt w6.heap.size 8; have H9 : Aside0 (Hw w (w7.setCell ⟨w6.heap.size, 8, none⟩ (.slice A6 n1 c6)) (blk w6.heap.size (.cells #[.int .i64 m.kind, .int .i64 m.src, .int .i64 m.dst, .int .i64 m.id, .int .i64 m.rev, .int .i64 m.epoch, .int .i64 m.slot, .bool m.flag, .slice A6 n1 c6, .slice A2 n2 c2, .slice A3 n3 c3, .slice A4 n4 c4] 53) * (crow 1 3 A6 (n1 + 1) c6 (m.nodes.map (Value.int .i64) ++ [.int .i64 77]) * (blk g77 (.cells #[.int .i64 77] 3) * (blk w.heap.size (.cells #[.int .i64 m.kind, .int .i64 m.src, .int .i64 m.dst, .int .i64 m.id, .int .i64 m.rev, .int .i64 m.epoch, .int .i64 m.slot, .bool m.flag, .slice A1 n1 c1, .slice A2 n2 c2, .slice A3 n3 c3, .slice A4 n4 c4] 53) * HP.emp))))) := ⟨H8.out.setAt w6.heap.size 8 (.slice A6 n1 c6)⟩; have y0 := H9.out.cellAt w6.heap.size 0 (v := .int .i64 m.kind) rfl; have y1 := H9.out.cellAt w6.heap.size 1 (v := .int .i64 m.src) rfl; have y2 := H9.out.cellAt w6.heap.size 2 (v := .int .i64 m.dst) rfl; have y3 := H9.out.cellAt w6.heap.size 3 (v := .int .i64 m.id) rfl; have y4 := H9.out.cellAt w6.heap.size 4 (v := .int .i64 m.rev) rfl; have y5 := H9.out.cellAt w6.heap.size 5 (v := .int .i64 m.epoch) rfl; have y6 := H9.out.cellAt w6.heap.size 6 (v := .int .i64 m.slot) rfl; have y7 := H9.out.cellAt w6.heap.size 7 (v := .bool m.flag) rfl; have y8 := H9.out.cellAt w6.heap.size 8 (v := .slice A6 n1 c6) rfl; have y9 := H9.out.cellAt w6.heap.size 9 (v := .slice A2 n2 c2) rfl; have y10 := H9.out.cellAt w6.heap.size 10 (v := .slice A3 n3 c3) rfl; have y11 := H9.out.cellAt w6.heap.size 11 (v := .slice A4 n4 c4) rfl)
  refine (encode_ok m A6 A2 A3 A4 n1 n2 n3 n4 c6 c2 c3 c4 _ ⟨nodes_C (n := n1) (c := c6) (H9.out.at (crow 1 3 A6 (n1 + 1) c6 (m.nodes.map (Value.int .i64) ++ [.int .i64 77]))) NN.out (by have := LE.out; omega), Kd.C_below MC.out.c2 H9.out.below, Kd.C_below MC.out.c3 H9.out.below, Kd.C_below MC.out.c4 H9.out.below⟩ OK.out).mono ?_
  rintro e w8 ⟨A, n, c, rfl, hne, g⟩
  have H10 := Aside0.mk (H9.out.from_below g.below)
  have H11 := Aside0.mk ((H10.out.alloc (.cells #[] 5)).row_empty (k := .u8))
  have HCB := Aside0.mk (Kd.C_below CB.out H11.out.below)
  clear q8 yf H7 H9 H10 H3 H3d g hne k0 k1 k2 k3 k4 k5 k6 k7 k8 k9 k10 k11 y0 y1 y2 y3 y4 y5 y6 y7 y8 y9 y10 y11 H6
  go_wp2_with (at_builtin; refine Hw.append_int (k := .u8) rfl (.tmp 30) (.tmp 31) 35 5 1 rfl Try.underlying35 Try.infoU8 (by decide) _ [] bs B nb cb rfl rfl H11.out HCB.out (by have := LB.out; simp; omega) bs rfl nb CB.out.1 ?_; intro A7 c7 w9 H12)
  refine (decode2_ok A7 nb c7 bs w9 H12.out.row_C.2.2 H12.out.row_C.2.1 BB.out).mono ?_
  rintro e w10 ⟨y, ⟨T1, p1, d1⟩, ⟨T2, p2, d2⟩, ⟨T3, p3, d3⟩, ⟨T4, p4, d4⟩, ky, hry, hhy, rfl, g⟩
  have RY := Aside0.mk hry
  have HY := Aside0.mk hhy
  have H13 := Aside0.mk (H12.out.trans g)
  have H14 := Aside0.mk (H13.out.alloc (.cells #[.int .i64 0, .int .i64 0, .int .i64 0, .int .i64 0, .int .i64 0, .int .i64 0, .int .i64 0, .bool false, .slice none 0 0, .slice none 0 0, .slice none 0 0, .slice none 0 0] 53))
  clear H11 H12 HCB hry hhy g
  go_wp2_with (refine Hw.store_row rfl 53 (.tmp 8) (.tmp 36) rfl w10.heap.size #[.int .i64 y.kind, .int .i64 y.src, .int .i64 y.dst, .int .i64 y.id, .int .i64 y.rev, .int .i64 y.epoch, .int .i64 y.slot, .bool y.flag, .slice T1 p1 d1, .slice T2 p2 d2, .slice T3 p3 d3, .slice T4 p4 d4] rfl rfl H14.out (by kernel_rfl) (by rfl) (by first | kernel_rfl | rfl | simp [Value.oneCell']) ?_; intro w11 H15)
  have H16 := Aside0.mk (H15.out.atR (Kd.int .u8) 5 (.slice A7 nb c7))
  have NB := Aside0.mk CB.out.1
  clear H13 H14 H15
  go_loopw [40, 10] (fun i _ wr => ∃ k : Nat, k ≤ nb ∧ i = .int .i64 k ∧ Aside0 (Hw w wr (row (Kd.int .u8) 5 (.slice A7 nb c7) (incTo k bs ++ []) * (blk w10.heap.size (.cells #[.int .i64 y.kind, .int .i64 y.src, .int .i64 y.dst, .int .i64 y.id, .int .i64 y.rev, .int .i64 y.epoch, .int .i64 y.slot, .bool y.flag, .slice T1 p1 d1, .slice T2 p2 d2, .slice T3 p3 d3, .slice T4 p4 d4] 53) * (listsP y.nodes y.muts y.pre y.rows (T1, p1, d1) (T2, p2, d2) (T3, p3, d3) (T4, p4, d4) * HP.emp * (blk w6.heap.size (.cells #[.int .i64 m.kind, .int .i64 m.src, .int .i64 m.dst, .int .i64 m.id, .int .i64 m.rev, .int .i64 m.epoch, .int .i64 m.slot, .bool m.flag, .slice A6 n1 c6, .slice A2 n2 c2, .slice A3 n3 c3, .slice A4 n4 c4] 53) * (crow 1 3 A6 (n1 + 1) c6 (m.nodes.map (Value.int .i64) ++ [.int .i64 77]) * (blk g77 (.cells #[.int .i64 77] 3) * (blk w.heap.size (.cells #[.int .i64 m.kind, .int .i64 m.src, .int .i64 m.dst, .int .i64 m.id, .int .i64 m.rev, .int .i64 m.epoch, .int .i64 m.slot, .bool m.flag, .slice A1 n1 c1, .slice A2 n2 c2, .slice A3 n3 c3, .slice A4 n4 c4] 53) * HP.emp))))))))) (fun i _ _ => nb - (intOf i).toNat)
  case atStart => exact ⟨0, Nat.zero_le _, rfl, ⟨by rw [incTo_zero, List.append_nil]; exact H16.out⟩⟩
  case round =>
    obtain ⟨k, hk, rfl, HW⟩ := hrel
    clear H16
    by_cases hlt : k < nb
    · obtain ⟨x, hx⟩ : ∃ x, bs[k]? = some x := ⟨_, List.getElem?_eq_getElem (by rw [NB.out]; exact hlt)⟩
      obtain ⟨ad', rfl, hcx, hfx, hput⟩ := HW.out.row_int_at k x (incTo_at k bs [] x hx)
      have X := Aside0.mk hx
      have hbl2 := LB.out
      clear hx HW
      go_wp2
      go_roundw
      case rel => exact ⟨k + 1, by omega, by go_num, ⟨hput.out ((x + 1) % 256) _ (incTo_set k bs [] x X.out)⟩⟩
      case measure => simp [intOf]; omega
    · have hk2 : k = nb := by omega
      subst hk2
      have H17 := Aside0.mk (HW.out.drop (row (Kd.int .u8) 5 (.slice A7 k c7) (incTo k bs ++ [])))
      clear HW
      go_wp2_with fail
      refine (decode2_ok B k cb bs wr (Kd.C_below CB.out H17.out.below) hcb BB.out).mono ?_
      rintro e w12 ⟨z, ⟨U1, q1, e1⟩, ⟨U2, q2, e2⟩, ⟨U3, q3, e3⟩, ⟨U4, q4, e4⟩, kz, hrz, hhz, rfl, g⟩
      obtain ⟨rfl, rfl⟩ : y = z ∧ ky = kz := by have h := RY.out.symm.trans hrz; exact ⟨congrArg (·.1) h, congrArg (·.2) h⟩
      have HZ := Aside0.mk hhz
      have H18 := Aside0.mk (H17.out.trans g)
      have H19 := Aside0.mk (H18.out.alloc (.cells #[.int .i64 0, .int .i64 0, .int .i64 0, .int .i64 0, .int .i64 0, .int .i64 0, .int .i64 0, .bool false, .slice none 0 0, .slice none 0 0, .slice none 0 0, .slice none 0 0] 53))
      clear H17 hrz hhz g
      go_upto_region 15 with (refine Hw.store_row rfl 53 (.tmp 11) (.tmp 53) rfl w12.heap.size #[.int .i64 y.kind, .int .i64 y.src, .int .i64 y.dst, .int .i64 y.id, .int .i64 y.rev, .int .i64 y.epoch, .int .i64 y.slot, .bool y.flag, .slice U1 q1 e1, .slice U2 q2 e2, .slice U3 q3 e3, .slice U4 q4 e4] rfl rfl H19.out (by kernel_rfl) (by rfl) (by first | kernel_rfl | rfl | simp [Value.oneCell']) ?_; intro w13 H20)
      obtain ⟨ad, e6⟩ := nodes_some (H20.out.at (crow 1 3 A6 (n1 + 1) c6 (m.nodes.map (Value.int .i64) ++ [.int .i64 77])))
      subst e6
      have hc6 : n1 + 1 ≤ c6 := crow_le (H20.out.at (crow 1 3 (some ad) (n1 + 1) c6 (m.nodes.map (Value.int .i64) ++ [.int .i64 77])))
      have hn1 : n1 * 8 ≤ 140737488351232 := LE.out.2
      have hw1 : wrap64 ((n1 : Int) + 1) = (n1 : Int) + 1 := by unfold wrap64; omega
      have hw2 : IntKind.i64.wrap ((n1 : Int) + 1) = (n1 : Int) + 1 := by rw [IntKind.wrap_i64]; omega
      have hw3 : (0 : Int) ≤ (n1 : Int) + 1 := by omega
      have hw4 : (n1 : Int) + 1 ≤ (c6 : Int) := by omega
      have hw5 : (n1 : Int) < (n1 : Int) + 1 := by omega
      have H20d := Aside0.mk H20.out.drew
      clear H18 H19 H20 hn1
      have ka0 := H20d.out.cellAt w.heap.size 0 (v := .int .i64 m.kind) rfl
      have ka1 := H20d.out.cellAt w.heap.size 1 (v := .int .i64 m.src) rfl
      have ka2 := H20d.out.cellAt w.heap.size 2 (v := .int .i64 m.dst) rfl
      have ka3 := H20d.out.cellAt w.heap.size 3 (v := .int .i64 m.id) rfl
      have ka4 := H20d.out.cellAt w.heap.size 4 (v := .int .i64 m.rev) rfl
      have ka5 := H20d.out.cellAt w.heap.size 5 (v := .int .i64 m.epoch) rfl
      have ka6 := H20d.out.cellAt w.heap.size 6 (v := .int .i64 m.slot) rfl
      have ka7 := H20d.out.cellAt w.heap.size 7 (v := .bool m.flag) rfl
      have ka8 := H20d.out.cellAt w.heap.size 8 (v := .slice A1 n1 c1) rfl
      have ka9 := H20d.out.cellAt w.heap.size 9 (v := .slice A2 n2 c2) rfl
      have ka10 := H20d.out.cellAt w.heap.size 10 (v := .slice A3 n3 c3) rfl
      have ka11 := H20d.out.cellAt w.heap.size 11 (v := .slice A4 n4 c4) rfl
      have pa0 := H20d.out.cellAt w6.heap.size 0 (v := .int .i64 m.kind) rfl
      have pa1 := H20d.out.cellAt w6.heap.size 1 (v := .int .i64 m.src) rfl
      have pa2 := H20d.out.cellAt w6.heap.size 2 (v := .int .i64 m.dst) rfl
      have pa3 := H20d.out.cellAt w6.heap.size 3 (v := .int .i64 m.id) rfl
      have pa4 := H20d.out.cellAt w6.heap.size 4 (v := .int .i64 m.rev) rfl
      have pa5 := H20d.out.cellAt w6.heap.size 5 (v := .int .i64 m.epoch) rfl
      have pa6 := H20d.out.cellAt w6.heap.size 6 (v := .int .i64 m.slot) rfl
      have pa7 := H20d.out.cellAt w6.heap.size 7 (v := .bool m.flag) rfl
      have pa8 := H20d.out.cellAt w6.heap.size 8 (v := .slice (some ad) n1 c6) rfl
      have pa9 := H20d.out.cellAt w6.heap.size 9 (v := .slice A2 n2 c2) rfl
      have pa10 := H20d.out.cellAt w6.heap.size 10 (v := .slice A3 n3 c3) rfl
      have pa11 := H20d.out.cellAt w6.heap.size 11 (v := .slice A4 n4 c4) rfl
      have ua0 := H20d.out.cellAt w10.heap.size 0 (v := .int .i64 y.kind) rfl
      have ua1 := H20d.out.cellAt w10.heap.size 1 (v := .int .i64 y.src) rfl
      have ua2 := H20d.out.cellAt w10.heap.size 2 (v := .int .i64 y.dst) rfl
      have ua3 := H20d.out.cellAt w10.heap.size 3 (v := .int .i64 y.id) rfl
      have ua4 := H20d.out.cellAt w10.heap.size 4 (v := .int .i64 y.rev) rfl
      have ua5 := H20d.out.cellAt w10.heap.size 5 (v := .int .i64 y.epoch) rfl
      have ua6 := H20d.out.cellAt w10.heap.size 6 (v := .int .i64 y.slot) rfl
      have ua7 := H20d.out.cellAt w10.heap.size 7 (v := .bool y.flag) rfl
      have ua8 := H20d.out.cellAt w10.heap.size 8 (v := .slice T1 p1 d1) rfl
      have ua9 := H20d.out.cellAt w10.heap.size 9 (v := .slice T2 p2 d2) rfl
      have ua10 := H20d.out.cellAt w10.heap.size 10 (v := .slice T3 p3 d3) rfl
      have ua11 := H20d.out.cellAt w10.heap.size 11 (v := .slice T4 p4 d4) rfl
      have va0 := H20d.out.cellAt w12.heap.size 0 (v := .int .i64 y.kind) rfl
      have va1 := H20d.out.cellAt w12.heap.size 1 (v := .int .i64 y.src) rfl
      have va2 := H20d.out.cellAt w12.heap.size 2 (v := .int .i64 y.dst) rfl
      have va3 := H20d.out.cellAt w12.heap.size 3 (v := .int .i64 y.id) rfl
      have va4 := H20d.out.cellAt w12.heap.size 4 (v := .int .i64 y.rev) rfl
      have va5 := H20d.out.cellAt w12.heap.size 5 (v := .int .i64 y.epoch) rfl
      have va6 := H20d.out.cellAt w12.heap.size 6 (v := .int .i64 y.slot) rfl
      have va7 := H20d.out.cellAt w12.heap.size 7 (v := .bool y.flag) rfl
      have va8 := H20d.out.cellAt w12.heap.size 8 (v := .slice U1 q1 e1) rfl
      have va9 := H20d.out.cellAt w12.heap.size 9 (v := .slice U2 q2 e2) rfl
      have va10 := H20d.out.cellAt w12.heap.size 10 (v := .slice U3 q3 e3) rfl
      have va11 := H20d.out.cellAt w12.heap.size 11 (v := .slice U4 q4 e4) rfl
      have c77 := nodes_77 (H20d.out.at (crow 1 3 (some ad) (n1 + 1) c6 (m.nodes.map (Value.int .i64) ++ [.int .i64 77]))) NN.out
      refine start_ (n := 28) (S := fun w' => w'.cell? ⟨w.heap.size, 0, none⟩ = some (.int .i64 m.kind) ∧ w'.cell? ⟨w.heap.size, 1, none⟩ = some (.int .i64 m.src) ∧ w'.cell? ⟨w.heap.size, 2, none⟩ = some (.int .i64 m.dst) ∧ w'.cell? ⟨w.heap.size, 3, none⟩ = some (.int .i64 m.id) ∧ w'.cell? ⟨w.heap.size, 4, none⟩ = some (.int .i64 m.rev) ∧ w'.cell? ⟨w.heap.size, 5, none⟩ = some (.int .i64 m.epoch) ∧ w'.cell? ⟨w.heap.size, 6, none⟩ = some (.int .i64 m.slot) ∧ w'.cell? ⟨w.heap.size, 7, none⟩ = some (.bool m.flag) ∧ w'.cell? ⟨w.heap.size, 8, none⟩ = some (.slice A1 n1 c1) ∧ w'.cell? ⟨w.heap.size, 9, none⟩ = some (.slice A2 n2 c2) ∧ w'.cell? ⟨w.heap.size, 10, none⟩ = some (.slice A3 n3 c3) ∧ w'.cell? ⟨w.heap.size, 11, none⟩ = some (.slice A4 n4 c4) ∧ w'.cell? ⟨w6.heap.size, 0, none⟩ = some (.int .i64 m.kind) ∧ w'.cell? ⟨w6.heap.size, 1, none⟩ = some (.int .i64 m.src) ∧ w'.cell? ⟨w6.heap.size, 2, none⟩ = some (.int .i64 m.dst) ∧ w'.cell? ⟨w6.heap.size, 3, none⟩ = some (.int .i64 m.id) ∧ w'.cell? ⟨w6.heap.size, 4, none⟩ = some (.int .i64 m.rev) ∧ w'.cell? ⟨w6.heap.size, 5, none⟩ = some (.int .i64 m.epoch) ∧ w'.cell? ⟨w6.heap.size, 6, none⟩ = some (.int .i64 m.slot) ∧ w'.cell? ⟨w6.heap.size, 7, none⟩ = some (.bool m.flag) ∧ w'.cell? ⟨w6.heap.size, 8, none⟩ = some (.slice (some ad) n1 c6) ∧ w'.cell? ⟨w6.heap.size, 9, none⟩ = some (.slice A2 n2 c2) ∧ w'.cell? ⟨w6.heap.size, 10, none⟩ = some (.slice A3 n3 c3) ∧ w'.cell? ⟨w6.heap.size, 11, none⟩ = some (.slice A4 n4 c4) ∧ w'.cell? ⟨w10.heap.size, 0, none⟩ = some (.int .i64 y.kind) ∧ w'.cell? ⟨w10.heap.size, 1, none⟩ = some (.int .i64 y.src) ∧ w'.cell? ⟨w10.heap.size, 2, none⟩ = some (.int .i64 y.dst) ∧ w'.cell? ⟨w10.heap.size, 3, none⟩ = some (.int .i64 y.id) ∧ w'.cell? ⟨w10.heap.size, 4, none⟩ = some (.int .i64 y.rev) ∧ w'.cell? ⟨w10.heap.size, 5, none⟩ = some (.int .i64 y.epoch) ∧ w'.cell? ⟨w10.heap.size, 6, none⟩ = some (.int .i64 y.slot) ∧ w'.cell? ⟨w10.heap.size, 7, none⟩ = some (.bool y.flag) ∧ w'.cell? ⟨w10.heap.size, 8, none⟩ = some (.slice T1 p1 d1) ∧ w'.cell? ⟨w10.heap.size, 9, none⟩ = some (.slice T2 p2 d2) ∧ w'.cell? ⟨w10.heap.size, 10, none⟩ = some (.slice T3 p3 d3) ∧ w'.cell? ⟨w10.heap.size, 11, none⟩ = some (.slice T4 p4 d4) ∧ w'.cell? ⟨w12.heap.size, 0, none⟩ = some (.int .i64 y.kind) ∧ w'.cell? ⟨w12.heap.size, 1, none⟩ = some (.int .i64 y.src) ∧ w'.cell? ⟨w12.heap.size, 2, none⟩ = some (.int .i64 y.dst) ∧ w'.cell? ⟨w12.heap.size, 3, none⟩ = some (.int .i64 y.id) ∧ w'.cell? ⟨w12.heap.size, 4, none⟩ = some (.int .i64 y.rev) ∧ w'.cell? ⟨w12.heap.size, 5, none⟩ = some (.int .i64 y.epoch) ∧ w'.cell? ⟨w12.heap.size, 6, none⟩ = some (.int .i64 y.slot) ∧ w'.cell? ⟨w12.heap.size, 7, none⟩ = some (.bool y.flag) ∧ w'.cell? ⟨w12.heap.size, 8, none⟩ = some (.slice U1 q1 e1) ∧ w'.cell? ⟨w12.heap.size, 9, none⟩ = some (.slice U2 q2 e2) ∧ w'.cell? ⟨w12.heap.size, 10, none⟩ = some (.slice U3 q3 e3) ∧ w'.cell? ⟨w12.heap.size, 11, none⟩ = some (.slice U4 q4 e4) ∧ w'.cell? (ad.add n1) = some (.int .i64 77)) (ds := []) #[false, false, false, false, false, false, false, false, false, false, false, false, false, false, false, false, false, false, false, false, false, false, false, false, false, false, false, false] (by kernel_rfl) rfl rfl ⟨ka0, ka1, ka2, ka3, ka4, ka5, ka6, ka7, ka8, ka9, ka10, ka11, pa0, pa1, pa2, pa3, pa4, pa5, pa6, pa7, pa8, pa9, pa10, pa11, ua0, ua1, ua2, ua3, ua4, ua5, ua6, ua7, ua8, ua9, ua10, ua11, va0, va1, va2, va3, va4, va5, va6, va7, va8, va9, va10, va11, c77⟩ (fun hHeld => ?_)
      refine take_ (i := 0) (N := some 55) (v := ?_) (a' := ?_) #[true, false, false, false, false, false, false, false, false, false, false, false, false, false, false, false, false, false, false, false, false, false, false, false, false, false, false, false] rfl rfl (by kernel_rfl) (fun _ _ _ h => h) (Or.inl ⟨by rfl, ?_⟩) hHeld ?_ ?_
      rotate_left
      · rintro w' ⟨s0, s1, s2, s3, s4, s5, s6, s7, s8, s9, s10, s11, s12, s13, s14, s15, s16, s17, s18, s19, s20, s21, s22, s23, s24, s25, s26, s27, s28, s29, s30, s31, s32, s33, s34, s35, s36, s37, s38, s39, s40, s41, s42, s43, s44, s45, s46, s47, s48⟩
        go_simp
        with_reducible rfl
      rotate_left
      · simp only [Act.put, List.setIfInBounds_toArray, List.set_cons_zero, List.set_cons_succ, i64_w, i32_w]
        rfl
      refine take_ (i := 1) (N := some 56) (v := ?_) (a' := ?_) #[true, true, false, false, false, false, false, false, false, false, false, false, false, false, false, false, false, false, false, false, false, false, false, false, false, false, false, false] rfl rfl (by kernel_rfl) (fun _ _ _ h => h) (Or.inl ⟨by rfl, ?_⟩) hHeld ?_ ?_
      rotate_left
      · rintro w' ⟨s0, s1, s2, s3, s4, s5, s6, s7, s8, s9, s10, s11, s12, s13, s14, s15, s16, s17, s18, s19, s20, s21, s22, s23, s24, s25, s26, s27, s28, s29, s30, s31, s32, s33, s34, s35, s36, s37, s38, s39, s40, s41, s42, s43, s44, s45, s46, s47, s48⟩
        go_simp
        with_reducible rfl
      rotate_left
      · simp only [Act.put, List.setIfInBounds_toArray, List.set_cons_zero, List.set_cons_succ, i64_w, i32_w]
        rfl
      refine one_ (i := 2) (N := some 57) #[true, true, true, false, false, false, false, false, false, false, false, false, false, false, false, false, false, false, false, false, false, false, false, false, false, false, false, false] rfl rfl (by kernel_rfl) (by decide) (fun K hK => ?_)
      refine goes_ Try.func30 (by kernel_rfl) rfl #[.agg #[.int .i64 m.kind, .int .i64 m.src, .int .i64 m.dst, .int .i64 m.id, .int .i64 m.rev, .int .i64 m.epoch, .int .i64 m.slot, .bool m.flag, .slice A1 n1 c1, .slice A2 n2 c2, .slice A3 n3 c3, .slice A4 n4 c4], .agg #[.int .i64 m.kind, .int .i64 m.src, .int .i64 m.dst, .int .i64 m.id, .int .i64 m.rev, .int .i64 m.epoch, .int .i64 m.slot, .bool m.flag, .slice (some ad) n1 c6, .slice A2 n2 c2, .slice A3 n3 c3, .slice A4 n4 c4]] (by rfl) rfl rfl (by simp only [List.map_toArray, List.map_cons, List.map_nil]; rfl) ?_
      with_reducible refine (same_ok m.kind m.kind m.src m.src m.dst m.dst m.id m.id m.rev m.rev m.epoch m.epoch m.slot m.slot m.flag m.flag m.nodes m.nodes m.muts m.muts m.pre m.pre m.rows m.rows A1 A2 A3 A4 (some ad) A2 A3 A4 n1 n2 n3 n4 c1 c2 c3 c4 n1 n2 n3 n4 c6 c2 c3 c4 _ (MC.out.below H20d.out.below) ⟨nodes_C (n := n1) (c := c6) (H20d.out.at (crow 1 3 (some ad) (n1 + 1) c6 (m.nodes.map (Value.int .i64) ++ [.int .i64 77]))) NN.out (by have := LE.out; omega), Kd.C_below MC.out.c2 H20d.out.below, Kd.C_below MC.out.c3 H20d.out.below, Kd.C_below MC.out.c4 H20d.out.below⟩).mono ?_
      rintro e w14 ⟨bb, rfl, hbb, hbel⟩
      refine ⟨_, rfl, ?_⟩
      obtain rfl : bb = true := hbb.2 rfl
      have H21 := Aside0.mk (H20d.out.from_below hbel)
      clear hbb hbel
      have kb0 := H21.out.cellAt w.heap.size 0 (v := .int .i64 m.kind) rfl
      have kb1 := H21.out.cellAt w.heap.size 1 (v := .int .i64 m.src) rfl
      have kb2 := H21.out.cellAt w.heap.size 2 (v := .int .i64 m.dst) rfl
      have kb3 := H21.out.cellAt w.heap.size 3 (v := .int .i64 m.id) rfl
      have kb4 := H21.out.cellAt w.heap.size 4 (v := .int .i64 m.rev) rfl
      have kb5 := H21.out.cellAt w.heap.size 5 (v := .int .i64 m.epoch) rfl
      have kb6 := H21.out.cellAt w.heap.size 6 (v := .int .i64 m.slot) rfl
      have kb7 := H21.out.cellAt w.heap.size 7 (v := .bool m.flag) rfl
      have kb8 := H21.out.cellAt w.heap.size 8 (v := .slice A1 n1 c1) rfl
      have kb9 := H21.out.cellAt w.heap.size 9 (v := .slice A2 n2 c2) rfl
      have kb10 := H21.out.cellAt w.heap.size 10 (v := .slice A3 n3 c3) rfl
      have kb11 := H21.out.cellAt w.heap.size 11 (v := .slice A4 n4 c4) rfl
      have pb0 := H21.out.cellAt w6.heap.size 0 (v := .int .i64 m.kind) rfl
      have pb1 := H21.out.cellAt w6.heap.size 1 (v := .int .i64 m.src) rfl
      have pb2 := H21.out.cellAt w6.heap.size 2 (v := .int .i64 m.dst) rfl
      have pb3 := H21.out.cellAt w6.heap.size 3 (v := .int .i64 m.id) rfl
      have pb4 := H21.out.cellAt w6.heap.size 4 (v := .int .i64 m.rev) rfl
      have pb5 := H21.out.cellAt w6.heap.size 5 (v := .int .i64 m.epoch) rfl
      have pb6 := H21.out.cellAt w6.heap.size 6 (v := .int .i64 m.slot) rfl
      have pb7 := H21.out.cellAt w6.heap.size 7 (v := .bool m.flag) rfl
      have pb8 := H21.out.cellAt w6.heap.size 8 (v := .slice (some ad) n1 c6) rfl
      have pb9 := H21.out.cellAt w6.heap.size 9 (v := .slice A2 n2 c2) rfl
      have pb10 := H21.out.cellAt w6.heap.size 10 (v := .slice A3 n3 c3) rfl
      have pb11 := H21.out.cellAt w6.heap.size 11 (v := .slice A4 n4 c4) rfl
      have ub0 := H21.out.cellAt w10.heap.size 0 (v := .int .i64 y.kind) rfl
      have ub1 := H21.out.cellAt w10.heap.size 1 (v := .int .i64 y.src) rfl
      have ub2 := H21.out.cellAt w10.heap.size 2 (v := .int .i64 y.dst) rfl
      have ub3 := H21.out.cellAt w10.heap.size 3 (v := .int .i64 y.id) rfl
      have ub4 := H21.out.cellAt w10.heap.size 4 (v := .int .i64 y.rev) rfl
      have ub5 := H21.out.cellAt w10.heap.size 5 (v := .int .i64 y.epoch) rfl
      have ub6 := H21.out.cellAt w10.heap.size 6 (v := .int .i64 y.slot) rfl
      have ub7 := H21.out.cellAt w10.heap.size 7 (v := .bool y.flag) rfl
      have ub8 := H21.out.cellAt w10.heap.size 8 (v := .slice T1 p1 d1) rfl
      have ub9 := H21.out.cellAt w10.heap.size 9 (v := .slice T2 p2 d2) rfl
      have ub10 := H21.out.cellAt w10.heap.size 10 (v := .slice T3 p3 d3) rfl
      have ub11 := H21.out.cellAt w10.heap.size 11 (v := .slice T4 p4 d4) rfl
      have vb0 := H21.out.cellAt w12.heap.size 0 (v := .int .i64 y.kind) rfl
      have vb1 := H21.out.cellAt w12.heap.size 1 (v := .int .i64 y.src) rfl
      have vb2 := H21.out.cellAt w12.heap.size 2 (v := .int .i64 y.dst) rfl
      have vb3 := H21.out.cellAt w12.heap.size 3 (v := .int .i64 y.id) rfl
      have vb4 := H21.out.cellAt w12.heap.size 4 (v := .int .i64 y.rev) rfl
      have vb5 := H21.out.cellAt w12.heap.size 5 (v := .int .i64 y.epoch) rfl
      have vb6 := H21.out.cellAt w12.heap.size 6 (v := .int .i64 y.slot) rfl
      have vb7 := H21.out.cellAt w12.heap.size 7 (v := .bool y.flag) rfl
      have vb8 := H21.out.cellAt w12.heap.size 8 (v := .slice U1 q1 e1) rfl
      have vb9 := H21.out.cellAt w12.heap.size 9 (v := .slice U2 q2 e2) rfl
      have vb10 := H21.out.cellAt w12.heap.size 10 (v := .slice U3 q3 e3) rfl
      have vb11 := H21.out.cellAt w12.heap.size 11 (v := .slice U4 q4 e4) rfl
      have c77b := nodes_77 (H21.out.at (crow 1 3 (some ad) (n1 + 1) c6 (m.nodes.map (Value.int .i64) ++ [.int .i64 77]))) NN.out
      refine hK.out _ _ ⟨kb0, kb1, kb2, kb3, kb4, kb5, kb6, kb7, kb8, kb9, kb10, kb11, pb0, pb1, pb2, pb3, pb4, pb5, pb6, pb7, pb8, pb9, pb10, pb11, ub0, ub1, ub2, ub3, ub4, ub5, ub6, ub7, ub8, ub9, ub10, ub11, vb0, vb1, vb2, vb3, vb4, vb5, vb6, vb7, vb8, vb9, vb10, vb11, c77b⟩ (fun hHeld => ?_)
      clear hK K
      refine norm_ (a' := ?_) ?_ ?_
      rotate_left
      · show Act.put _ (some 57) _ = _
        simp only [Act.put, List.setIfInBounds_toArray, List.set_cons_zero, List.set_cons_succ, i64_w, i32_w]
        rfl
      refine pure_ (i := 3) (N := some 58) (v := ?_) (a' := ?_) #[true, true, true, true, false, false, false, false, false, false, false, false, false, false, false, false, false, false, false, false, false, false, false, false, false, false, false, false] rfl rfl (by kernel_rfl) (fun _ _ _ h => h) (Or.inl ⟨by rfl, ?_⟩) ?_ ?_
      rotate_left
      · intro w'
        go_simp
        with_reducible rfl
      rotate_left
      · simp only [Act.put, List.setIfInBounds_toArray, List.set_cons_zero, List.set_cons_succ, i64_w, i32_w]
        rfl
      refine pure_ (i := 4) (N := some 59) (v := ?_) (a' := ?_) #[true, true, true, true, true, false, false, false, false, false, false, false, false, false, false, false, false, false, false, false, false, false, false, false, false, false, false, false] rfl rfl (by kernel_rfl) (fun _ _ _ h => h) (Or.inl ⟨by rfl, ?_⟩) ?_ ?_
      rotate_left
      · intro w'
        go_simp
        with_reducible rfl
      rotate_left
      · simp only [Act.put, List.setIfInBounds_toArray, List.set_cons_zero, List.set_cons_succ, i64_w, i32_w]
        rfl
      refine pure_ (i := 5) (N := some 60) (v := ?_) (a' := ?_) #[true, true, true, true, true, true, false, false, false, false, false, false, false, false, false, false, false, false, false, false, false, false, false, false, false, false, false, false] rfl rfl (by kernel_rfl) (fun _ _ _ h => h) (Or.inl ⟨by rfl, ?_⟩) ?_ ?_
      rotate_left
      · intro w'
        go_simp
        with_reducible rfl
      rotate_left
      · simp only [Act.put, List.setIfInBounds_toArray, List.set_cons_zero, List.set_cons_succ, i64_w, i32_w]
        rfl
      refine pure_ (i := 10) (N := some 65) (v := ?_) (a' := ?_) #[true, true, true, true, true, true, false, false, false, false, true, false, false, false, false, false, false, false, false, false, false, false, false, false, false, false, false, false] rfl rfl (by kernel_rfl) (fun _ _ _ h => h) (Or.inl ⟨by rfl, ?_⟩) ?_ ?_
      rotate_left
      · intro w'
        go_simp
        with_reducible rfl
      rotate_left
      · simp only [Act.put, List.setIfInBounds_toArray, List.set_cons_zero, List.set_cons_succ, i64_w, i32_w]
        rfl
      refine take_ (i := 6) (N := some 61) (v := ?_) (a' := ?_) #[true, true, true, true, true, true, true, false, false, false, true, false, false, false, false, false, false, false, false, false, false, false, false, false, false, false, false, false] rfl rfl (by kernel_rfl) (fun _ _ _ h => h) (Or.inl ⟨by rfl, ?_⟩) hHeld ?_ ?_
      rotate_left
      · rintro w' ⟨s0, s1, s2, s3, s4, s5, s6, s7, s8, s9, s10, s11, s12, s13, s14, s15, s16, s17, s18, s19, s20, s21, s22, s23, s24, s25, s26, s27, s28, s29, s30, s31, s32, s33, s34, s35, s36, s37, s38, s39, s40, s41, s42, s43, s44, s45, s46, s47, s48⟩
        go_simp
        with_reducible rfl
      rotate_left
      · simp only [Act.put, List.setIfInBounds_toArray, List.set_cons_zero, List.set_cons_succ, i64_w, i32_w]
        rfl
      refine pure_ (i := 7) (N := some 62) (v := ?_) (a' := ?_) #[true, true, true, true, true, true, true, true, false, false, true, false, false, false, false, false, false, false, false, false, false, false, false, false, false, false, false, false] rfl rfl (by kernel_rfl) (fun _ _ _ h => h) (Or.inl ⟨by rfl, ?_⟩) ?_ ?_
      rotate_left
      · intro w'
        go_simp
        with_reducible rfl
      rotate_left
      · simp only [Act.put, List.setIfInBounds_toArray, List.set_cons_zero, List.set_cons_succ, i64_w, i32_w]
        rfl
      refine pure_ (i := 8) (N := some 63) (v := ?_) (a' := ?_) #[true, true, true, true, true, true, true, true, true, false, true, false, false, false, false, false, false, false, false, false, false, false, false, false, false, false, false, false] rfl rfl (by kernel_rfl) (fun _ _ _ h => h) (Or.inl ⟨by rfl, ?_⟩) ?_ ?_
      rotate_left
      · intro w'
        go_simp
        with_reducible rfl
      rotate_left
      · simp only [Act.put, List.setIfInBounds_toArray, List.set_cons_zero, List.set_cons_succ, i64_w, i32_w]
        rfl
      refine pure_ (i := 9) (N := some 64) (v := ?_) (a' := ?_) #[true, true, true, true, true, true, true, true, true, true, true, false, false, false, false, false, false, false, false, false, false, false, false, false, false, false, false, false] rfl rfl (by kernel_rfl) (fun _ _ _ h => h) (Or.inl ⟨by rfl, ?_⟩) ?_ ?_
      rotate_left
      · intro w'
        go_simp
        with_reducible rfl
      rotate_left
      · simp only [Act.put, List.setIfInBounds_toArray, List.set_cons_zero, List.set_cons_succ, i64_w, i32_w]
        rfl
      refine take_ (i := 11) (N := some 66) (v := ?_) (a' := ?_) #[true, true, true, true, true, true, true, true, true, true, true, true, false, false, false, false, false, false, false, false, false, false, false, false, false, false, false, false] rfl rfl (by kernel_rfl) (fun _ _ _ h => h) (Or.inl ⟨by rfl, ?_⟩) hHeld ?_ ?_
      rotate_left
      · rintro w' ⟨s0, s1, s2, s3, s4, s5, s6, s7, s8, s9, s10, s11, s12, s13, s14, s15, s16, s17, s18, s19, s20, s21, s22, s23, s24, s25, s26, s27, s28, s29, s30, s31, s32, s33, s34, s35, s36, s37, s38, s39, s40, s41, s42, s43, s44, s45, s46, s47, s48⟩
        go_simp
        with_reducible rfl
      rotate_left
      · simp only [Act.put, List.setIfInBounds_toArray, List.set_cons_zero, List.set_cons_succ, i64_w, i32_w]
        rfl
      refine pure_ (i := 12) (N := some 67) (v := ?_) (a' := ?_) #[true, true, true, true, true, true, true, true, true, true, true, true, true, false, false, false, false, false, false, false, false, false, false, false, false, false, false, false] rfl rfl (by kernel_rfl) (fun _ _ _ h => h) (Or.inl ⟨by rfl, ?_⟩) ?_ ?_
      rotate_left
      · intro w'
        go_simp
        with_reducible rfl
      rotate_left
      · simp only [Act.put, List.setIfInBounds_toArray, List.set_cons_zero, List.set_cons_succ, i64_w, i32_w]
        rfl
      refine pure_ (i := 13) (N := some 68) (v := ?_) (a' := ?_) #[true, true, true, true, true, true, true, true, true, true, true, true, true, true, false, false, false, false, false, false, false, false, false, false, false, false, false, false] rfl rfl (by kernel_rfl) (fun _ _ _ h => h) (Or.inl ⟨by rfl, ?_⟩) ?_ ?_
      rotate_left
      · intro w'
        go_simp
        with_reducible rfl
      rotate_left
      · simp only [Act.put, List.setIfInBounds_toArray, List.set_cons_zero, List.set_cons_succ, i64_w, i32_w]
        rfl
      refine take_ (i := 14) (N := some 69) (v := ?_) (a' := ?_) #[true, true, true, true, true, true, true, true, true, true, true, true, true, true, true, false, false, false, false, false, false, false, false, false, false, false, false, false] rfl rfl (by kernel_rfl) (fun _ _ _ h => h) (Or.inl ⟨by rfl, ?_⟩) hHeld ?_ ?_
      rotate_left
      · rintro w' ⟨s0, s1, s2, s3, s4, s5, s6, s7, s8, s9, s10, s11, s12, s13, s14, s15, s16, s17, s18, s19, s20, s21, s22, s23, s24, s25, s26, s27, s28, s29, s30, s31, s32, s33, s34, s35, s36, s37, s38, s39, s40, s41, s42, s43, s44, s45, s46, s47, s48⟩
        go_simp
        with_reducible rfl
      rotate_left
      · simp only [Act.put, List.setIfInBounds_toArray, List.set_cons_zero, List.set_cons_succ, i64_w, i32_w]
        rfl
      refine pure_ (i := 15) (N := some 70) (v := ?_) (a' := ?_) #[true, true, true, true, true, true, true, true, true, true, true, true, true, true, true, true, false, false, false, false, false, false, false, false, false, false, false, false] rfl rfl (by kernel_rfl) (fun _ _ _ h => h) (Or.inl ⟨by rfl, ?_⟩) ?_ ?_
      rotate_left
      · intro w'
        go_simp
        with_reducible rfl
      rotate_left
      · simp only [Act.put, List.setIfInBounds_toArray, List.set_cons_zero, List.set_cons_succ, i64_w, i32_w]
        rfl
      refine pure_ (i := 16) (N := some 71) (v := ?_) (a' := ?_) #[true, true, true, true, true, true, true, true, true, true, true, true, true, true, true, true, true, false, false, false, false, false, false, false, false, false, false, false] rfl rfl (by kernel_rfl) (fun _ _ _ h => h) (Or.inl ⟨by rfl, ?_⟩) ?_ ?_
      rotate_left
      · intro w'
        go_simp
        with_reducible rfl
      rotate_left
      · simp only [Act.put, List.setIfInBounds_toArray, List.set_cons_zero, List.set_cons_succ, i64_w, i32_w]
        rfl
      refine pure_ (i := 17) (N := some 72) (v := ?_) (a' := ?_) #[true, true, true, true, true, true, true, true, true, true, true, true, true, true, true, true, true, true, false, false, false, false, false, false, false, false, false, false] rfl rfl (by kernel_rfl) (fun _ _ _ h => h) (Or.inl ⟨by rfl, ?_⟩) ?_ ?_
      rotate_left
      · intro w'
        go_simp
        with_reducible rfl
      rotate_left
      · simp only [Act.put, List.setIfInBounds_toArray, List.set_cons_zero, List.set_cons_succ, i64_w, i32_w]
        rfl
      refine pure_ (i := 18) (N := some 73) (v := ?_) (a' := ?_) #[true, true, true, true, true, true, true, true, true, true, true, true, true, true, true, true, true, true, true, false, false, false, false, false, false, false, false, false] rfl rfl (by kernel_rfl) (fun _ _ _ h => h) (Or.inl ⟨by rfl, ?_⟩) ?_ ?_
      rotate_left
      · intro w'
        go_simp
        with_reducible rfl
      rotate_left
      · simp only [Act.put, List.setIfInBounds_toArray, List.set_cons_zero, List.set_cons_succ, i64_w, i32_w]
        rfl
      refine pure_ (i := 19) (N := some 74) (v := ?_) (a' := ?_) #[true, true, true, true, true, true, true, true, true, true, true, true, true, true, true, true, true, true, true, true, false, false, false, false, false, false, false, false] rfl rfl (by kernel_rfl) (fun _ _ _ h => h) (Or.inl ⟨by rfl, ?_⟩) ?_ ?_
      rotate_left
      · intro w'
        go_simp
        with_reducible rfl
      rotate_left
      · simp only [Act.put, List.setIfInBounds_toArray, List.set_cons_zero, List.set_cons_succ, i64_w, i32_w]
        rfl
      refine pure_ (i := 20) (N := some 75) (v := ?_) (a' := ?_) #[true, true, true, true, true, true, true, true, true, true, true, true, true, true, true, true, true, true, true, true, true, false, false, false, false, false, false, false] rfl rfl (by kernel_rfl) (fun _ _ _ h => h) (Or.inl ⟨by rfl, ?_⟩) ?_ ?_
      rotate_left
      · intro w'
        go_simp
        with_reducible rfl
      rotate_left
      · simp only [Act.put, List.setIfInBounds_toArray, List.set_cons_zero, List.set_cons_succ, i64_w, i32_w]
        rfl
      refine pure_ (i := 21) (N := some 76) (v := ?_) (a' := ?_) #[true, true, true, true, true, true, true, true, true, true, true, true, true, true, true, true, true, true, true, true, true, true, false, false, false, false, false, false] rfl rfl (by kernel_rfl) (fun _ _ _ h => h) (Or.inl ⟨by rfl, ?_⟩) ?_ ?_
      rotate_left
      · intro w'
        go_simp
        with_reducible rfl
      rotate_left
      · simp only [Act.put, List.setIfInBounds_toArray, List.set_cons_zero, List.set_cons_succ, i64_w, i32_w]
        rfl
      refine pure_ (i := 22) (N := some 77) (v := ?_) (a' := ?_) #[true, true, true, true, true, true, true, true, true, true, true, true, true, true, true, true, true, true, true, true, true, true, true, false, false, false, false, false] rfl rfl (by kernel_rfl) (fun _ _ _ h => h) (Or.inl ⟨by rfl, ?_⟩) ?_ ?_
      rotate_left
      · intro w'
        go_simp
        with_reducible rfl
      rotate_left
      · simp only [Act.put, List.setIfInBounds_toArray, List.set_cons_zero, List.set_cons_succ, i64_w, i32_w]
        rfl
      refine take_ (i := 23) (N := some 78) (v := ?_) (a' := ?_) #[true, true, true, true, true, true, true, true, true, true, true, true, true, true, true, true, true, true, true, true, true, true, true, true, false, false, false, false] rfl rfl (by kernel_rfl) (fun _ _ _ h => h) (Or.inl ⟨by rfl, ?_⟩) hHeld ?_ ?_
      rotate_left
      · rintro w' ⟨s0, s1, s2, s3, s4, s5, s6, s7, s8, s9, s10, s11, s12, s13, s14, s15, s16, s17, s18, s19, s20, s21, s22, s23, s24, s25, s26, s27, s28, s29, s30, s31, s32, s33, s34, s35, s36, s37, s38, s39, s40, s41, s42, s43, s44, s45, s46, s47, s48⟩
        go_simp
        with_reducible rfl
      rotate_left
      · simp only [Act.put, List.setIfInBounds_toArray, List.set_cons_zero, List.set_cons_succ, i64_w, i32_w]
        rfl
      refine take_ (i := 24) (N := some 79) (v := ?_) (a' := ?_) #[true, true, true, true, true, true, true, true, true, true, true, true, true, true, true, true, true, true, true, true, true, true, true, true, true, false, false, false] rfl rfl (by kernel_rfl) (fun _ _ _ h => h) (Or.inl ⟨by rfl, ?_⟩) hHeld ?_ ?_
      rotate_left
      · rintro w' ⟨s0, s1, s2, s3, s4, s5, s6, s7, s8, s9, s10, s11, s12, s13, s14, s15, s16, s17, s18, s19, s20, s21, s22, s23, s24, s25, s26, s27, s28, s29, s30, s31, s32, s33, s34, s35, s36, s37, s38, s39, s40, s41, s42, s43, s44, s45, s46, s47, s48⟩
        go_simp
        with_reducible rfl
      rotate_left
      · simp only [Act.put, List.setIfInBounds_toArray, List.set_cons_zero, List.set_cons_succ, i64_w, i32_w]
        rfl
      refine one_ (i := 25) (N := some 80) #[true, true, true, true, true, true, true, true, true, true, true, true, true, true, true, true, true, true, true, true, true, true, true, true, true, true, false, false] rfl rfl (by kernel_rfl) (by decide) (fun K hK => ?_)
      refine goes_ Try.func30 (by kernel_rfl) rfl #[.agg #[.int .i64 y.kind, .int .i64 y.src, .int .i64 y.dst, .int .i64 y.id, .int .i64 y.rev, .int .i64 y.epoch, .int .i64 y.slot, .bool y.flag, .slice T1 p1 d1, .slice T2 p2 d2, .slice T3 p3 d3, .slice T4 p4 d4], .agg #[.int .i64 y.kind, .int .i64 y.src, .int .i64 y.dst, .int .i64 y.id, .int .i64 y.rev, .int .i64 y.epoch, .int .i64 y.slot, .bool y.flag, .slice U1 q1 e1, .slice U2 q2 e2, .slice U3 q3 e3, .slice U4 q4 e4]] (by rfl) rfl rfl (by simp only [List.map_toArray, List.map_cons, List.map_nil]; rfl) ?_
      with_reducible refine (same_ok y.kind y.kind y.src y.src y.dst y.dst y.id y.id y.rev y.rev y.epoch y.epoch y.slot y.slot y.flag y.flag y.nodes y.nodes y.muts y.muts y.pre y.pre y.rows y.rows T1 T2 T3 T4 U1 U2 U3 U4 p1 p2 p3 p4 d1 d2 d3 d4 q1 q2 q3 q4 e1 e2 e3 e4 _ (msgC_of HY.out (H21.out.at (listsP y.nodes y.muts y.pre y.rows (T1, p1, d1) (T2, p2, d2) (T3, p3, d3) (T4, p4, d4)))) (msgC_of HZ.out (H21.out.at (listsP y.nodes y.muts y.pre y.rows (U1, q1, e1) (U2, q2, e2) (U3, q3, e3) (U4, q4, e4))))).mono ?_
      rintro e w15 ⟨bb, rfl, hbb, hbel⟩
      refine ⟨_, rfl, ?_⟩
      obtain rfl : bb = true := hbb.2 rfl
      have H22 := Aside0.mk (H21.out.from_below hbel)
      clear hbb hbel
      have kc0 := H22.out.cellAt w.heap.size 0 (v := .int .i64 m.kind) rfl
      have kc1 := H22.out.cellAt w.heap.size 1 (v := .int .i64 m.src) rfl
      have kc2 := H22.out.cellAt w.heap.size 2 (v := .int .i64 m.dst) rfl
      have kc3 := H22.out.cellAt w.heap.size 3 (v := .int .i64 m.id) rfl
      have kc4 := H22.out.cellAt w.heap.size 4 (v := .int .i64 m.rev) rfl
      have kc5 := H22.out.cellAt w.heap.size 5 (v := .int .i64 m.epoch) rfl
      have kc6 := H22.out.cellAt w.heap.size 6 (v := .int .i64 m.slot) rfl
      have kc7 := H22.out.cellAt w.heap.size 7 (v := .bool m.flag) rfl
      have kc8 := H22.out.cellAt w.heap.size 8 (v := .slice A1 n1 c1) rfl
      have kc9 := H22.out.cellAt w.heap.size 9 (v := .slice A2 n2 c2) rfl
      have kc10 := H22.out.cellAt w.heap.size 10 (v := .slice A3 n3 c3) rfl
      have kc11 := H22.out.cellAt w.heap.size 11 (v := .slice A4 n4 c4) rfl
      have pc0 := H22.out.cellAt w6.heap.size 0 (v := .int .i64 m.kind) rfl
      have pc1 := H22.out.cellAt w6.heap.size 1 (v := .int .i64 m.src) rfl
      have pc2 := H22.out.cellAt w6.heap.size 2 (v := .int .i64 m.dst) rfl
      have pc3 := H22.out.cellAt w6.heap.size 3 (v := .int .i64 m.id) rfl
      have pc4 := H22.out.cellAt w6.heap.size 4 (v := .int .i64 m.rev) rfl
      have pc5 := H22.out.cellAt w6.heap.size 5 (v := .int .i64 m.epoch) rfl
      have pc6 := H22.out.cellAt w6.heap.size 6 (v := .int .i64 m.slot) rfl
      have pc7 := H22.out.cellAt w6.heap.size 7 (v := .bool m.flag) rfl
      have pc8 := H22.out.cellAt w6.heap.size 8 (v := .slice (some ad) n1 c6) rfl
      have pc9 := H22.out.cellAt w6.heap.size 9 (v := .slice A2 n2 c2) rfl
      have pc10 := H22.out.cellAt w6.heap.size 10 (v := .slice A3 n3 c3) rfl
      have pc11 := H22.out.cellAt w6.heap.size 11 (v := .slice A4 n4 c4) rfl
      have uc0 := H22.out.cellAt w10.heap.size 0 (v := .int .i64 y.kind) rfl
      have uc1 := H22.out.cellAt w10.heap.size 1 (v := .int .i64 y.src) rfl
      have uc2 := H22.out.cellAt w10.heap.size 2 (v := .int .i64 y.dst) rfl
      have uc3 := H22.out.cellAt w10.heap.size 3 (v := .int .i64 y.id) rfl
      have uc4 := H22.out.cellAt w10.heap.size 4 (v := .int .i64 y.rev) rfl
      have uc5 := H22.out.cellAt w10.heap.size 5 (v := .int .i64 y.epoch) rfl
      have uc6 := H22.out.cellAt w10.heap.size 6 (v := .int .i64 y.slot) rfl
      have uc7 := H22.out.cellAt w10.heap.size 7 (v := .bool y.flag) rfl
      have uc8 := H22.out.cellAt w10.heap.size 8 (v := .slice T1 p1 d1) rfl
      have uc9 := H22.out.cellAt w10.heap.size 9 (v := .slice T2 p2 d2) rfl
      have uc10 := H22.out.cellAt w10.heap.size 10 (v := .slice T3 p3 d3) rfl
      have uc11 := H22.out.cellAt w10.heap.size 11 (v := .slice T4 p4 d4) rfl
      have vc0 := H22.out.cellAt w12.heap.size 0 (v := .int .i64 y.kind) rfl
      have vc1 := H22.out.cellAt w12.heap.size 1 (v := .int .i64 y.src) rfl
      have vc2 := H22.out.cellAt w12.heap.size 2 (v := .int .i64 y.dst) rfl
      have vc3 := H22.out.cellAt w12.heap.size 3 (v := .int .i64 y.id) rfl
      have vc4 := H22.out.cellAt w12.heap.size 4 (v := .int .i64 y.rev) rfl
      have vc5 := H22.out.cellAt w12.heap.size 5 (v := .int .i64 y.epoch) rfl
      have vc6 := H22.out.cellAt w12.heap.size 6 (v := .int .i64 y.slot) rfl
      have vc7 := H22.out.cellAt w12.heap.size 7 (v := .bool y.flag) rfl
      have vc8 := H22.out.cellAt w12.heap.size 8 (v := .slice U1 q1 e1) rfl
      have vc9 := H22.out.cellAt w12.heap.size 9 (v := .slice U2 q2 e2) rfl
      have vc10 := H22.out.cellAt w12.heap.size 10 (v := .slice U3 q3 e3) rfl
      have vc11 := H22.out.cellAt w12.heap.size 11 (v := .slice U4 q4 e4) rfl
      have c77c := nodes_77 (H22.out.at (crow 1 3 (some ad) (n1 + 1) c6 (m.nodes.map (Value.int .i64) ++ [.int .i64 77]))) NN.out
      refine hK.out _ _ ⟨kc0, kc1, kc2, kc3, kc4, kc5, kc6, kc7, kc8, kc9, kc10, kc11, pc0, pc1, pc2, pc3, pc4, pc5, pc6, pc7, pc8, pc9, pc10, pc11, uc0, uc1, uc2, uc3, uc4, uc5, uc6, uc7, uc8, uc9, uc10, uc11, vc0, vc1, vc2, vc3, vc4, vc5, vc6, vc7, vc8, vc9, vc10, vc11, c77c⟩ (fun hHeld => ?_)
      clear hK K
      refine norm_ (a' := ?_) ?_ ?_
      rotate_left
      · show Act.put _ (some 80) _ = _
        simp only [Act.put, List.setIfInBounds_toArray, List.set_cons_zero, List.set_cons_succ, i64_w, i32_w]
        rfl
      refine pure_ (i := 26) (N := some 81) (v := ?_) (a' := ?_) #[true, true, true, true, true, true, true, true, true, true, true, true, true, true, true, true, true, true, true, true, true, true, true, true, true, true, true, false] rfl rfl (by kernel_rfl) (fun _ _ _ h => h) (Or.inl ⟨by rfl, ?_⟩) ?_ ?_
      rotate_left
      · intro w'
        go_simp
        with_reducible rfl
      rotate_left
      · simp only [Act.put, List.setIfInBounds_toArray, List.set_cons_zero, List.set_cons_succ, i64_w, i32_w]
        rfl
      refine pure_ (i := 27) (N := some 4) (v := ?_) (a' := ?_) #[true, true, true, true, true, true, true, true, true, true, true, true, true, true, true, true, true, true, true, true, true, true, true, true, true, true, true, true] rfl rfl (by kernel_rfl) (fun _ _ _ h => h) (Or.inl ⟨by rfl, ?_⟩) ?_ ?_
      rotate_left
      · intro w'
        go_simp
        with_reducible rfl
      rotate_left
      · simp only [Act.put, List.setIfInBounds_toArray, List.set_cons_zero, List.set_cons_succ, i64_w, i32_w]
        rfl
      refine done_ (by kernel_rfl) ?_
      go_wp2_with fail
      go_ret
      exact ⟨rfl, H22.out.below⟩
theorem codeKeeps_walk (m : Msg) (s1 s2 s3 s4 : Hdr) (B : Option Addr) (cb : Nat) (bs : List Int) (w : World) (hC : MsgC w m s1 s2 s3 s4) (hok : MsgOk m) (hl : MsgLe m s1 s2 s3 s4)
    (hB : (Kd.int .u8).C w B bs.length bs) (hcb : bs.length ≤ cb) (sb : bs.length * 1 ≤ 140737488351232 ∧ ∀ x ∈ bs, (Lit.int .u8 x).wf = true) :
    Calls Try.prog 12 #[msgV m s1 s2 s3 s4, .slice B bs.length cb] w fun e w' => e = .returned (.bool true) ∧ Below w.heap.size w w' :=
  codeKeeps_ok m s1 s2 s3 s4 B _ cb bs w hC hok ⟨hl.e1.2.1, by rw [hl.e1.1]; exact hl.e1.2.2⟩ hB hcb (by have := sb.1; omega) (bytes_wf sb.2)
end Go.Proofs.Ytloiclalcepbeaa
