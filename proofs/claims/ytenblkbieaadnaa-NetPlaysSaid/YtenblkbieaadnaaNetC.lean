/- The network's functions: Deliver, Copy. -/
import Derived.Test.YtenblkbieaadnaaNetB
set_option linter.unusedVariables false
set_option linter.unusedSimpArgs false
namespace Go.Proofs.Ytenblkbieaadnaa
open Go.RowKit Go.Proofs.YtenblkbieaadnaaW.PrintWords Go.Proofs.YtenblkbieaadnaaW.PrintLast
section
variable {w0 w : World} {F : HP}
/-- The cells of a packet of a row of packets. -/
theorem pkt_at {B : Option Addr} {m cp : Nat} {ps : List Pkt} {hs : List Hdr} (h : Hw w0 w (crow 3 58 B m cp (pcells ps hs) * F)) (hl : hs.length = ps.length) (hm : m = ps.length) (i : Nat) (hi : i < m) :
    ∃ ad f t A n c xs, B = some ad ∧ w.cell? ⟨(ad.add (i * 3)).block, (ad.add (i * 3)).off, none⟩ = some (.int .i64 f) ∧ w.cell? ⟨(ad.add (i * 3)).block, (ad.add (i * 3)).off + 1, none⟩ = some (.int .i64 t) ∧ w.cell? ⟨(ad.add (i * 3)).block, (ad.add (i * 3)).off + 2, none⟩ = some (.slice A n c) ∧
      w.cell? (ad.add (i * 3)) = some (.int .i64 f) ∧ Aside0 (ps[i]? = some (f, t, xs)) ∧ Aside0 (hs[i]? = some (A, n, c)) := by
  obtain ⟨b, off, rfl, hc⟩ := crow_cell h (by omega)
  obtain ⟨⟨f, t, xs⟩, hp⟩ : ∃ p, ps[i]? = some p := ⟨_, List.getElem?_eq_getElem (by omega)⟩
  obtain ⟨⟨A, n, c⟩, hh⟩ : ∃ p, hs[i]? = some p := ⟨_, List.getElem?_eq_getElem (by omega)⟩
  obtain ⟨h0, h1, h2⟩ := pcells_at ps hs i _ _ hp hh
  refine ⟨⟨b, off, none⟩, f, t, A, n, c, xs, rfl, ?_, ?_, ?_, ?_, ⟨hp⟩, ⟨hh⟩⟩
  · rw [Addr.add_lit]; exact (hc _ _ h0).1
  · rw [Addr.add_lit]; exact (hc _ _ h1).1
  · rw [Addr.add_lit]; exact (hc _ _ h2).1
  · rw [Addr.add_lit]; exact (hc _ _ h0).1
set_option maxHeartbeats 1600000 in
set_option maxRecDepth 100000 in
theorem ndeliver_ok (p : Nat) (k : Int) (ps : List Pkt) (i : Nat) (hi : i < ps.length) (hps : ps.length ≤ 4096) (h : Hw w0 w (net p k ps * F)) :
    Calls Try.prog 23 #[.pointer (some ⟨p, 0, none⟩), .int .i64 i] w fun e w' => ∃ f t A n c xs, e = .returned (.tuple #[.agg #[.int .i64 f, .int .i64 t, .slice A n c], .int .i64 0]) ∧ Aside0 (ps[i]? = some (f, t, xs)) ∧ n = xs.length ∧ n ≤ c ∧
      Hw w0 w' (row (Kd.int .u8) 5 (.slice A n c) xs * (net p k (ps.eraseIdx i) * F)) := by
  obtain ⟨b4, hb4⟩ : ∃ b4, b4 = w.heap.size := ⟨_, rfl⟩
  have H1 := Aside0.mk (h.alloc (.cells #[.int .i64 0, .int .i64 0, .slice none 0 0] 58))
  rw [← hb4] at H1
  have HI := Aside0.mk hi
  clear h
  go_enter Try.func23, Try.ntmps23
  go_wp2_with fail
  rw [← hb4]
  clear hb4
  refine (has_yes p k ps i (by omega) (by omega) (H1.out.as (Q := net p k ps * (blk b4 (.cells #[.int .i64 0, .int .i64 0, .slice none 0 0] 58) * F)) (by ac_rfl))).mono ?_
  rintro e w1 ⟨rfl, rfl⟩
  obtain ⟨B, cp, hs, hop, hhs⟩ := net_open (H1.out.as (Q := net p k ps * (blk b4 (.cells #[.int .i64 0, .int .i64 0, .slice none 0 0] 58) * F)) (by ac_rfl))
  have p1 := hop.cell (i := 1) rfl
  obtain ⟨m, hm⟩ : ∃ m, m = ps.length := ⟨_, rfl⟩
  rw [← hm] at p1 hi hps
  have M := Aside0.mk hm
  have HO := Aside0.mk hop
  rw [← hm] at HO
  obtain ⟨ad, f, t, A, n, c, xs, rfl, c0, c1, c2, c3, hpi, hhi⟩ := pkt_at (HO.out.as (Q := crow 3 58 B m cp (pcells ps hs) * (blk p (.cells #[.int .i64 k, .slice B m cp] 82) * (rowsHP (Kd.int .u8) 5 hs (ps.map (·.2.2)) * (blk b4 (.cells #[.int .i64 0, .int .i64 0, .slice none 0 0] 58) * F)))) (by ac_rfl)) hhs hm i hi
  have HL := Aside0.mk hhs
  have b4c := (HO.out.as (Q := blk b4 (.cells #[.int .i64 0, .int .i64 0, .slice none 0 0] 58) * (blk p (.cells #[.int .i64 k, .slice (some ad) m cp] 82) * (crow 3 58 (some ad) m cp (pcells ps hs) * (rowsHP (Kd.int .u8) 5 hs (ps.map (·.2.2)) * F)))) (by ac_rfl))
  have hmc : m ≤ cp := crow_le (HO.out.as (Q := crow 3 58 (some ad) m cp (pcells ps hs) * (blk p (.cells #[.int .i64 k, .slice (some ad) m cp] 82) * (rowsHP (Kd.int .u8) 5 hs (ps.map (·.2.2)) * (blk b4 (.cells #[.int .i64 0, .int .i64 0, .slice none 0 0] 58) * F)))) (by ac_rfl))
  obtain ⟨inf, hinf, hiz⟩ := Option.map_eq_some_iff.1 Try.infoPkt
  simp only [Prod.mk.injEq] at hiz
  have hcm : ∀ W : World, (Instr.slice 71 (.slice (some ad) m cp) none (some (.int .i64 i)) (some (.int .i64 i))).run Try.prog W = .ok (.slice (some ad) i i) W := cut_max 71 58 Try.underlying71 hinf (some ad) m cp i (by omega)
  obtain ⟨D, hD⟩ : ∃ D : Option Addr, D = (if cp = i + 1 then (some ad) else (some ad).map (·.add ((i + 1) * 3))) := ⟨_, rfl⟩
  obtain ⟨m2, hm2⟩ : ∃ m2, m2 = m - (i + 1) := ⟨_, rfl⟩
  obtain ⟨c2', hc2'⟩ : ∃ c2', c2' = cp - (i + 1) := ⟨_, rfl⟩
  have hcf : ∀ W : World, (Instr.slice 71 (.slice (some ad) m cp) (some (.int .i64 ((i : Int) + 1))) none none).run Try.prog W = .ok (.slice D m2 c2') W := by
    intro W
    rw [cut_from 71 58 .i64 Try.underlying71 hinf 3 hiz.2.1 (some ad) m cp ((i : Int) + 1) (by omega) (by omega) W]
    rw [show ((i : Int) + 1).toNat = i + 1 by omega, ← hD, ← hm2, ← hc2']
  have H2 := Aside0.mk ((HO.out.alloc (.cells #[.int .i64 f, .int .i64 t, .slice A n c] 58)).drew)
  rw [World.size_alloc] at H2
  obtain ⟨b6, hb6⟩ : ∃ b6, b6 = w.heap.size + 1 := ⟨_, rfl⟩
  rw [← hb6] at H2
  have HK := Aside0.mk (H2.out.as (Q := crow 3 58 (some ad) m cp (pcells ps hs) * (blk p (.cells #[.int .i64 k, .slice (some ad) m cp] 82) * (rowsHP (Kd.int .u8) 5 hs (ps.map (·.2.2)) * (blk b4 (.cells #[.int .i64 0, .int .i64 0, .slice none 0 0] 58) * (blk b6 (.cells #[.int .i64 f, .int .i64 t, .slice A n c] 58) * F))))) (by ac_rfl))
  have hnl : ((pcells ps hs).drop ((i + 1) * 3)).length = m2 * 3 := by rw [List.length_drop, pcells_len ps hs hhs]; omega
  have NL := Aside0.mk hnl
  have hone : ∀ u ∈ (pcells ps hs).drop ((i + 1) * 3), u.oneCell' = true := fun u hu => pcells_one ps hs u (List.mem_of_mem_drop hu)
  have ONE := Aside0.mk hone
  have hrd : 0 < m2 → ∃ ad', D = some ad' ∧ ∀ j u, ((pcells ps hs).drop ((i + 1) * 3))[j]? = some u → (((w.alloc (.cells #[.int .i64 0, .int .i64 0, .slice none 0 0] 58)).alloc (.cells #[.int .i64 f, .int .i64 t, .slice A n c] 58)).drew).cell? (ad'.add j) = some u := by
    intro hpos
    rw [hD]
    exact crow_reads (crow_drop HK.out (k := i + 1) (by omega)) (by omega)
  have RD := Aside0.mk hrd
  have HT := Aside0.mk (crow_take HK.out (m := i) (c' := i) (by omega) (Nat.le_refl _) (by omega))
  have M2 := Aside0.mk hm2
  have e1 := H2.out.right.cell (i := 1) rfl
  have ew : wrap64 ((i : Int) + 1) = (i : Int) + 1 := by unfold wrap64; omega
  clear hop hhs H1 hm hnl hone hrd hD hm2 hc2' hiz hinf b4c hmc
  go_upto_region 4 with fail
  rw [← hb6]
  clear hb6
  refine start_ (n := 19) (S := fun w' => w'.cell? ⟨p, 1, none⟩ = some (.slice (some ad) m cp)) (ds := [18]) #[false, false, false, false, false, false, false, false, false, false, false, false, false, false, false, false, false, false, false] (by kernel_rfl) rfl rfl (e1) (fun hHeld => ?_)
  refine pure_ (i := 0) (N := some 19) (v := ?_) (a' := ?_) #[true, false, false, false, false, false, false, false, false, false, false, false, false, false, false, false, false, false, false] rfl rfl (by kernel_rfl) (fun _ _ _ h => h) (Or.inl ⟨by rfl, ?_⟩) ?_ ?_
  rotate_left
  · intro w'
    go_simp
    with_reducible rfl
  rotate_left
  · simp only [Act.put, List.setIfInBounds_toArray, List.set_cons_zero, List.set_cons_succ, i64_w, i32_w]
    rfl
  refine pure_ (i := 1) (N := some 20) (v := ?_) (a' := ?_) #[true, true, false, false, false, false, false, false, false, false, false, false, false, false, false, false, false, false, false] rfl rfl (by kernel_rfl) (fun _ _ _ h => h) (Or.inl ⟨by rfl, ?_⟩) ?_ ?_
  rotate_left
  · intro w'
    go_simp
    with_reducible rfl
  rotate_left
  · simp only [Act.put, List.setIfInBounds_toArray, List.set_cons_zero, List.set_cons_succ, i64_w, i32_w]
    rfl
  refine pure_ (i := 2) (N := some 21) (v := ?_) (a' := ?_) #[true, true, true, false, false, false, false, false, false, false, false, false, false, false, false, false, false, false, false] rfl rfl (by kernel_rfl) (fun _ _ _ h => h) (Or.inl ⟨by rfl, ?_⟩) ?_ ?_
  rotate_left
  · intro w'
    go_simp
    with_reducible rfl
  rotate_left
  · simp only [Act.put, List.setIfInBounds_toArray, List.set_cons_zero, List.set_cons_succ, i64_w, i32_w]
    rfl
  refine pure_ (i := 3) (N := some 22) (v := ?_) (a' := ?_) #[true, true, true, true, false, false, false, false, false, false, false, false, false, false, false, false, false, false, false] rfl rfl (by kernel_rfl) (fun _ _ _ h => h) (Or.inl ⟨by rfl, ?_⟩) ?_ ?_
  rotate_left
  · intro w'
    go_simp
    with_reducible rfl
  rotate_left
  · simp only [Act.put, List.setIfInBounds_toArray, List.set_cons_zero, List.set_cons_succ, i64_w, i32_w]
    rfl
  refine pure_ (i := 5) (N := some 24) (v := ?_) (a' := ?_) #[true, true, true, true, false, true, false, false, false, false, false, false, false, false, false, false, false, false, false] rfl rfl (by kernel_rfl) (fun _ _ _ h => h) (Or.inl ⟨by rfl, ?_⟩) ?_ ?_
  rotate_left
  · intro w'
    go_simp
    with_reducible rfl
  rotate_left
  · simp only [Act.put, List.setIfInBounds_toArray, List.set_cons_zero, List.set_cons_succ, i64_w, i32_w]
    rfl
  refine pure_ (i := 6) (N := some 25) (v := ?_) (a' := ?_) #[true, true, true, true, false, true, true, false, false, false, false, false, false, false, false, false, false, false, false] rfl rfl (by kernel_rfl) (fun _ _ _ h => h) (Or.inl ⟨by rfl, ?_⟩) ?_ ?_
  rotate_left
  · intro w'
    go_simp
    with_reducible rfl
  rotate_left
  · simp only [Act.put, List.setIfInBounds_toArray, List.set_cons_zero, List.set_cons_succ, i64_w, i32_w]
    rfl
  refine pure_ (i := 8) (N := some 27) (v := ?_) (a' := ?_) #[true, true, true, true, false, true, true, false, true, false, false, false, false, false, false, false, false, false, false] rfl rfl (by kernel_rfl) (fun _ _ _ h => h) (Or.inl ⟨by rfl, ?_⟩) ?_ ?_
  rotate_left
  · intro w'
    go_simp
    with_reducible rfl
  rotate_left
  · simp only [Act.put, List.setIfInBounds_toArray, List.set_cons_zero, List.set_cons_succ, i64_w, i32_w]
    rfl
  refine pure_ (i := 9) (N := some 28) (v := ?_) (a' := ?_) #[true, true, true, true, false, true, true, false, true, true, false, false, false, false, false, false, false, false, false] rfl rfl (by kernel_rfl) (fun _ _ _ h => h) (Or.inl ⟨by rfl, ?_⟩) ?_ ?_
  rotate_left
  · intro w'
    go_simp
    with_reducible rfl
  rotate_left
  · simp only [Act.put, List.setIfInBounds_toArray, List.set_cons_zero, List.set_cons_succ, i64_w, i32_w]
    rfl
  refine pure_ (i := 10) (N := some 29) (v := ?_) (a' := ?_) #[true, true, true, true, false, true, true, false, true, true, true, false, false, false, false, false, false, false, false] rfl rfl (by kernel_rfl) (fun _ _ _ h => h) (Or.inl ⟨by rfl, ?_⟩) ?_ ?_
  rotate_left
  · intro w'
    go_simp
    with_reducible rfl
  rotate_left
  · simp only [Act.put, List.setIfInBounds_toArray, List.set_cons_zero, List.set_cons_succ, i64_w, i32_w]
    rfl
  refine pure_ (i := 12) (N := some 31) (v := ?_) (a' := ?_) #[true, true, true, true, false, true, true, false, true, true, true, false, true, false, false, false, false, false, false] rfl rfl (by kernel_rfl) (fun _ _ _ h => h) (Or.inl ⟨by rfl, ?_⟩) ?_ ?_
  rotate_left
  · intro w'
    go_simp
    with_reducible rfl
  rotate_left
  · simp only [Act.put, List.setIfInBounds_toArray, List.set_cons_zero, List.set_cons_succ, i64_w, i32_w]
    rfl
  refine pure_ (i := 13) (N := some 32) (v := ?_) (a' := ?_) #[true, true, true, true, false, true, true, false, true, true, true, false, true, true, false, false, false, false, false] rfl rfl (by kernel_rfl) (fun _ _ _ h => h) (Or.inl ⟨by rfl, ?_⟩) ?_ ?_
  rotate_left
  · intro w'
    go_simp
    with_reducible rfl
  rotate_left
  · simp only [Act.put, List.setIfInBounds_toArray, List.set_cons_zero, List.set_cons_succ, i64_w, i32_w]
    rfl
  refine take_ (i := 4) (N := some 23) (v := ?_) (a' := ?_) #[true, true, true, true, true, true, true, false, true, true, true, false, true, true, false, false, false, false, false] rfl rfl (by kernel_rfl) (fun _ _ _ h => h) (Or.inl ⟨by rfl, ?_⟩) hHeld ?_ ?_
  rotate_left
  · intro w' s0
    go_simp
    with_reducible rfl
  rotate_left
  · simp only [Act.put, List.setIfInBounds_toArray, List.set_cons_zero, List.set_cons_succ, i64_w, i32_w]
    rfl
  refine pure_ (i := 7) (N := some 26) (v := ?_) (a' := ?_) #[true, true, true, true, true, true, true, true, true, true, true, false, true, true, false, false, false, false, false] rfl rfl (by kernel_rfl) (fun _ _ _ h => h) (Or.inl ⟨by rfl, ?_⟩) ?_ ?_
  rotate_left
  · intro w'
    go_simp
    with_reducible rfl
  rotate_left
  · simp only [Act.put, List.setIfInBounds_toArray, List.set_cons_zero, List.set_cons_succ, i64_w, i32_w]
    rfl
  refine take_ (i := 11) (N := some 30) (v := ?_) (a' := ?_) #[true, true, true, true, true, true, true, true, true, true, true, true, true, true, false, false, false, false, false] rfl rfl (by kernel_rfl) (fun _ _ _ h => h) (Or.inl ⟨by rfl, ?_⟩) hHeld ?_ ?_
  rotate_left
  · intro w' s0
    go_simp
    with_reducible rfl
  rotate_left
  · simp only [Act.put, List.setIfInBounds_toArray, List.set_cons_zero, List.set_cons_succ, i64_w, i32_w]
    rfl
  refine pure_ (i := 14) (N := some 33) (v := ?_) (a' := ?_) #[true, true, true, true, true, true, true, true, true, true, true, true, true, true, true, false, false, false, false] rfl rfl (by kernel_rfl) (fun _ _ _ h => h) (Or.inl ⟨by rfl, ?_⟩) ?_ ?_
  rotate_left
  · intro w'
    go_simp
    with_reducible rfl
  rotate_left
  · simp only [Act.put, List.setIfInBounds_toArray, List.set_cons_zero, List.set_cons_succ, i64_w, i32_w]
    rfl
  refine one_ (i := 15) (N := some 34) #[true, true, true, true, true, true, true, true, true, true, true, true, true, true, true, true, false, false, false] rfl rfl (by kernel_rfl) (by decide) (fun K hK => ?_)
  refine crow_append_step (news := (pcells ps hs).drop ((i + 1) * 3)) (by first | rfl | simp [Region.wanted]) (.tmp 26) (.tmp 33) 71 (.agg #[.int .i64 0, .int .i64 0, .slice none 0 0]) 40 rfl Try.underlying71 Try.infoPkt rfl (by decide) rfl rfl HT.out NL.out ONE.out RD.out (by decide) (by have := M2.out; omega) ?_
  intro A1 c1 w3 h3
  have H3 := Aside0.mk (h3.out.as (Q := blk p (.cells #[.int .i64 k, .slice (some ad) m cp] 82) * (blk b4 (.cells #[.int .i64 0, .int .i64 0, .slice none 0 0] 58) * (blk b6 (.cells #[.int .i64 f, .int .i64 t, .slice A n c] 58) * (crow 3 58 A1 (i + m2) c1 ((pcells ps hs).take (i * 3) ++ (pcells ps hs).drop ((i + 1) * 3)) * (rowsHP (Kd.int .u8) 5 hs (ps.map (·.2.2)) * F))))) (by ac_rfl))
  clear h3
  have u1 := H3.out.cell (i := 1) rfl
  have fz := H3.out.unfrozen 1
  refine hK.out _ _ (u1) (fun hHeld => ?_)
  clear hK K
  refine norm_ (a' := ?_) ?_ ?_
  rotate_left
  · show Act.put _ (some 34) _ = _
    simp only [Act.put, List.setIfInBounds_toArray, List.set_cons_zero, List.set_cons_succ, i64_w, i32_w]
    rfl
  refine pure_ (i := 16) (N := some 35) (v := ?_) (a' := ?_) #[true, true, true, true, true, true, true, true, true, true, true, true, true, true, true, true, true, false, false] rfl rfl (by kernel_rfl) (fun _ _ _ h => h) (Or.inl ⟨by rfl, ?_⟩) ?_ ?_
  rotate_left
  · intro w'
    go_simp
    with_reducible rfl
  rotate_left
  · simp only [Act.put, List.setIfInBounds_toArray, List.set_cons_zero, List.set_cons_succ, i64_w, i32_w]
    rfl
  refine pure_ (i := 17) (N := some 36) (v := ?_) (a' := ?_) #[true, true, true, true, true, true, true, true, true, true, true, true, true, true, true, true, true, true, false] rfl rfl (by kernel_rfl) (fun _ _ _ h => h) (Or.inl ⟨by rfl, ?_⟩) ?_ ?_
  rotate_left
  · intro w'
    go_simp
    with_reducible rfl
  rotate_left
  · simp only [Act.put, List.setIfInBounds_toArray, List.set_cons_zero, List.set_cons_succ, i64_w, i32_w]
    rfl
  refine last_ (i := 18) (N := none) #[true, true, true, true, true, true, true, true, true, true, true, true, true, true, true, true, true, true, true] rfl rfl (by kernel_rfl) (by decide) (fun K hK => ?_)
  refine skip_ (w1 := ?_) (by rfl) rfl ?_ ?_
  rotate_left
  · go_simp
    rfl
  refine hK.out _ _ ?_
  clear hK K
  refine done_ (by kernel_rfl) ?_
  have hl2 : hs.length = ps.length := HL.out
  have H4 := Aside0.mk ((H3.out.set 1 (.slice A1 (i + m2) c1)).as (Q := blk b4 (.cells #[.int .i64 0, .int .i64 0, .slice none 0 0] 58) * (blk b6 (.cells #[.int .i64 f, .int .i64 t, .slice A n c] 58) * (blk p (.cells #[.int .i64 k, .slice A1 (i + m2) c1] 82) * (crow 3 58 A1 (i + m2) c1 ((pcells ps hs).take (i * 3) ++ (pcells ps hs).drop ((i + 1) * 3)) * (rowsHP (Kd.int .u8) 5 hs (ps.map (·.2.2)) * F))))) (by
    show blk p (.cells #[.int .i64 k, .slice A1 (i + m2) c1] 82) * _ = _
    ac_rfl))
  clear H2 HK HT HO u1 fz e1 RD NL ONE
  have g6 := H4.out.right.cell (i := 0) rfl
  have g7 := H4.out.right.cell (i := 1) rfl
  have g8 := H4.out.right.cell (i := 2) rfl
  have f4 := H4.out.unfrozen
  have k0 := H4.out.cell (i := 0) rfl
  have k1 := H4.out.cell (i := 1) rfl
  have k2 := H4.out.cell (i := 2) rfl
  go_wp2_with fail
  have H5 := Aside0.mk (((H4.out.set 0 (.int .i64 f)).set 1 (.int .i64 t)).set 2 (.slice A n c))
  have z0 := H5.out.cell (i := 0) (v := .int .i64 f) rfl
  have z1 := H5.out.cell (i := 1) (v := .int .i64 t) rfl
  have z2 := H5.out.cell (i := 2) (v := .slice A n c) rfl
  have e7 : (pcells ps hs).take (i * 3) ++ (pcells ps hs).drop ((i + 1) * 3) = pcells (ps.eraseIdx i) (hs.eraseIdx i) := by
    rw [pcells_take _ _ _ hl2, pcells_drop _ _ _ hl2, List.eraseIdx_eq_take_drop_succ, List.eraseIdx_eq_take_drop_succ, ← pcells_app _ _ _ _ (by rw [List.length_take, List.length_take, hl2])]
  have e8 : rowsHP (Kd.int .u8) 5 hs (ps.map (·.2.2)) = row (Kd.int .u8) 5 (.slice A n c) xs * rowsHP (Kd.int .u8) 5 (hs.eraseIdx i) ((ps.eraseIdx i).map (·.2.2)) := by
    rw [rows_erase hs (ps.map (·.2.2)) i (A, n, c) xs hhi.out (by rw [List.getElem?_map, hpi.out]; rfl), List.eraseIdx_eq_take_drop_succ (l := ps.map (·.2.2)), List.eraseIdx_eq_take_drop_succ (l := ps), List.map_append, List.map_take, List.map_drop]
    rfl
  have H6 := H5.out.right.right
  rw [e7, e8] at H6
  have H7 := H6.as (Q := row (Kd.int .u8) 5 (.slice A n c) xs * (blk p (.cells #[.int .i64 k, .slice A1 (i + m2) c1] 82) * (crow 3 58 A1 (i + m2) c1 (pcells (ps.eraseIdx i) (hs.eraseIdx i)) * (rowsHP (Kd.int .u8) 5 (hs.eraseIdx i) ((ps.eraseIdx i).map (·.2.2)) * F)))) (by ac_rfl)
  have H8 := (net_mk (ps := ps.eraseIdx i) (by have h1 := M2.out; have h2 := M.out; rw [List.length_eraseIdx, if_pos (by omega)]; omega) (H7.as (Q := blk p (.cells #[.int .i64 k, .slice A1 (i + m2) c1] 82) * (crow 3 58 A1 (i + m2) c1 (pcells (ps.eraseIdx i) (hs.eraseIdx i)) * (rowsHP (Kd.int .u8) 5 (hs.eraseIdx i) ((ps.eraseIdx i).map (·.2.2)) * (row (Kd.int .u8) 5 (.slice A n c) xs * F)))) (by ac_rfl))).as (Q := row (Kd.int .u8) 5 (.slice A n c) xs * (net p k (ps.eraseIdx i) * F)) (by ac_rfl)
  obtain ⟨A9, c9, e9, hl9, _⟩ := H7.row_reads
  injection e9 with e91 e92 e93
  subst e93
  have H9 := Aside0.mk H8
  clear H6 H7 H8 e7 e8 k0 k1 k2 f4 g6 g7 g8 H4
  refine bodyPost_ret (v := .tuple #[.agg #[.int .i64 f, .int .i64 t, .slice A n c], .int .i64 0]) (by simp [results, Try.results23, go_sem, z0, z1, z2]) rfl ⟨f, t, A, n, c, xs, rfl, hpi, e92, by omega, H9.out⟩
set_option maxHeartbeats 800000 in
set_option maxRecDepth 100000 in
theorem ndeliver_bad (p : Nat) (k : Int) (ps : List Pkt) (i : Int) (hi : i < 0 ∨ ps.length ≤ i) (h : Hw w0 w (net p k ps * F)) :
    Calls Try.prog 23 #[.pointer (some ⟨p, 0, none⟩), .int .i64 i] w fun e w' => e = .returned (.tuple #[.agg #[.int .i64 0, .int .i64 0, .slice none 0 0], .int .i64 4]) ∧ Hw w0 w' (net p k ps * F) := by
  obtain ⟨b4, hb4⟩ : ∃ b4, b4 = w.heap.size := ⟨_, rfl⟩
  have H1 := Aside0.mk (h.alloc (.cells #[.int .i64 0, .int .i64 0, .slice none 0 0] 58))
  rw [← hb4] at H1
  clear h
  go_enter Try.func23, Try.ntmps23
  go_wp2_with fail
  rw [← hb4]
  clear hb4
  refine (has_no p k ps i hi (H1.out.as (Q := net p k ps * (blk b4 (.cells #[.int .i64 0, .int .i64 0, .slice none 0 0] 58) * F)) (by ac_rfl))).mono ?_
  rintro e w1 ⟨rfl, rfl⟩
  have f4 := H1.out.unfrozen
  have k0 := H1.out.cell (i := 0) rfl
  have k1 := H1.out.cell (i := 1) rfl
  have k2 := H1.out.cell (i := 2) rfl
  have H5 := Aside0.mk (((H1.out.set 0 (.int .i64 0)).set 1 (.int .i64 0)).set 2 (.slice none 0 0))
  go_wp2_with fail
  have z0 := H5.out.cell (i := 0) (v := .int .i64 0) rfl
  have z1 := H5.out.cell (i := 1) (v := .int .i64 0) rfl
  have z2 := H5.out.cell (i := 2) (v := .slice none 0 0) rfl
  clear f4 k0 k1 k2
  refine bodyPost_ret (v := .tuple #[.agg #[.int .i64 0, .int .i64 0, .slice none 0 0], .int .i64 4]) (by simp [results, Try.results23, go_sem, z0, z1, z2]) rfl ⟨rfl, H5.out.right⟩
set_option maxHeartbeats 800000 in
set_option maxRecDepth 100000 in
theorem ncopy_none (p : Nat) (k : Int) (ps : List Pkt) (i : Int) (hi : i < 0 ∨ ps.length ≤ i) (h : Hw w0 w (net p k ps * F)) :
    Calls Try.prog 26 #[.pointer (some ⟨p, 0, none⟩), .int .i64 i] w fun e w' => e = .returned (.int .i64 4) ∧ w' = w := by
  have H1 := Aside0.mk h
  clear h
  go_enter Try.func26, Try.ntmps26
  go_wp2_with fail
  refine (has_no p k ps i hi H1.out).mono ?_
  rintro e w1 ⟨rfl, rfl⟩
  go_wp2_with fail
  go_ret
  exact ⟨rfl, rfl⟩
set_option maxHeartbeats 800000 in
set_option maxRecDepth 100000 in
theorem ncopy_ok (p : Nat) (k : Int) (ps : List Pkt) (i : Nat) (f t : Int) (xs : List Int) (hi : i < ps.length) (hp : ps[i]? = some (f, t, xs)) (hf : 0 ≤ f) (hf' : f < k) (ht : 0 ≤ t) (ht' : t < k) (hps : ps.length ≤ 4096) (hx : xs.length ≤ 140737488355328) (h : Hw w0 w (net p k ps * F)) :
    Calls Try.prog 26 #[.pointer (some ⟨p, 0, none⟩), .int .i64 i] w fun e w' => (ps.length < 4096 ∧ e = .returned (.int .i64 0) ∧ Hw w0 w' (net p k (ps ++ [(f, t, xs)]) * F)) ∨ (ps.length = 4096 ∧ e = .returned (.int .i64 3) ∧ Hw w0 w' (net p k ps * F)) := by
  have H1 := Aside0.mk h
  clear h
  go_enter Try.func26, Try.ntmps26
  go_wp2_with fail
  refine (has_yes p k ps i (by omega) (by omega) H1.out).mono ?_
  rintro e w1 ⟨rfl, rfl⟩
  obtain ⟨B, cp, hs, hop, hhs⟩ := net_open H1.out
  have p1 := hop.cell (i := 1) rfl
  obtain ⟨ad, f', t', A, n, c, xs', rfl, c0, c1, c2, c3, hpi, hhi⟩ := pkt_at (hop.as (Q := crow 3 58 B ps.length cp (pcells ps hs) * (blk p (.cells #[.int .i64 k, .slice B ps.length cp] 82) * (rowsHP (Kd.int .u8) 5 hs (ps.map (·.2.2)) * F))) (by ac_rfl)) hhs rfl i hi
  have e1 := hpi.out
  rw [hp] at e1
  simp only [Option.some.injEq, Prod.mk.injEq] at e1
  obtain ⟨rfl, rfl, rfl⟩ := e1
  obtain ⟨R, hR, _⟩ := rows_focus (d := Kd.int .u8) (e := 5) hs (ps.map (·.2.2)) i (A, n, c) xs hhi.out (by rw [List.getElem?_map, hp]; rfl)
  obtain ⟨A9, c9, e9, hl9, hC⟩ := (hop.as (Q := row (Kd.int .u8) 5 (hdrEnc (A, n, c)) xs * (R * (blk p (.cells #[.int .i64 k, .slice (some ad) ps.length cp] 82) * (crow 3 58 (some ad) ps.length cp (pcells ps hs) * F)))) (by rw [hR]; ac_rfl)).row_reads
  injection e9 with e91 e92 e93
  subst e91
  subst e92
  subst e93
  have HC := Aside0.mk hC
  obtain ⟨m, hm⟩ : ∃ m, m = ps.length := ⟨_, rfl⟩
  obtain ⟨nx, hnx⟩ : ∃ nx, nx = xs.length := ⟨_, rfl⟩
  rw [← hm] at p1 hi
  rw [← hnx] at c2
  have HP := Aside0.mk hp
  have M := Aside0.mk hm
  have NX := Aside0.mk hnx
  clear hop hhs hR hC hp hm hnx
  go_wp2_with fail
  rw [NX.out]
  by_cases hl : ps.length < 4096
  · refine (nsend_ok p k ps f t A xs.length c xs hf hf' ht ht' hl hl9 hx H1.out HC.out).mono ?_
    rintro e w2 ⟨rfl, h2⟩
    have H2 := Aside0.mk h2
    clear h2
    go_wp2_with fail
    go_ret
    exact .inl ⟨hl, rfl, H2.out⟩
  · refine (nsend_full p k ps f t A xs.length c hf hf' ht ht' (by omega) H1.out).mono ?_
    rintro e w2 ⟨rfl, h2⟩
    have H2 := Aside0.mk h2
    clear h2
    go_wp2_with fail
    go_ret
    exact .inr ⟨by omega, rfl, H2.out⟩
end
end Go.Proofs.Ytenblkbieaadnaa
