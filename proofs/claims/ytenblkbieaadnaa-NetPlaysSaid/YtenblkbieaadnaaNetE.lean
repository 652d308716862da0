/- The network's functions: Flip. -/
import Derived.Test.YtenblkbieaadnaaNetD
import Derived.Test.YtenblkbieaadnaaFocus
import Derived.Test.YtenblkbieaadnaaFlip
set_option linter.unusedVariables false
set_option linter.unusedSimpArgs false
namespace Go.Proofs.Ytenblkbieaadnaa
open Go.RowKit Go.Proofs.YtenblkbieaadnaaW.PrintWords Go.Proofs.YtenblkbieaadnaaW.PrintLast
section
variable {w0 w : World} {F : HP}
set_option maxHeartbeats 800000 in
set_option maxRecDepth 100000 in
theorem nflip_none (p : Nat) (k : Int) (ps : List Pkt) (i bit : Int) (hi : i < 0 ∨ ps.length ≤ i) (h : Hw w0 w (net p k ps * F)) :
    Calls Try.prog 27 #[.pointer (some ⟨p, 0, none⟩), .int .i64 i, .int .i64 bit] w fun e w' => e = .returned (.int .i64 4) ∧ w' = w := by
  have H1 := Aside0.mk h
  clear h
  go_enter Try.func27, Try.ntmps27
  go_wp2_with fail
  refine (has_no p k ps i hi H1.out).mono ?_
  rintro e w1 ⟨rfl, rfl⟩
  go_wp2_with fail
  go_ret
  exact ⟨rfl, rfl⟩
theorem pcells_set : ∀ (ps : List Pkt) (hs : List Hdr) (i : Nat) (f t : Int) (xs ys : List Int), ps[i]? = some (f, t, xs) → pcells (ps.set i (f, t, ys)) hs = pcells ps hs
  | [], hs, i, f, t, xs, ys, h => by simp at h
  | p :: ps, [], i, f, t, xs, ys, h => by cases i <;> rfl
  | p :: ps, g :: hs, 0, f, t, xs, ys, h => by
    obtain rfl : p = (f, t, xs) := by simpa using h
    rfl
  | p :: ps, g :: hs, i + 1, f, t, xs, ys, h => by
    simp only [List.set_cons_succ, pcells]
    rw [pcells_set ps hs i f t xs ys (by simpa using h)]
set_option maxHeartbeats 1600000 in
set_option maxRecDepth 100000 in
theorem nflip_ok (p : Nat) (k : Int) (ps : List Pkt) (i b : Nat) (f t : Int) (xs : List Int) (v : Int) (hi : i < ps.length) (hp : ps[i]? = some (f, t, xs)) (hv : xs[b / 8]? = some v) (hv0 : 0 ≤ v) (hv1 : v ≤ 255) (hx : xs.length ≤ 140737488355328) (hps : ps.length ≤ 4096) (h : Hw w0 w (net p k ps * F)) :
    Calls Try.prog 27 #[.pointer (some ⟨p, 0, none⟩), .int .i64 i, .int .i64 b] w fun e w' => e = .returned (.int .i64 0) ∧ Hw w0 w' (net p k (ps.set i (f, t, xs.set (b / 8) (flip8 v (b % 8)))) * F) := by
  have hb : b / 8 < xs.length := (List.getElem?_eq_some_iff.1 hv).1
  have hi2 := hi
  obtain ⟨q, hq⟩ : ∃ q, q = b / 8 := ⟨_, rfl⟩
  obtain ⟨r, hr⟩ : ∃ r, r = b % 8 := ⟨_, rfl⟩
  have hr8 : r < 8 := by omega
  have d1 : decide ((b : Int) < 0) = false := decide_eq_false (by omega)
  have e1' : ((b : Int) / 8) = (q : Int) := by omega
  have e3 : wrap64 (q : Int) = q := by unfold wrap64; omega
  have e4 : (b : Int).tmod 8 = r := by rw [Int.tmod_eq_emod_of_nonneg (by omega)]; omega
  rw [← hq] at hv hb
  rw [← hq, ← hr]
  obtain ⟨m, hm⟩ : ∃ m, m = ps.length := ⟨_, rfl⟩
  obtain ⟨nx, hnx⟩ : ∃ nx, nx = xs.length := ⟨_, rfl⟩
  rw [← hm] at hi hps
  rw [← hnx] at hb hx
  have d2 : decide ((nx : Int) ≤ q) = false := decide_eq_false (by omega)
  have d3 : decide (nx ≤ q) = false := decide_eq_false (by omega)
  have hq1 : (q : Int) < (nx : Int) := by omega
  have hi1 : (i : Int) < (m : Int) := by omega
  obtain ⟨y, f0, f2, f3, f4, f5, f6⟩ := flip8_facts v r hv0 hv1 hr8
  rw [← f0]
  have H1 := Aside0.mk h
  have HP1 := Aside0.mk hp
  have HV := Aside0.mk hv
  have M := Aside0.mk hm
  have NX := Aside0.mk hnx
  have hi3 : i < ps.length := hi2
  clear h f0 f3 f4 f5 f6 hv hp hm hnx hq hr hi2
  have HI := Aside0.mk hi3
  clear hi3
  go_enter Try.func27, Try.ntmps27
  go_wp2_with fail
  refine (has_yes p k ps i (by omega) (by have := HI.out; omega) H1.out).mono ?_
  rintro e w1 ⟨rfl, rfl⟩
  obtain ⟨B, cp, hs, hop, hhs⟩ := net_open H1.out
  rw [← M.out] at hop
  have p1 := hop.cell (i := 1) rfl
  obtain ⟨ad, f', t', A, n, c, xs', rfl, c0, c1, c2, c3, hpi, hhi⟩ := pkt_at (hop.as (Q := crow 3 58 B m cp (pcells ps hs) * (blk p (.cells #[.int .i64 k, .slice B m cp] 82) * (rowsHP (Kd.int .u8) 5 hs (ps.map (·.2.2)) * F))) (by ac_rfl)) hhs M.out i hi
  have e1 := hpi.out
  rw [HP1.out] at e1
  simp only [Option.some.injEq, Prod.mk.injEq] at e1
  obtain ⟨rfl, rfl, rfl⟩ := e1
  obtain ⟨R, hR, hR2⟩ := rows_focus (d := Kd.int .u8) (e := 5) hs (ps.map (·.2.2)) i (A, n, c) xs hhi.out (by rw [List.getElem?_map, HP1.out]; rfl)
  have hrow := (hop.as (Q := row (Kd.int .u8) 5 (.slice A n c) xs * (R * (blk p (.cells #[.int .i64 k, .slice (some ad) m cp] 82) * (crow 3 58 (some ad) m cp (pcells ps hs) * F)))) (by rw [hR]; show _ = row (Kd.int .u8) 5 (hdrEnc (A, n, c)) xs * _; ac_rfl))
  have hn : n = nx := by rw [NX.out]; exact hrow.row_C.1
  subst hn
  obtain ⟨bd, rfl, hc, hf, HPut⟩ := hrow.drew.row_int_at q v HV.out
  have HR2 := Aside0.mk hR2
  have HL := Aside0.mk hhs
  clear hop hhs hR hR2 hrow
  go_upto_region 5 with fail
  refine start_ (n := 18) (S := fun w' => w'.cell? ⟨p, 1, none⟩ = some (.slice (some ad) m cp) ∧ w'.cell? ⟨(ad.add (i * 3)).block, (ad.add (i * 3)).off + 2, none⟩ = some (.slice (some bd) n c) ∧ w'.cell? (bd.add q) = some (.int .u8 v)) (ds := [17]) #[false, false, false, false, false, false, false, false, false, false, false, false, false, false, false, false, false, false] (by kernel_rfl) rfl rfl ⟨p1, c2, hc⟩ (fun hHeld => ?_)
  refine pure_ (i := 0) (N := some 29) (v := ?_) (a' := ?_) #[true, false, false, false, false, false, false, false, false, false, false, false, false, false, false, false, false, false] rfl rfl (by kernel_rfl) (fun _ _ _ h => h) (Or.inl ⟨by rfl, ?_⟩) ?_ ?_
  rotate_left
  · intro w'
    go_simp
    with_reducible rfl
  rotate_left
  · simp only [Act.put, List.setIfInBounds_toArray, List.set_cons_zero, List.set_cons_succ, i64_w, i32_w]
    rfl
  refine pure_ (i := 1) (N := some 30) (v := ?_) (a' := ?_) #[true, true, false, false, false, false, false, false, false, false, false, false, false, false, false, false, false, false] rfl rfl (by kernel_rfl) (fun _ _ _ h => h) (Or.inl ⟨by rfl, ?_⟩) ?_ ?_
  rotate_left
  · intro w'
    go_simp
    with_reducible rfl
  rotate_left
  · simp only [Act.put, List.setIfInBounds_toArray, List.set_cons_zero, List.set_cons_succ, i64_w, i32_w]
    rfl
  refine pure_ (i := 2) (N := some 31) (v := ?_) (a' := ?_) #[true, true, true, false, false, false, false, false, false, false, false, false, false, false, false, false, false, false] rfl rfl (by kernel_rfl) (fun _ _ _ h => h) (Or.inl ⟨by rfl, ?_⟩) ?_ ?_
  rotate_left
  · intro w'
    go_simp
    with_reducible rfl
  rotate_left
  · simp only [Act.put, List.setIfInBounds_toArray, List.set_cons_zero, List.set_cons_succ, i64_w, i32_w]
    rfl
  refine pure_ (i := 4) (N := some 33) (v := ?_) (a' := ?_) #[true, true, true, false, true, false, false, false, false, false, false, false, false, false, false, false, false, false] rfl rfl (by kernel_rfl) (fun _ _ _ h => h) (Or.inl ⟨by rfl, ?_⟩) ?_ ?_
  rotate_left
  · intro w'
    go_simp
    with_reducible rfl
  rotate_left
  · simp only [Act.put, List.setIfInBounds_toArray, List.set_cons_zero, List.set_cons_succ, i64_w, i32_w]
    rfl
  refine pure_ (i := 8) (N := some 37) (v := ?_) (a' := ?_) #[true, true, true, false, true, false, false, false, true, false, false, false, false, false, false, false, false, false] rfl rfl (by kernel_rfl) (fun _ _ _ h => h) (Or.inl ⟨by rfl, ?_⟩) ?_ ?_
  rotate_left
  · intro w'
    go_simp
    with_reducible rfl
  rotate_left
  · simp only [Act.put, List.setIfInBounds_toArray, List.set_cons_zero, List.set_cons_succ, i64_w, i32_w]
    rfl
  refine pure_ (i := 9) (N := some 38) (v := ?_) (a' := ?_) #[true, true, true, false, true, false, false, false, true, true, false, false, false, false, false, false, false, false] rfl rfl (by kernel_rfl) (fun _ _ _ h => h) (Or.inl ⟨by rfl, ?_⟩) ?_ ?_
  rotate_left
  · intro w'
    go_simp
    with_reducible rfl
  rotate_left
  · simp only [Act.put, List.setIfInBounds_toArray, List.set_cons_zero, List.set_cons_succ, i64_w, i32_w]
    rfl
  refine pure_ (i := 12) (N := some 41) (v := ?_) (a' := ?_) #[true, true, true, false, true, false, false, false, true, true, false, false, true, false, false, false, false, false] rfl rfl (by kernel_rfl) (fun _ _ _ h => h) (Or.inl ⟨by rfl, ?_⟩) ?_ ?_
  rotate_left
  · intro w'
    go_simp
    with_reducible rfl
  rotate_left
  · simp only [Act.put, List.setIfInBounds_toArray, List.set_cons_zero, List.set_cons_succ, i64_w, i32_w]
    rfl
  refine pure_ (i := 13) (N := some 42) (v := ?_) (a' := ?_) #[true, true, true, false, true, false, false, false, true, true, false, false, true, true, false, false, false, false] rfl rfl (by kernel_rfl) (fun _ _ _ h => h) (Or.inl ⟨by rfl, ?_⟩) ?_ ?_
  rotate_left
  · intro w'
    go_simp
    with_reducible rfl
  rotate_left
  · simp only [Act.put, List.setIfInBounds_toArray, List.set_cons_zero, List.set_cons_succ, i64_w, i32_w]
    rfl
  refine pure_ (i := 14) (N := some 43) (v := ?_) (a' := ?_) #[true, true, true, false, true, false, false, false, true, true, false, false, true, true, true, false, false, false] rfl rfl (by kernel_rfl) (fun _ _ _ h => h) (Or.inl ⟨by rfl, ?_⟩) ?_ ?_
  rotate_left
  · intro w'
    go_simp
    with_reducible rfl
  rotate_left
  · simp only [Act.put, List.setIfInBounds_toArray, List.set_cons_zero, List.set_cons_succ, i64_w, i32_w]
    rfl
  refine take_ (i := 3) (N := some 32) (v := ?_) (a' := ?_) #[true, true, true, true, true, false, false, false, true, true, false, false, true, true, true, false, false, false] rfl rfl (by kernel_rfl) (fun _ _ _ h => h) (Or.inl ⟨by rfl, ?_⟩) hHeld ?_ ?_
  rotate_left
  · rintro w' ⟨s0, s1, s2⟩
    go_simp
    with_reducible rfl
  rotate_left
  · simp only [Act.put, List.setIfInBounds_toArray, List.set_cons_zero, List.set_cons_succ, i64_w, i32_w]
    rfl
  refine pure_ (i := 5) (N := some 34) (v := ?_) (a' := ?_) #[true, true, true, true, true, true, false, false, true, true, false, false, true, true, true, false, false, false] rfl rfl (by kernel_rfl) (fun _ _ _ h => h) (Or.inl ⟨by rfl, ?_⟩) ?_ ?_
  rotate_left
  · intro w'
    go_simp
    with_reducible rfl
  rotate_left
  · simp only [Act.put, List.setIfInBounds_toArray, List.set_cons_zero, List.set_cons_succ, i64_w, i32_w]
    rfl
  refine pure_ (i := 6) (N := some 35) (v := ?_) (a' := ?_) #[true, true, true, true, true, true, true, false, true, true, false, false, true, true, true, false, false, false] rfl rfl (by kernel_rfl) (fun _ _ _ h => h) (Or.inl ⟨by rfl, ?_⟩) ?_ ?_
  rotate_left
  · intro w'
    go_simp
    with_reducible rfl
  rotate_left
  · simp only [Act.put, List.setIfInBounds_toArray, List.set_cons_zero, List.set_cons_succ, i64_w, i32_w]
    rfl
  refine take_ (i := 7) (N := some 36) (v := ?_) (a' := ?_) #[true, true, true, true, true, true, true, true, true, true, false, false, true, true, true, false, false, false] rfl rfl (by kernel_rfl) (fun _ _ _ h => h) (Or.inl ⟨by rfl, ?_⟩) hHeld ?_ ?_
  rotate_left
  · rintro w' ⟨s0, s1, s2⟩
    go_simp
    with_reducible rfl
  rotate_left
  · simp only [Act.put, List.setIfInBounds_toArray, List.set_cons_zero, List.set_cons_succ, i64_w, i32_w]
    rfl
  refine pure_ (i := 10) (N := some 39) (v := ?_) (a' := ?_) #[true, true, true, true, true, true, true, true, true, true, true, false, true, true, true, false, false, false] rfl rfl (by kernel_rfl) (fun _ _ _ h => h) (Or.inl ⟨by rfl, ?_⟩) ?_ ?_
  rotate_left
  · intro w'
    go_simp
    with_reducible rfl
  rotate_left
  · simp only [Act.put, List.setIfInBounds_toArray, List.set_cons_zero, List.set_cons_succ, i64_w, i32_w]
    rfl
  refine take_ (i := 11) (N := some 40) (v := ?_) (a' := ?_) #[true, true, true, true, true, true, true, true, true, true, true, true, true, true, true, false, false, false] rfl rfl (by kernel_rfl) (fun _ _ _ h => h) (Or.inl ⟨by rfl, ?_⟩) hHeld ?_ ?_
  rotate_left
  · rintro w' ⟨s0, s1, s2⟩
    go_simp
    with_reducible rfl
  rotate_left
  · simp only [Act.put, List.setIfInBounds_toArray, List.set_cons_zero, List.set_cons_succ, i64_w, i32_w]
    rfl
  refine pure_ (i := 15) (N := some 44) (v := ?_) (a' := ?_) #[true, true, true, true, true, true, true, true, true, true, true, true, true, true, true, true, false, false] rfl rfl (by kernel_rfl) (fun _ _ _ h => h) (Or.inl ⟨by rfl, ?_⟩) ?_ ?_
  rotate_left
  · intro w'
    go_simp
    with_reducible rfl
  rotate_left
  · simp only [Act.put, List.setIfInBounds_toArray, List.set_cons_zero, List.set_cons_succ, i64_w, i32_w]
    rfl
  refine pure_ (i := 16) (N := some 45) (v := ?_) (a' := ?_) #[true, true, true, true, true, true, true, true, true, true, true, true, true, true, true, true, true, false] rfl rfl (by kernel_rfl) (fun _ _ _ h => h) (Or.inl ⟨by rfl, ?_⟩) ?_ ?_
  rotate_left
  · intro w'
    go_simp
    with_reducible rfl
  rotate_left
  · simp only [Act.put, List.setIfInBounds_toArray, List.set_cons_zero, List.set_cons_succ, i64_w, i32_w]
    rfl
  refine last_ (i := 17) (N := none) #[true, true, true, true, true, true, true, true, true, true, true, true, true, true, true, true, true, true] rfl rfl (by kernel_rfl) (by decide) (fun K hK => ?_)
  refine skip_ (w1 := ?_) (by rfl) rfl ?_ ?_
  rotate_left
  · go_simp
    rfl
  refine hK.out _ _ ?_
  clear hK K
  refine done_ (by kernel_rfl) ?_
  have H3 := HPut.out y _ rfl
  have e5 : pcells (ps.set i (f, t, xs.set q y)) hs = pcells ps hs := pcells_set ps hs i f t xs _ HP1.out
  have e6 : rowsHP (Kd.int .u8) 5 hs ((ps.set i (f, t, xs.set q y)).map (·.2.2)) = row (Kd.int .u8) 5 (.slice (some bd) n c) (xs.set q y) * R := by
    rw [List.map_set]
    exact HR2.out (xs.set q y)
  have H4 := net_mk (p := p) (k := k) (ps := ps.set i (f, t, xs.set q y)) (A := some ad) (n := m) (c := cp) (hs := hs) (F := F) (by rw [List.length_set]; exact M.out) (H3.as (by rw [e5, e6]; ac_rfl))
  have H5 := Aside0.mk H4
  clear H3 H4 e5 e6 HPut hc hf hHeld f2 d1 d2 d3 e1' e3 e4 hq1 hi1 p1 c0 c1 c2 c3
  go_wp2_with fail
  go_ret
  exact ⟨rfl, H5.out⟩
theorem nflip_far (p : Nat) (k : Int) (ps : List Pkt) (i : Nat) (bit : Int) (f t : Int) (xs : List Int) (hi : i < ps.length) (hp : ps[i]? = some (f, t, xs)) (hb : bit < 0 ∨ (0 ≤ bit ∧ (xs.length : Int) ≤ bit / 8)) (hb1 : -9223372036854775808 ≤ bit) (hb2 : bit ≤ 9223372036854775807) (hps : ps.length ≤ 4096) (h : Hw w0 w (net p k ps * F)) :
    Calls Try.prog 27 #[.pointer (some ⟨p, 0, none⟩), .int .i64 i, .int .i64 bit] w fun e w' => e = .returned (.int .i64 1) ∧ w' = w := by
  have H1 := Aside0.mk h
  have HP1 := Aside0.mk hp
  obtain ⟨m, hm⟩ : ∃ m, m = ps.length := ⟨_, rfl⟩
  obtain ⟨nx, hnx⟩ : ∃ nx, nx = xs.length := ⟨_, rfl⟩
  rw [← hnx] at hb
  have HI := Aside0.mk hi
  rw [← hm] at hi hps
  have M := Aside0.mk hm
  have NX := Aside0.mk hnx
  clear h hp hm hnx
  have main : ∀ q : Bool, decide (bit < 0) = q → (q = false → 0 ≤ bit ∧ (nx : Int) ≤ bit / 8) → Calls Try.prog 27 #[.pointer (some ⟨p, 0, none⟩), .int .i64 i, .int .i64 bit] w fun e w' => e = .returned (.int .i64 1) ∧ w' = w := by
    intro q hq himp
    cases q
    · obtain ⟨hb0, hb8⟩ := himp rfl
      clear himp hb
      have d2 : decide ((nx : Int) ≤ bit / 8) = true := decide_eq_true hb8
      go_enter Try.func27, Try.ntmps27
      go_wp2_with fail
      refine (has_yes p k ps i (by omega) (by have := HI.out; omega) H1.out).mono ?_
      rintro e w1 ⟨rfl, rfl⟩
      obtain ⟨B, cp, hs, hop, hhs⟩ := net_open H1.out
      rw [← M.out] at hop
      have p1 := hop.cell (i := 1) rfl
      obtain ⟨ad, f', t', A, n, c, xs', rfl, c0, c1, c2, c3, hpi, hhi⟩ := pkt_at (hop.as (Q := crow 3 58 B m cp (pcells ps hs) * (blk p (.cells #[.int .i64 k, .slice B m cp] 82) * (rowsHP (Kd.int .u8) 5 hs (ps.map (·.2.2)) * F))) (by ac_rfl)) hhs M.out i hi
      have e1 := hpi.out
      rw [HP1.out] at e1
      simp only [Option.some.injEq, Prod.mk.injEq] at e1
      obtain ⟨rfl, rfl, rfl⟩ := e1
      obtain ⟨R, hR, hR2⟩ := rows_focus (d := Kd.int .u8) (e := 5) hs (ps.map (·.2.2)) i (A, n, c) xs hhi.out (by rw [List.getElem?_map, HP1.out]; rfl)
      have hrow := (hop.as (Q := row (Kd.int .u8) 5 (.slice A n c) xs * (R * (blk p (.cells #[.int .i64 k, .slice (some ad) m cp] 82) * (crow 3 58 (some ad) m cp (pcells ps hs) * F)))) (by rw [hR]; show _ = row (Kd.int .u8) 5 (hdrEnc (A, n, c)) xs * _; ac_rfl))
      have hn : n = nx := by rw [NX.out]; exact hrow.row_C.1
      subst hn
      clear hop hhs hR hR2 hrow
      go_wp2_with fail
      go_ret
      exact ⟨rfl, rfl⟩
    · clear himp hb
      go_enter Try.func27, Try.ntmps27
      go_wp2_with fail
      refine (has_yes p k ps i (by omega) (by have := HI.out; omega) H1.out).mono ?_
      rintro e w1 ⟨rfl, rfl⟩
      go_wp2_with fail
      go_ret
      exact ⟨rfl, rfl⟩
  exact main _ rfl (fun h => by
    have : ¬ bit < 0 := of_decide_eq_false h
    rcases hb with h | h
    · omega
    · exact h)
end
end Go.Proofs.Ytenblkbieaadnaa
