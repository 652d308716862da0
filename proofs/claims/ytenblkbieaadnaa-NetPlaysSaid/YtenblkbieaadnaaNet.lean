/- The network's functions: what each does to the packets on their way. -/
import Derived.Test.YtenblkbieaadnaaChecked
import Derived.Test.YtenblkbieaadnaaCrow
import Derived.Test.YtenblkbieaadnaaRowsHP
import Derived.Test.YtenblkbieaadnaaWLast
import Derived.BigQuiet
set_option linter.unusedVariables false
set_option linter.unusedSimpArgs false
namespace Go.Proofs.Ytenblkbieaadnaa
open Go.RowKit Go.Proofs.YtenblkbieaadnaaW.PrintWords Go.Proofs.YtenblkbieaadnaaW.PrintLast

/-- A packet: from, to, bytes. -/
abbrev Pkt := Int × Int × List Int
def pcells : List Pkt → List Hdr → List Value
  | p :: ps, h :: hs => .int .i64 p.1 :: .int .i64 p.2.1 :: hdrEnc h :: pcells ps hs
  | _, _ => []
theorem pcells_len : ∀ (ps : List Pkt) (hs : List Hdr), hs.length = ps.length → (pcells ps hs).length = ps.length * 3
  | [], [], _ => rfl
  | p :: ps, h :: hs, e => by simp only [pcells, List.length_cons, pcells_len ps hs (by simpa using e)]; omega
  | [], _ :: _, e => by simp at e
  | _ :: _, [], e => by simp at e
theorem pcells_one : ∀ (ps : List Pkt) (hs : List Hdr), ∀ u ∈ pcells ps hs, u.oneCell' = true
  | [], [], u, h => by simp [pcells] at h
  | [], _ :: _, u, h => by simp [pcells] at h
  | _ :: _, [], u, h => by simp [pcells] at h
  | p :: ps, h :: hs, u, hu => by
    simp only [pcells, List.mem_cons] at hu
    rcases hu with rfl | rfl | rfl | hu
    · rfl
    · rfl
    · rfl
    · exact pcells_one ps hs u hu
theorem pcells_app : ∀ (ps : List Pkt) (hs : List Hdr) (qs : List Pkt) (gs : List Hdr), hs.length = ps.length → pcells (ps ++ qs) (hs ++ gs) = pcells ps hs ++ pcells qs gs
  | [], [], qs, gs, _ => rfl
  | p :: ps, h :: hs, qs, gs, e => by simp only [List.cons_append, pcells, pcells_app ps hs qs gs (by simpa using e)]
  | [], _ :: _, _, _, e => by simp at e
  | _ :: _, [], _, _, e => by simp at e
theorem pcells_at : ∀ (ps : List Pkt) (hs : List Hdr) (i : Nat) (p : Pkt) (h : Hdr), ps[i]? = some p → hs[i]? = some h → (pcells ps hs)[i * 3]? = some (.int .i64 p.1) ∧ (pcells ps hs)[i * 3 + 1]? = some (.int .i64 p.2.1) ∧ (pcells ps hs)[i * 3 + 2]? = some (hdrEnc h)
  | [], _, i, p, h, e, _ => by simp at e
  | _ :: _, [], i, p, h, _, e => by simp at e
  | p' :: ps, h' :: hs, 0, p, h, e, e' => by
    obtain rfl : p' = p := by simpa using e
    obtain rfl : h' = h := by simpa using e'
    exact ⟨rfl, rfl, rfl⟩
  | p' :: ps, h' :: hs, i + 1, p, h, e, e' => by
    obtain ⟨h0, h1, h2⟩ := pcells_at ps hs i p h (by simpa using e) (by simpa using e')
    simp only [pcells]
    refine ⟨?_, ?_, ?_⟩
    · rw [show (i + 1) * 3 = i * 3 + 3 by omega]; simpa using h0
    · rw [show (i + 1) * 3 + 1 = i * 3 + 1 + 3 by omega]; simpa using h1
    · rw [show (i + 1) * 3 + 2 = i * 3 + 2 + 3 by omega]; simpa using h2
theorem pcells_take : ∀ (ps : List Pkt) (hs : List Hdr) (i : Nat), hs.length = ps.length → (pcells ps hs).take (i * 3) = pcells (ps.take i) (hs.take i)
  | [], [], i, _ => by simp [pcells]
  | p :: ps, h :: hs, 0, e => by simp [pcells]
  | p :: ps, h :: hs, i + 1, e => by
    rw [show (i + 1) * 3 = i * 3 + 3 by omega]
    simp only [pcells, List.take_succ_cons, pcells_take ps hs i (by simpa using e)]
  | [], _ :: _, _, e => by simp at e
  | _ :: _, [], _, e => by simp at e
theorem pcells_drop : ∀ (ps : List Pkt) (hs : List Hdr) (i : Nat), hs.length = ps.length → (pcells ps hs).drop (i * 3) = pcells (ps.drop i) (hs.drop i)
  | [], [], i, _ => by simp [pcells]
  | p :: ps, h :: hs, 0, e => by simp [pcells]
  | p :: ps, h :: hs, i + 1, e => by
    rw [show (i + 1) * 3 = i * 3 + 3 by omega]
    simp only [pcells, List.drop_succ_cons, pcells_drop ps hs i (by simpa using e)]
  | [], _ :: _, _, e => by simp at e
  | _ :: _, [], _, e => by simp at e

/-- The packets of a row of packets: the row and each one's bytes. -/
def packs (A : Option Addr) (n cap : Nat) (hs : List Hdr) (ps : List Pkt) : HP := crow 3 58 A n cap (pcells ps hs) * rowsHP (Kd.int .u8) 5 hs (ps.map (·.2.2))
def net (p : Nat) (k : Int) (ps : List Pkt) : HP := HP.ex fun q : Option Addr × Nat × List Hdr => blk p (.cells #[.int .i64 k, .slice q.1 ps.length q.2.1] 82) * packs q.1 ps.length q.2.1 q.2.2 ps
section
variable {w0 w : World} {F : HP} {p : Nat} {k : Int} {ps : List Pkt}
theorem net_open (h : Hw w0 w (net p k ps * F)) : ∃ A c hs, Hw w0 w (blk p (.cells #[.int .i64 k, .slice A ps.length c] 82) * (crow 3 58 A ps.length c (pcells ps hs) * (rowsHP (Kd.int .u8) 5 hs (ps.map (·.2.2)) * F))) ∧ hs.length = ps.length := by
  obtain ⟨⟨A, c, hs⟩, h⟩ := Hw.ex_mul.1 h
  have h1 := h.as (Q := blk p (.cells #[.int .i64 k, .slice A ps.length c] 82) * (crow 3 58 A ps.length c (pcells ps hs) * (rowsHP (Kd.int .u8) 5 hs (ps.map (·.2.2)) * F))) (by unfold packs; ac_rfl)
  refine ⟨A, c, hs, h1, ?_⟩
  have := rows_len hs (ps.map (·.2.2)) (h1.as (Q := rowsHP (Kd.int .u8) 5 hs (ps.map (·.2.2)) * (blk p (.cells #[.int .i64 k, .slice A ps.length c] 82) * (crow 3 58 A ps.length c (pcells ps hs) * F))) (by ac_rfl))
  simpa using this
theorem net_mk {A : Option Addr} {n c : Nat} {hs : List Hdr} (hn : n = ps.length) (h : Hw w0 w (blk p (.cells #[.int .i64 k, .slice A n c] 82) * (crow 3 58 A n c (pcells ps hs) * (rowsHP (Kd.int .u8) 5 hs (ps.map (·.2.2)) * F)))) : Hw w0 w (net p k ps * F) := by
  subst hn
  exact Hw.ex_mul.2 ⟨(A, c, hs), h.as (by unfold packs; ac_rfl)⟩
end
section
variable {w0 w : World} {F : HP}
theorem nnew_ok (k : Int) (h0 : 1 ≤ k) (h1 : k ≤ 8) (h : Hw w0 w F) :
    Calls Try.prog 19 #[.int .i64 k] w fun e w' => ∃ p : Nat, e = .returned (.tuple #[.pointer (some ⟨p, 0, none⟩), .int .i64 0]) ∧ Hw w0 w' (net p k [] * F) := by
  have hh := Aside0.mk h
  clear h
  have d1 : decide (k < 1) = false := by simp; omega
  have d2 : decide (8 < k) = false := by simp; omega
  go_enter Try.func19, Try.ntmps19
  go_wp2_with fail
  go_ret2
  exact ⟨_, rfl, net_mk (A := none) (c := 0) (hs := []) rfl ((crow_none (sz := 3) (e := 58) (A := none) rfl rfl hh.out.emp_mul).alloc _)⟩
theorem nnew_bad (k : Int) (hr : k < 1 ∨ 8 < k) :
    Calls Try.prog 19 #[.int .i64 k] w fun e w' => e = .returned (.tuple #[.pointer none, .int .i64 1]) ∧ w' = w := by
  rcases hr with h | h
  · go_enter Try.func19, Try.ntmps19
    go_wp2
    go_ret2
    exact ⟨rfl, rfl⟩
  · have h' : ¬ k < 1 := by omega
    go_enter Try.func19, Try.ntmps19
    go_wp2
    go_ret2
    exact ⟨rfl, rfl⟩
theorem nlen_ok (p : Nat) (k : Int) (ps : List Pkt) (n : Nat) (hn : ps.length = n) (h : Hw w0 w (net p k ps * F)) :
    Calls Try.prog 31 #[.pointer (some ⟨p, 0, none⟩)] w fun e w' => e = .returned (.int .i64 n) ∧ w' = w := by
  obtain ⟨A, c, hs, h1, hl⟩ := net_open h
  have k1 := h1.cell (i := 1) rfl
  rw [hn] at k1
  clear h h1 hl hn
  go_enter Try.func31, Try.ntmps31
  go_wp2_with fail
  go_ret
  exact ⟨rfl, rfl⟩
theorem has_yes (p : Nat) (k : Int) (ps : List Pkt) (i : Int) (h0 : 0 ≤ i) (hi : i < ps.length) (h : Hw w0 w (net p k ps * F)) :
    Calls Try.prog 34 #[.pointer (some ⟨p, 0, none⟩), .int .i64 i] w fun e w' => e = .returned (.bool true) ∧ w' = w := by
  obtain ⟨A, c, hs, h1, hl⟩ := net_open h
  have k1 := h1.cell (i := 1) rfl
  obtain ⟨n, hn⟩ : ∃ n, n = ps.length := ⟨_, rfl⟩
  rw [← hn] at k1 hi
  clear h h1 hl hn
  have d1 : decide (0 ≤ i) = true := by simpa using h0
  have d2 : decide (i < (n : Int)) = true := by simpa using hi
  go_enter Try.func34, Try.ntmps34
  go_wp2_with fail
  go_ret
  exact ⟨rfl, rfl⟩
theorem has_no (p : Nat) (k : Int) (ps : List Pkt) (i : Int) (hi : i < 0 ∨ ps.length ≤ i) (h : Hw w0 w (net p k ps * F)) :
    Calls Try.prog 34 #[.pointer (some ⟨p, 0, none⟩), .int .i64 i] w fun e w' => e = .returned (.bool false) ∧ w' = w := by
  obtain ⟨A, c, hs, h1, hl⟩ := net_open h
  have k1 := h1.cell (i := 1) rfl
  obtain ⟨n, hn⟩ : ∃ n, n = ps.length := ⟨_, rfl⟩
  rw [← hn] at k1 hi
  clear h h1 hl hn
  by_cases h0 : i < 0
  · have d1 : decide (0 ≤ i) = false := by simp; omega
    clear hi
    go_enter Try.func34, Try.ntmps34
    go_wp2_with fail
    go_ret
    exact ⟨rfl, rfl⟩
  · have d1 : decide (0 ≤ i) = true := by simp; omega
    have d2 : decide (i < (n : Int)) = false := by simp; omega
    clear hi
    go_enter Try.func34, Try.ntmps34
    go_wp2_with fail
    go_ret
    exact ⟨rfl, rfl⟩
theorem Try.ninfoU8 : (Try.prog.info? 5).map (fun i => (i.zero, i.size, i.bytes)) = some (some (.int .u8 0), 1, 1) := by kernel_rfl
theorem copied_ok (f t : Int) (A : Option Addr) (n c : Nat) (xs : List Int) (hc : n ≤ c) (hn : n ≤ 140737488355328) (h : Hw w0 w F) (hC : (Kd.int .u8).C w A n xs) :
    Calls Try.prog 33 #[.agg #[.int .i64 f, .int .i64 t, .slice A n c]] w fun e w' => ∃ A' c', e = .returned (.agg #[.int .i64 f, .int .i64 t, .slice A' n c']) ∧ Hw w0 w' (row (Kd.int .u8) 5 (.slice A' n c') xs * F) := by
  have HC := Aside0.mk hC
  have hl : xs.length = n := hC.1
  have HX := Aside0.mk hl
  obtain ⟨bx, hbx⟩ : ∃ bx, bx = w.heap.size := ⟨_, rfl⟩
  have H1 := Aside0.mk ((h.alloc (.cells #[.int .i64 f, .int .i64 t, .slice A n c] 58)).alloc (.cells #[.int .i64 0, .int .i64 0, .slice none 0 0] 58))
  rw [World.size_alloc, ← hbx] at H1
  clear h hC hl
  go_enter Try.func33, Try.ntmps33
  rw [hbx] at H1
  have H0 := Aside0.mk (H1.out.alloc (.cells #[] 5))
  simp only [World.size_alloc] at H0
  clear hbx
  go_wp2_with (at_builtin; refine Hw.append_row (Value.int .u8) (0 : Int) rfl (.tmp 3) (.tmp 5) 56 5 (.int .u8 0) 1 rfl Try.underlying56 Try.ninfoU8 rfl (by decide) _ [] xs A n c rfl rfl (Hw.row_of_blk (xs := []) (enc := Value.int .u8) (h1 := fun _ => rfl) rfl (by simp) H0.out) (Kd.C_below HC.out (below_alloc (below_alloc (below_alloc (Below.refl _ _) _) _) _)) (by simp; omega) ?_; intro A1 n1 c1 w1 hn1 hw1; obtain rfl : n1 = n := (by have h1 := HX.out; have h2 := hn1.out; rw [List.nil_append] at h2; omega); have H2 := Aside0.mk (hw1.as (Q := blk w.heap.size (.cells #[.int .i64 f, .int .i64 t, .slice A n1 c] 58) * (blk (w.heap.size + 1) (.cells #[.int .i64 0, .int .i64 0, .slice none 0 0] 58) * (row (Kd.int .u8) 5 (.slice A1 n1 c1) xs * F))) (by rw [List.nil_append]; ac_rfl)); have fA := H2.out.unfrozen; have kA0 := H2.out.cell (i := 0) rfl; have kA1 := H2.out.cell (i := 1) rfl; have kA2 := H2.out.cell (i := 2) rfl; have H2' := Aside0.mk (H2.out.as (Q := blk (w.heap.size + 1) (.cells #[.int .i64 0, .int .i64 0, .slice none 0 0] 58) * (blk w.heap.size (.cells #[.int .i64 f, .int .i64 t, .slice A n1 c] 58) * (row (Kd.int .u8) 5 (.slice A1 n1 c1) xs * F))) (by ac_rfl)); have fB := H2'.out.unfrozen; have kB0 := H2'.out.cell (i := 0) rfl; have kB1 := H2'.out.cell (i := 1) rfl; have kB2 := H2'.out.cell (i := 2) rfl; have H3 := Aside0.mk ((H2.out.set 2 (.slice A1 n1 c1)).as (Q := blk w.heap.size (.cells #[.int .i64 f, .int .i64 t, .slice A1 n1 c1] 58) * (blk (w.heap.size + 1) (.cells #[.int .i64 0, .int .i64 0, .slice none 0 0] 58) * (row (Kd.int .u8) 5 (.slice A1 n1 c1) xs * F))) rfl); clear hn1 hw1 H2)
  have H4 := Aside0.mk ((((H3.out.as (Q := blk (w.heap.size + 1) (.cells #[.int .i64 0, .int .i64 0, .slice none 0 0] 58) * (blk w.heap.size (.cells #[.int .i64 f, .int .i64 t, .slice A1 n1 c1] 58) * (row (Kd.int .u8) 5 (.slice A1 n1 c1) xs * F))) (by ac_rfl)).set 0 (.int .i64 f)).set 1 (.int .i64 t)).set 2 (.slice A1 n1 c1))
  have g0 := H4.out.cell (i := 0) (v := .int .i64 f) rfl
  have g1 := H4.out.cell (i := 1) (v := .int .i64 t) rfl
  have g2 := H4.out.cell (i := 2) (v := .slice A1 n1 c1) rfl
  clear kA0 kA1 kA2 kB0 kB1 kB2 fA fB
  refine bodyPost_ret (v := .agg #[.int .i64 f, .int .i64 t, .slice A1 n1 c1]) (by simp [results, Try.results33, go_sem, g0, g1, g2]) rfl ⟨A1, c1, rfl, H4.out.right.right⟩
theorem Try.infoPkt : (Try.prog.info? 58).map (fun i => (i.zero, i.size, i.bytes)) = some (some (.agg #[.int .i64 0, .int .i64 0, .slice none 0 0]), 3, 40) := by kernel_rfl
set_option maxHeartbeats 1600000 in
set_option maxRecDepth 100000 in
theorem nsend_ok (p : Nat) (k : Int) (ps : List Pkt) (f t : Int) (A : Option Addr) (n c : Nat) (xs : List Int) (hf : 0 ≤ f) (hf' : f < k) (ht : 0 ≤ t) (ht' : t < k) (hl : ps.length < 4096) (hc : n ≤ c) (hn : n ≤ 140737488355328)
    (h : Hw w0 w (net p k ps * F)) (hC : (Kd.int .u8).C w A n xs) :
    Calls Try.prog 21 #[.pointer (some ⟨p, 0, none⟩), .agg #[.int .i64 f, .int .i64 t, .slice A n c]] w fun e w' => e = .returned (.int .i64 0) ∧ Hw w0 w' (net p k (ps ++ [(f, t, xs)]) * F) := by
  have HC := Aside0.mk (Kd.C_below hC (((below_alloc (Below.refl _ w) (.cells #[.int .i64 f, .int .i64 t, .slice A n c] 58)).drew).drew))
  obtain ⟨bx, hbx⟩ : ∃ bx, bx = w.heap.size := ⟨_, rfl⟩
  have HB := Aside0.mk (h.alloc (.cells #[.int .i64 f, .int .i64 t, .slice A n c] 58))
  rw [← hbx] at HB
  obtain ⟨B, cp, hs, hop, hhs⟩ := net_open (HB.out.as (Q := net p k ps * (blk bx (.cells #[.int .i64 f, .int .i64 t, .slice A n c] 58) * F)) (by ac_rfl))
  have p0 := hop.drew.cell (i := 0) rfl
  have p1 := hop.cell (i := 1) rfl
  have b0 := HB.out.drew.cell (i := 0) rfl
  have b1 := HB.out.drew.cell (i := 1) rfl
  have b2 := HB.out.cell (i := 2) rfl
  have d1 : decide (f < 0) = false := by simpa using hf
  have d2 : decide (k ≤ f) = false := by simpa using hf'
  have d3 : decide (t < 0) = false := by simpa using ht
  have d4 : decide (k ≤ t) = false := by simpa using ht'
  obtain ⟨m, hm⟩ : ∃ m, m = ps.length := ⟨_, rfl⟩
  rw [← hm] at p1 hl
  have M := Aside0.mk hm
  have d5 : ((m : Int) == 4096) = false := beq_eq_false_iff_ne.2 (by omega)
  have HO := Aside0.mk hop.drew.drew
  have HL := Aside0.mk hhs
  have e1 := hop.drew.drew.cell (i := 1) rfl
  rw [← hm] at e1
  have q0 := HB.out.drew.drew.cell (i := 0) rfl
  have q1 := HB.out.drew.drew.cell (i := 1) rfl
  have q2 := HB.out.drew.drew.cell (i := 2) rfl
  clear h hC hop hhs hm hf hf' ht ht'
  go_enter Try.func21, Try.ntmps21
  go_upto_region 1 with fail
  rw [← hbx]
  clear hbx
  refine start_ (n := 27) (S := fun w' => w'.cell? ⟨bx, 0, none⟩ = some (.int .i64 f) ∧ w'.cell? ⟨bx, 1, none⟩ = some (.int .i64 t) ∧ w'.cell? ⟨p, 0, none⟩ = some (.int .i64 k)) (ds := []) #[false, false, false, false, false, false, false, false, false, false, false, false, false, false, false, false, false, false, false, false, false, false, false, false, false, false, false] (by kernel_rfl) rfl rfl ⟨b0, b1, p0⟩ (fun hHeld => ?_)
  refine pure_ (i := 0) (N := some 6) (v := ?_) (a' := ?_) #[true, false, false, false, false, false, false, false, false, false, false, false, false, false, false, false, false, false, false, false, false, false, false, false, false, false, false] rfl rfl (by kernel_rfl) (fun _ _ _ h => h) (Or.inl ⟨by rfl, ?_⟩) ?_ ?_
  rotate_left
  · intro w'
    go_simp
    with_reducible rfl
  rotate_left
  · simp only [Act.put, List.setIfInBounds_toArray, List.set_cons_zero, List.set_cons_succ, i64_w, i32_w]
    rfl
  refine take_ (i := 1) (N := some 7) (v := ?_) (a' := ?_) #[true, true, false, false, false, false, false, false, false, false, false, false, false, false, false, false, false, false, false, false, false, false, false, false, false, false, false] rfl rfl (by kernel_rfl) (fun _ _ _ h => h) (Or.inl ⟨by rfl, ?_⟩) hHeld ?_ ?_
  rotate_left
  · rintro w' ⟨s0, s1, s2⟩
    go_simp
    with_reducible rfl
  rotate_left
  · simp only [Act.put, List.setIfInBounds_toArray, List.set_cons_zero, List.set_cons_succ, i64_w, i32_w]
    rfl
  refine pure_ (i := 2) (N := some 8) (v := ?_) (a' := ?_) #[true, true, true, false, false, false, false, false, false, false, false, false, false, false, false, false, false, false, false, false, false, false, false, false, false, false, false] rfl rfl (by kernel_rfl) (fun _ _ _ h => h) (Or.inl ⟨by rfl, ?_⟩) ?_ ?_
  rotate_left
  · intro w'
    go_simp
    with_reducible rfl
  rotate_left
  · simp only [Act.put, List.setIfInBounds_toArray, List.set_cons_zero, List.set_cons_succ, i64_w, i32_w]
    rfl
  refine pure_ (i := 3) (N := some 9) (v := ?_) (a' := ?_) #[true, true, true, true, false, false, false, false, false, false, false, false, false, false, false, false, false, false, false, false, false, false, false, false, false, false, false] rfl rfl (by kernel_rfl) (fun _ _ _ h => h) (Or.inl ⟨by rfl, ?_⟩) ?_ ?_
  rotate_left
  · intro w'
    go_simp
    with_reducible rfl
  rotate_left
  · simp only [Act.put, List.setIfInBounds_toArray, List.set_cons_zero, List.set_cons_succ, i64_w, i32_w]
    rfl
  refine pure_ (i := 4) (N := some 10) (v := ?_) (a' := ?_) #[true, true, true, true, true, false, false, false, false, false, false, false, false, false, false, false, false, false, false, false, false, false, false, false, false, false, false] rfl rfl (by kernel_rfl) (fun _ _ _ h => h) (Or.inl ⟨by rfl, ?_⟩) ?_ ?_
  rotate_left
  · intro w'
    go_simp
    with_reducible rfl
  rotate_left
  · simp only [Act.put, List.setIfInBounds_toArray, List.set_cons_zero, List.set_cons_succ, i64_w, i32_w]
    rfl
  refine pure_ (i := 6) (N := some 12) (v := ?_) (a' := ?_) #[true, true, true, true, true, false, true, false, false, false, false, false, false, false, false, false, false, false, false, false, false, false, false, false, false, false, false] rfl rfl (by kernel_rfl) (fun _ _ _ h => h) (Or.inl ⟨by rfl, ?_⟩) ?_ ?_
  rotate_left
  · intro w'
    go_simp
    with_reducible rfl
  rotate_left
  · simp only [Act.put, List.setIfInBounds_toArray, List.set_cons_zero, List.set_cons_succ, i64_w, i32_w]
    rfl
  refine pure_ (i := 7) (N := some 13) (v := ?_) (a' := ?_) #[true, true, true, true, true, false, true, true, false, false, false, false, false, false, false, false, false, false, false, false, false, false, false, false, false, false, false] rfl rfl (by kernel_rfl) (fun _ _ _ h => h) (Or.inl ⟨by rfl, ?_⟩) ?_ ?_
  rotate_left
  · intro w'
    go_simp
    with_reducible rfl
  rotate_left
  · simp only [Act.put, List.setIfInBounds_toArray, List.set_cons_zero, List.set_cons_succ, i64_w, i32_w]
    rfl
  refine pure_ (i := 8) (N := some 14) (v := ?_) (a' := ?_) #[true, true, true, true, true, false, true, true, true, false, false, false, false, false, false, false, false, false, false, false, false, false, false, false, false, false, false] rfl rfl (by kernel_rfl) (fun _ _ _ h => h) (Or.inl ⟨by rfl, ?_⟩) ?_ ?_
  rotate_left
  · intro w'
    go_simp
    with_reducible rfl
  rotate_left
  · simp only [Act.put, List.setIfInBounds_toArray, List.set_cons_zero, List.set_cons_succ, i64_w, i32_w]
    rfl
  refine take_ (i := 5) (N := some 11) (v := ?_) (a' := ?_) #[true, true, true, true, true, true, true, true, true, false, false, false, false, false, false, false, false, false, false, false, false, false, false, false, false, false, false] rfl rfl (by kernel_rfl) (fun _ _ _ h => h) (Or.inl ⟨by rfl, ?_⟩) hHeld ?_ ?_
  rotate_left
  · rintro w' ⟨s0, s1, s2⟩
    go_simp
    with_reducible rfl
  rotate_left
  · simp only [Act.put, List.setIfInBounds_toArray, List.set_cons_zero, List.set_cons_succ, i64_w, i32_w]
    rfl
  refine take_ (i := 9) (N := some 15) (v := ?_) (a' := ?_) #[true, true, true, true, true, true, true, true, true, true, false, false, false, false, false, false, false, false, false, false, false, false, false, false, false, false, false] rfl rfl (by kernel_rfl) (fun _ _ _ h => h) (Or.inl ⟨by rfl, ?_⟩) hHeld ?_ ?_
  rotate_left
  · rintro w' ⟨s0, s1, s2⟩
    go_simp
    with_reducible rfl
  rotate_left
  · simp only [Act.put, List.setIfInBounds_toArray, List.set_cons_zero, List.set_cons_succ, i64_w, i32_w]
    rfl
  refine pure_ (i := 10) (N := some 16) (v := ?_) (a' := ?_) #[true, true, true, true, true, true, true, true, true, true, true, false, false, false, false, false, false, false, false, false, false, false, false, false, false, false, false] rfl rfl (by kernel_rfl) (fun _ _ _ h => h) (Or.inl ⟨by rfl, ?_⟩) ?_ ?_
  rotate_left
  · intro w'
    go_simp
    with_reducible rfl
  rotate_left
  · simp only [Act.put, List.setIfInBounds_toArray, List.set_cons_zero, List.set_cons_succ, i64_w, i32_w]
    rfl
  refine pure_ (i := 11) (N := some 17) (v := ?_) (a' := ?_) #[true, true, true, true, true, true, true, true, true, true, true, true, false, false, false, false, false, false, false, false, false, false, false, false, false, false, false] rfl rfl (by kernel_rfl) (fun _ _ _ h => h) (Or.inl ⟨by rfl, ?_⟩) ?_ ?_
  rotate_left
  · intro w'
    go_simp
    with_reducible rfl
  rotate_left
  · simp only [Act.put, List.setIfInBounds_toArray, List.set_cons_zero, List.set_cons_succ, i64_w, i32_w]
    rfl
  refine pure_ (i := 12) (N := some 18) (v := ?_) (a' := ?_) #[true, true, true, true, true, true, true, true, true, true, true, true, true, false, false, false, false, false, false, false, false, false, false, false, false, false, false] rfl rfl (by kernel_rfl) (fun _ _ _ h => h) (Or.inl ⟨by rfl, ?_⟩) ?_ ?_
  rotate_left
  · intro w'
    go_simp
    with_reducible rfl
  rotate_left
  · simp only [Act.put, List.setIfInBounds_toArray, List.set_cons_zero, List.set_cons_succ, i64_w, i32_w]
    rfl
  refine pure_ (i := 13) (N := some 19) (v := ?_) (a' := ?_) #[true, true, true, true, true, true, true, true, true, true, true, true, true, true, false, false, false, false, false, false, false, false, false, false, false, false, false] rfl rfl (by kernel_rfl) (fun _ _ _ h => h) (Or.inl ⟨by rfl, ?_⟩) ?_ ?_
  rotate_left
  · intro w'
    go_simp
    with_reducible rfl
  rotate_left
  · simp only [Act.put, List.setIfInBounds_toArray, List.set_cons_zero, List.set_cons_succ, i64_w, i32_w]
    rfl
  refine take_ (i := 14) (N := some 20) (v := ?_) (a' := ?_) #[true, true, true, true, true, true, true, true, true, true, true, true, true, true, true, false, false, false, false, false, false, false, false, false, false, false, false] rfl rfl (by kernel_rfl) (fun _ _ _ h => h) (Or.inl ⟨by rfl, ?_⟩) hHeld ?_ ?_
  rotate_left
  · rintro w' ⟨s0, s1, s2⟩
    go_simp
    with_reducible rfl
  rotate_left
  · simp only [Act.put, List.setIfInBounds_toArray, List.set_cons_zero, List.set_cons_succ, i64_w, i32_w]
    rfl
  refine pure_ (i := 15) (N := some 21) (v := ?_) (a' := ?_) #[true, true, true, true, true, true, true, true, true, true, true, true, true, true, true, true, false, false, false, false, false, false, false, false, false, false, false] rfl rfl (by kernel_rfl) (fun _ _ _ h => h) (Or.inl ⟨by rfl, ?_⟩) ?_ ?_
  rotate_left
  · intro w'
    go_simp
    with_reducible rfl
  rotate_left
  · simp only [Act.put, List.setIfInBounds_toArray, List.set_cons_zero, List.set_cons_succ, i64_w, i32_w]
    rfl
  refine pure_ (i := 16) (N := some 22) (v := ?_) (a' := ?_) #[true, true, true, true, true, true, true, true, true, true, true, true, true, true, true, true, true, false, false, false, false, false, false, false, false, false, false] rfl rfl (by kernel_rfl) (fun _ _ _ h => h) (Or.inl ⟨by rfl, ?_⟩) ?_ ?_
  rotate_left
  · intro w'
    go_simp
    with_reducible rfl
  rotate_left
  · simp only [Act.put, List.setIfInBounds_toArray, List.set_cons_zero, List.set_cons_succ, i64_w, i32_w]
    rfl
  refine pure_ (i := 17) (N := some 23) (v := ?_) (a' := ?_) #[true, true, true, true, true, true, true, true, true, true, true, true, true, true, true, true, true, true, false, false, false, false, false, false, false, false, false] rfl rfl (by kernel_rfl) (fun _ _ _ h => h) (Or.inl ⟨by rfl, ?_⟩) ?_ ?_
  rotate_left
  · intro w'
    go_simp
    with_reducible rfl
  rotate_left
  · simp only [Act.put, List.setIfInBounds_toArray, List.set_cons_zero, List.set_cons_succ, i64_w, i32_w]
    rfl
  refine pure_ (i := 18) (N := some 24) (v := ?_) (a' := ?_) #[true, true, true, true, true, true, true, true, true, true, true, true, true, true, true, true, true, true, true, false, false, false, false, false, false, false, false] rfl rfl (by kernel_rfl) (fun _ _ _ h => h) (Or.inl ⟨by rfl, ?_⟩) ?_ ?_
  rotate_left
  · intro w'
    go_simp
    with_reducible rfl
  rotate_left
  · simp only [Act.put, List.setIfInBounds_toArray, List.set_cons_zero, List.set_cons_succ, i64_w, i32_w]
    rfl
  refine pure_ (i := 20) (N := some 26) (v := ?_) (a' := ?_) #[true, true, true, true, true, true, true, true, true, true, true, true, true, true, true, true, true, true, true, false, true, false, false, false, false, false, false] rfl rfl (by kernel_rfl) (fun _ _ _ h => h) (Or.inl ⟨by rfl, ?_⟩) ?_ ?_
  rotate_left
  · intro w'
    go_simp
    with_reducible rfl
  rotate_left
  · simp only [Act.put, List.setIfInBounds_toArray, List.set_cons_zero, List.set_cons_succ, i64_w, i32_w]
    rfl
  refine pure_ (i := 21) (N := some 27) (v := ?_) (a' := ?_) #[true, true, true, true, true, true, true, true, true, true, true, true, true, true, true, true, true, true, true, false, true, true, false, false, false, false, false] rfl rfl (by kernel_rfl) (fun _ _ _ h => h) (Or.inl ⟨by rfl, ?_⟩) ?_ ?_
  rotate_left
  · intro w'
    go_simp
    with_reducible rfl
  rotate_left
  · simp only [Act.put, List.setIfInBounds_toArray, List.set_cons_zero, List.set_cons_succ, i64_w, i32_w]
    rfl
  refine pure_ (i := 22) (N := some 28) (v := ?_) (a' := ?_) #[true, true, true, true, true, true, true, true, true, true, true, true, true, true, true, true, true, true, true, false, true, true, true, false, false, false, false] rfl rfl (by kernel_rfl) (fun _ _ _ h => h) (Or.inl ⟨by rfl, ?_⟩) ?_ ?_
  rotate_left
  · intro w'
    go_simp
    with_reducible rfl
  rotate_left
  · simp only [Act.put, List.setIfInBounds_toArray, List.set_cons_zero, List.set_cons_succ, i64_w, i32_w]
    rfl
  refine take_ (i := 19) (N := some 25) (v := ?_) (a' := ?_) #[true, true, true, true, true, true, true, true, true, true, true, true, true, true, true, true, true, true, true, true, true, true, true, false, false, false, false] rfl rfl (by kernel_rfl) (fun _ _ _ h => h) (Or.inl ⟨by rfl, ?_⟩) hHeld ?_ ?_
  rotate_left
  · rintro w' ⟨s0, s1, s2⟩
    go_simp
    with_reducible rfl
  rotate_left
  · simp only [Act.put, List.setIfInBounds_toArray, List.set_cons_zero, List.set_cons_succ, i64_w, i32_w]
    rfl
  refine take_ (i := 23) (N := some 29) (v := ?_) (a' := ?_) #[true, true, true, true, true, true, true, true, true, true, true, true, true, true, true, true, true, true, true, true, true, true, true, true, false, false, false] rfl rfl (by kernel_rfl) (fun _ _ _ h => h) (Or.inl ⟨by rfl, ?_⟩) hHeld ?_ ?_
  rotate_left
  · rintro w' ⟨s0, s1, s2⟩
    go_simp
    with_reducible rfl
  rotate_left
  · simp only [Act.put, List.setIfInBounds_toArray, List.set_cons_zero, List.set_cons_succ, i64_w, i32_w]
    rfl
  refine pure_ (i := 24) (N := some 30) (v := ?_) (a' := ?_) #[true, true, true, true, true, true, true, true, true, true, true, true, true, true, true, true, true, true, true, true, true, true, true, true, true, false, false] rfl rfl (by kernel_rfl) (fun _ _ _ h => h) (Or.inl ⟨by rfl, ?_⟩) ?_ ?_
  rotate_left
  · intro w'
    go_simp
    with_reducible rfl
  rotate_left
  · simp only [Act.put, List.setIfInBounds_toArray, List.set_cons_zero, List.set_cons_succ, i64_w, i32_w]
    rfl
  refine pure_ (i := 25) (N := some 31) (v := ?_) (a' := ?_) #[true, true, true, true, true, true, true, true, true, true, true, true, true, true, true, true, true, true, true, true, true, true, true, true, true, true, false] rfl rfl (by kernel_rfl) (fun _ _ _ h => h) (Or.inl ⟨by rfl, ?_⟩) ?_ ?_
  rotate_left
  · intro w'
    go_simp
    with_reducible rfl
  rotate_left
  · simp only [Act.put, List.setIfInBounds_toArray, List.set_cons_zero, List.set_cons_succ, i64_w, i32_w]
    rfl
  refine pure_ (i := 26) (N := some 5) (v := ?_) (a' := ?_) #[true, true, true, true, true, true, true, true, true, true, true, true, true, true, true, true, true, true, true, true, true, true, true, true, true, true, true] rfl rfl (by kernel_rfl) (fun _ _ _ h => h) (Or.inl ⟨by rfl, ?_⟩) ?_ ?_
  rotate_left
  · intro w'
    go_simp
    with_reducible rfl
  rotate_left
  · simp only [Act.put, List.setIfInBounds_toArray, List.set_cons_zero, List.set_cons_succ, i64_w, i32_w]
    rfl
  refine done_ (by kernel_rfl) ?_
  go_upto_region 5 with fail
  clear b0 b1 b2 p0 p1
  rw [← M.out] at HO
  refine start_ (n := 12) (S := fun w' => w'.cell? ⟨p, 1, none⟩ = some (.slice B m cp) ∧ w'.cell? ⟨bx, 0, none⟩ = some (.int .i64 f) ∧ w'.cell? ⟨bx, 1, none⟩ = some (.int .i64 t) ∧ w'.cell? ⟨bx, 2, none⟩ = some (.slice A n c)) (ds := [11]) #[false, false, false, false, false, false, false, false, false, false, false, false] (by kernel_rfl) rfl rfl ⟨e1, q0, q1, q2⟩ (fun hHeld => ?_)
  refine pure_ (i := 0) (N := some 39) (v := ?_) (a' := ?_) #[true, false, false, false, false, false, false, false, false, false, false, false] rfl rfl (by kernel_rfl) (fun _ _ _ h => h) (Or.inl ⟨by rfl, ?_⟩) ?_ ?_
  rotate_left
  · intro w'
    go_simp
    with_reducible rfl
  rotate_left
  · simp only [Act.put, List.setIfInBounds_toArray, List.set_cons_zero, List.set_cons_succ, i64_w, i32_w]
    rfl
  refine pure_ (i := 1) (N := some 40) (v := ?_) (a' := ?_) #[true, true, false, false, false, false, false, false, false, false, false, false] rfl rfl (by kernel_rfl) (fun _ _ _ h => h) (Or.inl ⟨by rfl, ?_⟩) ?_ ?_
  rotate_left
  · intro w'
    go_simp
    with_reducible rfl
  rotate_left
  · simp only [Act.put, List.setIfInBounds_toArray, List.set_cons_zero, List.set_cons_succ, i64_w, i32_w]
    rfl
  refine pure_ (i := 2) (N := some 41) (v := ?_) (a' := ?_) #[true, true, true, false, false, false, false, false, false, false, false, false] rfl rfl (by kernel_rfl) (fun _ _ _ h => h) (Or.inl ⟨by rfl, ?_⟩) ?_ ?_
  rotate_left
  · intro w'
    go_simp
    with_reducible rfl
  rotate_left
  · simp only [Act.put, List.setIfInBounds_toArray, List.set_cons_zero, List.set_cons_succ, i64_w, i32_w]
    rfl
  refine pure_ (i := 3) (N := some 42) (v := ?_) (a' := ?_) #[true, true, true, true, false, false, false, false, false, false, false, false] rfl rfl (by kernel_rfl) (fun _ _ _ h => h) (Or.inl ⟨by rfl, ?_⟩) ?_ ?_
  rotate_left
  · intro w'
    go_simp
    with_reducible rfl
  rotate_left
  · simp only [Act.put, List.setIfInBounds_toArray, List.set_cons_zero, List.set_cons_succ, i64_w, i32_w]
    rfl
  refine take_ (i := 4) (N := some 43) (v := ?_) (a' := ?_) #[true, true, true, true, true, false, false, false, false, false, false, false] rfl rfl (by kernel_rfl) (fun _ _ _ h => h) (Or.inl ⟨by rfl, ?_⟩) hHeld ?_ ?_
  rotate_left
  · rintro w' ⟨s0, s1, s2, s3⟩
    go_simp
    with_reducible rfl
  rotate_left
  · simp only [Act.put, List.setIfInBounds_toArray, List.set_cons_zero, List.set_cons_succ, i64_w, i32_w]
    rfl
  refine take_ (i := 5) (N := some 44) (v := ?_) (a' := ?_) #[true, true, true, true, true, true, false, false, false, false, false, false] rfl rfl (by kernel_rfl) (fun _ _ _ h => h) (Or.inl ⟨by rfl, ?_⟩) hHeld ?_ ?_
  rotate_left
  · rintro w' ⟨s0, s1, s2, s3⟩
    go_simp
    with_reducible rfl
  rotate_left
  · simp only [Act.put, List.setIfInBounds_toArray, List.set_cons_zero, List.set_cons_succ, i64_w, i32_w]
    rfl
  refine one_ (i := 6) (N := some 45) #[true, true, true, true, true, true, true, false, false, false, false, false] rfl rfl (by kernel_rfl) (by decide) (fun K hK => ?_)
  refine goes_ Try.func33 (by kernel_rfl) rfl #[.agg #[.int .i64 f, .int .i64 t, .slice A n c]] (by rfl) rfl rfl (by simp only [List.map_toArray, List.map_cons, List.map_nil]; rfl) ?_
  with_reducible refine (copied_ok f t A n c xs hc hn HO.out HC.out).mono ?_
  rintro e w1 ⟨A', c', rfl, h1⟩
  refine ⟨_, rfl, ?_⟩
  have H1 := Aside0.mk (h1.as (Q := blk p (.cells #[.int .i64 k, .slice B m cp] 82) * (blk bx (.cells #[.int .i64 f, .int .i64 t, .slice A n c] 58) * (crow 3 58 B m cp (pcells ps hs) * (rowsHP (Kd.int .u8) 5 hs (ps.map (·.2.2)) * (row (Kd.int .u8) 5 (.slice A' n c') xs * F))))) (by ac_rfl))
  clear h1 e1 q0 q1 q2
  have e1 := H1.out.cell (i := 1) rfl
  have q0 := H1.out.right.cell (i := 0) rfl
  have q1 := H1.out.right.cell (i := 1) rfl
  have q2 := H1.out.right.cell (i := 2) rfl
  refine hK.out _ _ ⟨e1, q0, q1, q2⟩ (fun hHeld => ?_)
  clear hK K
  refine norm_ (a' := ?_) ?_ ?_
  rotate_left
  · show Act.put _ (some 45) _ = _
    simp only [Act.put, List.setIfInBounds_toArray, List.set_cons_zero, List.set_cons_succ, i64_w, i32_w]
    rfl
  refine one_ (i := 7) (N := some 46) #[true, true, true, true, true, true, true, true, false, false, false, false] rfl rfl (by kernel_rfl) (by decide) (fun K hK => ?_)
  refine value_ (w1 := ?_) (v := ?_) (by rfl) rfl ?_ ?_
  rotate_left 2
  · go_simp
    constructor
    · rfl
    · rfl
  have H2 := Aside0.mk (H1.out.alloc (.cells [.int .i64 f, .int .i64 t, .slice A' n c'].toArray 58))
  have r1 := H2.out.right.cell (i := 1) rfl
  have s0 := H2.out.right.right.cell (i := 0) rfl
  have s1 := H2.out.right.right.cell (i := 1) rfl
  have s2 := H2.out.right.right.cell (i := 2) rfl
  refine hK.out _ _ ⟨r1, s0, s1, s2⟩ (fun hHeld => ?_)
  clear hK K
  refine norm_ (a' := ?_) ?_ ?_
  rotate_left
  · show Act.put _ (some 46) _ = _
    simp only [Act.put, List.setIfInBounds_toArray, List.set_cons_zero, List.set_cons_succ, i64_w, i32_w]
    rfl
  refine one_ (i := 8) (N := some 47) #[true, true, true, true, true, true, true, true, true, false, false, false] rfl rfl (by kernel_rfl) (by decide) (fun K hK => ?_)
  refine crow_append_step (news := [.int .i64 f, .int .i64 t, .slice A' n c']) (m := 1) (by first | rfl | simp [Region.wanted]) (.tmp 43) (.tmp 46) 71 (.agg #[.int .i64 0, .int .i64 0, .slice none 0 0]) 40 rfl Try.underlying71 Try.infoPkt rfl (by decide) rfl rfl (H2.out.as (Q := crow 3 58 B m cp (pcells ps hs) * (blk w1.heap.size (.cells [.int .i64 f, .int .i64 t, .slice A' n c'].toArray 58) * (blk p (.cells #[.int .i64 k, .slice B m cp] 82) * (blk bx (.cells #[.int .i64 f, .int .i64 t, .slice A n c] 58) * (rowsHP (Kd.int .u8) 5 hs (ps.map (·.2.2)) * (row (Kd.int .u8) 5 (.slice A' n c') xs * F)))))) (by ac_rfl)) rfl (by intro u hu; simp only [List.mem_cons, List.not_mem_nil, or_false] at hu; rcases hu with rfl | rfl | rfl <;> rfl) (fun _ => ⟨_, rfl, blk_cells H2.out⟩) (by decide) (by omega) ?_
  intro A1 c1 w3 h3
  have H3 := Aside0.mk (h3.out.as (Q := blk p (.cells #[.int .i64 k, .slice B m cp] 82) * (blk bx (.cells #[.int .i64 f, .int .i64 t, .slice A n c] 58) * (crow 3 58 A1 (m + 1) c1 (pcells ps hs ++ [.int .i64 f, .int .i64 t, .slice A' n c']) * (blk w1.heap.size (.cells [.int .i64 f, .int .i64 t, .slice A' n c'].toArray 58) * (rowsHP (Kd.int .u8) 5 hs (ps.map (·.2.2)) * (row (Kd.int .u8) 5 (.slice A' n c') xs * F)))))) (by ac_rfl))
  clear h3
  have u1 := H3.out.cell (i := 1) rfl
  have fz := H3.out.unfrozen 1
  have t0 := H3.out.right.cell (i := 0) rfl
  have t1 := H3.out.right.cell (i := 1) rfl
  have t2 := H3.out.right.cell (i := 2) rfl
  refine hK.out _ _ ⟨u1, t0, t1, t2⟩ (fun hHeld => ?_)
  clear hK K
  refine norm_ (a' := ?_) ?_ ?_
  rotate_left
  · show Act.put _ (some 47) _ = _
    simp only [Act.put, List.setIfInBounds_toArray, List.set_cons_zero, List.set_cons_succ, i64_w, i32_w]
    rfl
  refine pure_ (i := 9) (N := some 48) (v := ?_) (a' := ?_) #[true, true, true, true, true, true, true, true, true, true, false, false] rfl rfl (by kernel_rfl) (fun _ _ _ h => h) (Or.inl ⟨by rfl, ?_⟩) ?_ ?_
  rotate_left
  · intro w'
    go_simp
    with_reducible rfl
  rotate_left
  · simp only [Act.put, List.setIfInBounds_toArray, List.set_cons_zero, List.set_cons_succ, i64_w, i32_w]
    rfl
  refine pure_ (i := 10) (N := some 49) (v := ?_) (a' := ?_) #[true, true, true, true, true, true, true, true, true, true, true, false] rfl rfl (by kernel_rfl) (fun _ _ _ h => h) (Or.inl ⟨by rfl, ?_⟩) ?_ ?_
  rotate_left
  · intro w'
    go_simp
    with_reducible rfl
  rotate_left
  · simp only [Act.put, List.setIfInBounds_toArray, List.set_cons_zero, List.set_cons_succ, i64_w, i32_w]
    rfl
  refine last_ (i := 11) (N := none) #[true, true, true, true, true, true, true, true, true, true, true, true] rfl rfl (by kernel_rfl) (by decide) (fun K hK => ?_)
  refine skip_ (w1 := ?_) (by rfl) rfl ?_ ?_
  rotate_left
  · go_simp
    rfl
  refine hK.out _ _ ?_
  clear hK K
  refine done_ (by kernel_rfl) ?_
  have hl2 : hs.length = ps.length := HL.out
  have H4 := Aside0.mk (H3.out.set 1 (.slice A1 (m + 1) c1))
  clear H3 H2 H1 HO e1 q0 q1 q2 r1 s0 s1 s2 u1 fz t0 t1 t2
  go_wp2_with fail
  go_ret
  refine ⟨rfl, net_mk (hs := hs ++ [(A', n, c')]) (A := A1) (n := m + 1) (c := c1) (by rw [List.length_append, M.out]; rfl) ?_⟩
  have e5 : pcells (ps ++ [(f, t, xs)]) (hs ++ [(A', n, c')]) = pcells ps hs ++ [.int .i64 f, .int .i64 t, .slice A' n c'] := by rw [pcells_app _ _ _ _ hl2]; rfl
  have e6 : rowsHP (Kd.int .u8) 5 (hs ++ [(A', n, c')]) ((ps ++ [(f, t, xs)]).map (·.2.2)) = rowsHP (Kd.int .u8) 5 hs (ps.map (·.2.2)) * row (Kd.int .u8) 5 (.slice A' n c') xs := by
    rw [List.map_append]
    exact rows_snoc hs (ps.map (·.2.2)) (A', n, c') xs (by simpa using hl2)
  rw [e5, e6]
  exact (H4.out.as (Q := blk p (.cells #[.int .i64 k, .slice A1 (m + 1) c1] 82) * (crow 3 58 A1 (m + 1) c1 (pcells ps hs ++ [.int .i64 f, .int .i64 t, .slice A' n c']) * (rowsHP (Kd.int .u8) 5 hs (ps.map (·.2.2)) * row (Kd.int .u8) 5 (.slice A' n c') xs * F)) * (blk bx (.cells #[.int .i64 f, .int .i64 t, .slice A n c] 58) * blk w1.heap.size (.cells [.int .i64 f, .int .i64 t, .slice A' n c'].toArray 58))) (by ac_rfl)).left
end
end Go.Proofs.Ytenblkbieaadnaa
