/- The network's functions: Lose. -/
import Derived.Test.YtenblkbieaadnaaNetC
set_option linter.unusedVariables false
set_option linter.unusedSimpArgs false
namespace Go.Proofs.Ytenblkbieaadnaa
open Go.RowKit Go.Proofs.YtenblkbieaadnaaW.PrintWords Go.Proofs.YtenblkbieaadnaaW.PrintLast
/-- The packets not nd a node, with their slices' heads. -/
def keepz (nd : Int) (zs : List (Pkt × Hdr)) : List (Pkt × Hdr) := zs.filter (fun z => z.1.2.1 != nd)
theorem rows_keep {w0 w : World} (nd : Int) : ∀ (ps : List Pkt) (hs : List Hdr) {F : HP}, hs.length = ps.length → Hw w0 w (rowsHP (Kd.int .u8) 5 hs (ps.map (·.2.2)) * F) →
    Hw w0 w (rowsHP (Kd.int .u8) 5 ((keepz nd (ps.zip hs)).map (·.2)) (((keepz nd (ps.zip hs)).map (·.1)).map (·.2.2)) * F)
  | [], [], F, _, h => h
  | p :: ps, g :: hs, F, e, h => by
    have e' : hs.length = ps.length := by simpa using e
    have h1 : Hw w0 w (rowsHP (Kd.int .u8) 5 hs (ps.map (·.2.2)) * (row (Kd.int .u8) 5 (hdrEnc g) p.2.2 * F)) := h.as (by
      show row (Kd.int .u8) 5 (hdrEnc g) p.2.2 * rowsHP (Kd.int .u8) 5 hs (ps.map (·.2.2)) * F = _
      ac_rfl)
    have h2 := rows_keep nd ps hs e' h1
    unfold keepz at h2 ⊢
    rw [List.zip_cons_cons, List.filter_cons]
    split
    · exact h2.as (by
        show _ = row (Kd.int .u8) 5 (hdrEnc g) p.2.2 * rowsHP (Kd.int .u8) 5 _ _ * F
        ac_rfl)
    · exact (h2.as (Q := row (Kd.int .u8) 5 (hdrEnc g) p.2.2 * (rowsHP (Kd.int .u8) 5 _ _ * F)) (by ac_rfl)).right
  | [], _ :: _, _, e, _ => by simp at e
  | _ :: _, [], _, e, _ => by simp at e
theorem keepz_fst (nd : Int) (ps : List Pkt) (hs : List Hdr) (h : hs.length = ps.length) : (keepz nd (ps.zip hs)).map (·.1) = ps.filter (fun z => z.2.1 != nd) := by
  unfold keepz
  have := List.filter_map (f := fun z : Pkt × Hdr => z.1) (p := fun z : Pkt => z.2.1 != nd) (l := ps.zip hs)
  rw [List.map_fst_zip (by omega)] at this
  exact this.symm
section
variable {w0 w : World} {F : HP}
set_option maxHeartbeats 1600000 in
set_option maxRecDepth 100000 in
theorem nlose_ok (p : Nat) (k : Int) (ps : List Pkt) (nd : Int) (hps : ps.length ≤ 4096) (h : Hw w0 w (net p k ps * F)) :
    Calls Try.prog 30 #[.pointer (some ⟨p, 0, none⟩), .int .i64 nd] w fun e w' => e = .returned (.int .i64 (ps.length - (ps.filter (fun z => z.2.1 != nd)).length)) ∧ Hw w0 w' (net p k (ps.filter (fun z => z.2.1 != nd)) * F) := by
  obtain ⟨B, cp, hs, hop, hhs⟩ := net_open h
  have p1 := hop.cell (i := 1) rfl
  have HO := Aside0.mk hop
  have HL := Aside0.mk hhs
  obtain ⟨m, hm⟩ : ∃ m, m = ps.length := ⟨_, rfl⟩
  rw [← hm] at p1 hps HO
  have M := Aside0.mk hm
  clear h hop hhs hm
  go_enter Try.func30, Try.ntmps30
  go_wp2_with fail
  go_loopw [14, 5] (fun i l wr => ∃ (j n1 : Nat) (A1 : Option Addr) (c1 : Nat), j ≤ m ∧ n1 ≤ j ∧ i = .int .i64 j ∧ l = .slice A1 n1 c1 ∧ Aside0 (n1 = (keepz nd ((ps.zip hs).take j)).length) ∧
    Aside0 (Hw w0 wr (crow 3 58 A1 n1 c1 (pcells ((keepz nd ((ps.zip hs).take j)).map (·.1)) ((keepz nd ((ps.zip hs).take j)).map (·.2))) * (blk p (.cells #[.int .i64 k, .slice B m cp] 82) * (crow 3 58 B m cp (pcells ps hs) * (rowsHP (Kd.int .u8) 5 hs (ps.map (·.2.2)) * F)))))) (fun i _ _ => m - (intOf i).toNat)
  case atStart => exact ⟨0, 0, none, 0, Nat.zero_le _, Nat.le_refl _, rfl, rfl, ⟨by simp [keepz]⟩, ⟨crow_none rfl (by simp [keepz, pcells]) HO.out⟩⟩
  case round =>
    obtain ⟨j, n1, A1, c1, hj, hnj, rfl, rfl, HN, HW⟩ := hrel
    clear HO
    have p1' := HW.out.right.cell (i := 1) rfl
    by_cases hlt : j < m
    · obtain ⟨ad, f, t, A, n, c, xs, rfl, c0, c1', c2, c3, hpi, hhi⟩ := pkt_at (HW.out.as (Q := crow 3 58 B m cp (pcells ps hs) * (crow 3 58 A1 n1 c1 (pcells ((keepz nd ((ps.zip hs).take j)).map (·.1)) ((keepz nd ((ps.zip hs).take j)).map (·.2))) * (blk p (.cells #[.int .i64 k, .slice B m cp] 82) * (rowsHP (Kd.int .u8) 5 hs (ps.map (·.2.2)) * F)))) (by ac_rfl)) HL.out M.out j hlt
      have hz : (ps.zip hs)[j]? = some ((f, t, xs), (A, n, c)) := by
        rw [List.getElem?_zip_eq_some]; exact ⟨hpi.out, hhi.out⟩
      have hzt : (ps.zip hs).take (j + 1) = (ps.zip hs).take j ++ [((f, t, xs), (A, n, c))] := by rw [List.take_add_one, hz]; rfl
      have HA := Aside0.mk (HW.out.right_alloc (.cells #[.int .i64 f, .int .i64 t, .slice A n c] 58))
      clear hz hpi hhi p1 p1'
      by_cases htt : t = nd
      · subst htt
        have hk : keepz t ((ps.zip hs).take (j + 1)) = keepz t ((ps.zip hs).take j) := by rw [hzt]; unfold keepz; rw [List.filter_append]; simp
        have HK := Aside0.mk hk
        clear hk hzt HW
        go_wp2_with fail
        go_roundw
        case rel => exact ⟨j + 1, n1, A1, c1, by omega, by omega, by go_num, rfl, ⟨by rw [HK.out]; exact HN.out⟩, ⟨by rw [HK.out]; exact (HA.out.as (Q := blk wr.heap.size (.cells #[.int .i64 f, .int .i64 t, .slice A n c] 58) * (crow 3 58 A1 n1 c1 (pcells ((keepz t ((ps.zip hs).take j)).map (·.1)) ((keepz t ((ps.zip hs).take j)).map (·.2))) * (blk p (.cells #[.int .i64 k, .slice (some ad) m cp] 82) * (crow 3 58 (some ad) m cp (pcells ps hs) * (rowsHP (Kd.int .u8) 5 hs (ps.map (·.2.2)) * F))))) (by ac_rfl)).right⟩⟩
        case measure => simp [intOf]; omega
      · have hne : (t == nd) = false := beq_eq_false_iff_ne.2 htt
        have hk : keepz nd ((ps.zip hs).take (j + 1)) = keepz nd ((ps.zip hs).take j) ++ [((f, t, xs), (A, n, c))] := by
          have : (t != nd) = true := by simp [htt]
          rw [hzt]; unfold keepz; rw [List.filter_append]; simp [this]
        have HK := Aside0.mk hk
        have H2 := Aside0.mk (HA.out.right_alloc (.cells [.int .i64 f, .int .i64 t, .slice A n c].toArray 58))
        rw [World.size_alloc] at H2
        have BC := Aside0.mk (blk_cells (H2.out.as (Q := blk (wr.heap.size + 1) (.cells [.int .i64 f, .int .i64 t, .slice A n c].toArray 58) * (crow 3 58 A1 n1 c1 (pcells ((keepz nd ((ps.zip hs).take j)).map (·.1)) ((keepz nd ((ps.zip hs).take j)).map (·.2))) * (blk wr.heap.size (.cells #[.int .i64 f, .int .i64 t, .slice A n c] 58) * (blk p (.cells #[.int .i64 k, .slice (some ad) m cp] 82) * (crow 3 58 (some ad) m cp (pcells ps hs) * (rowsHP (Kd.int .u8) 5 hs (ps.map (·.2.2)) * F)))))) (by ac_rfl)))
        have hlen : ((keepz nd ((ps.zip hs).take j)).map (·.2)).length = ((keepz nd ((ps.zip hs).take j)).map (·.1)).length := by simp
        have HLN := Aside0.mk hlen
        have hpc : pcells (((keepz nd ((ps.zip hs).take j)) ++ [((f, t, xs), (A, n, c))]).map (·.1)) (((keepz nd ((ps.zip hs).take j)) ++ [((f, t, xs), (A, n, c))]).map (·.2)) = pcells ((keepz nd ((ps.zip hs).take j)).map (·.1)) ((keepz nd ((ps.zip hs).take j)).map (·.2)) ++ [.int .i64 f, .int .i64 t, .slice A n c] := by
          rw [List.map_append, List.map_append, pcells_app _ _ _ _ HLN.out]; rfl
        have PC := Aside0.mk hpc
        clear hk hzt HW hlen hpc HLN
        go_wp2_with (at_builtin; refine crow_append (news := [.int .i64 f, .int .i64 t, .slice A n c]) (m := 1) (c := 1) rfl (.tmp 22) (.tmp 24) 71 (.agg #[.int .i64 0, .int .i64 0, .slice none 0 0]) 40 rfl Try.underlying71 Try.infoPkt rfl (by decide) rfl rfl H2.out rfl (by intro u hu; simp only [List.mem_cons, List.not_mem_nil, or_false] at hu; rcases hu with rfl | rfl | rfl <;> rfl) (fun _ => ⟨_, rfl, BC.out⟩) (by decide) (by omega) ?_; intro A3 c3' w3 h3)
        go_roundw
        case rel => exact ⟨j + 1, n1 + 1, A3, c3', by omega, by omega, by go_num, rfl, ⟨by rw [HK.out, List.length_append, ← HN.out]; rfl⟩, ⟨by
          rw [HK.out, PC.out]
          exact (h3.out.as (Q := blk (wr.heap.size + 1) (.cells [.int .i64 f, .int .i64 t, .slice A n c].toArray 58) * (blk wr.heap.size (.cells #[.int .i64 f, .int .i64 t, .slice A n c] 58) * (crow 3 58 A3 (n1 + 1) c3' (pcells ((keepz nd ((ps.zip hs).take j)).map (·.1)) ((keepz nd ((ps.zip hs).take j)).map (·.2)) ++ [.int .i64 f, .int .i64 t, .slice A n c]) * (blk p (.cells #[.int .i64 k, .slice (some ad) m cp] 82) * (crow 3 58 (some ad) m cp (pcells ps hs) * (rowsHP (Kd.int .u8) 5 hs (ps.map (·.2.2)) * F)))))) (by ac_rfl)).right.right⟩⟩
        case measure => simp [intOf]; omega
    · have hjm : j = m := by omega
      subst hjm
      have ek : (ps.zip hs).take j = ps.zip hs := List.take_of_length_le (by rw [List.length_zip]; have := M.out; omega)
      rw [ek] at HN HW
      have hfl : n1 = (ps.filter (fun z => z.2.1 != nd)).length := by rw [← keepz_fst nd ps hs HL.out, List.length_map]; exact HN.out
      have FL := Aside0.mk hfl
      have esub : wrap64 ((j : Int) - n1) = j - n1 := by unfold wrap64; omega
      have HW2 := Aside0.mk (HW.out.as (Q := blk p (.cells #[.int .i64 k, .slice B j cp] 82) * (crow 3 58 A1 n1 c1 (pcells ((keepz nd (ps.zip hs)).map (·.1)) ((keepz nd (ps.zip hs)).map (·.2))) * (crow 3 58 B j cp (pcells ps hs) * (rowsHP (Kd.int .u8) 5 hs (ps.map (·.2.2)) * F)))) (by ac_rfl))
      have fz := HW2.out.unfrozen 1
      have H3 := Aside0.mk (HW2.out.set 1 (.slice A1 n1 c1))
      clear hfl ek HW HW2 p1
      go_wp2_with fail
      go_ret
      refine ⟨by rw [← M.out, ← FL.out]; rfl, net_mk (hs := (keepz nd (ps.zip hs)).map (·.2)) (A := A1) (c := c1) FL.out ?_⟩
      have h4 := rows_keep nd ps hs HL.out (H3.out.as (Q := rowsHP (Kd.int .u8) 5 hs (ps.map (·.2.2)) * (crow 3 58 B j cp (pcells ps hs) * (blk p (.cells #[.int .i64 k, .slice A1 n1 c1] 82) * (crow 3 58 A1 n1 c1 (pcells ((keepz nd (ps.zip hs)).map (·.1)) ((keepz nd (ps.zip hs)).map (·.2))) * F)))) (by
        show blk p (.cells #[.int .i64 k, .slice A1 n1 c1] 82) * _ = _
        ac_rfl))
      rw [← keepz_fst nd ps hs HL.out]
      exact (h4.as (Q := crow 3 58 B j cp (pcells ps hs) * (blk p (.cells #[.int .i64 k, .slice A1 n1 c1] 82) * (crow 3 58 A1 n1 c1 (pcells ((keepz nd (ps.zip hs)).map (·.1)) ((keepz nd (ps.zip hs)).map (·.2))) * (rowsHP (Kd.int .u8) 5 ((keepz nd (ps.zip hs)).map (·.2)) (((keepz nd (ps.zip hs)).map (·.1)).map (·.2.2)) * F)))) (by ac_rfl)).right
end
end Go.Proofs.Ytenblkbieaadnaa
