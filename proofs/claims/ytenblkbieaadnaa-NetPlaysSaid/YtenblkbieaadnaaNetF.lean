/- The network's functions: Packets. -/
import Derived.Test.YtenblkbieaadnaaNetE
set_option linter.unusedVariables false
set_option linter.unusedSimpArgs false
namespace Go.Proofs.Ytenblkbieaadnaa
open Go.RowKit Go.Proofs.YtenblkbieaadnaaW.PrintWords Go.Proofs.YtenblkbieaadnaaW.PrintLast
section
variable {w0 w : World} {F : HP}
set_option maxHeartbeats 1600000 in
set_option maxRecDepth 100000 in
theorem npackets_ok (p : Nat) (k : Int) (ps : List Pkt) (hps : ps.length ≤ 4096) (hxs : ∀ q ∈ ps, q.2.2.length ≤ 140737488355328) (h : Hw w0 w (net p k ps * F)) :
    Calls Try.prog 32 #[.pointer (some ⟨p, 0, none⟩)] w fun e w' => ∃ A c gs, e = .returned (.slice A ps.length c) ∧ gs.length = ps.length ∧
      Hw w0 w' (crow 3 58 A ps.length c (pcells ps gs) * (rowsHP (Kd.int .u8) 5 gs (ps.map (·.2.2)) * (net p k ps * F))) := by
  obtain ⟨B, cp, hs, hop, hhs⟩ := net_open h
  have p1 := hop.cell (i := 1) rfl
  have HO := Aside0.mk hop
  have HL := Aside0.mk hhs
  obtain ⟨m, hm⟩ : ∃ m, m = ps.length := ⟨_, rfl⟩
  rw [← hm] at p1 hps HO
  have M := Aside0.mk hm
  have XS := Aside0.mk hxs
  clear h hop hhs hm hxs
  go_enter Try.func32, Try.ntmps32
  go_wp2_with fail
  go_loopw [11, 3] (fun i l wr => ∃ (j : Nat) (A1 : Option Addr) (c1 : Nat) (gs : List Hdr), j ≤ m ∧ i = .int .i64 j ∧ l = .slice A1 j c1 ∧ Aside0 (gs.length = j) ∧
    Aside0 (Hw w0 wr (crow 3 58 A1 j c1 (pcells (ps.take j) gs) * (rowsHP (Kd.int .u8) 5 gs ((ps.take j).map (·.2.2)) * (blk p (.cells #[.int .i64 k, .slice B m cp] 82) * (crow 3 58 B m cp (pcells ps hs) * (rowsHP (Kd.int .u8) 5 hs (ps.map (·.2.2)) * F))))))) (fun i _ _ => m - (intOf i).toNat)
  case atStart => exact ⟨0, none, 0, [], Nat.zero_le _, rfl, rfl, ⟨rfl⟩, ⟨crow_none rfl rfl (HO.out.emp_mul.as (Q := rowsHP (Kd.int .u8) 5 [] ((ps.take 0).map (·.2.2)) * _) rfl)⟩⟩
  case round =>
    obtain ⟨j, A1, c1, gs, hj, rfl, rfl, HG, HW⟩ := hrel
    clear HO
    by_cases hlt : j < m
    · obtain ⟨ad, f, t, A, n, c, xs, rfl, c0, c1', c2, c3, hpi, hhi⟩ := pkt_at (HW.out.at (crow 3 58 B m cp (pcells ps hs))) HL.out M.out j hlt
      obtain ⟨R, hR, _⟩ := rows_focus (d := Kd.int .u8) (e := 5) hs (ps.map (·.2.2)) j (A, n, c) xs hhi.out (by rw [List.getElem?_map, hpi.out]; rfl)
      have hrc := ((HW.out.at (rowsHP (Kd.int .u8) 5 hs (ps.map (·.2.2)))).left.as (P := rowsHP (Kd.int .u8) 5 hs (ps.map (·.2.2))) (Q := row (Kd.int .u8) 5 (.slice A n c) xs * R) hR).row_C
      have hnx : n ≤ 140737488355328 := by rw [hrc.1]; exact XS.out _ (List.mem_of_getElem? hpi.out)
      have hnc := hrc.2.1
      have HC := Aside0.mk (Kd.C_below hrc.2.2 (below_alloc (Below.refl _ wr) (.cells #[.int .i64 f, .int .i64 t, .slice A n c] 58)))
      have HA := Aside0.mk (HW.out.alloc (.cells #[.int .i64 f, .int .i64 t, .slice A n c] 58))
      have TP := Aside0.mk (show ps.take (j + 1) = ps.take j ++ [(f, t, xs)] from take_snoc_of hpi.out)
      clear hpi hhi p1 hR hrc HW
      go_wp2_with fail
      refine (copied_ok f t A n c xs hnc hnx HA.out HC.out).mono ?_
      rintro e w3 ⟨A', c', rfl, h3⟩
      have H4 := Aside0.mk ((h3.alloc (.cells [.int .i64 f, .int .i64 t, .slice A' n c'].toArray 58)).at (crow 3 58 A1 j c1 (pcells (ps.take j) gs)))
      have BC := Aside0.mk (blk_cells (H4.out.atB w3.heap.size))
      have hlen : gs.length = (ps.take j).length := by rw [HG.out, List.length_take, ← M.out]; omega
      have PC := Aside0.mk (show pcells (ps.take (j + 1)) (gs ++ [(A', n, c')]) = pcells (ps.take j) gs ++ [.int .i64 f, .int .i64 t, .slice A' n c'] by rw [TP.out, pcells_app _ _ _ _ hlen]; rfl)
      have RC := Aside0.mk (show rowsHP (Kd.int .u8) 5 (gs ++ [(A', n, c')]) ((ps.take (j + 1)).map (·.2.2)) = rowsHP (Kd.int .u8) 5 gs ((ps.take j).map (·.2.2)) * row (Kd.int .u8) 5 (.slice A' n c') xs by
        rw [TP.out, List.map_append]
        exact rows_snoc gs ((ps.take j).map (·.2.2)) (A', n, c') xs (by rw [List.length_map]; exact hlen))
      clear h3 HA HC hlen
      go_wp2_with (at_builtin; refine crow_append (news := [.int .i64 f, .int .i64 t, .slice A' n c']) (m := 1) (c := 1) rfl (.tmp 15) (.tmp 18) 71 (.agg #[.int .i64 0, .int .i64 0, .slice none 0 0]) 40 rfl Try.underlying71 Try.infoPkt rfl (by decide) rfl rfl H4.out rfl (by intro u hu; simp only [List.mem_cons, List.not_mem_nil, or_false] at hu; rcases hu with rfl | rfl | rfl <;> rfl) (fun _ => ⟨_, rfl, BC.out⟩) (by decide) (by omega) ?_; intro A3 c3' w5 h5)
      go_roundw
      case rel => exact ⟨j + 1, A3, c3', gs ++ [(A', n, c')], by omega, by go_num, rfl, ⟨by rw [List.length_append, HG.out]; rfl⟩, ⟨by
        rw [PC.out, RC.out]
        exact ((h5.out.dropB w3.heap.size).dropB wr.heap.size).as (by ac_rfl)⟩⟩
      case measure => simp [intOf]; omega
    · have hjm : j = m := by omega
      subst hjm
      have et : ps.take j = ps := List.take_of_length_le (by rw [M.out]; exact Nat.le_refl _)
      rw [et] at HW
      clear et
      go_wp2_with fail
      go_ret
      refine ⟨A1, c1, by rw [← M.out]; rfl, gs, by rw [← M.out]; exact HG.out, ?_⟩
      rw [← M.out]
      exact (net_mk (p := p) (k := k) (ps := ps) (A := B) (n := j) (c := cp) (hs := hs) M.out (HW.out.as (Q := blk p (.cells #[.int .i64 k, .slice B j cp] 82) * (crow 3 58 B j cp (pcells ps hs) * (rowsHP (Kd.int .u8) 5 hs (ps.map (·.2.2)) * (crow 3 58 A1 j c1 (pcells ps gs) * (rowsHP (Kd.int .u8) 5 gs (ps.map (·.2.2)) * F))))) (by ac_rfl))).as (by ac_rfl)
end
end Go.Proofs.Ytenblkbieaadnaa
