/- NetPlays' walk. Printed by wip/gen/netplays.py. -/
import Derived.Test.YtenblkbieaadnaaRefNetB
import Derived.Test.YtenblkbieaadnaaKindsNP
import Derived.Test.YtenblkbieaadnaaNetF
import Derived.Test.YtenblkbieaadnaaNetAwake
import Derived.Deep.DeepCutAuto
import Derived.Deep.CutBlock
set_option linter.unusedVariables false
set_option linter.unusedSimpArgs false
namespace Go.Proofs.Ytenblkbieaadnaa
open Go.RowKit Go.Proofs.YtenblkbieaadnaaW.PrintWords Go.Proofs.YtenblkbieaadnaaW.PrintLast
/-- A packet that the network took. -/
def GoodP (k : Int) (q : Pkt) : Prop := 0 ≤ q.1 ∧ q.1 < k ∧ 0 ≤ q.2.1 ∧ q.2.1 < k ∧ q.2.2.length ≤ 140737488355328 ∧ bytes q.2.2
theorem bytes_of_wfN {xs : List Int} (h : ∀ x ∈ xs, (Lit.int .u8 x).wf = true) : bytes xs := by
  intro x hx
  have := h x hx
  simp [Lit.wf] at this
  first | omega | (simp [IntKind.min, IntKind.max, IntKind.bits, IntKind.signed] at this; omega)
theorem snI_in {n : Int} (h : snI n) : -9223372036854775808 ≤ n ∧ n ≤ 9223372036854775807 := by
  unfold snI at h
  simp [Lit.wf] at h
  first | omega | (simp [IntKind.min, IntKind.max, IntKind.bits, IntKind.signed] at h; omega)
theorem good_snoc {k : Int} {ps : List Pkt} {q : Pkt} (h : ∀ q ∈ ps, GoodP k q) (hq : GoodP k q) : ∀ x ∈ ps ++ [q], GoodP k x := by
  intro x hx
  rcases List.mem_append.1 hx with hx | hx
  · exact h x hx
  · rw [List.mem_singleton.1 hx]; exact hq
theorem good_erase {k : Int} {ps : List Pkt} (h : ∀ q ∈ ps, GoodP k q) (i : Nat) : ∀ x ∈ ps.eraseIdx i, GoodP k x := fun x hx => h x (List.mem_of_mem_eraseIdx hx)
theorem good_filter {k : Int} {ps : List Pkt} (h : ∀ q ∈ ps, GoodP k q) (f : Pkt → Bool) : ∀ x ∈ ps.filter f, GoodP k x := fun x hx => h x (List.mem_filter.1 hx).1
theorem good_set {k f t : Int} {ps : List Pkt} {xs : List Int} (h : ∀ q ∈ ps, GoodP k q) (i a r : Nat) (v : Int) (hp : ps[i]? = some (f, t, xs)) (hv : xs[a]? = some v) (hr : r < 8) : ∀ x ∈ ps.set i (f, t, xs.set a (flip8 v r)), GoodP k x := by
  intro x hx
  have hg := h _ (List.mem_of_getElem? hp)
  rcases List.mem_or_eq_of_mem_set hx with hx | rfl
  · exact h x hx
  · obtain ⟨h1, h2, h3, h4, h5, h6⟩ := hg
    refine ⟨h1, h2, h3, h4, by rw [List.length_set]; exact h5, fun y hy => ?_⟩
    rcases List.mem_or_eq_of_mem_set hy with hy | rfl
    · exact h6 y hy
    · have hvb := h6 v (List.mem_of_getElem? hv)
      have := flip8_at v r hvb.1 hvb.2 hr
      exact ⟨this.2.2.1, this.2.2.2.1⟩
theorem add_fieldN (ad : Addr) (k i : Nat) (hi : i ≠ 0) : ad.add (k + i) = ⟨(ad.add k).block, (ad.add k).off + i, none⟩ := by
  unfold Addr.add
  by_cases hk : k = 0
  · subst hk; simp [hi]
  · simp [hk, hi]; omega
/-- One packet of each kind beside one another: the statement's same of two lists of one. -/
theorem same_one {w0 w : World} {F : HP} {g1 g2 : Nat} {f t : Int} {A : Option Addr} {n c : Nat} {xs : List Int}
    (h : Hw w0 w (blk g1 (.cells [.int .i64 f, .int .i64 t, .slice A n c].toArray 58 (0, 0)) * (blk g2 (.cells [.int .i64 f, .int .i64 t, .string (strOfNums xs)].toArray 65 (0, 0)) * (row (Kd.int .u8) 5 (.slice A n c) xs * F)))) :
    Calls Try.prog 25 #[.slice (some ⟨g1, 0, none⟩) 1 1, .slice (some ⟨g2, 0, none⟩) 1 1] w fun e w' => e = .returned (.bool true) ∧ Hw w0 w' F := by
  have h1 := crow_blk (sz := 3) (n := 1) rfl (by unfold maxLen; omega) (by intro u hu; simp only [List.mem_cons, List.not_mem_nil, or_false] at hu; rcases hu with rfl | rfl | rfl <;> rfl) h
  have h2 := crow_blk (sz := 3) (n := 1) rfl (by unfold maxLen; omega) (by intro u hu; simp only [List.mem_cons, List.not_mem_nil, or_false] at hu; rcases hu with rfl | rfl | rfl <;> rfl) (h1.at (blk g2 (.cells [.int .i64 f, .int .i64 t, .string (strOfNums xs)].toArray 65 (0, 0))))
  have h3 := h2.as (by as_aux_lemma => ac_rfl : _ = crow 3 58 (some ⟨g1, 0, none⟩) 1 1 [.int .i64 f, .int .i64 t, .slice A n c] * (row (Kd.int .u8) 5 (.slice A n c) xs * (crow 3 65 (some ⟨g2, 0, none⟩) 1 1 [.int .i64 f, .int .i64 t, .string (strOfNums xs)] * F)))
  have e : rowsHP (Kd.int .u8) 5 [(A, n, c)] ([(f, t, xs)].map (·.2.2)) = row (Kd.int .u8) 5 (.slice A n c) xs := HP.mul_emp _
  rw [← e] at h3
  exact (rnsame_ok (some ⟨g1, 0, none⟩) 1 1 [(f, t, xs)] [(A, n, c)] (some ⟨g2, 0, none⟩) 1 rfl (by omega) h3).mono fun e w' h => ⟨h.1, h.2.right.right.right⟩

set_option maxHeartbeats 6400000 in
set_option maxRecDepth 100000 in
theorem netPlays_bad (k : Int) (hk : k < 1 ∨ 8 < k) (AS : Option Addr) (nn cc : Nat) (w : World) :
    Calls Try.prog 4 #[.int .i64 k, .slice AS nn cc] w fun e w' => e = .returned (.bool true) ∧ Below w.heap.size w w' := by
  go_enter Try.func4, Try.ntmps4
  go_wp2_with fail
  refine (nawake_ok (Hw.start w)).mono ?_
  rintro e w1 ⟨rfl, h1⟩
  go_wp2_with fail
  refine (nnew_bad k hk).mono ?_
  rintro e w2 ⟨rfl, rfl⟩
  go_wp2_with fail
  refine (rnwrong_bad k _ hk).mono ?_
  rintro e w3 ⟨rfl, rfl⟩
  go_wp2_with fail
  go_ret
  exact ⟨rfl, h1.below⟩
set_option maxHeartbeats 6400000 in
set_option maxRecDepth 100000 in
theorem netPlays_ok (k : Int) (hk0 : 1 ≤ k) (hk1 : k ≤ 8) (AS : Option Addr) (nn cc : Nat) (yy : List TN) (w : World) (hS : KOpN.C w AS nn yy) (hsS : ∀ y ∈ yy, snO0 y) :
    Calls Try.prog 4 #[.int .i64 k, .slice AS nn cc] w fun e w' => e = .returned (.bool true) ∧ Below w.heap.size w w' := by
  have HS := Aside0.mk hS
  have SS := Aside0.mk hsS
  have hmax := hS.2.1
  clear hS hsS
  go_enter Try.func4, Try.ntmps4
  go_wp2_with fail
  refine (nawake_ok (Hw.start w)).mono ?_
  rintro e w1 ⟨rfl, h1⟩
  go_wp2_with fail
  refine (nnew_ok k hk0 hk1 h1).mono ?_
  rintro e w2 ⟨p, rfl, h2⟩
  go_wp2_with fail
  refine (rnwrong_ok k _ hk0 hk1).mono ?_
  rintro e w3 ⟨rfl, rfl⟩
  have H2 := Aside0.mk (crow_none (sz := 3) (e := 65) (A := none) (cs := ([] : List Pkt).flatMap pkT) rfl rfl h2)
  clear h1 h2
  go_wp2_with fail
  go_loopw [51, 8] (fun i v wr => ∃ (j : Nat) (B : Option Addr) (m d : Nat) (ps : List Pkt), j ≤ nn ∧ i = .int .i64 j ∧ v = .slice B m d ∧ Aside0 (m = ps.length ∧ m ≤ 4096) ∧ Aside0 (∀ q ∈ ps, GoodP k q) ∧ Aside0 (Hw w wr (crow 3 65 B m d (ps.flatMap pkT) * (net p k ps * HP.emp)))) (fun i _ _ => nn - (intOf i).toNat)
  case atStart => exact ⟨0, none, 0, 0, [], Nat.zero_le _, rfl, rfl, ⟨rfl, by omega⟩, ⟨fun q h => by cases h⟩, H2⟩
  case round =>
    obtain ⟨j, B, m, d, ps, hj, rfl, rfl, MM, GG, HW⟩ := hrel
    clear H2
    by_cases hlt : j < nn
    · obtain ⟨ad, ⟨kind, ii, bit, ff, tt, B0, m0, d0, ys0⟩, rfl, OK, hcl⟩ := opn_at HS.out SS.out j hlt
      have WB := HW.out.below
      have o0 : wr.cell? (ad.add (j * 6)) = some (.int .i64 kind) := pw_cell_below WB (hcl 0 _ rfl)
      have o1 : wr.cell? ⟨(ad.add (j * 6)).block, (ad.add (j * 6)).off + 1, none⟩ = some (.int .i64 ii) := by
        have h := hcl 1 _ rfl
        rw [add_fieldN _ _ _ (by decide)] at h
        exact pw_cell_below WB h
      have o2 : wr.cell? ⟨(ad.add (j * 6)).block, (ad.add (j * 6)).off + 2, none⟩ = some (.int .i64 bit) := by
        have h := hcl 2 _ rfl
        rw [add_fieldN _ _ _ (by decide)] at h
        exact pw_cell_below WB h
      have o3 : wr.cell? ⟨(ad.add (j * 6)).block, (ad.add (j * 6)).off + 3, none⟩ = some (.int .i64 ff) := by
        have h := hcl 3 _ rfl
        rw [add_fieldN _ _ _ (by decide)] at h
        exact pw_cell_below WB h
      have o4 : wr.cell? ⟨(ad.add (j * 6)).block, (ad.add (j * 6)).off + 4, none⟩ = some (.int .i64 tt) := by
        have h := hcl 4 _ rfl
        rw [add_fieldN _ _ _ (by decide)] at h
        exact pw_cell_below WB h
      have o5 : wr.cell? ⟨(ad.add (j * 6)).block, (ad.add (j * 6)).off + 5, none⟩ = some (.slice B0 m0 d0) := by
        have h := hcl 5 _ rfl
        rw [add_fieldN _ _ _ (by decide)] at h
        exact pw_cell_below WB h
      have OC := Aside0.mk (show (Kd.int .u8).C w B0 m0 ys0 from OK.out.1)
      have OM := Aside0.mk (show m0 = ys0.length from OK.out.2.1)
      have OD := Aside0.mk (show m0 ≤ d0 from OK.out.2.2.1)
      have OI := Aside0.mk (snI_in (show snI ii from OK.out.2.2.2.1))
      have OB := Aside0.mk (snI_in (show snI bit from OK.out.2.2.2.2.1))
      have OS := Aside0.mk (show snS ys0 from OK.out.2.2.2.2.2.2.2)
      have HX := Aside0.mk (HW.out.alloc (.cells #[.int .i64 kind, .int .i64 ii, .int .i64 bit, .int .i64 ff, .int .i64 tt, .slice B0 m0 d0] 60))
      clear hcl WB OK
      go_upto_block 2 with fail
      obtain ⟨b, hb⟩ : ∃ b, b = wr.heap.size := ⟨_, rfl⟩
      obtain ⟨W, hW⟩ : ∃ W, W = wr.alloc (.cells #[.int .i64 kind, .int .i64 ii, .int .i64 bit, .int .i64 ff, .int .i64 tt, .slice B0 m0 d0] 60) := ⟨_, rfl⟩
      rw [← hW, ← hb] at HX
      rw [← hW, ← hb]
      clear hW hb o0 o1 o2 o3 o4 o5 HW
      go_cut [8, 11, 12] (fun v8 v11 v12 wr => ∃ (B' : Option Addr) (m' d' : Nat) (qs : List Pkt) (r : Int), v8 = .slice B' m' d' ∧ v11 = .int .i64 r ∧ v12 = .int .i64 r ∧ Aside0 (m' = qs.length ∧ m' ≤ 4096) ∧ Aside0 (∀ q ∈ qs, GoodP k q) ∧ Aside0 (Hw w wr (crow 3 65 B' m' d' (qs.flatMap pkT) * (net p k qs * HP.emp))))
      case first =>
        by_cases q0 : kind = 0
        · subst q0
          have o3 := HX.out.cellAt b 3 (v := .int .i64 ff) rfl
          have o4 := HX.out.cellAt b 4 (v := .int .i64 tt) rfl
          have o5 := HX.out.cellAt b 5 (v := .slice B0 m0 d0) rfl
          by_cases hr : ff < 0 ∨ k ≤ ff ∨ tt < 0 ∨ k ≤ tt
          · go_wp2_with fail
            refine (nsend_range p k ps ff tt B0 m0 d0 hr (HX.out.at (net p k ps))).mono ?_
            rintro e w3 ⟨rfl, g3⟩
            have H3 := Aside0.mk g3
            clear g3 HX o3 o4 o5
            have o3 := H3.out.cellAt b 3 (v := .int .i64 ff) rfl
            have o4 := H3.out.cellAt b 4 (v := .int .i64 tt) rfl
            have o5 := H3.out.cellAt b 5 (v := .slice B0 m0 d0) rfl
            have hcv : (convert 56 9 (.slice B0 m0 d0)).run Try.prog w3 = .ok (.string (strOfNums ys0)) w3 := Kd.C_string Try.underlying56 Try.underlying5 Try.underlying9 (Kd.C_below OC.out H3.out.below)
            go_wp2_with fail
            refine (rnsend_range B m d ps k ff tt (strOfNums ys0) hr (H3.out.at (crow 3 65 B m d (ps.flatMap pkT)))).mono ?_
            rintro e w4 ⟨rfl, g4⟩
            have H4 := Aside0.mk g4
            clear g4 H3 o3 o4 o5 hcv
            go_wp2_with fail
            go_meet
            exact ⟨B, m, d, ps, 1, rfl, rfl, rfl, MM, GG, ⟨((H4.out).as (by as_aux_lemma => ac_rfl : _ = (crow 3 65 B m d (ps.flatMap pkT) * (net p k ps * HP.emp)) * (blk b (.cells #[.int .i64 0, .int .i64 ii, .int .i64 bit, .int .i64 ff, .int .i64 tt, .slice B0 m0 d0] 60)))).left⟩⟩
          · have h1 : 0 ≤ ff := by omega
            have h2 : ff < k := by omega
            have h3 : 0 ≤ tt := by omega
            have h4 : tt < k := by omega
            clear hr
            by_cases hl : m < 4096
            · have hm0 : m0 ≤ 140737488355328 := by have h5 := OM.out; have h6 := OS.out.1; omega
              go_wp2_with fail
              refine (nsend_ok p k ps ff tt B0 m0 d0 ys0 h1 h2 h3 h4 (by have := MM.out.1; omega) OD.out hm0 (HX.out.at (net p k ps)) (Kd.C_below OC.out HX.out.below)).mono ?_
              rintro e w3 ⟨rfl, g3⟩
              have H3 := Aside0.mk g3
              clear g3 HX o3 o4 o5
              have o3 := H3.out.cellAt b 3 (v := .int .i64 ff) rfl
              have o4 := H3.out.cellAt b 4 (v := .int .i64 tt) rfl
              have o5 := H3.out.cellAt b 5 (v := .slice B0 m0 d0) rfl
              have hcv : (convert 56 9 (.slice B0 m0 d0)).run Try.prog w3 = .ok (.string (strOfNums ys0)) w3 := Kd.C_string Try.underlying56 Try.underlying5 Try.underlying9 (Kd.C_below OC.out H3.out.below)
              go_wp2_with fail
              refine (rnsend_ok B m d ps k ff tt ys0 _ rfl h1 h2 h3 h4 hl (H3.out.at (crow 3 65 B m d (ps.flatMap pkT)))).mono ?_
              rintro e w4 ⟨A', c', rfl, g4⟩
              have H4 := Aside0.mk g4
              clear g4 H3 o3 o4 o5 hcv
              go_wp2_with fail
              go_meet
              exact ⟨A', m + 1, c', (ps ++ [(ff, tt, ys0)]), 0, rfl, rfl, rfl, ⟨by rw [List.length_append, ← MM.out.1]; rfl, by omega⟩, ⟨good_snoc GG.out ⟨h1, h2, h3, h4, by rw [← OM.out]; exact hm0, bytes_of_wfN OS.out.2⟩⟩, ⟨((H4.out).as (by as_aux_lemma => ac_rfl : _ = (crow 3 65 A' (m + 1) c' ((ps ++ [(ff, tt, ys0)]).flatMap pkT) * (net p k (ps ++ [(ff, tt, ys0)]) * HP.emp)) * (blk b (.cells #[.int .i64 0, .int .i64 ii, .int .i64 bit, .int .i64 ff, .int .i64 tt, .slice B0 m0 d0] 60)))).left⟩⟩
            · have hl2 : 4096 ≤ m := by omega
              go_wp2_with fail
              refine (nsend_full p k ps ff tt B0 m0 d0 h1 h2 h3 h4 (by have h5 := MM.out.1; have h6 := MM.out.2; omega) (HX.out.at (net p k ps))).mono ?_
              rintro e w3 ⟨rfl, g3⟩
              have H3 := Aside0.mk g3
              clear g3 HX o3 o4 o5
              have o3 := H3.out.cellAt b 3 (v := .int .i64 ff) rfl
              have o4 := H3.out.cellAt b 4 (v := .int .i64 tt) rfl
              have o5 := H3.out.cellAt b 5 (v := .slice B0 m0 d0) rfl
              have hcv : (convert 56 9 (.slice B0 m0 d0)).run Try.prog w3 = .ok (.string (strOfNums ys0)) w3 := Kd.C_string Try.underlying56 Try.underlying5 Try.underlying9 (Kd.C_below OC.out H3.out.below)
              go_wp2_with fail
              refine (rnsend_full B m d ps k ff tt (strOfNums ys0) h1 h2 h3 h4 hl2 (H3.out.at (crow 3 65 B m d (ps.flatMap pkT)))).mono ?_
              rintro e w4 ⟨rfl, g4⟩
              have H4 := Aside0.mk g4
              clear g4 H3 o3 o4 o5 hcv
              go_wp2_with fail
              go_meet
              exact ⟨B, m, d, ps, 3, rfl, rfl, rfl, MM, GG, ⟨((H4.out).as (by as_aux_lemma => ac_rfl : _ = (crow 3 65 B m d (ps.flatMap pkT) * (net p k ps * HP.emp)) * (blk b (.cells #[.int .i64 0, .int .i64 ii, .int .i64 bit, .int .i64 ff, .int .i64 tt, .slice B0 m0 d0] 60)))).left⟩⟩
        · by_cases q1 : kind = 1
          · subst q1
            by_cases hi : 0 ≤ ii ∧ ii < ps.length
            · obtain ⟨i0, rfl⟩ : ∃ i0 : Nat, ii = i0 := ⟨ii.toNat, by omega⟩
              have hi1 : i0 < ps.length := by omega
              have hi2 : i0 < m := by have := MM.out.1; omega
              have hps : ps.length ≤ 4096 := by have h5 := MM.out.1; have h6 := MM.out.2; omega
              clear hi
              have o1 := HX.out.cellAt b 1 (v := .int .i64 i0) rfl
              go_wp2_with fail
              refine (ndeliver_ok p k ps i0 hi1 hps (HX.out.at (net p k ps))).mono ?_
              rintro e w3 ⟨f, t, A, n, c, xs, rfl, HPI, hn, hc, g3⟩
              clear hn hc
              have H3 := Aside0.mk g3
              clear g3 HX o1
              have o1 := H3.out.cellAt b 1 (v := .int .i64 i0) rfl
              have lt1 := H3.out.ltB b
              have H4 := Aside0.mk (H3.out.alloc (.cells #[.int .i64 f, .int .i64 t, .slice A n c] 58))
              go_wp2_with fail
              refine (rnwithout_ok B m d ps i0 hi2 MM.out.1 MM.out.2 (H4.out.at (crow 3 65 B m d (ps.flatMap pkT)))).mono ?_
              rintro e w5 ⟨A', c', f', t', xs', rfl, hp', g5⟩
              rw [HPI.out] at hp'
              simp only [Option.some.injEq, Prod.mk.injEq] at hp'
              obtain ⟨rfl, rfl, rfl⟩ := hp'
              obtain ⟨b13, hb13⟩ : ∃ x, x = w3.heap.size := ⟨_, rfl⟩
              rw [← hb13] at g5
              rw [← hb13]
              have H5 := Aside0.mk g5
              have nb : ¬ b = b13 := by omega
              have nb' : ¬ b13 = b := by omega
              clear g5 H4 o1 hb13 lt1 H3
              have z0 := H5.out.cellAt b13 0 (v := .int .i64 f) rfl
              have z1 := H5.out.cellAt b13 1 (v := .int .i64 t) rfl
              have z2 := H5.out.cellAt b13 2 (v := .slice A n c) rfl
              have lt13 := H5.out.ltB b13
              have H6 := Aside0.mk (((H5.out.alloc (.cells #[.int .i64 f, .int .i64 t, .string (strOfNums xs)] 65)).alloc (.cells [.int .i64 f, .int .i64 t, .slice A n c].toArray 58)).alloc (.cells [.int .i64 f, .int .i64 t, .string (strOfNums xs)].toArray 65))
              simp only [World.size_alloc] at H6
              go_wp2_with fail
              refine (same_one (H6.out.as (by as_aux_lemma => ac_rfl : _ = blk (w5.heap.size + 1) (.cells [.int .i64 f, .int .i64 t, .slice A n c].toArray 58 (0, 0)) * (blk (w5.heap.size + 1 + 1) (.cells [.int .i64 f, .int .i64 t, .string (strOfNums xs)].toArray 65 (0, 0)) * (row (Kd.int .u8) 5 (.slice A n c) xs * ((crow 3 65 A' (m - 1) c' ((ps.eraseIdx i0).flatMap pkT) * (net p k (ps.eraseIdx i0) * HP.emp)) * (blk w5.heap.size (.cells #[.int .i64 f, .int .i64 t, .string (strOfNums xs)] 65) * (blk b13 (.cells #[.int .i64 f, .int .i64 t, .slice A n c] 58) * (crow 3 65 B m d (ps.flatMap pkT) * blk b (.cells #[.int .i64 1, .int .i64 i0, .int .i64 bit, .int .i64 ff, .int .i64 tt, .slice B0 m0 d0] 60)))))))))).mono ?_
              rintro e w7 ⟨rfl, g7⟩
              have H7 := Aside0.mk g7.left
              clear g7 H6 H5 z0 z1 z2 lt13
              go_wp2_with fail
              go_meet
              exact ⟨A', m - 1, c', ps.eraseIdx i0, 0, rfl, rfl, rfl, ⟨by rw [List.length_eraseIdx_of_lt hi1, ← MM.out.1], by have := MM.out.2; omega⟩, ⟨good_erase GG.out i0⟩, H7⟩
            · have hb1 : ii < 0 ∨ (ps.length : Int) ≤ ii := by omega
              have hb2 : ii < 0 ∨ (m : Int) ≤ ii := by have := MM.out.1; omega
              clear hi
              have o1 := HX.out.cellAt b 1 (v := .int .i64 ii) rfl
              go_wp2_with fail
              refine (ndeliver_bad p k ps ii hb1 (HX.out.at (net p k ps))).mono ?_
              rintro e w3 ⟨rfl, g3⟩
              have H3 := Aside0.mk g3
              clear g3 HX o1
              have o1 := H3.out.cellAt b 1 (v := .int .i64 ii) rfl
              have lt1 := H3.out.ltB b
              have H4 := Aside0.mk (H3.out.alloc (.cells #[.int .i64 0, .int .i64 0, .slice none 0 0] 58))
              go_wp2_with fail
              refine (rnwithout_bad B m d ii hb2 H4.out).mono ?_
              rintro e w5 ⟨rfl, g5⟩
              obtain ⟨b13, hb13⟩ : ∃ x, x = w3.heap.size := ⟨_, rfl⟩
              rw [← hb13] at g5
              rw [← hb13]
              have H5 := Aside0.mk g5
              have nb : ¬ b = b13 := by omega
              have nb' : ¬ b13 = b := by omega
              clear g5 H4 o1 hb13 lt1 H3
              have z0 := H5.out.cellAt b13 0 (v := .int .i64 0) rfl
              have z1 := H5.out.cellAt b13 1 (v := .int .i64 0) rfl
              have z2 := H5.out.cellAt b13 2 (v := .slice none 0 0) rfl
              have lt13 := H5.out.ltB b13
              have H6 := Aside0.mk ((((H5.out.alloc (.cells #[.int .i64 0, .int .i64 0, .string (ByteArray.mk #[])] 65)).alloc (.cells [.int .i64 0, .int .i64 0, .slice none 0 0].toArray 58)).alloc (.cells [.int .i64 0, .int .i64 0, .string (ByteArray.mk #[])].toArray 65)).row_nil (Kd.int .u8) 5)
              simp only [World.size_alloc] at H6
              go_wp2_with fail
              refine (same_one (xs := []) (H6.out.as (by as_aux_lemma => ac_rfl : _ = blk (w5.heap.size + 1) (.cells [.int .i64 0, .int .i64 0, .slice none 0 0].toArray 58 (0, 0)) * (blk (w5.heap.size + 1 + 1) (.cells [.int .i64 0, .int .i64 0, .string (ByteArray.mk #[])].toArray 65 (0, 0)) * (row (Kd.int .u8) 5 (.slice none 0 0) [] * ((crow 3 65 B m d (ps.flatMap pkT) * (net p k ps * HP.emp)) * (blk w5.heap.size (.cells #[.int .i64 0, .int .i64 0, .string (ByteArray.mk #[])] 65) * (blk b13 (.cells #[.int .i64 0, .int .i64 0, .slice none 0 0] 58) * blk b (.cells #[.int .i64 1, .int .i64 ii, .int .i64 bit, .int .i64 ff, .int .i64 tt, .slice B0 m0 d0] 60)))))))) ).mono ?_
              rintro e w7 ⟨rfl, g7⟩
              have H7 := Aside0.mk g7.left
              clear g7 H6 H5 z0 z1 z2 lt13
              go_wp2_with fail
              go_meet
              exact ⟨B, m, d, ps, 4, rfl, rfl, rfl, MM, GG, H7⟩
          · by_cases q2 : kind = 2
            · subst q2
              by_cases hi : 0 ≤ ii ∧ ii < ps.length
              · obtain ⟨i0, rfl⟩ : ∃ i0 : Nat, ii = i0 := ⟨ii.toNat, by omega⟩
                have hi1 : i0 < ps.length := by omega
                have hi2 : i0 < m := by have := MM.out.1; omega
                have hps : ps.length ≤ 4096 := by have h5 := MM.out.1; have h6 := MM.out.2; omega
                clear hi
                have o1 := HX.out.cellAt b 1 (v := .int .i64 i0) rfl
                obtain ⟨⟨f, t, xs⟩, hpi⟩ : ∃ q, ps[i0]? = some q := ⟨_, List.getElem?_eq_getElem hi1⟩
                obtain ⟨gf0, gf1, gt0, gt1, gx, gb⟩ := GG.out _ (List.mem_of_getElem? hpi)
                dsimp only at gf0 gf1 gt0 gt1 gx gb
                have HPI := Aside0.mk hpi
                have GX := Aside0.mk gx
                have GB := Aside0.mk gb
                go_wp2_with fail
                refine (ncopy_ok p k ps i0 f t xs hi1 hpi gf0 gf1 gt0 gt1 hps gx (HX.out.at (net p k ps))).mono ?_
                rintro e w3 h3
                clear hpi gx gb
                rcases h3 with ⟨hl, rfl, g3⟩ | ⟨hl, rfl, g3⟩
                · have H3 := Aside0.mk g3
                  clear g3 HX o1
                  have o1 := H3.out.cellAt b 1 (v := .int .i64 i0) rfl
                  have hl2 : m < 4096 := by have := MM.out.1; omega
                  go_wp2_with fail
                  refine (rnwithout_ok B m d ps i0 hi2 MM.out.1 MM.out.2 (H3.out.at (crow 3 65 B m d (ps.flatMap pkT)))).mono ?_
                  rintro e w5 ⟨A', c', f', t', xs', rfl, hp', g5⟩
                  rw [HPI.out] at hp'
                  simp only [Option.some.injEq, Prod.mk.injEq] at hp'
                  obtain ⟨rfl, rfl, rfl⟩ := hp'
                  have H5 := Aside0.mk g5
                  clear g5 H3 o1
                  have H6 := Aside0.mk (H5.out.alloc (.cells #[.int .i64 f, .int .i64 t, .string (strOfNums xs)] 65))
                  go_wp2_with fail
                  refine (rnsend_ok B m d ps k f t xs _ rfl gf0 gf1 gt0 gt1 hl2 (H6.out.at (crow 3 65 B m d (ps.flatMap pkT)))).mono ?_
                  rintro e w7 ⟨A2, c2, rfl, g7⟩
                  have H7 := Aside0.mk g7
                  clear g7 H6 H5
                  go_wp2_with fail
                  go_meet
                  exact ⟨A2, m + 1, c2, (ps ++ [(f, t, xs)]), 0, rfl, rfl, rfl, ⟨by rw [List.length_append, ← MM.out.1]; rfl, by omega⟩, ⟨good_snoc GG.out ⟨gf0, gf1, gt0, gt1, GX.out, GB.out⟩⟩, ⟨((H7.out).as (by as_aux_lemma => ac_rfl : _ = (crow 3 65 A2 (m + 1) c2 ((ps ++ [(f, t, xs)]).flatMap pkT) * (net p k (ps ++ [(f, t, xs)]) * HP.emp)) * (blk w5.heap.size (.cells #[.int .i64 f, .int .i64 t, .string (strOfNums xs)] 65) * (crow 3 65 A' (m - 1) c' ((ps.eraseIdx i0).flatMap pkT) * blk b (.cells #[.int .i64 2, .int .i64 i0, .int .i64 bit, .int .i64 ff, .int .i64 tt, .slice B0 m0 d0] 60))))).left⟩⟩
                · have H3 := Aside0.mk g3
                  clear g3 HX o1
                  have o1 := H3.out.cellAt b 1 (v := .int .i64 i0) rfl
                  have hl2 : 4096 ≤ m := by have := MM.out.1; omega
                  go_wp2_with fail
                  refine (rnwithout_ok B m d ps i0 hi2 MM.out.1 MM.out.2 (H3.out.at (crow 3 65 B m d (ps.flatMap pkT)))).mono ?_
                  rintro e w5 ⟨A', c', f', t', xs', rfl, hp', g5⟩
                  rw [HPI.out] at hp'
                  simp only [Option.some.injEq, Prod.mk.injEq] at hp'
                  obtain ⟨rfl, rfl, rfl⟩ := hp'
                  have H5 := Aside0.mk g5
                  clear g5 H3 o1
                  have H6 := Aside0.mk (H5.out.alloc (.cells #[.int .i64 f, .int .i64 t, .string (strOfNums xs)] 65))
                  go_wp2_with fail
                  refine (rnsend_full B m d ps k f t (strOfNums xs) gf0 gf1 gt0 gt1 hl2 (H6.out.at (crow 3 65 B m d (ps.flatMap pkT)))).mono ?_
                  rintro e w7 ⟨rfl, g7⟩
                  have H7 := Aside0.mk g7
                  clear g7 H6 H5
                  go_wp2_with fail
                  go_meet
                  exact ⟨B, m, d, ps, 3, rfl, rfl, rfl, MM, GG, ⟨((H7.out).as (by as_aux_lemma => ac_rfl : _ = (crow 3 65 B m d (ps.flatMap pkT) * (net p k ps * HP.emp)) * (blk w5.heap.size (.cells #[.int .i64 f, .int .i64 t, .string (strOfNums xs)] 65) * (crow 3 65 A' (m - 1) c' ((ps.eraseIdx i0).flatMap pkT) * blk b (.cells #[.int .i64 2, .int .i64 i0, .int .i64 bit, .int .i64 ff, .int .i64 tt, .slice B0 m0 d0] 60))))).left⟩⟩
              · have hb1 : ii < 0 ∨ (ps.length : Int) ≤ ii := by omega
                have hb2 : ii < 0 ∨ (m : Int) ≤ ii := by have := MM.out.1; omega
                clear hi
                have o1 := HX.out.cellAt b 1 (v := .int .i64 ii) rfl
                go_wp2_with fail
                refine (ncopy_none p k ps ii hb1 (HX.out.at (net p k ps))).mono ?_
                rintro e w3 ⟨rfl, rfl⟩
                go_wp2_with fail
                refine (rnwithout_bad B m d ii hb2 HX.out).mono ?_
                rintro e w5 ⟨rfl, g5⟩
                have H6 := Aside0.mk (g5.alloc (.cells #[.int .i64 0, .int .i64 0, .string (ByteArray.mk #[])] 65)).right
                clear g5 HX o1
                go_wp2_with fail
                go_meet
                exact ⟨B, m, d, ps, 4, rfl, rfl, rfl, MM, GG, ⟨H6.out.right⟩⟩
            · by_cases q3 : kind = 3
              · subst q3
                by_cases hi : 0 ≤ ii ∧ ii < ps.length
                · obtain ⟨i0, rfl⟩ : ∃ i0 : Nat, ii = i0 := ⟨ii.toNat, by omega⟩
                  have hi1 : i0 < ps.length := by omega
                  have hi2 : i0 < m := by have := MM.out.1; omega
                  have hps : ps.length ≤ 4096 := by have h5 := MM.out.1; have h6 := MM.out.2; omega
                  clear hi
                  have o1 := HX.out.cellAt b 1 (v := .int .i64 i0) rfl
                  have o2 := HX.out.cellAt b 2 (v := .int .i64 bit) rfl
                  obtain ⟨⟨f, t, xs⟩, hpi⟩ : ∃ q, ps[i0]? = some q := ⟨_, List.getElem?_eq_getElem hi1⟩
                  obtain ⟨gf0, gf1, gt0, gt1, gx, gb⟩ := GG.out _ (List.mem_of_getElem? hpi)
                  dsimp only at gf0 gf1 gt0 gt1 gx gb
                  have hob := OB.out
                  by_cases hfar : bit < 0 ∨ (0 ≤ bit ∧ (xs.length : Int) ≤ bit / 8)
                  · have HPI := Aside0.mk hpi
                    have GX := Aside0.mk gx
                    clear gx gb hpi
                    go_wp2_with fail
                    refine (nflip_far p k ps i0 bit f t xs hi1 HPI.out hfar hob.1 hob.2 hps (HX.out.at (net p k ps))).mono ?_
                    rintro e w3 ⟨rfl, rfl⟩
                    go_wp2_with fail
                    refine (rnflip_far B m d ps i0 bit f t xs hi2 MM.out.1 HPI.out hfar hob.2 (HX.out.at (crow 3 65 B m d (ps.flatMap pkT)))).mono ?_
                    rintro e w4 ⟨rfl, rfl⟩
                    clear o1 o2
                    go_wp2_with fail
                    go_meet
                    exact ⟨B, m, d, ps, 1, rfl, rfl, rfl, MM, GG, ⟨HX.out.right⟩⟩
                  · obtain ⟨b0, rfl⟩ : ∃ b0 : Nat, bit = b0 := ⟨bit.toNat, by omega⟩
                    have hb8 : b0 / 8 < xs.length := by omega
                    obtain ⟨v, hv⟩ : ∃ v, xs[b0 / 8]? = some v := ⟨_, List.getElem?_eq_getElem hb8⟩
                    have hvb := gb v (List.mem_of_getElem? hv)
                    have HPI := Aside0.mk hpi
                    have HV := Aside0.mk hv
                    have GX := Aside0.mk gx
                    clear gx gb hpi hv hob hfar hb8
                    go_wp2_with fail
                    refine (nflip_ok p k ps i0 b0 f t xs v hi1 HPI.out HV.out hvb.1 hvb.2 GX.out hps (HX.out.at (net p k ps))).mono ?_
                    rintro e w3 ⟨rfl, g3⟩
                    have H3 := Aside0.mk g3
                    clear g3 HX o1 o2
                    have o1 := H3.out.cellAt b 1 (v := .int .i64 i0) rfl
                    have o2 := H3.out.cellAt b 2 (v := .int .i64 b0) rfl
                    go_wp2_with fail
                    refine (rnflip_ok B m d ps i0 b0 f t xs v hi2 MM.out.1 MM.out.2 HPI.out HV.out hvb.1 hvb.2 GX.out (H3.out.at (crow 3 65 B m d (ps.flatMap pkT)))).mono ?_
                    rintro e w4 ⟨A', c', rfl, g4⟩
                    have H4 := Aside0.mk g4
                    clear g4 H3 o1 o2
                    go_wp2_with fail
                    go_meet
                    exact ⟨A', m, c', (ps.set i0 (f, t, xs.set (b0 / 8) (flip8 v (b0 % 8)))), 0, rfl, rfl, rfl, ⟨by rw [List.length_set]; exact MM.out.1, MM.out.2⟩, ⟨good_set GG.out i0 (b0 / 8) (b0 % 8) v HPI.out HV.out (by omega)⟩, ⟨((H4.out).as (by as_aux_lemma => ac_rfl : _ = (crow 3 65 A' m c' ((ps.set i0 (f, t, xs.set (b0 / 8) (flip8 v (b0 % 8)))).flatMap pkT) * (net p k (ps.set i0 (f, t, xs.set (b0 / 8) (flip8 v (b0 % 8)))) * HP.emp)) * (blk b (.cells #[.int .i64 3, .int .i64 i0, .int .i64 b0, .int .i64 ff, .int .i64 tt, .slice B0 m0 d0] 60)))).left⟩⟩
                · have hb1 : ii < 0 ∨ (ps.length : Int) ≤ ii := by omega
                  have hb2 : ii < 0 ∨ (m : Int) ≤ ii := by have := MM.out.1; omega
                  clear hi
                  have o1 := HX.out.cellAt b 1 (v := .int .i64 ii) rfl
                  have o2 := HX.out.cellAt b 2 (v := .int .i64 bit) rfl
                  go_wp2_with fail
                  refine (nflip_none p k ps ii bit hb1 (HX.out.at (net p k ps))).mono ?_
                  rintro e w3 ⟨rfl, rfl⟩
                  go_wp2_with fail
                  refine (rnflip_none B m d ii bit hb2 _).mono ?_
                  rintro e w4 ⟨rfl, rfl⟩
                  clear o1 o2
                  go_wp2_with fail
                  go_meet
                  exact ⟨B, m, d, ps, 4, rfl, rfl, rfl, MM, GG, ⟨HX.out.right⟩⟩
              · by_cases q4 : kind = 4
                · subst q4
                  have o1 := HX.out.cellAt b 1 (v := .int .i64 ii) rfl
                  have hps : ps.length ≤ 4096 := by have h5 := MM.out.1; have h6 := MM.out.2; omega
                  go_wp2_with fail
                  refine (rnlose_ok B m d ps ii MM.out.1 MM.out.2 (HX.out.at (crow 3 65 B m d (ps.flatMap pkT)))).mono ?_
                  rintro e w3 ⟨A', n', c', rfl, hn', g3⟩
                  have H3 := Aside0.mk g3
                  have HN := Aside0.mk hn'
                  clear g3 HX o1 hn'
                  have o1 := H3.out.cellAt b 1 (v := .int .i64 ii) rfl
                  go_wp2_with fail
                  have hc := nlose_ok p k ps ii hps (H3.out.at (net p k ps))
                  rw [← HN.out, ← MM.out.1] at hc
                  refine hc.mono ?_
                  rintro e w4 ⟨rfl, g4⟩
                  have H4 := Aside0.mk g4
                  clear g4 H3 o1 hc
                  go_wp2_with fail
                  go_meet
                  exact ⟨A', n', c', (ps.filter (fun z => z.2.1 != ii)), 0, rfl, rfl, rfl, ⟨HN.out, by rw [HN.out]; exact Nat.le_trans (List.length_filter_le _ _) hps⟩, ⟨good_filter GG.out _⟩, ⟨((H4.out).as (by as_aux_lemma => ac_rfl : _ = (crow 3 65 A' n' c' ((ps.filter (fun z => z.2.1 != ii)).flatMap pkT) * (net p k (ps.filter (fun z => z.2.1 != ii)) * HP.emp)) * (blk b (.cells #[.int .i64 4, .int .i64 ii, .int .i64 bit, .int .i64 ff, .int .i64 tt, .slice B0 m0 d0] 60)))).left⟩⟩
                · have e0 : (kind == 0) = false := by simpa using q0
                  have e1 : (kind == 1) = false := by simpa using q1
                  have e2 : (kind == 2) = false := by simpa using q2
                  have e3 : (kind == 3) = false := by simpa using q3
                  have e4 : (kind == 4) = false := by simpa using q4
                  clear q0 q1 q2 q3 q4
                  have H1 := Aside0.mk HX.out.right
                  go_wp2_with fail
                  go_meet
                  exact ⟨B, m, d, ps, 0, rfl, rfl, rfl, MM, GG, H1⟩
      case rest =>
        obtain ⟨B', m', d', qs, r, rfl, rfl, rfl, MN, GN, HR⟩ := hcut
        clear HX
        have hqs : qs.length ≤ 4096 := by have h5 := MN.out.1; have h6 := MN.out.2; omega
        go_wp2_with fail
        refine (nlen_ok p k qs m' MN.out.1.symm (HR.out.at (net p k qs))).mono ?_
        rintro e w3 ⟨rfl, rfl⟩
        go_wp2_with fail
        have hc := npackets_ok p k qs hqs (fun q hq => (GN.out q hq).2.2.2.2.1) (HR.out.at (net p k qs))
        rw [← MN.out.1] at hc
        refine hc.mono ?_
        rintro e w4 ⟨A, c, gs, rfl, hg, g4⟩
        clear hc
        have H4 := Aside0.mk g4
        clear g4 hg HR
        go_wp2_with fail
        refine (rnsame_ok A m' c qs gs B' d' MN.out.1 MN.out.2 (H4.out.as (by as_aux_lemma => ac_rfl : _ = crow 3 58 A m' c (pcells qs gs) * (rowsHP (Kd.int .u8) 5 gs (qs.map (·.2.2)) * (crow 3 65 B' m' d' (qs.flatMap pkT) * (net p k qs * HP.emp)))))).mono ?_
        rintro e w5 ⟨rfl, g5⟩
        have H5 := Aside0.mk g5.right.right
        clear g5 H4
        go_wp2_with fail
        go_roundw
        case rel => exact ⟨j + 1, B', m', d', qs, by omega, by go_num, rfl, MN, GN, H5⟩
        case measure => simp [intOf]; omega
    · have hjn : j = nn := by omega
      subst hjn
      go_wp2_with fail
      go_ret
      exact ⟨rfl, HW.out.below⟩
theorem netPlays_walk (k : Int) (A : Option Addr) (ca : Nat) (ys : List TN) (w : World) (_ : (Lit.int .i64 k).wf = true) (hA : KOpN.C w A ys.length ys) (hca : ys.length ≤ ca)
    (sa : ys.length * 64 ≤ 140737488351232 ∧ ∀ y ∈ ys, snO0 y) :
    Calls Try.prog 4 #[.int .i64 k, .slice A ys.length ca] w fun e w' => e = .returned (.bool true) ∧ Below w.heap.size w w' := by
  by_cases h : k < 1 ∨ 8 < k
  · exact netPlays_bad k h A _ ca w
  · exact netPlays_ok k (by omega) (by omega) A _ ca ys w hA sa.2
end Go.Proofs.Ytenblkbieaadnaa
