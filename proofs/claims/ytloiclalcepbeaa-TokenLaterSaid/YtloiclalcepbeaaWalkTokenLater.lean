/- TokenLater's walk. -/
import Derived.Test.YtloiclalcepbeaaTokenL
import Derived.Test.YtloiclalcepbeaaCrow
set_option linter.unusedVariables false
set_option linter.unusedSimpArgs false
namespace Go.Proofs.Ytloiclalcepbeaa
open Go.RowKit Go.Proofs.YtloiclalcepbeaaW.PrintWords Go.Proofs.YtloiclalcepbeaaW.PrintLast
def tcells (l : List (Int × Int)) : List Value := l.flatMap fun t => [.int .i64 t.1, .int .i64 t.2]
theorem tcells_at : ∀ (l : List (Int × Int)) (j : Nat) (a b : Int), l[j]? = some (a, b) → (tcells l)[j * 2]? = some (.int .i64 a) ∧ (tcells l)[j * 2 + 1]? = some (.int .i64 b)
  | [], j, a, b, h => by simp at h
  | t :: l, 0, a, b, h => by
    obtain rfl : t = (a, b) := by simpa using h
    exact ⟨rfl, rfl⟩
  | t :: l, j + 1, a, b, h => by
    have ih := tcells_at l j a b (by simpa using h)
    have e : tcells (t :: l) = .int .i64 t.1 :: .int .i64 t.2 :: tcells l := rfl
    rw [e, show (j + 1) * 2 = j * 2 + 1 + 1 by omega]
    simpa using ih
theorem crow_tok {w0 w : World} {F : HP} {A : Option Addr} {n c : Nat} {l : List (Int × Int)} (h : Hw w0 w (crow 2 23 A n c (tcells l) * F)) (hn : l.length = n) (hm : n ≤ 9223372036854775807) : KTok.C w A n l := by
  refine ⟨hn, hm, fun hp => ?_⟩
  obtain ⟨ad, e, hc⟩ := crow_reads h hp
  refine ⟨ad, e, fun j p hj => ?_⟩
  obtain ⟨a, b⟩ := p
  obtain ⟨h0, h1⟩ := tcells_at l j a b hj
  refine ⟨[.int .i64 a, .int .i64 b], rfl, ⟨[.int .i64 a], [.int .i64 b], rfl, rfl, rfl⟩, fun i u hu => ?_⟩
  match i, hu with
  | 0, hu =>
    obtain rfl : Value.int .i64 a = u := by simpa using hu
    exact hc _ _ h0
  | 1, hu =>
    obtain rfl : Value.int .i64 b = u := by simpa using hu
    exact hc _ _ h1
theorem tcells_snoc (l : List (Int × Int)) (x y : Int) : tcells (l ++ [(x, y)]) = tcells l ++ [.int .i64 x, .int .i64 y] := by simp [tcells]
theorem Try.infoTok : (Try.prog.info? 23).map (fun i => (i.zero, i.size, i.bytes)) = some (some (.agg #[.int .i64 0, .int .i64 0]), 2, 16) := by kernel_rfl
set_option maxHeartbeats 800000 in
theorem tok_eq (p q n r : Int) (W : World) : (binOp .eql 23 (.agg #[.int .i64 p, .int .i64 q]) (.agg #[.int .i64 n, .int .i64 r])).run Try.prog W = .ok (.bool (decide (p = n ∧ q = r))) W := by
  by_cases h1 : p = n
  · by_cases h2 : q = r
    · subst h1 h2
      go_simp
      done
    · have h3 : (q == r) = false := by simpa using h2
      subst h1
      rw [decide_eq_false (by simp [h2])]
      go_simp
      done
  · have h3 : (p == n) = false := by simpa using h1
    rw [decide_eq_false (by simp [h1])]
    go_simp
    done
set_option maxHeartbeats 3200000 in
set_option maxRecDepth 100000 in
theorem tokenLater_ok (n0 r0 : Int) (A : Option Addr) (n ca : Nat) (ts : List (Int × Int)) (w : World) (hA : KTok.C w A n ts) (hn : n * 16 ≤ 140737488351232) :
    Calls Try.prog 7 #[.agg #[.int .i64 n0, .int .i64 r0], .slice A n ca] w fun e w' => e = .returned (.bool true) ∧ Below w.heap.size w w' := by
  have HL := Aside0.mk hA.1
  have HA := Aside0.mk hA
  have H1 := Aside0.mk ((Hw.start w).alloc (.cells #[.int .i64 n0, .int .i64 r0] 23))
  clear hA
  go_enter Try.func7, Try.ntmps7
  go_wp2_with fail
  refine (tawake_ok _).mono ?_
  rintro e w2 ⟨rfl, h2⟩
  have H2 := Aside0.mk (H1.out.from_below h2)
  have c0 := H2.out.cell (i := 0) (v := .int .i64 n0) rfl
  have c1 := H2.out.cell (i := 1) (v := .int .i64 r0) rfl
  clear h2 H1
  go_wp2_with fail
  refine (tlater_ok n0 r0 A n ca ts w2 (Kd.C_below HA.out H2.out.below)).mono ?_
  rintro e w3 ⟨rfl, h3⟩
  have TP := Aside0.mk (laters_top ts (n0, r0))
  have TT := Aside0.mk (laters_turned (n0, r0) ts)
  obtain ⟨best, hbest⟩ : ∃ b, b = laters (n0, r0) ts := ⟨_, rfl⟩
  rw [← hbest] at TP TT ⊢
  obtain ⟨p, q⟩ := best
  have H3 := Aside0.mk (((H2.out.from_below h3).alloc (.cells #[.int .i64 p, .int .i64 q] 23)).atB w.heap.size)
  have c0' := H3.out.cell (i := 0) (v := .int .i64 n0) rfl
  have c1' := H3.out.cell (i := 1) (v := .int .i64 r0) rfl
  have d0 := H3.out.cellAt w3.heap.size 0 (v := .int .i64 p) rfl
  have d1 := H3.out.cellAt w3.heap.size 1 (v := .int .i64 q) rfl
  clear h3 H2 c0 c1 hbest
  have hteq := tok_eq p q n0 r0
  go_wp2_with fail
  have FD0 : Aside0 (decide (p = n0 ∧ q = r0) = true ↔ ((p, q) = (n0, r0) ∨ (p, q) ∈ ts.take 0)) := ⟨by simp⟩
  clear hteq c0' c1' d0 d1
  go_loopw [21, 6] (fun i v wr => ∃ (k : Nat) (fd : Bool), k ≤ n ∧ i = .int .i64 k ∧ v = .bool fd ∧ Aside0 (fd = true ↔ ((p, q) = (n0, r0) ∨ (p, q) ∈ ts.take k)) ∧
    Aside0 (Hw w wr (blk w.heap.size (.cells #[.int .i64 n0, .int .i64 r0] 23) * (blk w3.heap.size (.cells #[.int .i64 p, .int .i64 q] 23) * HP.emp)))) (fun i _ _ => n - (intOf i).toNat)
  case atStart => exact ⟨0, _, Nat.zero_le _, rfl, rfl, ⟨Iff.trans (by simp) FD0.out⟩, H3⟩
  case round =>
    obtain ⟨k, fd, hk, rfl, rfl, FD, HW⟩ := hrel
    clear H3 FD0
    by_cases hlt : k < n
    · obtain ⟨ad, x, y, rfl, hx, k0, k1⟩ := tok_at HA.out HW.out.below k hlt
      have HT := Aside0.mk (HW.out.alloc (.cells #[.int .i64 x, .int .i64 y] 23))
      have t0 := HT.out.cell (i := 0) (v := .int .i64 x) rfl
      have t1 := HT.out.cell (i := 1) (v := .int .i64 y) rfl
      have g0 := HT.out.cellAt w3.heap.size 0 (v := .int .i64 p) rfl
      have g1 := HT.out.cellAt w3.heap.size 1 (v := .int .i64 q) rfl
      have HK := Aside0.mk (HT.out.dropB wr.heap.size)
      have hnl := TP.out.2 (x, y) (List.mem_cons_of_mem _ (List.mem_of_getElem? hx.out))
      unfold isLater at hnl
      simp only at hnl
      have TK := Aside0.mk (take_snoc_of hx.out)
      have hteq := tok_eq x y p q
      have e1 : ¬ q < y := by omega
      clear hx
      have FT : fd = true → Aside0 (true = true ↔ ((p, q) = (n0, r0) ∨ (p, q) ∈ ts.take (k + 1))) := fun h => ⟨by
        rw [TK.out]
        rcases FD.out.1 h with h | h
        · simp [h]
        · simp [h]⟩
      have FF : fd = false → Aside0 (decide (x = p ∧ y = q) = true ↔ ((p, q) = (n0, r0) ∨ (p, q) ∈ ts.take (k + 1))) := fun h => ⟨by
        have h1 : ¬ ((p, q) = (n0, r0) ∨ (p, q) ∈ ts.take k) := fun hh => by rw [FD.out.2 hh] at h; cases h
        rw [TK.out, List.mem_append, ← or_assoc]
        constructor
        · intro hd
          have := of_decide_eq_true hd
          exact .inr (by rw [← this.1, ← this.2]; simp)
        · rintro (hh | hh)
          · exact absurd hh h1
          · have : (p, q) = (x, y) := by simpa using hh
            injection this with h3 h4
            exact decide_eq_true ⟨h3.symm, h4.symm⟩⟩
      clear FD TK
      by_cases hy : y = q
      · subst hy
        have e2 : ¬ x < p := by omega
        have e3 : (y == y) = true := by simp
        have hyy := Aside0.mk e3
        cases fd
        · have F2 := FF rfl
          clear FF FT hnl
          go_wp2_with fail
          go_roundw
          case rel => exact ⟨k + 1, _, by omega, by go_num, rfl, ⟨Iff.trans (by simp [hyy]) F2.out⟩, HK⟩
          case measure => simp [intOf]; omega
        · have F2 := FT rfl
          clear FF FT hnl hteq
          go_wp2_with fail
          go_roundw
          case rel => exact ⟨k + 1, _, by omega, by go_num, rfl, ⟨Iff.trans (by simp [hyy]) F2.out⟩, HK⟩
          case measure => simp [intOf]; omega
      · have e3 : (y == q) = false := by simpa using hy
        have hyy := hy
        cases fd
        · have F2 := FF rfl
          clear FF FT hnl
          go_wp2_with fail
          go_roundw
          case rel => exact ⟨k + 1, _, by omega, by go_num, rfl, ⟨Iff.trans (by simp [hyy]) F2.out⟩, HK⟩
          case measure => simp [intOf]; omega
        · have F2 := FT rfl
          clear FF FT hnl hteq
          go_wp2_with fail
          go_roundw
          case rel => exact ⟨k + 1, _, by omega, by go_num, rfl, ⟨Iff.trans (by simp [hyy]) F2.out⟩, HK⟩
          case measure => simp [intOf]; omega
    · have hk2 : n = k := by omega
      subst hk2
      have et : ts.take n = ts := List.take_of_length_le (by rw [HL.out]; exact Nat.le_refl _)
      rw [et] at FD
      have hfd : fd = true := FD.out.2 (by
        rcases List.mem_cons.1 TP.out.1 with h | h
        · exact .inl h
        · exact .inr h)
      subst hfd
      have hnl := TP.out.2 (n0, r0) (List.mem_cons_self ..)
      unfold isLater at hnl
      simp only at hnl
      have t0 := HW.out.cellAt w.heap.size 0 (v := .int .i64 n0) rfl
      have t1 := HW.out.cellAt w.heap.size 1 (v := .int .i64 r0) rfl
      have g0 := HW.out.cellAt w3.heap.size 0 (v := .int .i64 p) rfl
      have g1 := HW.out.cellAt w3.heap.size 1 (v := .int .i64 q) rfl
      have e1 : ¬ q < r0 := by omega
      have hc : (r0 == q) = false ∨ ((r0 == q) = true ∧ ¬ n0 < p) := by
        by_cases h : r0 = q
        · exact .inr ⟨by simpa using h, by omega⟩
        · exact .inl (by simpa using h)
      clear hnl FD et hlt hk
      obtain ⟨w1, w2⟩ := i64_in ((n : Int) - 1) (by omega) (by omega)
      rcases hc with e3 | ⟨e3, e2⟩
      all_goals
        go_wp2_with fail
        clear w1 w2 t0 t1 g0 g1 e1 e3
        have HS := Aside0.mk (crow_none (sz := 2) (e := 23) (A := none) (n := 0) (cs := []) rfl rfl HW.out)
        go_loopw [10, 9] (fun i v wr => ∃ (j m : Nat) (A1 : Option Addr) (c1 : Nat), j + m = n ∧ i = .int .i64 ((j : Int) - 1) ∧ v = .slice A1 m c1 ∧
          Aside0 (Hw w wr (crow 2 23 A1 m c1 (tcells (ts.drop j).reverse) * (blk w.heap.size (.cells #[.int .i64 n0, .int .i64 r0] 23) * (blk w3.heap.size (.cells #[.int .i64 p, .int .i64 q] 23) * HP.emp))))) (fun i _ _ => (intOf i + 1).toNat)
        case atStart => exact ⟨n, 0, none, 0, rfl, by first | rfl | go_num, rfl, ⟨by rw [List.drop_of_length_le (by rw [HL.out]; exact Nat.le_refl _)]; exact HS.out⟩⟩
        case round =>
          obtain ⟨j, m, A1, c1, hjm, rfl, rfl, HX⟩ := hrel
          clear HS
          by_cases hj : 0 < j
          · obtain ⟨k, rfl⟩ : ∃ k, j = k + 1 := ⟨j - 1, by omega⟩
            have ek : (((k + 1 : Nat) : Int) - 1) = k := by omega
            obtain ⟨ad, x, y, rfl, hx, k0, k1⟩ := tok_at HA.out HX.out.below k (by omega)
            have H4 := Aside0.mk ((HX.out.alloc (.cells [.int .i64 x, .int .i64 y].toArray 23)).at (crow 2 23 A1 m c1 (tcells (ts.drop (k + 1)).reverse)))
            have BC := Aside0.mk (blk_cells (H4.out.atB wr.heap.size))
            have TD := Aside0.mk (show tcells (ts.drop k).reverse = tcells (ts.drop (k + 1)).reverse ++ [.int .i64 x, .int .i64 y] by
              have h1 := List.getElem?_eq_some_iff.1 hx.out
              rw [List.drop_eq_getElem_cons h1.1, h1.2, List.reverse_cons, tcells_snoc])
            have hkn : (k : Int) < n := by omega
            obtain ⟨w1, w2⟩ := i64_in ((k : Int) - 1) (by omega) (by omega)
            clear hx
            rw [ek]
            go_wp2_with (at_builtin; refine crow_append (news := [.int .i64 x, .int .i64 y]) (m := 1) (c := 1) rfl (.tmp 81) (.tmp 86) 38 (.agg #[.int .i64 0, .int .i64 0]) 16 rfl Try.underlying38 Try.infoTok rfl (by decide) rfl rfl H4.out rfl (by intro u hu; simp only [List.mem_cons, List.not_mem_nil, or_false] at hu; rcases hu with rfl | rfl <;> rfl) (fun _ => ⟨_, rfl, BC.out⟩) (by decide) (by omega) ?_; intro A3 c3' w5 h5)
            go_roundw
            case rel => exact ⟨k, m + 1, A3, c3', by omega, by first | rfl | go_num, rfl, ⟨by rw [TD.out]; exact h5.out.dropB wr.heap.size⟩⟩
            case measure => simp [intOf]
          · have hj0 : j = 0 := by omega
            subst hj0
            obtain rfl : m = n := by omega
            have HX2 : Aside0 (Hw w wr (crow 2 23 A1 m c1 (tcells ts.reverse) * (blk w.heap.size (.cells #[.int .i64 n0, .int .i64 r0] 23) * (blk w3.heap.size (.cells #[.int .i64 p, .int .i64 q] 23) * HP.emp)))) := ⟨HX.out⟩
            have HB := Aside0.mk ((HX2.out.drew.alloc (.cells [.int .i64 n0, .int .i64 r0].toArray 23)).at (crow 2 23 A1 m c1 (tcells ts.reverse)))
            have BC := Aside0.mk (blk_cells (HB.out.atB wr.drew.heap.size))
            have LT := Aside0.mk (fun (W : World) (A9 : Option Addr) (c9 : Nat) (h : KTok.C W A9 (m + 1) (ts.reverse ++ [(n0, r0)])) => (show Calls Try.prog 20 #[.agg #[.int .i64 n0, .int .i64 r0], .slice A9 (m + 1) c9] W (fun e w' => e = .returned (.agg #[.int .i64 p, .int .i64 q]) ∧ Below W.heap.size W w') by
              have h1 := tlater_ok n0 r0 A9 (m + 1) c9 _ W h
              rw [TT.out] at h1
              exact h1))
            have b0 := HX2.out.drew.cellAt w.heap.size 0 (v := .int .i64 n0) rfl
            have b1 := HX2.out.drew.cellAt w.heap.size 1 (v := .int .i64 r0) rfl
            have b2 := HX2.out.drew.cellAt w3.heap.size 0 (v := .int .i64 p) rfl
            have b3 := HX2.out.drew.cellAt w3.heap.size 1 (v := .int .i64 q) rfl
            have a0 := HB.out.cellAt w.heap.size 0 (v := .int .i64 n0) rfl
            have a1 := HB.out.cellAt w.heap.size 1 (v := .int .i64 r0) rfl
            have a2 := HB.out.cellAt w3.heap.size 0 (v := .int .i64 p) rfl
            have a3 := HB.out.cellAt w3.heap.size 1 (v := .int .i64 q) rfl
            have hls : (ts.reverse ++ [(n0, r0)]).length = m + 1 := by rw [List.length_append, List.length_reverse, HL.out]; rfl
            have LS := Aside0.mk hls
            clear HX hls hj hjm
            go_upto_region 19 with fail
            refine start_ (n := 9) (S := fun w' => w'.cell? ⟨w.heap.size, 0, none⟩ = some (.int .i64 n0) ∧ w'.cell? ⟨w.heap.size, 1, none⟩ = some (.int .i64 r0) ∧ w'.cell? ⟨w3.heap.size, 0, none⟩ = some (.int .i64 p) ∧ w'.cell? ⟨w3.heap.size, 1, none⟩ = some (.int .i64 q)) (ds := []) #[false, false, false, false, false, false, false, false, false] (by kernel_rfl) rfl rfl ⟨b0, b1, b2, b3⟩ (fun hHeld => ?_)
            refine pure_ (i := 1) (N := some 89) (v := ?_) (a' := ?_) #[false, true, false, false, false, false, false, false, false] rfl rfl (by kernel_rfl) (fun _ _ _ h => h) (Or.inl ⟨by rfl, ?_⟩) ?_ ?_
            rotate_left
            · intro w'
              go_simp
              with_reducible rfl
            rotate_left
            · simp only [Act.put, List.setIfInBounds_toArray, List.set_cons_zero, List.set_cons_succ, i64_w, i32_w]
              rfl
            refine take_ (i := 0) (N := some 88) (v := ?_) (a' := ?_) #[true, true, false, false, false, false, false, false, false] rfl rfl (by kernel_rfl) (fun _ _ _ h => h) (Or.inl ⟨by rfl, ?_⟩) hHeld ?_ ?_
            rotate_left
            · rintro w' ⟨s0, s1, s2, s3⟩
              go_simp
              with_reducible rfl
            rotate_left
            · simp only [Act.put, List.setIfInBounds_toArray, List.set_cons_zero, List.set_cons_succ, i64_w, i32_w]
              rfl
            refine take_ (i := 2) (N := some 90) (v := ?_) (a' := ?_) #[true, true, true, false, false, false, false, false, false] rfl rfl (by kernel_rfl) (fun _ _ _ h => h) (Or.inl ⟨by rfl, ?_⟩) hHeld ?_ ?_
            rotate_left
            · rintro w' ⟨s0, s1, s2, s3⟩
              go_simp
              with_reducible rfl
            rotate_left
            · simp only [Act.put, List.setIfInBounds_toArray, List.set_cons_zero, List.set_cons_succ, i64_w, i32_w]
              rfl
            refine take_ (i := 6) (N := some 94) (v := ?_) (a' := ?_) #[true, true, true, false, false, false, true, false, false] rfl rfl (by kernel_rfl) (fun _ _ _ h => h) (Or.inl ⟨by rfl, ?_⟩) hHeld ?_ ?_
            rotate_left
            · rintro w' ⟨s0, s1, s2, s3⟩
              go_simp
              with_reducible rfl
            rotate_left
            · simp only [Act.put, List.setIfInBounds_toArray, List.set_cons_zero, List.set_cons_succ, i64_w, i32_w]
              rfl
            refine one_ (i := 3) (N := some 91) #[true, true, true, true, false, false, true, false, false] rfl rfl (by kernel_rfl) (by decide) (fun K hK => ?_)
            refine value_ (w1 := ?_) (v := ?_) (by rfl) rfl ?_ ?_
            rotate_left 2
            · go_simp
              constructor
              · rfl
              · rfl
            refine hK.out _ _ ⟨a0, a1, a2, a3⟩ (fun hHeld => ?_)
            clear hK K
            refine norm_ (a' := ?_) ?_ ?_
            rotate_left
            · show Act.put _ (some 91) _ = _
              simp only [Act.put, List.setIfInBounds_toArray, List.set_cons_zero, List.set_cons_succ, i64_w, i32_w]
              rfl
            refine one_ (i := 4) (N := some 92) #[true, true, true, true, true, false, true, false, false] rfl rfl (by kernel_rfl) (by decide) (fun K hK => ?_)
            refine crow_append_step (news := [.int .i64 n0, .int .i64 r0]) (m := 1) (c := 1) (by first | rfl | simp [Region.wanted]) (.tmp 89) (.tmp 91) 38 (.agg #[.int .i64 0, .int .i64 0]) 16 rfl Try.underlying38 Try.infoTok rfl (by decide) rfl rfl HB.out rfl (by intro u hu; simp only [List.mem_cons, List.not_mem_nil, or_false] at hu; rcases hu with rfl | rfl <;> rfl) (fun _ => ⟨_, rfl, BC.out⟩) (by decide) (by omega) ?_
            intro A9 c9 w9 h9
            rw [← tcells_snoc] at h9
            have e0 := h9.out.cellAt w.heap.size 0 (v := .int .i64 n0) rfl
            have e1 := h9.out.cellAt w.heap.size 1 (v := .int .i64 r0) rfl
            have e2 := h9.out.cellAt w3.heap.size 0 (v := .int .i64 p) rfl
            have e3 := h9.out.cellAt w3.heap.size 1 (v := .int .i64 q) rfl
            refine hK.out _ _ ⟨e0, e1, e2, e3⟩ (fun hHeld => ?_)
            clear hK K
            refine norm_ (a' := ?_) ?_ ?_
            rotate_left
            · show Act.put _ (some 92) _ = _
              simp only [Act.put, List.setIfInBounds_toArray, List.set_cons_zero, List.set_cons_succ, i64_w, i32_w]
              rfl
            refine one_ (i := 5) (N := some 93) #[true, true, true, true, true, true, true, false, false] rfl rfl (by kernel_rfl) (by decide) (fun K hK => ?_)
            refine goes_ Try.func20 (by kernel_rfl) rfl #[.agg #[.int .i64 n0, .int .i64 r0], .slice A9 (m + 1) c9] (by rfl) rfl rfl (by simp only [List.map_toArray, List.map_cons, List.map_nil]; rfl) ?_
            with_reducible refine (LT.out w9 A9 c9 (crow_tok h9.out LS.out (by omega))).mono ?_
            rintro e w10 ⟨rfl, h10⟩
            refine ⟨_, rfl, ?_⟩
            have H10 := Aside0.mk (h9.out.from_below h10)
            have f0 := H10.out.cellAt w.heap.size 0 (v := .int .i64 n0) rfl
            have f1 := H10.out.cellAt w.heap.size 1 (v := .int .i64 r0) rfl
            have f2 := H10.out.cellAt w3.heap.size 0 (v := .int .i64 p) rfl
            have f3 := H10.out.cellAt w3.heap.size 1 (v := .int .i64 q) rfl
            refine hK.out _ _ ⟨f0, f1, f2, f3⟩ (fun hHeld => ?_)
            clear hK K
            refine norm_ (a' := ?_) ?_ ?_
            rotate_left
            · show Act.put _ (some 93) _ = _
              simp only [Act.put, List.setIfInBounds_toArray, List.set_cons_zero, List.set_cons_succ, i64_w, i32_w]
              rfl
            refine pure_ (i := 7) (N := some 95) (v := ?_) (a' := ?_) #[true, true, true, true, true, true, true, true, false] rfl rfl (by kernel_rfl) (fun _ _ _ h => h) (Or.inl ⟨by rfl, ?_⟩) ?_ ?_
            rotate_left
            · intro w'
              go_simp
              with_reducible rfl
            rotate_left
            · simp only [Act.put, List.setIfInBounds_toArray, List.set_cons_zero, List.set_cons_succ, i64_w, i32_w]
              rfl
            refine pure_ (i := 8) (N := some 4) (v := ?_) (a' := ?_) #[true, true, true, true, true, true, true, true, true] rfl rfl (by kernel_rfl) (fun _ _ _ h => h) (Or.inl ⟨by rfl, ?_⟩) ?_ ?_
            rotate_left
            · intro w'
              go_simp
              with_reducible rfl
            rotate_left
            · simp only [Act.put, List.setIfInBounds_toArray, List.set_cons_zero, List.set_cons_succ, i64_w, i32_w]
              rfl
            refine done_ (by kernel_rfl) ?_
            clear hHeld
            go_wp2_with fail
            go_ret
            exact ⟨rfl, H10.out.below⟩
theorem tokenLater_walk (a b : Int) (A : Option Addr) (ca : Nat) (ts : List (Int × Int)) (w : World) (_ : (Lit.int .i64 a).wf = true) (_ : (Lit.int .i64 b).wf = true) (hA : KTok.C w A ts.length ts) (_ : ts.length ≤ ca) (sa : ts.length * 16 ≤ 140737488351232 ∧ ∀ y ∈ ts, tS y.1 ∧ tS y.2) :
    Calls Try.prog 7 #[.agg #[.int .i64 a, .int .i64 b], .slice A ts.length ca] w fun e w' => e = .returned (.bool true) ∧ Below w.heap.size w w' := tokenLater_ok a b A _ ca ts w hA sa.1
end Go.Proofs.Ytloiclalcepbeaa
