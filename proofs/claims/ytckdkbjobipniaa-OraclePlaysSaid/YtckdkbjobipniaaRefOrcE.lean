/- The document's oracle: Ask, Settle. Printed by wip/gen/reforce.py. -/
import Derived.Test.YtckdkbjobipniaaRefOrcD
set_option linter.unusedVariables false
set_option linter.unusedSimpArgs false
namespace Go.Proofs.Ytckdkbjobipniaa
open Go.RowKit Go.Proofs.YtckdkbjobipniaaW.PrintWords Go.Proofs.YtckdkbjobipniaaW.PrintLast
section
variable {w0 w : World} {F : HP}
theorem re1 {P1 P2 P3 C D : HP} (h : Hw w0 w (P1 * (P2 * (P3 * (C * (D * F)))))) : Hw w0 w (C * (D * (P1 * (P2 * (P3 * F))))) := h.as (by ac_rfl)
theorem re2 {P1 P2 C D : HP} (h : Hw w0 w (P1 * (P2 * (C * (D * F))))) : Hw w0 w (C * (D * (P1 * (P2 * F)))) := h.as (by ac_rfl)
theorem re3 {P1 P2 P3 C D : HP} (h : Hw w0 w (P1 * (P2 * (C * (D * (P3 * F)))))) : Hw w0 w (C * (D * F)) := (h.as (Q := C * (D * F) * (P1 * (P2 * P3))) (by ac_rfl)).left
theorem re4 {P1 P2 C D : HP} (h : Hw w0 w (P1 * (C * (D * (P2 * F))))) : Hw w0 w (C * (D * F)) := (h.as (Q := C * (D * F) * (P1 * P2)) (by ac_rfl)).left
set_option maxHeartbeats 12800000 in
set_option maxRecDepth 100000 in
theorem r14ask_ok (t : ByteArray) (dur room : Int) (A : Option Addr) (n c : Nat) (B : Option Addr) (m d : Nat) (ms : List Msg) (ht : t = strOfNums (logB ms)) (hdur : dur = ((logB ms).length : Int)) (hn : n = (oopen ms).iss.length) (hm : m = (oopen ms).done.length) (hs : OrcMs ms room) (h : Hw w0 w (crow 12 27 A n c (issCells (oopen ms).iss) * (crow 1 2 B m d ((oopen ms).done.flatMap intC) * F))) (id src : Int) (hid : i64r id) (hsrc : i64r src) :
    Calls Try.prog 40 #[.agg #[.string t, .int .i64 dur, .int .i64 room, .slice A n c, .slice B m d], .int .i64 id, .int .i64 src] w fun e w' => ∃ v ms2 r k, e = .returned (.tuple #[v, .int .i64 r, .int .i64 k]) ∧ Aside0 (oask ms room id src = (ms2, r, k)) ∧ RefIs w0 w' F ms2 room v := by
  have LS := Aside0.mk hs.last
  obtain ⟨last, hlast⟩ : ∃ x, olast ⟨(oopen ms).iss, (oopen ms).done⟩ = x := ⟨_, rfl⟩
  have EL := Aside0.mk hlast
  have OA := Aside0.mk (show oask ms room id src = if orev (oopen ms) id ≠ 0 then (ms, orev (oopen ms) id, 0) else if 1125899906842624 ≤ last then (ms, 0, 1) else if addErr (newM id src (last + 1)) (logB ms).length room = 0 then (ms ++ [(newM id src (last + 1))], last + 1, 0) else (ms, 0, addErr (newM id src (last + 1)) (logB ms).length room) by
    rw [← hlast]
    rfl)
  have LR : 0 ≤ last ∧ last ≤ 9223372036854775807 := by rw [← hlast]; exact LS.out
  clear hlast LS
  have TT := Aside0.mk ht
  have DD := Aside0.mk hdur
  have NN := Aside0.mk hn
  have MM := Aside0.mk hm
  have HS := Aside0.mk hs
  have TZ := Aside0.mk (show t.size = (logB ms).length by rw [ht, tx_size])
  have LB := Aside0.mk (show (logB ms).length ≤ 1048576 by have h1 := hs.len; have h2 := hs.r1; omega)
  have NB : n ≤ 1000000 := by have h1 := oopen_len ms; have h2 := hs.cnt; omega
  have MB : m ≤ 1000000 := by have h1 := done_len ms; have h2 := hs.cnt; omega
  have H1 := Aside0.mk ((h.alloc (.cells #[.string t, .int .i64 dur, .int .i64 room, .slice A n c, .slice B m d] 77)).alloc (.cells #[.string ⟨#[]⟩, .int .i64 0, .int .i64 0, .slice none 0 0, .slice none 0 0] 77))
  simp only [World.size_alloc] at H1
  obtain ⟨rv, hrv⟩ : ∃ x, orev ⟨(oopen ms).iss, (oopen ms).done⟩ id = x := ⟨_, rfl⟩
  have ER := Aside0.mk hrv
  have ER2 := Aside0.mk (show orev (oopen ms) id = rv from hrv)
  clear ht hdur hn hm hs h hrv
  rw [ER2.out] at OA
  have k0 := H1.out.cellAt w.heap.size 0 (v := .string t) rfl
  have k1 := H1.out.cellAt w.heap.size 1 (v := .int .i64 dur) rfl
  have k2 := H1.out.cellAt w.heap.size 2 (v := .int .i64 room) rfl
  have k3 := H1.out.cellAt w.heap.size 3 (v := .slice A n c) rfl
  have k4 := H1.out.cellAt w.heap.size 4 (v := .slice B m d) rfl
  go_enter Try.func40, Try.ntmps40
  go_wp2_with fail
  obtain ⟨b1, hb1⟩ : ∃ b, b = w.heap.size := ⟨_, rfl⟩
  obtain ⟨b2, hb2⟩ : ∃ b, b = w.heap.size + 1 := ⟨_, rfl⟩
  have n12 : ¬ b1 = b2 := by omega
  have n21 : ¬ b2 = b1 := by omega
  rw [← hb2, ← hb1] at H1
  refine (r14rev_ok t dur room A n c B m d (oopen ms).iss (oopen ms).done _ (ref_iss (H1.out.at (crow 12 27 A n c (issCells (oopen ms).iss))) NN.out NB) NB id).mono ?_
  rintro e w2 ⟨rfl, hb⟩
  rw [ER.out, ← hb2, ← hb1]
  have H2 := Aside0.mk (H1.out.from_below hb)
  clear hb H1 k0 k1 k2 k3 k4 hb1 hb2
  by_cases hv : rv = 0
  · rw [if_neg (fun h => h hv)] at OA
    subst hv
    have p0 := H2.out.cellAt b1 0 (v := .string t) rfl
    have p1 := H2.out.cellAt b1 1 (v := .int .i64 dur) rfl
    have p2 := H2.out.cellAt b1 2 (v := .int .i64 room) rfl
    have p3 := H2.out.cellAt b1 3 (v := .slice A n c) rfl
    have p4 := H2.out.cellAt b1 4 (v := .slice B m d) rfl
    go_wp2_with fail
    refine (r14last_ok t dur room A n c B m d (oopen ms).iss (oopen ms).done _ (ref_iss (H2.out.at (crow 12 27 A n c (issCells (oopen ms).iss))) NN.out NB) NB).mono ?_
    rintro e w3 ⟨rfl, hb⟩
    rw [EL.out]
    have H3 := Aside0.mk (H2.out.from_below hb)
    clear hb H2 p0 p1 p2 p3 p4
    have p0 := H3.out.cellAt b1 0 (v := .string t) rfl
    have p1 := H3.out.cellAt b1 1 (v := .int .i64 dur) rfl
    have p2 := H3.out.cellAt b1 2 (v := .int .i64 room) rfl
    have p3 := H3.out.cellAt b1 3 (v := .slice A n c) rfl
    have p4 := H3.out.cellAt b1 4 (v := .slice B m d) rfl
    by_cases hm : 1125899906842624 ≤ last
    · rw [if_pos hm] at OA
      have d2 : decide (1125899906842624 ≤ last) = true := decide_eq_true hm
      have d3 : decide (last ≥ 1125899906842624) = true := decide_eq_true hm
      have HB := Aside0.mk (H3.out.atB b2)
      go_wp2_with (refine Hw.store_row rfl 77 (.tmp 6) (.tmp 22) rfl b2 #[.string t, .int .i64 dur, .int .i64 room, .slice A n c, .slice B m d] rfl rfl HB.out (by kernel_rfl) (by rfl) (by first | kernel_rfl | rfl | simp [Value.oneCell']) ?_; intro wz HZ; have y0 := HZ.out.cellAt b2 0 (v := .string t) rfl; have y1 := HZ.out.cellAt b2 1 (v := .int .i64 dur) rfl; have y2 := HZ.out.cellAt b2 2 (v := .int .i64 room) rfl; have y3 := HZ.out.cellAt b2 3 (v := .slice A n c) rfl; have y4 := HZ.out.cellAt b2 4 (v := .slice B m d) rfl)
      exact bodyPost_ret (v := .tuple #[.agg #[.string t, .int .i64 dur, .int .i64 room, .slice A n c, .slice B m d], .int .i64 0, .int .i64 1]) (by simp [results, Try.results40, go_sem, y0, y1, y2, y3, y4]) rfl ⟨_, ms, 0, 1, rfl, OA, ⟨t, dur, A, n, c, B, m, d, rfl, TT.out, DD.out, NN.out, MM.out, (HZ.out.dropB b2).dropB b1⟩⟩
    · rw [if_neg hm] at OA
      have d2 : decide (1125899906842624 ≤ last) = false := decide_eq_false hm
      have d3 : decide (last ≥ 1125899906842624) = false := decide_eq_false hm
      have rr : i64r (last + 1) := by unfold i64r; omega
      have GM := Aside0.mk (newM_good hid hsrc rr)
      have wr1 := (i64_in2 (last + 1) (by omega) (by omega)).1
      have wr2 := (i64_in2 (last + 1) (by omega) (by omega)).2
      clear rr
      go_wp2_with fail
      refine (r14last_ok t dur room A n c B m d (oopen ms).iss (oopen ms).done _ (ref_iss (H3.out.at (crow 12 27 A n c (issCells (oopen ms).iss))) NN.out NB) NB).mono ?_
      rintro e w4 ⟨rfl, hb⟩
      rw [EL.out]
      have H4 := Aside0.mk (H3.out.from_below hb)
      clear hb H3 p0 p1 p2 p3 p4
      have p0 := H4.out.cellAt b1 0 (v := .string t) rfl
      have p1 := H4.out.cellAt b1 1 (v := .int .i64 dur) rfl
      have p2 := H4.out.cellAt b1 2 (v := .int .i64 room) rfl
      have p3 := H4.out.cellAt b1 3 (v := .slice A n c) rfl
      have p4 := H4.out.cellAt b1 4 (v := .slice B m d) rfl
      have HX := Aside0.mk (H4.out.alloc (.cells #[.int .i64 0, .int .i64 0, .int .i64 0, .int .i64 0, .int .i64 0, .int .i64 0, .int .i64 0, .bool false, .slice none 0 0, .slice none 0 0, .slice none 0 0, .slice none 0 0] 27))
      have lt1 := H4.out.ltB b1
      have lt2 := H4.out.ltB b2
      go_wp2_with (refine Hw.store_row rfl 27 (.tmp 9) (.tmp 28) rfl w4.heap.size #[.int .i64 1, .int .i64 src, .int .i64 0, .int .i64 id, .int .i64 (last + 1), .int .i64 0, .int .i64 0, .bool false, .slice none 0 0, .slice none 0 0, .slice none 0 0, .slice none 0 0] rfl rfl HX.out (by kernel_rfl) (by rfl) (by first | kernel_rfl | rfl | simp [Value.oneCell']) ?_; intro w5 H5; have l0 := H5.out.cellAt w4.heap.size 0 (v := .int .i64 1) rfl; have l1 := H5.out.cellAt w4.heap.size 1 (v := .int .i64 src) rfl; have l2 := H5.out.cellAt w4.heap.size 2 (v := .int .i64 0) rfl; have l3 := H5.out.cellAt w4.heap.size 3 (v := .int .i64 id) rfl; have l4 := H5.out.cellAt w4.heap.size 4 (v := .int .i64 (last + 1)) rfl; have l5 := H5.out.cellAt w4.heap.size 5 (v := .int .i64 0) rfl; have l6 := H5.out.cellAt w4.heap.size 6 (v := .int .i64 0) rfl; have l7 := H5.out.cellAt w4.heap.size 7 (v := .bool false) rfl; have l8 := H5.out.cellAt w4.heap.size 8 (v := .slice none 0 0) rfl; have l9 := H5.out.cellAt w4.heap.size 9 (v := .slice none 0 0) rfl; have l10 := H5.out.cellAt w4.heap.size 10 (v := .slice none 0 0) rfl; have l11 := H5.out.cellAt w4.heap.size 11 (v := .slice none 0 0) rfl; have q0 := H5.out.cellAt b1 0 (v := .string t) rfl; have q1 := H5.out.cellAt b1 1 (v := .int .i64 dur) rfl; have q2 := H5.out.cellAt b1 2 (v := .int .i64 room) rfl; have q3 := H5.out.cellAt b1 3 (v := .slice A n c) rfl; have q4 := H5.out.cellAt b1 4 (v := .slice B m d) rfl)
      obtain ⟨b9, hb9⟩ : ∃ b, b = w4.heap.size := ⟨_, rfl⟩
      have n19 : ¬ b1 = b9 := by omega
      have n91 : ¬ b9 = b1 := by omega
      have n29 : ¬ b2 = b9 := by omega
      have n92 : ¬ b9 = b2 := by omega
      rw [← hb9] at H5
      refine (r14write_ok t dur room A n c B m d ms TT.out DD.out NN.out MM.out HS.out (re1 H5.out) 1 src id (last + 1) GM.out.ok).mono ?_
      rw [← hb9]
      rintro e w6 ⟨v, rfl, t2, dur2, A2, n2, c2, B2, m2, dd2, rfl, q1, q2, q3, q4, q5⟩
      have Q1 := Aside0.mk q1
      have Q2 := Aside0.mk q2
      have Q3 := Aside0.mk q3
      have Q4 := Aside0.mk q4
      have H6 := Aside0.mk (q5.atB b1)
      obtain ⟨ev, hev⟩ : ∃ x, x = addErr (newM id src (last + 1)) (logB ms).length room := ⟨_, rfl⟩
      have EV := Aside0.mk hev
      rw [show addErr (⟨1, src, 0, id, last + 1, 0, 0, false, [], [], [], []⟩ : Msg) (logB ms).length room = ev from hev.symm]
      rw [← hev] at OA
      clear q1 q2 q3 q4 q5 hev H5 HX H4 hb9 lt1 lt2 wr1 wr2 d2 d3 p0 q0 p1 p2 p3 p4 l0 l1 l2 l3 l4 l5 l6 l7 l8 l9 l10 l11
      by_cases hz : ev = 0
      · rw [if_pos hz] at OA
        have WR := Aside0.mk (show wr2 ms (newM id src (last + 1)) room = ms ++ [(newM id src (last + 1))] from if_pos (by rw [← EV.out]; exact hz))
        have e1 : (ev != 0) = false := by simpa using hz
        go_upto_region 9 with (refine Hw.store_row rfl 77 (.tmp 3) (.tmp 33) rfl b1 #[.string t2, .int .i64 dur2, .int .i64 room, .slice A2 n2 c2, .slice B2 m2 dd2] rfl rfl H6.out (by kernel_rfl) (by rfl) (by first | kernel_rfl | rfl | simp [Value.oneCell']) ?_; intro w7 HZ; have z0 := HZ.out.cellAt b1 0 (v := .string t2) rfl; have z1 := HZ.out.cellAt b1 1 (v := .int .i64 dur2) rfl; have z2 := HZ.out.cellAt b1 2 (v := .int .i64 room) rfl; have z3 := HZ.out.cellAt b1 3 (v := .slice A2 n2 c2) rfl; have z4 := HZ.out.cellAt b1 4 (v := .slice B2 m2 dd2) rfl)
        have HD := Aside0.mk HZ.out.drew
        have HG := Aside0.mk (HD.out.atB b2).blk_at.1
        have p0 := HD.out.cellAt b1 0 (v := .string t2) rfl
        have p1 := HD.out.cellAt b1 1 (v := .int .i64 dur2) rfl
        have p2 := HD.out.cellAt b1 2 (v := .int .i64 room) rfl
        have p3 := HD.out.cellAt b1 3 (v := .slice A2 n2 c2) rfl
        have p4 := HD.out.cellAt b1 4 (v := .slice B2 m2 dd2) rfl
        have p9 := HD.out.cellAt b9 4 (v := .int .i64 (last + 1)) rfl
        clear z0 z1 z2 z3 z4
        have H8 := Aside0.mk (setRowP (HD.out.atB b2) #[.string t2, .int .i64 dur2, .int .i64 room, .slice A2 n2 c2, .slice B2 m2 dd2] rfl)
        have g0 := H8.out.cellAt b1 0 (v := .string t2) rfl
        have g1 := H8.out.cellAt b1 1 (v := .int .i64 dur2) rfl
        have g2 := H8.out.cellAt b1 2 (v := .int .i64 room) rfl
        have g3 := H8.out.cellAt b1 3 (v := .slice A2 n2 c2) rfl
        have g4 := H8.out.cellAt b1 4 (v := .slice B2 m2 dd2) rfl
        have g9 := H8.out.cellAt b9 4 (v := .int .i64 (last + 1)) rfl
        refine start_ (n := 6) (S := fun w' => w'.cell? ⟨b1, 0, none⟩ = some (.string t2) ∧ w'.cell? ⟨b1, 1, none⟩ = some (.int .i64 dur2) ∧ w'.cell? ⟨b1, 2, none⟩ = some (.int .i64 room) ∧ w'.cell? ⟨b1, 3, none⟩ = some (.slice A2 n2 c2) ∧ w'.cell? ⟨b1, 4, none⟩ = some (.slice B2 m2 dd2) ∧ w'.cell? ⟨b9, 4, none⟩ = some (.int .i64 (last + 1))) (ds := []) #[false, false, false, false, false, false] (by kernel_rfl) rfl rfl ⟨p0, p1, p2, p3, p4, p9⟩ (fun hHeld => ?_)
        refine pure_ (i := 1) (N := some 40) (v := ?_) (a' := ?_) #[false, true, false, false, false, false] rfl rfl (by kernel_rfl) (fun _ _ _ h => h) (Or.inl ⟨by rfl, ?_⟩) ?_ ?_
        rotate_left
        · intro w'
          go_simp
          with_reducible rfl
        rotate_left
        · simp only [Act.put, List.setIfInBounds_toArray, List.set_cons_zero, List.set_cons_succ, i64_w, i32_w]
          rfl
        refine take_ (i := 0) (N := some 39) (v := ?_) (a' := ?_) #[true, true, false, false, false, false] rfl rfl (by kernel_rfl) (fun _ _ _ h => h) (Or.inl ⟨by rfl, ?_⟩) hHeld ?_ ?_
        rotate_left
        · rintro w' ⟨s0, s1, s2, s3, s4, s5⟩
          go_simp
          with_reducible rfl
        rotate_left
        · simp only [Act.put, List.setIfInBounds_toArray, List.set_cons_zero, List.set_cons_succ, i64_w, i32_w]
          rfl
        refine take_ (i := 2) (N := some 41) (v := ?_) (a' := ?_) #[true, true, true, false, false, false] rfl rfl (by kernel_rfl) (fun _ _ _ h => h) (Or.inl ⟨by rfl, ?_⟩) hHeld ?_ ?_
        rotate_left
        · rintro w' ⟨s0, s1, s2, s3, s4, s5⟩
          go_simp
          with_reducible rfl
        rotate_left
        · simp only [Act.put, List.setIfInBounds_toArray, List.set_cons_zero, List.set_cons_succ, i64_w, i32_w]
          rfl
        refine one_ (i := 3) (N := none) #[true, true, true, true, false, false] rfl rfl (by kernel_rfl) (by decide) (fun K hK => ?_)
        refine skip_ (w1 := _) (by rfl) rfl (store_row_runP 77 (.tmp 6) (.tmp 39) rfl b2 #[.string t2, .int .i64 dur2, .int .i64 room, .slice A2 n2 c2, .slice B2 m2 dd2] rfl rfl 77 _ HG.out (by kernel_rfl) (by rfl) (by first | kernel_rfl | rfl | simp [Value.oneCell'])) ?_
        refine hK.out _ _ ⟨g0, g1, g2, g3, g4, g9⟩ (fun hHeld => ?_)
        clear hK K
        refine pure_ (i := 4) (N := some 7) (v := ?_) (a' := ?_) #[true, true, true, true, true, false] rfl rfl (by kernel_rfl) (fun _ _ _ h => h) (Or.inl ⟨by rfl, ?_⟩) ?_ ?_
        rotate_left
        · intro w'
          go_simp
          with_reducible rfl
        rotate_left
        · simp only [Act.put, List.setIfInBounds_toArray, List.set_cons_zero, List.set_cons_succ, i64_w, i32_w]
          rfl
        refine pure_ (i := 5) (N := some 8) (v := ?_) (a' := ?_) #[true, true, true, true, true, true] rfl rfl (by kernel_rfl) (fun _ _ _ h => h) (Or.inl ⟨by rfl, ?_⟩) ?_ ?_
        rotate_left
        · intro w'
          go_simp
          with_reducible rfl
        rotate_left
        · simp only [Act.put, List.setIfInBounds_toArray, List.set_cons_zero, List.set_cons_succ, i64_w, i32_w]
          rfl
        refine done_ (by kernel_rfl) ?_
        clear hHeld
        have y0 := H8.out.cellAt b2 0 (v := .string t2) rfl
        have y1 := H8.out.cellAt b2 1 (v := .int .i64 dur2) rfl
        have y2 := H8.out.cellAt b2 2 (v := .int .i64 room) rfl
        have y3 := H8.out.cellAt b2 3 (v := .slice A2 n2 c2) rfl
        have y4 := H8.out.cellAt b2 4 (v := .slice B2 m2 dd2) rfl
        go_wp2_with fail
        exact bodyPost_ret (v := .tuple #[.agg #[.string t2, .int .i64 dur2, .int .i64 room, .slice A2 n2 c2, .slice B2 m2 dd2], .int .i64 (last + 1), .int .i64 0]) (by simp [results, Try.results40, go_sem, y0, y1, y2, y3, y4]) rfl ⟨_, ms ++ [(newM id src (last + 1))], last + 1, 0, rfl, OA, by rw [← WR.out]; exact ⟨t2, dur2, A2, n2, c2, B2, m2, dd2, rfl, Q1.out, Q2.out, Q3.out, Q4.out, re3 H8.out⟩⟩
      · rw [if_neg hz] at OA
        have WR := Aside0.mk (show wr2 ms (newM id src (last + 1)) room = ms from if_neg (by rw [← EV.out]; exact hz))
        have e1 : (ev != 0) = true := by simpa using hz
        go_wp2_with (first | (refine Hw.store_row rfl 77 (.tmp 3) (.tmp 33) rfl b1 #[.string t2, .int .i64 dur2, .int .i64 room, .slice A2 n2 c2, .slice B2 m2 dd2] rfl rfl H6.out (by kernel_rfl) (by rfl) (by first | kernel_rfl | rfl | simp [Value.oneCell']) ?_; intro w7 HZ; have HB := Aside0.mk (HZ.out.atB b2); have z0 := HZ.out.cellAt b1 0 (v := .string t2) rfl; have z1 := HZ.out.cellAt b1 1 (v := .int .i64 dur2) rfl; have z2 := HZ.out.cellAt b1 2 (v := .int .i64 room) rfl; have z3 := HZ.out.cellAt b1 3 (v := .slice A2 n2 c2) rfl; have z4 := HZ.out.cellAt b1 4 (v := .slice B2 m2 dd2) rfl) | (refine Hw.store_row rfl 77 (.tmp 6) (.tmp 37) rfl b2 #[.string t2, .int .i64 dur2, .int .i64 room, .slice A2 n2 c2, .slice B2 m2 dd2] rfl rfl HB.out (by kernel_rfl) (by rfl) (by first | kernel_rfl | rfl | simp [Value.oneCell']) ?_; intro w8 HY; have y0 := HY.out.cellAt b2 0 (v := .string t2) rfl; have y1 := HY.out.cellAt b2 1 (v := .int .i64 dur2) rfl; have y2 := HY.out.cellAt b2 2 (v := .int .i64 room) rfl; have y3 := HY.out.cellAt b2 3 (v := .slice A2 n2 c2) rfl; have y4 := HY.out.cellAt b2 4 (v := .slice B2 m2 dd2) rfl))
        exact bodyPost_ret (v := .tuple #[.agg #[.string t2, .int .i64 dur2, .int .i64 room, .slice A2 n2 c2, .slice B2 m2 dd2], .int .i64 0, .int .i64 ev]) (by simp [results, Try.results40, go_sem, y0, y1, y2, y3, y4]) rfl ⟨_, ms, 0, ev, rfl, OA, by rw [← WR.out]; exact ⟨t2, dur2, A2, n2, c2, B2, m2, dd2, rfl, Q1.out, Q2.out, Q3.out, Q4.out, re3 HY.out⟩⟩
  · rw [if_pos hv] at OA
    have e1 : (rv != 0) = true := by simpa using hv
    have HV := Aside0.mk hv
    clear hv
    go_upto_region 2 with fail
    have HD := Aside0.mk H2.out.drew
    have p0 := HD.out.cellAt b1 0 (v := .string t) rfl
    have p1 := HD.out.cellAt b1 1 (v := .int .i64 dur) rfl
    have p2 := HD.out.cellAt b1 2 (v := .int .i64 room) rfl
    have p3 := HD.out.cellAt b1 3 (v := .slice A n c) rfl
    have p4 := HD.out.cellAt b1 4 (v := .slice B m d) rfl
    refine start_ (n := 7) (S := fun w' => w'.cell? ⟨b1, 0, none⟩ = some (.string t) ∧ w'.cell? ⟨b1, 1, none⟩ = some (.int .i64 dur) ∧ w'.cell? ⟨b1, 2, none⟩ = some (.int .i64 room) ∧ w'.cell? ⟨b1, 3, none⟩ = some (.slice A n c) ∧ w'.cell? ⟨b1, 4, none⟩ = some (.slice B m d)) (ds := [4]) #[false, false, false, false, false, false, false] (by kernel_rfl) rfl rfl ⟨p0, p1, p2, p3, p4⟩ (fun hHeld => ?_)
    refine pure_ (i := 2) (N := some 17) (v := ?_) (a' := ?_) #[false, false, true, false, false, false, false] rfl rfl (by kernel_rfl) (fun _ _ _ h => h) (Or.inl ⟨by rfl, ?_⟩) ?_ ?_
    rotate_left
    · intro w'
      go_simp
      with_reducible rfl
    rotate_left
    · simp only [Act.put, List.setIfInBounds_toArray, List.set_cons_zero, List.set_cons_succ, i64_w, i32_w]
      rfl
    refine take_ (i := 0) (N := some 15) (v := ?_) (a' := ?_) #[true, false, true, false, false, false, false] rfl rfl (by kernel_rfl) (fun _ _ _ h => h) (Or.inl ⟨by rfl, ?_⟩) hHeld ?_ ?_
    rotate_left
    · rintro w' ⟨s0, s1, s2, s3, s4⟩
      go_simp
      with_reducible rfl
    rotate_left
    · simp only [Act.put, List.setIfInBounds_toArray, List.set_cons_zero, List.set_cons_succ, i64_w, i32_w]
      rfl
    refine take_ (i := 1) (N := some 16) (v := ?_) (a' := ?_) #[true, true, true, false, false, false, false] rfl rfl (by kernel_rfl) (fun _ _ _ h => h) (Or.inl ⟨by rfl, ?_⟩) hHeld ?_ ?_
    rotate_left
    · rintro w' ⟨s0, s1, s2, s3, s4⟩
      go_simp
      with_reducible rfl
    rotate_left
    · simp only [Act.put, List.setIfInBounds_toArray, List.set_cons_zero, List.set_cons_succ, i64_w, i32_w]
      rfl
    refine one_ (i := 3) (N := some 18) #[true, true, true, true, false, false, false] rfl rfl (by kernel_rfl) (by decide) (fun K hK => ?_)
    refine goes_ Try.func90 (by kernel_rfl) rfl #[.agg #[.string t, .int .i64 dur, .int .i64 room, .slice A n c, .slice B m d], .int .i64 id] (by rfl) rfl rfl (by simp only [List.map_toArray, List.map_cons, List.map_nil]; rfl) ?_
    with_reducible refine (r14rev_ok t dur room A n c B m d (oopen ms).iss (oopen ms).done _ (ref_iss (HD.out.at (crow 12 27 A n c (issCells (oopen ms).iss))) NN.out NB) NB id).mono ?_
    rintro e w4 ⟨rfl, hb4⟩
    refine ⟨_, rfl, ?_⟩
    rw [ER.out]
    have H4 := Aside0.mk (HD.out.from_below hb4)
    clear hb4
    have HG := Aside0.mk (H4.out.atB b2).blk_at.1
    have q0 := H4.out.cellAt b1 0 (v := .string t) rfl
    have q1 := H4.out.cellAt b1 1 (v := .int .i64 dur) rfl
    have q2 := H4.out.cellAt b1 2 (v := .int .i64 room) rfl
    have q3 := H4.out.cellAt b1 3 (v := .slice A n c) rfl
    have q4 := H4.out.cellAt b1 4 (v := .slice B m d) rfl
    refine hK.out _ _ ⟨q0, q1, q2, q3, q4⟩ (fun hHeld => ?_)
    clear hK K
    refine norm_ (a' := ?_) ?_ ?_
    rotate_left
    · show Act.put _ (some 18) _ = _
      simp only [Act.put, List.setIfInBounds_toArray, List.set_cons_zero, List.set_cons_succ, i64_w, i32_w]
      rfl
    refine last_ (i := 4) (N := none) #[true, true, true, true, true, false, false] rfl rfl (by kernel_rfl) (by decide) (fun K hK => ?_)
    refine skip_ (w1 := _) (by rfl) rfl (store_row_runP 77 (.tmp 6) (.tmp 15) rfl b2 #[.string t, .int .i64 dur, .int .i64 room, .slice A n c, .slice B m d] rfl rfl 77 _ HG.out (by kernel_rfl) (by rfl) (by first | kernel_rfl | rfl | simp [Value.oneCell'])) ?_
    refine hK.out _ _ ?_
    clear hK K
    refine pure_ (i := 5) (N := some 7) (v := ?_) (a' := ?_) #[true, true, true, true, true, true, false] rfl rfl (by kernel_rfl) (fun _ _ _ h => h) (Or.inl ⟨by rfl, ?_⟩) ?_ ?_
    rotate_left
    · intro w'
      go_simp
      with_reducible rfl
    rotate_left
    · simp only [Act.put, List.setIfInBounds_toArray, List.set_cons_zero, List.set_cons_succ, i64_w, i32_w]
      rfl
    refine pure_ (i := 6) (N := some 8) (v := ?_) (a' := ?_) #[true, true, true, true, true, true, true] rfl rfl (by kernel_rfl) (fun _ _ _ h => h) (Or.inl ⟨by rfl, ?_⟩) ?_ ?_
    rotate_left
    · intro w'
      go_simp
      with_reducible rfl
    rotate_left
    · simp only [Act.put, List.setIfInBounds_toArray, List.set_cons_zero, List.set_cons_succ, i64_w, i32_w]
      rfl
    refine done_ (by kernel_rfl) ?_
    clear hHeld
    have H5 := Aside0.mk (setRowP (H4.out.atB b2) #[.string t, .int .i64 dur, .int .i64 room, .slice A n c, .slice B m d] rfl)
    have y0 := H5.out.cellAt b2 0 (v := .string t) rfl
    have y1 := H5.out.cellAt b2 1 (v := .int .i64 dur) rfl
    have y2 := H5.out.cellAt b2 2 (v := .int .i64 room) rfl
    have y3 := H5.out.cellAt b2 3 (v := .slice A n c) rfl
    have y4 := H5.out.cellAt b2 4 (v := .slice B m d) rfl
    go_wp2_with fail
    exact bodyPost_ret (v := .tuple #[.agg #[.string t, .int .i64 dur, .int .i64 room, .slice A n c, .slice B m d], .int .i64 rv, .int .i64 0]) (by simp [results, Try.results40, go_sem, y0, y1, y2, y3, y4]) rfl ⟨_, ms, rv, 0, rfl, OA, ⟨t, dur, A, n, c, B, m, d, rfl, TT.out, DD.out, NN.out, MM.out, (H5.out.dropB b2).dropB b1⟩⟩
set_option maxHeartbeats 12800000 in
set_option maxRecDepth 100000 in
theorem r14settle_ok (t : ByteArray) (dur room : Int) (A : Option Addr) (n c : Nat) (B : Option Addr) (m d : Nat) (ms : List Msg) (ht : t = strOfNums (logB ms)) (hdur : dur = ((logB ms).length : Int)) (hn : n = (oopen ms).iss.length) (hm : m = (oopen ms).done.length) (hs : OrcMs ms room) (h : Hw w0 w (crow 12 27 A n c (issCells (oopen ms).iss) * (crow 1 2 B m d ((oopen ms).done.flatMap intC) * F))) (id : Int) (hid : i64r id) :
    Calls Try.prog 41 #[.agg #[.string t, .int .i64 dur, .int .i64 room, .slice A n c, .slice B m d], .int .i64 id] w fun e w' => ∃ v ms2 k, e = .returned (.tuple #[v, .int .i64 k]) ∧ Aside0 (osettle ms room id = (ms2, k)) ∧ RefIs w0 w' F ms2 room v := by
  have OA := Aside0.mk (show osettle ms room id = if orev (oopen ms) id = 0 then (ms, 4) else if id ∈ (oopen ms).done then (ms, 0) else if addErr (resM id) (logB ms).length room = 0 then (ms ++ [(resM id)], 0) else (ms, addErr (resM id) (logB ms).length room) from rfl)
  have TT := Aside0.mk ht
  have DD := Aside0.mk hdur
  have NN := Aside0.mk hn
  have MM := Aside0.mk hm
  have HS := Aside0.mk hs
  have TZ := Aside0.mk (show t.size = (logB ms).length by rw [ht, tx_size])
  have LB := Aside0.mk (show (logB ms).length ≤ 1048576 by have h1 := hs.len; have h2 := hs.r1; omega)
  have NB : n ≤ 1000000 := by have h1 := oopen_len ms; have h2 := hs.cnt; omega
  have MB : m ≤ 1000000 := by have h1 := done_len ms; have h2 := hs.cnt; omega
  have H1 := Aside0.mk ((h.alloc (.cells #[.string t, .int .i64 dur, .int .i64 room, .slice A n c, .slice B m d] 77)).alloc (.cells #[.string ⟨#[]⟩, .int .i64 0, .int .i64 0, .slice none 0 0, .slice none 0 0] 77))
  simp only [World.size_alloc] at H1
  obtain ⟨rv, hrv⟩ : ∃ x, orev ⟨(oopen ms).iss, (oopen ms).done⟩ id = x := ⟨_, rfl⟩
  have ER := Aside0.mk hrv
  have ER2 := Aside0.mk (show orev (oopen ms) id = rv from hrv)
  clear ht hdur hn hm hs h hrv
  rw [ER2.out] at OA
  have k0 := H1.out.cellAt w.heap.size 0 (v := .string t) rfl
  have k1 := H1.out.cellAt w.heap.size 1 (v := .int .i64 dur) rfl
  have k2 := H1.out.cellAt w.heap.size 2 (v := .int .i64 room) rfl
  have k3 := H1.out.cellAt w.heap.size 3 (v := .slice A n c) rfl
  have k4 := H1.out.cellAt w.heap.size 4 (v := .slice B m d) rfl
  go_enter Try.func41, Try.ntmps41
  go_wp2_with fail
  obtain ⟨b1, hb1⟩ : ∃ b, b = w.heap.size := ⟨_, rfl⟩
  obtain ⟨b2, hb2⟩ : ∃ b, b = w.heap.size + 1 := ⟨_, rfl⟩
  have n12 : ¬ b1 = b2 := by omega
  have n21 : ¬ b2 = b1 := by omega
  rw [← hb2, ← hb1] at H1
  refine (r14rev_ok t dur room A n c B m d (oopen ms).iss (oopen ms).done _ (ref_iss (H1.out.at (crow 12 27 A n c (issCells (oopen ms).iss))) NN.out NB) NB id).mono ?_
  rintro e w2 ⟨rfl, hb⟩
  rw [ER.out, ← hb2, ← hb1]
  have H2 := Aside0.mk (H1.out.from_below hb)
  clear hb H1 k0 k1 k2 k3 k4 hb1 hb2
  have p0 := H2.out.cellAt b1 0 (v := .string t) rfl
  have p1 := H2.out.cellAt b1 1 (v := .int .i64 dur) rfl
  have p2 := H2.out.cellAt b1 2 (v := .int .i64 room) rfl
  have p3 := H2.out.cellAt b1 3 (v := .slice A n c) rfl
  have p4 := H2.out.cellAt b1 4 (v := .slice B m d) rfl
  by_cases hv : rv = 0
  · rw [if_pos hv] at OA
    subst hv
    have HB := Aside0.mk (H2.out.atB b2)
    go_wp2_with (refine Hw.store_row rfl 77 (.tmp 4) (.tmp 10) rfl b2 #[.string t, .int .i64 dur, .int .i64 room, .slice A n c, .slice B m d] rfl rfl HB.out (by kernel_rfl) (by rfl) (by first | kernel_rfl | rfl | simp [Value.oneCell']) ?_; intro wz HZ; have y0 := HZ.out.cellAt b2 0 (v := .string t) rfl; have y1 := HZ.out.cellAt b2 1 (v := .int .i64 dur) rfl; have y2 := HZ.out.cellAt b2 2 (v := .int .i64 room) rfl; have y3 := HZ.out.cellAt b2 3 (v := .slice A n c) rfl; have y4 := HZ.out.cellAt b2 4 (v := .slice B m d) rfl)
    exact bodyPost_ret (v := .tuple #[.agg #[.string t, .int .i64 dur, .int .i64 room, .slice A n c, .slice B m d], .int .i64 4]) (by simp [results, Try.results41, go_sem, y0, y1, y2, y3, y4]) rfl ⟨_, ms, 4, rfl, OA, ⟨t, dur, A, n, c, B, m, d, rfl, TT.out, DD.out, NN.out, MM.out, (HZ.out.dropB b2).dropB b1⟩⟩
  · rw [if_neg hv] at OA
    have e1 : (rv == 0) = false := by simpa using hv
    clear hv
    go_wp2_with fail
    refine (r14done_ok t dur room A n c B m d (oopen ms).iss (oopen ms).done _ (ref_iss (H2.out.at (crow 12 27 A n c (issCells (oopen ms).iss))) NN.out NB) NB (ref_done (H2.out.at (crow 1 2 B m d ((oopen ms).done.flatMap intC))) MM.out MB) id MB).mono ?_
    rintro e w3 ⟨rfl, hb⟩
    have H3 := Aside0.mk (H2.out.from_below hb)
    clear hb H2 p0 p1 p2 p3 p4
    have p0 := H3.out.cellAt b1 0 (v := .string t) rfl
    have p1 := H3.out.cellAt b1 1 (v := .int .i64 dur) rfl
    have p2 := H3.out.cellAt b1 2 (v := .int .i64 room) rfl
    have p3 := H3.out.cellAt b1 3 (v := .slice A n c) rfl
    have p4 := H3.out.cellAt b1 4 (v := .slice B m d) rfl
    by_cases hd : id ∈ (oopen ms).done
    · rw [if_pos hd] at OA
      rw [decide_eq_true hd]
      clear hd
      have HB := Aside0.mk (H3.out.atB b2)
      go_wp2_with (refine Hw.store_row rfl 77 (.tmp 4) (.tmp 14) rfl b2 #[.string t, .int .i64 dur, .int .i64 room, .slice A n c, .slice B m d] rfl rfl HB.out (by kernel_rfl) (by rfl) (by first | kernel_rfl | rfl | simp [Value.oneCell']) ?_; intro wz HZ; have y0 := HZ.out.cellAt b2 0 (v := .string t) rfl; have y1 := HZ.out.cellAt b2 1 (v := .int .i64 dur) rfl; have y2 := HZ.out.cellAt b2 2 (v := .int .i64 room) rfl; have y3 := HZ.out.cellAt b2 3 (v := .slice A n c) rfl; have y4 := HZ.out.cellAt b2 4 (v := .slice B m d) rfl)
      exact bodyPost_ret (v := .tuple #[.agg #[.string t, .int .i64 dur, .int .i64 room, .slice A n c, .slice B m d], .int .i64 0]) (by simp [results, Try.results41, go_sem, y0, y1, y2, y3, y4]) rfl ⟨_, ms, 0, rfl, OA, ⟨t, dur, A, n, c, B, m, d, rfl, TT.out, DD.out, NN.out, MM.out, (HZ.out.dropB b2).dropB b1⟩⟩
    · rw [if_neg hd] at OA
      rw [decide_eq_false hd]
      clear hd
      have GM := Aside0.mk (resM_good hid)
      go_wp2_with fail
      refine (r14write_ok t dur room A n c B m d ms TT.out DD.out NN.out MM.out HS.out (re2 H3.out) 2 0 id 0 GM.out.ok).mono ?_
      rintro e w6 ⟨v, rfl, t2, dur2, A2, n2, c2, B2, m2, dd2, rfl, q1, q2, q3, q4, q5⟩
      have Q1 := Aside0.mk q1
      have Q2 := Aside0.mk q2
      have Q3 := Aside0.mk q3
      have Q4 := Aside0.mk q4
      have H6 := Aside0.mk (q5.atB b2)
      obtain ⟨ev, hev⟩ : ∃ x, x = addErr (resM id) (logB ms).length room := ⟨_, rfl⟩
      have EV := Aside0.mk hev
      rw [show addErr (⟨2, 0, 0, id, 0, 0, 0, false, [], [], [], []⟩ : Msg) (logB ms).length room = ev from hev.symm]
      rw [← hev] at OA
      clear q1 q2 q3 q4 q5 hev H3 p0 p1 p2 p3 p4
      go_wp2_with (refine Hw.store_row rfl 77 (.tmp 4) (.tmp 19) rfl b2 #[.string t2, .int .i64 dur2, .int .i64 room, .slice A2 n2 c2, .slice B2 m2 dd2] rfl rfl H6.out (by kernel_rfl) (by rfl) (by first | kernel_rfl | rfl | simp [Value.oneCell']) ?_; intro wz HZ; have y0 := HZ.out.cellAt b2 0 (v := .string t2) rfl; have y1 := HZ.out.cellAt b2 1 (v := .int .i64 dur2) rfl; have y2 := HZ.out.cellAt b2 2 (v := .int .i64 room) rfl; have y3 := HZ.out.cellAt b2 3 (v := .slice A2 n2 c2) rfl; have y4 := HZ.out.cellAt b2 4 (v := .slice B2 m2 dd2) rfl)
      by_cases hz : ev = 0
      · rw [if_pos hz] at OA
        have WR := Aside0.mk (show wr2 ms (resM id) room = ms ++ [(resM id)] from if_pos (by rw [← EV.out]; exact hz))
        subst hz
        exact bodyPost_ret (v := .tuple #[.agg #[.string t2, .int .i64 dur2, .int .i64 room, .slice A2 n2 c2, .slice B2 m2 dd2], .int .i64 0]) (by simp [results, Try.results41, go_sem, y0, y1, y2, y3, y4]) rfl ⟨_, ms ++ [(resM id)], 0, rfl, OA, by rw [← WR.out]; exact ⟨t2, dur2, A2, n2, c2, B2, m2, dd2, rfl, Q1.out, Q2.out, Q3.out, Q4.out, re4 HZ.out⟩⟩
      · rw [if_neg hz] at OA
        have WR := Aside0.mk (show wr2 ms (resM id) room = ms from if_neg (by rw [← EV.out]; exact hz))
        exact bodyPost_ret (v := .tuple #[.agg #[.string t2, .int .i64 dur2, .int .i64 room, .slice A2 n2 c2, .slice B2 m2 dd2], .int .i64 ev]) (by simp [results, Try.results41, go_sem, y0, y1, y2, y3, y4]) rfl ⟨_, ms, ev, rfl, OA, by rw [← WR.out]; exact ⟨t2, dur2, A2, n2, c2, B2, m2, dd2, rfl, Q1.out, Q2.out, Q3.out, Q4.out, re4 HZ.out⟩⟩
end
end Go.Proofs.Ytckdkbjobipniaa
