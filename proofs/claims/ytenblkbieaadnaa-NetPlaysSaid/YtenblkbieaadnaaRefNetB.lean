/- The document's network: Flip; the statement's same. Printed by wip/gen/refnetb.py. -/
import Derived.Test.YtenblkbieaadnaaRefNet
import Derived.Test.YtenblkbieaadnaaText
import Derived.Test.YtenblkbieaadnaaFlip
set_option linter.unusedVariables false
set_option linter.unusedSimpArgs false
namespace Go.Proofs.Ytenblkbieaadnaa
open Go.RowKit Go.Proofs.YtenblkbieaadnaaW.PrintWords Go.Proofs.YtenblkbieaadnaaW.PrintLast
section
variable {w0 w : World} {F : HP}

theorem cat_small {a b c q n : Nat} (h1 : a = q) (h2 : b = 1) (h3 : c ≤ n) (hq : q < n) (hn : n ≤ 140737488355328) : ¬ 9223372036854775807 < a + b ∧ ¬ 9223372036854775807 < a + b + c := by omega
set_option maxHeartbeats 6400000 in
set_option maxRecDepth 100000 in
theorem rnflip_r1 (A : Option Addr) (n c : Nat) (i b : Int) (h1 : i < 0) (w : World) :
    Calls Try.prog 28 #[.slice A n c, .int .i64 i, .int .i64 b] w fun e w' => e = .returned (.tuple #[.slice A n c, .int .i64 4]) ∧ w' = w := by
  have d1 : decide (i < 0) = true := by simp; omega
  go_enter Try.func28, Try.ntmps28
  go_wp2_with fail
  go_ret2
  exact ⟨rfl, rfl⟩
set_option maxHeartbeats 6400000 in
set_option maxRecDepth 100000 in
theorem rnflip_r2 (A : Option Addr) (n c : Nat) (i b : Int) (h1 : 0 ≤ i) (h2 : (n : Int) ≤ i) (w : World) :
    Calls Try.prog 28 #[.slice A n c, .int .i64 i, .int .i64 b] w fun e w' => e = .returned (.tuple #[.slice A n c, .int .i64 4]) ∧ w' = w := by
  have d1 : decide (i < 0) = false := by simp; omega
  have d2 : decide ((n : Int) ≤ i) = true := by simp; omega
  go_enter Try.func28, Try.ntmps28
  go_wp2_with fail
  go_ret2
  exact ⟨rfl, rfl⟩
theorem rnflip_none (A : Option Addr) (n c : Nat) (i b : Int) (hi : i < 0 ∨ (n : Int) ≤ i) (w : World) :
    Calls Try.prog 28 #[.slice A n c, .int .i64 i, .int .i64 b] w fun e w' => e = .returned (.tuple #[.slice A n c, .int .i64 4]) ∧ w' = w := by
  by_cases h1 : i < 0
  · exact rnflip_r1 A n c i b h1 w
  · exact rnflip_r2 A n c i b (by omega) (by omega) w
set_option maxHeartbeats 6400000 in
set_option maxRecDepth 100000 in
theorem rnflip_f1 (A : Option Addr) (n c : Nat) (ps : List Pkt) (i : Nat) (b : Int) (f t : Int) (xs : List Int) (hi : i < n) (hm : n = ps.length) (hp : ps[i]? = some (f, t, xs)) (hb : b < 0) (h : Hw w0 w (crow 3 65 A n c (ps.flatMap pkT) * F)) :
    Calls Try.prog 28 #[.slice A n c, .int .i64 i, .int .i64 b] w fun e w' => e = .returned (.tuple #[.slice A n c, .int .i64 1]) ∧ w' = w := by
  obtain ⟨nx, hnx⟩ : ∃ nx, nx = xs.length := ⟨_, rfl⟩
  have hsz : (strOfNums xs).size = nx := by rw [hnx]; exact tx_size xs
  obtain ⟨s, hs⟩ : ∃ s, s = strOfNums xs := ⟨_, rfl⟩
  have d1 : decide ((i : Int) < 0) = false := by simp
  have d2 : decide ((n : Int) ≤ (i : Int)) = false := by simp; omega
  have d3 : decide (n ≤ i) = false := by simp; omega
  have CLQ := 0
  have d4 : decide (b < 0) = true := by simp; omega
  obtain ⟨ad, f', t', xs', rfl, c0, c1, c2, c3, hpi⟩ := rpk_at h hm i hi
  have e1 := hpi.out
  rw [hp] at e1
  simp only [Option.some.injEq, Prod.mk.injEq] at e1
  obtain ⟨rfl, rfl, rfl⟩ := e1
  rw [← hs] at hsz c2
  clear hs hm hp hpi hnx CLQ
  go_enter Try.func28, Try.ntmps28
  go_wp2_with fail
  go_ret2
  exact ⟨rfl, rfl⟩
set_option maxHeartbeats 6400000 in
set_option maxRecDepth 100000 in
theorem rnflip_f2 (A : Option Addr) (n c : Nat) (ps : List Pkt) (i : Nat) (b : Int) (f t : Int) (xs : List Int) (hi : i < n) (hm : n = ps.length) (hp : ps[i]? = some (f, t, xs)) (hb : 0 ≤ b) (hb2 : b ≤ 9223372036854775807) (hx : (xs.length : Int) ≤ b / 8) (h : Hw w0 w (crow 3 65 A n c (ps.flatMap pkT) * F)) :
    Calls Try.prog 28 #[.slice A n c, .int .i64 i, .int .i64 b] w fun e w' => e = .returned (.tuple #[.slice A n c, .int .i64 1]) ∧ w' = w := by
  obtain ⟨nx, hnx⟩ : ∃ nx, nx = xs.length := ⟨_, rfl⟩
  have hsz : (strOfNums xs).size = nx := by rw [hnx]; exact tx_size xs
  obtain ⟨s, hs⟩ : ∃ s, s = strOfNums xs := ⟨_, rfl⟩
  have d1 : decide ((i : Int) < 0) = false := by simp
  have d2 : decide ((n : Int) ≤ (i : Int)) = false := by simp; omega
  have d3 : decide (n ≤ i) = false := by simp; omega
  have d4 : decide (b < 0) = false := by simp; omega
  obtain ⟨q, CLQ⟩ : ∃ q : Int, q = b / 8 := ⟨_, rfl⟩
  have e1' : b / 8 = q := CLQ.symm
  have hq0 : 0 ≤ q := by omega
  have hq2 : q ≤ 9223372036854775807 := by omega
  have d5 : decide ((nx : Int) ≤ q) = true := by simp; omega
  obtain ⟨e3, e3'⟩ := i64_inN q (by omega) hq2
  obtain ⟨ad, f', t', xs', rfl, c0, c1, c2, c3, hpi⟩ := rpk_at h hm i hi
  have e1 := hpi.out
  rw [hp] at e1
  simp only [Option.some.injEq, Prod.mk.injEq] at e1
  obtain ⟨rfl, rfl, rfl⟩ := e1
  rw [← hs] at hsz c2
  clear hs hm hp hpi hnx CLQ
  go_enter Try.func28, Try.ntmps28
  go_wp2_with fail
  go_ret2
  exact ⟨rfl, rfl⟩
theorem rnflip_far (A : Option Addr) (n c : Nat) (ps : List Pkt) (i : Nat) (b : Int) (f t : Int) (xs : List Int) (hi : i < n) (hm : n = ps.length) (hp : ps[i]? = some (f, t, xs)) (hb : b < 0 ∨ (0 ≤ b ∧ (xs.length : Int) ≤ b / 8)) (hb2 : b ≤ 9223372036854775807) (h : Hw w0 w (crow 3 65 A n c (ps.flatMap pkT) * F)) :
    Calls Try.prog 28 #[.slice A n c, .int .i64 i, .int .i64 b] w fun e w' => e = .returned (.tuple #[.slice A n c, .int .i64 1]) ∧ w' = w := by
  by_cases h1 : b < 0
  · exact rnflip_f1 A n c ps i b f t xs hi hm hp h1 h
  · exact rnflip_f2 A n c ps i b f t xs hi hm hp (by omega) hb2 (by omega) h
set_option maxHeartbeats 6400000 in
set_option maxRecDepth 100000 in
theorem rnflip_ok (A : Option Addr) (n c : Nat) (ps : List Pkt) (i b : Nat) (f t : Int) (xs : List Int) (v : Int) (hi : i < n) (hm : n = ps.length) (hn : n ≤ 4096) (hp : ps[i]? = some (f, t, xs)) (hv : xs[b / 8]? = some v) (hv0 : 0 ≤ v) (hv1 : v ≤ 255) (hx : xs.length ≤ 140737488355328) (h : Hw w0 w (crow 3 65 A n c (ps.flatMap pkT) * F)) :
    Calls Try.prog 28 #[.slice A n c, .int .i64 i, .int .i64 b] w fun e w' => ∃ A' c', e = .returned (.tuple #[.slice A' n c', .int .i64 0]) ∧ Hw w0 w' (crow 3 65 A' n c' ((ps.set i (f, t, xs.set (b / 8) (flip8 v (b % 8)))).flatMap pkT) * F) := by
  have hb : b / 8 < xs.length := (List.getElem?_eq_some_iff.1 hv).1
  obtain ⟨q, hq⟩ : ∃ q, q = b / 8 := ⟨_, rfl⟩
  obtain ⟨r, hr⟩ : ∃ r, r = b % 8 := ⟨_, rfl⟩
  have hr8 : r < 8 := by omega
  have d4 : decide ((b : Int) < 0) = false := decide_eq_false (by omega)
  have e1' : ((b : Int) / 8) = (q : Int) := by omega
  have e4 : (b : Int).tmod 8 = r := by rw [Int.tmod_eq_emod_of_nonneg (by omega)]; omega
  have hq1 : (q : Int) ≤ 140737488355328 := by omega
  have hq0 : (0 : Int) ≤ (q : Int) := by omega
  rw [← hq] at hv hb
  rw [← hq, ← hr]
  obtain ⟨nx, hnx⟩ : ∃ nx, nx = xs.length := ⟨_, rfl⟩
  have hqx : q < nx := by omega
  have d5 : decide ((nx : Int) ≤ (q : Int)) = false := by simp; omega
  have d6 : decide (nx ≤ q) = false := by simp; omega
  have hidx : ∀ W : World, (Instr.index 9 (.string (strOfNums xs)) (.int .i64 (q : Int))).run Try.prog W = .ok (.int .u8 v) W := tx_index (P := Try.prog) 9 Try.underlying9 xs .i64 q q v rfl hv ⟨hv0, hv1⟩
  have hto : ∀ W : World, (Instr.slice 9 (.string (strOfNums xs)) none (some (.int .i64 (q : Int))) none).run Try.prog W = .ok (.string (strOfNums (xs.take q))) W := tx_slice_to (P := Try.prog) 9 Try.underlying9 xs q q rfl (by omega)
  have hfr : ∀ W : World, (Instr.slice 9 (.string (strOfNums xs)) (some (.int .i64 ((q : Int) + 1))) none none).run Try.prog W = .ok (.string (strOfNums (xs.drop (q + 1)))) W := tx_slice_from (P := Try.prog) 9 Try.underlying9 xs ((q : Int) + 1) (q + 1) (by omega) (by omega)
  have hsz : (strOfNums xs).size = nx := by rw [hnx]; exact tx_size xs
  have d1 : decide ((i : Int) < 0) = false := by simp
  have d2 : decide ((n : Int) ≤ (i : Int)) = false := by simp; omega
  have d3 : decide (n ≤ i) = false := by simp; omega
  have hmc : n ≤ c := crow_le h
  obtain ⟨ad, f', t', xs', rfl, c0, c1, c2, c3, hpi⟩ := rpk_at h hm i hi
  have b1 : -9223372036854775808 ≤ (q : Int) := by omega
  have b2 : (q : Int) ≤ 9223372036854775807 := by omega
  have b3 : -9223372036854775808 ≤ (q : Int) + 1 := by omega
  have b4 : (q : Int) + 1 ≤ 9223372036854775807 := by omega
  have b5 : -9223372036854775808 ≤ v := by omega
  have b6 : v ≤ 9223372036854775807 := by omega
  obtain ⟨e3, e3'⟩ := i64_inN (q : Int) b1 b2
  obtain ⟨e5, e6⟩ := i64_inN ((q : Int) + 1) b3 b4
  obtain ⟨e7, e8⟩ := i64_inN v b5 b6
  clear b1 b2 b3 b4 b5 b6
  obtain ⟨s, hs⟩ : ∃ s, s = strOfNums xs := ⟨_, rfl⟩
  obtain ⟨s1, hs1⟩ : ∃ s, s = strOfNums (xs.take q) := ⟨_, rfl⟩
  obtain ⟨s2, hs2⟩ : ∃ s, s = strOfNums (xs.drop (q + 1)) := ⟨_, rfl⟩
  have e1 := hpi.out
  rw [hp] at e1
  simp only [Option.some.injEq, Prod.mk.injEq] at e1
  obtain ⟨rfl, rfl, rfl⟩ := e1
  rw [← hs] at hsz c2 hidx hto hfr
  rw [← hs1] at hto
  rw [← hs2] at hfr
  clear hq0 hq1
  have CL := Aside0.mk (crow_len h)
  have HH := Aside0.mk h
  have HS := Aside0.mk hs
  have HS1 := Aside0.mk hs1
  have HS2 := Aside0.mk hs2
  have HP := Aside0.mk hp
  have HX := Aside0.mk (show nx ≤ 140737488355328 by omega)
  have MM := Aside0.mk hm
  have HV := Aside0.mk hv
  have NX := Aside0.mk hnx
  have HPI := Aside0.mk hpi.out
  clear hs hs1 hs2 h hp hm hpi hv hb hnx hq hr hx c0 c1 c3
  go_enter Try.func28, Try.ntmps28
  go_wp2_with fail
  go_loopw [11, 10] (fun kk pp wr => ∃ (j : Nat) (pl : Int), j ≤ r ∧ kk = .int .i64 j ∧ pp = .int .i64 pl ∧ Aside0 (pl = 2 ^ j) ∧ 1 ≤ pl ∧ pl ≤ 128 ∧ Aside0 (Hw w0 wr (crow 3 65 (some ad) n c (ps.flatMap pkT) * F))) (fun i _ _ => r - (intOf i).toNat)
  case atStart => exact ⟨0, 1, Nat.zero_le _, rfl, rfl, ⟨rfl⟩, by omega, by omega, HH⟩
  case round =>
    obtain ⟨j, pl, hj, rfl, rfl, hpl, hl1, hl2, HW⟩ := hrel
    clear HH c2
    by_cases hlt : j < r
    · have hp64 : pl ≤ 64 := by
        rw [hpl.out]
        have : j ≤ 6 := by omega
        have h7 : j = 0 ∨ j = 1 ∨ j = 2 ∨ j = 3 ∨ j = 4 ∨ j = 5 ∨ j = 6 := by omega
        rcases h7 with h | h | h | h | h | h | h <;> subst h <;> decide
      obtain ⟨pl2, hp2⟩ : ∃ x, x = pl * 2 := ⟨_, rfl⟩
      have ew : wrap64 (pl * 2) = pl2 := by rw [hp2]; unfold wrap64; omega
      have ew2 : IntKind.i64.wrap (pl * 2) = pl2 := by rw [i64_isN, ew]
      have h3 : 1 ≤ pl2 ∧ pl2 ≤ 128 := by omega
      have HP2 := Aside0.mk hp2
      clear hp2
      go_wp2_with fail
      go_roundw
      case rel => exact ⟨j + 1, pl2, by omega, by go_num, rfl, ⟨by rw [HP2.out, hpl.out, Int.pow_succ]⟩, h3.1, h3.2, HW⟩
      case measure => simp [intOf]; omega
    · have hjr : j = r := by omega
      subst hjr
      obtain ⟨dv, hdv⟩ : ∃ x, x = v / pl := ⟨_, rfl⟩
      have g1 : v.tdiv pl = dv := by rw [hdv, Int.tdiv_eq_ediv_of_nonneg hv0]
      have g1' : v / pl = dv := hdv.symm
      have g0 : 0 ≤ dv := by rw [hdv]; exact Int.ediv_nonneg hv0 (by omega)
      have g9 : dv ≤ 255 := by rw [hdv]; exact Int.le_trans (Int.ediv_le_self _ hv0) hv1
      have gz : ¬ pl = 0 := by omega
      have gz' : (pl == 0) = false := beq_eq_false_iff_ne.2 gz
      have hfl : flip8 v j = if dv % 2 = 1 then v - pl else v + pl := by unfold flip8; rw [← hpl.out, ← hdv]
      clear hdv g1'
      have HE := Aside0.mk (crow_blk (sz := 3) (n := 0) (cs := []) rfl (by unfold maxLen; omega) (fun u hu => by simp at hu) (HW.out.alloc (.cells ([] : List Value).toArray 65 (0, 0))))
      have RD := Aside0.mk (rpk_reads (HE.out.at (crow 3 65 (some ad) n c (ps.flatMap pkT))))
      have MINE : ∀ y : Int, 0 ≤ y → y ≤ 255 → y = flip8 v j → True := fun _ _ _ _ => trivial
      by_cases hb2 : dv % 2 = 1
      · rw [if_pos hb2] at hfl
        have g2 : dv.tmod 2 = 1 := by rw [Int.tmod_eq_emod_of_nonneg g0]; exact hb2
        have HFL := Aside0.mk hfl
        clear hfl
        go_upto_region 16 with (at_builtin; (refine crow_append (n := 0) (news := ps.flatMap pkT) (m := n) (c := c) rfl (.tmp 61) (.tmp 62) 55 (.agg #[.int .i64 0, .int .i64 0, .string (ByteArray.mk #[])]) 32 rfl Try.underlying55 Try.infoRP rfl (by decide) rfl rfl HE.out CL.out (pkT_one _) RD.out (by decide) (by omega) ?_); intro A6 c6 w6 H6'; have H6h := H6'.out; rw [Nat.zero_add, List.nil_append] at H6h; have H6 := Aside0.mk H6h; clear H6h H6')
        obtain ⟨y, hy⟩ : ∃ y, y = v - pl := ⟨_, rfl⟩
        rw [← hy]
        have HY := Aside0.mk (hy.trans HFL.out.symm)
        clear hy HFL
        have hyb := flip8_at v j hv0 hv1 hr8
        have hy0 : 0 ≤ y := by rw [HY.out]; exact hyb.2.2.1
        have hy1 : y ≤ 255 := by rw [HY.out]; exact hyb.2.2.2.1
        have hyw : IntKind.u8.wrap y = y := by rw [IntKind.wrap_u8]; omega
        have hA6 : ∃ ad6, A6 = some ad6 := by
          obtain ⟨b6, off6, rfl, _⟩ := crow_cell H6.out (by omega)
          exact ⟨_, rfl⟩
        obtain ⟨ad6, rfl⟩ := hA6
        have HB := Aside0.mk (H6.out.alloc (.cells #[.int .u8 y] 5)).drew
        obtain ⟨p1, p2, p3⟩ := rpk_put (HB.out.at (crow 3 65 (some ad6) n c6 (ps.flatMap pkT))) MM.out i HP.out
        have PUT := Aside0.mk p3
        have hcv := (Hw.row_of_blk (enc := Value.int .u8) (h1 := fun _ => rfl) (xs := [y]) (n := 1) rfl (by decide) HB.out).row_string (P := Try.prog) (src := 56) (dst := 9) Try.underlying56 Try.underlying5 Try.underlying9
        clear p3 hyb
        have z1 : s1.size = q := by rw [HS1.out, tx_size, List.length_take, ← NX.out]; exact Nat.min_eq_left (Nat.le_of_lt hqx)
        have z2 : (strOfNums [y]).size = 1 := tx_size [y]
        have z3 : s2.size ≤ nx := by rw [HS2.out, tx_size, List.length_drop, ← NX.out]; exact Nat.sub_le _ _
        obtain ⟨y1, y2⟩ := cat_small z1 z2 z3 hqx HX.out
        have y3 : ¬ 9223372036854775807 < (s1 ++ strOfNums [y]).size + s2.size := by rw [ByteArray.size_append]; exact y2
        clear z1 z2 z3
        refine start_ (n := 20) (S := fun w' => True) (ds := [19]) #[false, false, false, false, false, false, false, false, false, false, false, false, false, false, false, false, false, false, false, false] (by kernel_rfl) rfl rfl trivial (fun hHeld => ?_)
        refine pure_ (i := 0) (N := some 64) (v := ?_) (a' := ?_) #[true, false, false, false, false, false, false, false, false, false, false, false, false, false, false, false, false, false, false, false] rfl rfl (by kernel_rfl) (fun _ _ _ h => h) (Or.inl ⟨by rfl, ?_⟩) ?_ ?_
        rotate_left
        · intro w'
          go_simp
          with_reducible rfl
        rotate_left
        · simp only [Act.put, List.setIfInBounds_toArray, List.set_cons_zero, List.set_cons_succ, i64_w, i32_w]
          rfl
        refine pure_ (i := 1) (N := some 65) (v := ?_) (a' := ?_) #[true, true, false, false, false, false, false, false, false, false, false, false, false, false, false, false, false, false, false, false] rfl rfl (by kernel_rfl) (fun _ _ _ h => h) (Or.inl ⟨by rfl, ?_⟩) ?_ ?_
        rotate_left
        · intro w'
          go_simp
          with_reducible rfl
        rotate_left
        · simp only [Act.put, List.setIfInBounds_toArray, List.set_cons_zero, List.set_cons_succ, i64_w, i32_w]
          rfl
        refine pure_ (i := 2) (N := some 66) (v := ?_) (a' := ?_) #[true, true, true, false, false, false, false, false, false, false, false, false, false, false, false, false, false, false, false, false] rfl rfl (by kernel_rfl) (fun _ _ _ h => h) (Or.inl ⟨by rfl, ?_⟩) ?_ ?_
        rotate_left
        · intro w'
          go_simp
          with_reducible rfl
        rotate_left
        · simp only [Act.put, List.setIfInBounds_toArray, List.set_cons_zero, List.set_cons_succ, i64_w, i32_w]
          rfl
        refine pure_ (i := 3) (N := some 67) (v := ?_) (a' := ?_) #[true, true, true, true, false, false, false, false, false, false, false, false, false, false, false, false, false, false, false, false] rfl rfl (by kernel_rfl) (fun _ _ _ h => h) (Or.inl ⟨by rfl, ?_⟩) ?_ ?_
        rotate_left
        · intro w'
          go_simp
          with_reducible rfl
        rotate_left
        · simp only [Act.put, List.setIfInBounds_toArray, List.set_cons_zero, List.set_cons_succ, i64_w, i32_w]
          rfl
        refine pure_ (i := 4) (N := some 68) (v := ?_) (a' := ?_) #[true, true, true, true, true, false, false, false, false, false, false, false, false, false, false, false, false, false, false, false] rfl rfl (by kernel_rfl) (fun _ _ _ h => h) (Or.inl ⟨by rfl, ?_⟩) ?_ ?_
        rotate_left
        · intro w'
          go_simp
          with_reducible rfl
        rotate_left
        · simp only [Act.put, List.setIfInBounds_toArray, List.set_cons_zero, List.set_cons_succ, i64_w, i32_w]
          rfl
        refine pure_ (i := 5) (N := some 69) (v := ?_) (a' := ?_) #[true, true, true, true, true, true, false, false, false, false, false, false, false, false, false, false, false, false, false, false] rfl rfl (by kernel_rfl) (fun _ _ _ h => h) (Or.inl ⟨by rfl, ?_⟩) ?_ ?_
        rotate_left
        · intro w'
          go_simp
          with_reducible rfl
        rotate_left
        · simp only [Act.put, List.setIfInBounds_toArray, List.set_cons_zero, List.set_cons_succ, i64_w, i32_w]
          rfl
        refine pure_ (i := 6) (N := some 70) (v := ?_) (a' := ?_) #[true, true, true, true, true, true, true, false, false, false, false, false, false, false, false, false, false, false, false, false] rfl rfl (by kernel_rfl) (fun _ _ _ h => h) (Or.inl ⟨by rfl, ?_⟩) ?_ ?_
        rotate_left
        · intro w'
          go_simp
          with_reducible rfl
        rotate_left
        · simp only [Act.put, List.setIfInBounds_toArray, List.set_cons_zero, List.set_cons_succ, i64_w, i32_w]
          rfl
        refine pure_ (i := 11) (N := some 75) (v := ?_) (a' := ?_) #[true, true, true, true, true, true, true, false, false, false, false, true, false, false, false, false, false, false, false, false] rfl rfl (by kernel_rfl) (fun _ _ _ h => h) (Or.inl ⟨by rfl, ?_⟩) ?_ ?_
        rotate_left
        · intro w'
          go_simp
          with_reducible rfl
        rotate_left
        · simp only [Act.put, List.setIfInBounds_toArray, List.set_cons_zero, List.set_cons_succ, i64_w, i32_w]
          rfl
        refine pure_ (i := 12) (N := some 76) (v := ?_) (a' := ?_) #[true, true, true, true, true, true, true, false, false, false, false, true, true, false, false, false, false, false, false, false] rfl rfl (by kernel_rfl) (fun _ _ _ h => h) (Or.inl ⟨by rfl, ?_⟩) ?_ ?_
        rotate_left
        · intro w'
          go_simp
          with_reducible rfl
        rotate_left
        · simp only [Act.put, List.setIfInBounds_toArray, List.set_cons_zero, List.set_cons_succ, i64_w, i32_w]
          rfl
        refine pure_ (i := 13) (N := some 77) (v := ?_) (a' := ?_) #[true, true, true, true, true, true, true, false, false, false, false, true, true, true, false, false, false, false, false, false] rfl rfl (by kernel_rfl) (fun _ _ _ h => h) (Or.inl ⟨by rfl, ?_⟩) ?_ ?_
        rotate_left
        · intro w'
          go_simp
          with_reducible rfl
        rotate_left
        · simp only [Act.put, List.setIfInBounds_toArray, List.set_cons_zero, List.set_cons_succ, i64_w, i32_w]
          rfl
        refine pure_ (i := 14) (N := some 78) (v := ?_) (a' := ?_) #[true, true, true, true, true, true, true, false, false, false, false, true, true, true, true, false, false, false, false, false] rfl rfl (by kernel_rfl) (fun _ _ _ h => h) (Or.inl ⟨by rfl, ?_⟩) ?_ ?_
        rotate_left
        · intro w'
          go_simp
          with_reducible rfl
        rotate_left
        · simp only [Act.put, List.setIfInBounds_toArray, List.set_cons_zero, List.set_cons_succ, i64_w, i32_w]
          rfl
        refine pure_ (i := 15) (N := some 79) (v := ?_) (a' := ?_) #[true, true, true, true, true, true, true, false, false, false, false, true, true, true, true, true, false, false, false, false] rfl rfl (by kernel_rfl) (fun _ _ _ h => h) (Or.inl ⟨by rfl, ?_⟩) ?_ ?_
        rotate_left
        · intro w'
          go_simp
          with_reducible rfl
        rotate_left
        · simp only [Act.put, List.setIfInBounds_toArray, List.set_cons_zero, List.set_cons_succ, i64_w, i32_w]
          rfl
        refine take_ (i := 7) (N := some 71) (v := ?_) (a' := ?_) #[true, true, true, true, true, true, true, true, false, false, false, true, true, true, true, true, false, false, false, false] rfl rfl (by kernel_rfl) (fun _ _ _ h => h) (Or.inl ⟨by rfl, ?_⟩) hHeld ?_ ?_
        rotate_left
        · intro w' _
          go_simp
          with_reducible rfl
        rotate_left
        · simp only [Act.put, List.setIfInBounds_toArray, List.set_cons_zero, List.set_cons_succ, i64_w, i32_w]
          rfl
        refine one_ (i := 8) (N := some 72) #[true, true, true, true, true, true, true, true, true, false, false, true, true, true, true, true, false, false, false, false] rfl rfl (by kernel_rfl) (by decide) (fun K hK => ?_)
        refine value_ (w1 := ?_) (v := ?_) (by rfl) rfl ?_ ?_
        rotate_left 2
        · go_simp
          constructor
          · rfl
          · rfl
        refine hK.out _ _ trivial (fun hHeld => ?_)
        clear hK K
        refine norm_ (a' := ?_) ?_ ?_
        rotate_left
        · show Act.put _ (some 72) _ = _
          simp only [Act.put, List.setIfInBounds_toArray, List.set_cons_zero, List.set_cons_succ, i64_w, i32_w]
          rfl
        refine one_ (i := 9) (N := some 73) #[true, true, true, true, true, true, true, true, true, true, false, true, true, true, true, true, false, false, false, false] rfl rfl (by kernel_rfl) (by decide) (fun K hK => ?_)
        refine value_ (w1 := ?_) (v := ?_) (by rfl) rfl ?_ ?_
        rotate_left 2
        · go_simp
          constructor
          · rfl
          · rfl
        refine hK.out _ _ trivial (fun hHeld => ?_)
        clear hK K
        refine norm_ (a' := ?_) ?_ ?_
        rotate_left
        · show Act.put _ (some 73) _ = _
          simp only [Act.put, List.setIfInBounds_toArray, List.set_cons_zero, List.set_cons_succ, i64_w, i32_w]
          rfl
        refine pure_ (i := 10) (N := some 74) (v := ?_) (a' := ?_) #[true, true, true, true, true, true, true, true, true, true, true, true, true, true, true, true, false, false, false, false] rfl rfl (by kernel_rfl) (fun _ _ _ h => h) (Or.inl ⟨by rfl, ?_⟩) ?_ ?_
        rotate_left
        · intro w'
          go_simp
          with_reducible rfl
        rotate_left
        · simp only [Act.put, List.setIfInBounds_toArray, List.set_cons_zero, List.set_cons_succ, i64_w, i32_w]
          rfl
        refine pure_ (i := 16) (N := some 80) (v := ?_) (a' := ?_) #[true, true, true, true, true, true, true, true, true, true, true, true, true, true, true, true, true, false, false, false] rfl rfl (by kernel_rfl) (fun _ _ _ h => h) (Or.inl ⟨by rfl, ?_⟩) ?_ ?_
        rotate_left
        · intro w'
          go_simp
          with_reducible rfl
        rotate_left
        · simp only [Act.put, List.setIfInBounds_toArray, List.set_cons_zero, List.set_cons_succ, i64_w, i32_w]
          rfl
        refine pure_ (i := 17) (N := some 81) (v := ?_) (a' := ?_) #[true, true, true, true, true, true, true, true, true, true, true, true, true, true, true, true, true, true, false, false] rfl rfl (by kernel_rfl) (fun _ _ _ h => h) (Or.inl ⟨by rfl, ?_⟩) ?_ ?_
        rotate_left
        · intro w'
          go_simp
          with_reducible rfl
        rotate_left
        · simp only [Act.put, List.setIfInBounds_toArray, List.set_cons_zero, List.set_cons_succ, i64_w, i32_w]
          rfl
        refine pure_ (i := 18) (N := some 82) (v := ?_) (a' := ?_) #[true, true, true, true, true, true, true, true, true, true, true, true, true, true, true, true, true, true, true, false] rfl rfl (by kernel_rfl) (fun _ _ _ h => h) (Or.inl ⟨by rfl, ?_⟩) ?_ ?_
        rotate_left
        · intro w'
          go_simp
          with_reducible rfl
        rotate_left
        · simp only [Act.put, List.setIfInBounds_toArray, List.set_cons_zero, List.set_cons_succ, i64_w, i32_w]
          rfl
        refine last_ (i := 19) (N := none) #[true, true, true, true, true, true, true, true, true, true, true, true, true, true, true, true, true, true, true, true] rfl rfl (by kernel_rfl) (by decide) (fun K hK => ?_)
        refine skip_ (w1 := ?_) (by rfl) rfl ?_ ?_
        rotate_left
        · go_simp
          rfl
        refine hK.out _ _ ?_
        clear hK K
        refine done_ (by kernel_rfl) ?_
        have H9 := Aside0.mk (PUT.out (xs.take q ++ [y] ++ xs.drop (q + 1)))
        have EQ := Aside0.mk (show s1 ++ strOfNums [y] ++ s2 = strOfNums (xs.take q ++ [y] ++ xs.drop (q + 1)) by rw [HS1.out, HS2.out, ← tx_append, ← tx_append])
        rw [EQ.out]
        clear hcv p1 p2 hyw hto hfr hidx y1 y2 y3
        go_wp2_with fail
        go_ret2
        refine ⟨some ad6, c6, rfl, ?_⟩
        have e9 : xs.set q (flip8 v j) = xs.take q ++ [y] ++ xs.drop (q + 1) := by rw [← HY.out, List.set_eq_take_append_cons_drop, if_pos (by rw [← NX.out]; exact hqx)]; simp
        rw [e9]
        exact ((H9.out.drop (crow 3 65 (some ad) n c (ps.flatMap pkT))).dropB w6.heap.size)
      · rw [if_neg hb2] at hfl
        have g2 : dv.tmod 2 = 0 := by rw [Int.tmod_eq_emod_of_nonneg g0]; omega
        have HFL := Aside0.mk hfl
        clear hfl
        go_upto_region 16 with (at_builtin; (refine crow_append (n := 0) (news := ps.flatMap pkT) (m := n) (c := c) rfl (.tmp 61) (.tmp 62) 55 (.agg #[.int .i64 0, .int .i64 0, .string (ByteArray.mk #[])]) 32 rfl Try.underlying55 Try.infoRP rfl (by decide) rfl rfl HE.out CL.out (pkT_one _) RD.out (by decide) (by omega) ?_); intro A6 c6 w6 H6'; have H6h := H6'.out; rw [Nat.zero_add, List.nil_append] at H6h; have H6 := Aside0.mk H6h; clear H6h H6')
        obtain ⟨y, hy⟩ : ∃ y, y = v + pl := ⟨_, rfl⟩
        rw [← hy]
        have HY := Aside0.mk (hy.trans HFL.out.symm)
        clear hy HFL
        have hyb := flip8_at v j hv0 hv1 hr8
        have hy0 : 0 ≤ y := by rw [HY.out]; exact hyb.2.2.1
        have hy1 : y ≤ 255 := by rw [HY.out]; exact hyb.2.2.2.1
        have hyw : IntKind.u8.wrap y = y := by rw [IntKind.wrap_u8]; omega
        have hA6 : ∃ ad6, A6 = some ad6 := by
          obtain ⟨b6, off6, rfl, _⟩ := crow_cell H6.out (by omega)
          exact ⟨_, rfl⟩
        obtain ⟨ad6, rfl⟩ := hA6
        have HB := Aside0.mk (H6.out.alloc (.cells #[.int .u8 y] 5)).drew
        obtain ⟨p1, p2, p3⟩ := rpk_put (HB.out.at (crow 3 65 (some ad6) n c6 (ps.flatMap pkT))) MM.out i HP.out
        have PUT := Aside0.mk p3
        have hcv := (Hw.row_of_blk (enc := Value.int .u8) (h1 := fun _ => rfl) (xs := [y]) (n := 1) rfl (by decide) HB.out).row_string (P := Try.prog) (src := 56) (dst := 9) Try.underlying56 Try.underlying5 Try.underlying9
        clear p3 hyb
        have z1 : s1.size = q := by rw [HS1.out, tx_size, List.length_take, ← NX.out]; exact Nat.min_eq_left (Nat.le_of_lt hqx)
        have z2 : (strOfNums [y]).size = 1 := tx_size [y]
        have z3 : s2.size ≤ nx := by rw [HS2.out, tx_size, List.length_drop, ← NX.out]; exact Nat.sub_le _ _
        obtain ⟨y1, y2⟩ := cat_small z1 z2 z3 hqx HX.out
        have y3 : ¬ 9223372036854775807 < (s1 ++ strOfNums [y]).size + s2.size := by rw [ByteArray.size_append]; exact y2
        clear z1 z2 z3
        refine start_ (n := 20) (S := fun w' => True) (ds := [19]) #[false, false, false, false, false, false, false, false, false, false, false, false, false, false, false, false, false, false, false, false] (by kernel_rfl) rfl rfl trivial (fun hHeld => ?_)
        refine pure_ (i := 0) (N := some 64) (v := ?_) (a' := ?_) #[true, false, false, false, false, false, false, false, false, false, false, false, false, false, false, false, false, false, false, false] rfl rfl (by kernel_rfl) (fun _ _ _ h => h) (Or.inl ⟨by rfl, ?_⟩) ?_ ?_
        rotate_left
        · intro w'
          go_simp
          with_reducible rfl
        rotate_left
        · simp only [Act.put, List.setIfInBounds_toArray, List.set_cons_zero, List.set_cons_succ, i64_w, i32_w]
          rfl
        refine pure_ (i := 1) (N := some 65) (v := ?_) (a' := ?_) #[true, true, false, false, false, false, false, false, false, false, false, false, false, false, false, false, false, false, false, false] rfl rfl (by kernel_rfl) (fun _ _ _ h => h) (Or.inl ⟨by rfl, ?_⟩) ?_ ?_
        rotate_left
        · intro w'
          go_simp
          with_reducible rfl
        rotate_left
        · simp only [Act.put, List.setIfInBounds_toArray, List.set_cons_zero, List.set_cons_succ, i64_w, i32_w]
          rfl
        refine pure_ (i := 2) (N := some 66) (v := ?_) (a' := ?_) #[true, true, true, false, false, false, false, false, false, false, false, false, false, false, false, false, false, false, false, false] rfl rfl (by kernel_rfl) (fun _ _ _ h => h) (Or.inl ⟨by rfl, ?_⟩) ?_ ?_
        rotate_left
        · intro w'
          go_simp
          with_reducible rfl
        rotate_left
        · simp only [Act.put, List.setIfInBounds_toArray, List.set_cons_zero, List.set_cons_succ, i64_w, i32_w]
          rfl
        refine pure_ (i := 3) (N := some 67) (v := ?_) (a' := ?_) #[true, true, true, true, false, false, false, false, false, false, false, false, false, false, false, false, false, false, false, false] rfl rfl (by kernel_rfl) (fun _ _ _ h => h) (Or.inl ⟨by rfl, ?_⟩) ?_ ?_
        rotate_left
        · intro w'
          go_simp
          with_reducible rfl
        rotate_left
        · simp only [Act.put, List.setIfInBounds_toArray, List.set_cons_zero, List.set_cons_succ, i64_w, i32_w]
          rfl
        refine pure_ (i := 4) (N := some 68) (v := ?_) (a' := ?_) #[true, true, true, true, true, false, false, false, false, false, false, false, false, false, false, false, false, false, false, false] rfl rfl (by kernel_rfl) (fun _ _ _ h => h) (Or.inl ⟨by rfl, ?_⟩) ?_ ?_
        rotate_left
        · intro w'
          go_simp
          with_reducible rfl
        rotate_left
        · simp only [Act.put, List.setIfInBounds_toArray, List.set_cons_zero, List.set_cons_succ, i64_w, i32_w]
          rfl
        refine pure_ (i := 5) (N := some 69) (v := ?_) (a' := ?_) #[true, true, true, true, true, true, false, false, false, false, false, false, false, false, false, false, false, false, false, false] rfl rfl (by kernel_rfl) (fun _ _ _ h => h) (Or.inl ⟨by rfl, ?_⟩) ?_ ?_
        rotate_left
        · intro w'
          go_simp
          with_reducible rfl
        rotate_left
        · simp only [Act.put, List.setIfInBounds_toArray, List.set_cons_zero, List.set_cons_succ, i64_w, i32_w]
          rfl
        refine pure_ (i := 6) (N := some 70) (v := ?_) (a' := ?_) #[true, true, true, true, true, true, true, false, false, false, false, false, false, false, false, false, false, false, false, false] rfl rfl (by kernel_rfl) (fun _ _ _ h => h) (Or.inl ⟨by rfl, ?_⟩) ?_ ?_
        rotate_left
        · intro w'
          go_simp
          with_reducible rfl
        rotate_left
        · simp only [Act.put, List.setIfInBounds_toArray, List.set_cons_zero, List.set_cons_succ, i64_w, i32_w]
          rfl
        refine pure_ (i := 11) (N := some 75) (v := ?_) (a' := ?_) #[true, true, true, true, true, true, true, false, false, false, false, true, false, false, false, false, false, false, false, false] rfl rfl (by kernel_rfl) (fun _ _ _ h => h) (Or.inl ⟨by rfl, ?_⟩) ?_ ?_
        rotate_left
        · intro w'
          go_simp
          with_reducible rfl
        rotate_left
        · simp only [Act.put, List.setIfInBounds_toArray, List.set_cons_zero, List.set_cons_succ, i64_w, i32_w]
          rfl
        refine pure_ (i := 12) (N := some 76) (v := ?_) (a' := ?_) #[true, true, true, true, true, true, true, false, false, false, false, true, true, false, false, false, false, false, false, false] rfl rfl (by kernel_rfl) (fun _ _ _ h => h) (Or.inl ⟨by rfl, ?_⟩) ?_ ?_
        rotate_left
        · intro w'
          go_simp
          with_reducible rfl
        rotate_left
        · simp only [Act.put, List.setIfInBounds_toArray, List.set_cons_zero, List.set_cons_succ, i64_w, i32_w]
          rfl
        refine pure_ (i := 13) (N := some 77) (v := ?_) (a' := ?_) #[true, true, true, true, true, true, true, false, false, false, false, true, true, true, false, false, false, false, false, false] rfl rfl (by kernel_rfl) (fun _ _ _ h => h) (Or.inl ⟨by rfl, ?_⟩) ?_ ?_
        rotate_left
        · intro w'
          go_simp
          with_reducible rfl
        rotate_left
        · simp only [Act.put, List.setIfInBounds_toArray, List.set_cons_zero, List.set_cons_succ, i64_w, i32_w]
          rfl
        refine pure_ (i := 14) (N := some 78) (v := ?_) (a' := ?_) #[true, true, true, true, true, true, true, false, false, false, false, true, true, true, true, false, false, false, false, false] rfl rfl (by kernel_rfl) (fun _ _ _ h => h) (Or.inl ⟨by rfl, ?_⟩) ?_ ?_
        rotate_left
        · intro w'
          go_simp
          with_reducible rfl
        rotate_left
        · simp only [Act.put, List.setIfInBounds_toArray, List.set_cons_zero, List.set_cons_succ, i64_w, i32_w]
          rfl
        refine pure_ (i := 15) (N := some 79) (v := ?_) (a' := ?_) #[true, true, true, true, true, true, true, false, false, false, false, true, true, true, true, true, false, false, false, false] rfl rfl (by kernel_rfl) (fun _ _ _ h => h) (Or.inl ⟨by rfl, ?_⟩) ?_ ?_
        rotate_left
        · intro w'
          go_simp
          with_reducible rfl
        rotate_left
        · simp only [Act.put, List.setIfInBounds_toArray, List.set_cons_zero, List.set_cons_succ, i64_w, i32_w]
          rfl
        refine take_ (i := 7) (N := some 71) (v := ?_) (a' := ?_) #[true, true, true, true, true, true, true, true, false, false, false, true, true, true, true, true, false, false, false, false] rfl rfl (by kernel_rfl) (fun _ _ _ h => h) (Or.inl ⟨by rfl, ?_⟩) hHeld ?_ ?_
        rotate_left
        · intro w' _
          go_simp
          with_reducible rfl
        rotate_left
        · simp only [Act.put, List.setIfInBounds_toArray, List.set_cons_zero, List.set_cons_succ, i64_w, i32_w]
          rfl
        refine one_ (i := 8) (N := some 72) #[true, true, true, true, true, true, true, true, true, false, false, true, true, true, true, true, false, false, false, false] rfl rfl (by kernel_rfl) (by decide) (fun K hK => ?_)
        refine value_ (w1 := ?_) (v := ?_) (by rfl) rfl ?_ ?_
        rotate_left 2
        · go_simp
          constructor
          · rfl
          · rfl
        refine hK.out _ _ trivial (fun hHeld => ?_)
        clear hK K
        refine norm_ (a' := ?_) ?_ ?_
        rotate_left
        · show Act.put _ (some 72) _ = _
          simp only [Act.put, List.setIfInBounds_toArray, List.set_cons_zero, List.set_cons_succ, i64_w, i32_w]
          rfl
        refine one_ (i := 9) (N := some 73) #[true, true, true, true, true, true, true, true, true, true, false, true, true, true, true, true, false, false, false, false] rfl rfl (by kernel_rfl) (by decide) (fun K hK => ?_)
        refine value_ (w1 := ?_) (v := ?_) (by rfl) rfl ?_ ?_
        rotate_left 2
        · go_simp
          constructor
          · rfl
          · rfl
        refine hK.out _ _ trivial (fun hHeld => ?_)
        clear hK K
        refine norm_ (a' := ?_) ?_ ?_
        rotate_left
        · show Act.put _ (some 73) _ = _
          simp only [Act.put, List.setIfInBounds_toArray, List.set_cons_zero, List.set_cons_succ, i64_w, i32_w]
          rfl
        refine pure_ (i := 10) (N := some 74) (v := ?_) (a' := ?_) #[true, true, true, true, true, true, true, true, true, true, true, true, true, true, true, true, false, false, false, false] rfl rfl (by kernel_rfl) (fun _ _ _ h => h) (Or.inl ⟨by rfl, ?_⟩) ?_ ?_
        rotate_left
        · intro w'
          go_simp
          with_reducible rfl
        rotate_left
        · simp only [Act.put, List.setIfInBounds_toArray, List.set_cons_zero, List.set_cons_succ, i64_w, i32_w]
          rfl
        refine pure_ (i := 16) (N := some 80) (v := ?_) (a' := ?_) #[true, true, true, true, true, true, true, true, true, true, true, true, true, true, true, true, true, false, false, false] rfl rfl (by kernel_rfl) (fun _ _ _ h => h) (Or.inl ⟨by rfl, ?_⟩) ?_ ?_
        rotate_left
        · intro w'
          go_simp
          with_reducible rfl
        rotate_left
        · simp only [Act.put, List.setIfInBounds_toArray, List.set_cons_zero, List.set_cons_succ, i64_w, i32_w]
          rfl
        refine pure_ (i := 17) (N := some 81) (v := ?_) (a' := ?_) #[true, true, true, true, true, true, true, true, true, true, true, true, true, true, true, true, true, true, false, false] rfl rfl (by kernel_rfl) (fun _ _ _ h => h) (Or.inl ⟨by rfl, ?_⟩) ?_ ?_
        rotate_left
        · intro w'
          go_simp
          with_reducible rfl
        rotate_left
        · simp only [Act.put, List.setIfInBounds_toArray, List.set_cons_zero, List.set_cons_succ, i64_w, i32_w]
          rfl
        refine pure_ (i := 18) (N := some 82) (v := ?_) (a' := ?_) #[true, true, true, true, true, true, true, true, true, true, true, true, true, true, true, true, true, true, true, false] rfl rfl (by kernel_rfl) (fun _ _ _ h => h) (Or.inl ⟨by rfl, ?_⟩) ?_ ?_
        rotate_left
        · intro w'
          go_simp
          with_reducible rfl
        rotate_left
        · simp only [Act.put, List.setIfInBounds_toArray, List.set_cons_zero, List.set_cons_succ, i64_w, i32_w]
          rfl
        refine last_ (i := 19) (N := none) #[true, true, true, true, true, true, true, true, true, true, true, true, true, true, true, true, true, true, true, true] rfl rfl (by kernel_rfl) (by decide) (fun K hK => ?_)
        refine skip_ (w1 := ?_) (by rfl) rfl ?_ ?_
        rotate_left
        · go_simp
          rfl
        refine hK.out _ _ ?_
        clear hK K
        refine done_ (by kernel_rfl) ?_
        have H9 := Aside0.mk (PUT.out (xs.take q ++ [y] ++ xs.drop (q + 1)))
        have EQ := Aside0.mk (show s1 ++ strOfNums [y] ++ s2 = strOfNums (xs.take q ++ [y] ++ xs.drop (q + 1)) by rw [HS1.out, HS2.out, ← tx_append, ← tx_append])
        rw [EQ.out]
        clear hcv p1 p2 hyw hto hfr hidx y1 y2 y3
        go_wp2_with fail
        go_ret2
        refine ⟨some ad6, c6, rfl, ?_⟩
        have e9 : xs.set q (flip8 v j) = xs.take q ++ [y] ++ xs.drop (q + 1) := by rw [← HY.out, List.set_eq_take_append_cons_drop, if_pos (by rw [← NX.out]; exact hqx)]; simp
        rw [e9]
        exact ((H9.out.drop (crow 3 65 (some ad) n c (ps.flatMap pkT))).dropB w6.heap.size)
theorem rnagg_eq (f t : Int) (s : ByteArray) (W : World) : (binOp .neq 65 (.agg #[.int .i64 f, .int .i64 t, .string s]) (.agg #[.int .i64 f, .int .i64 t, .string s])).run Try.prog W = .ok (.bool false) W := by
  go_simp
set_option maxHeartbeats 6400000 in
set_option maxRecDepth 100000 in
theorem rnsame_ok (A : Option Addr) (n c : Nat) (ps : List Pkt) (gs : List Hdr) (B : Option Addr) (d : Nat) (hm : n = ps.length) (hn : n ≤ 4096) (h : Hw w0 w (crow 3 58 A n c (pcells ps gs) * (rowsHP (Kd.int .u8) 5 gs (ps.map (·.2.2)) * (crow 3 65 B n d (ps.flatMap pkT) * F)))) :
    Calls Try.prog 25 #[.slice A n c, .slice B n d] w fun e w' => e = .returned (.bool true) ∧ Hw w0 w' (crow 3 58 A n c (pcells ps gs) * (rowsHP (Kd.int .u8) 5 gs (ps.map (·.2.2)) * (crow 3 65 B n d (ps.flatMap pkT) * F))) := by
  have MM := Aside0.mk hm
  have HO := Aside0.mk h
  have HL := Aside0.mk (show gs.length = ps.length by
    have := rows_len gs (ps.map (·.2.2)) (h.at (rowsHP (Kd.int .u8) 5 gs (ps.map (·.2.2))))
    rwa [List.length_map] at this)
  clear h hm
  go_enter Try.func25, Try.ntmps25
  go_wp2_with fail
  go_loopw [13] (fun i wr => ∃ j : Nat, j ≤ n ∧ i = .int .i64 j ∧ Aside0 (Hw w0 wr (crow 3 58 A n c (pcells ps gs) * (rowsHP (Kd.int .u8) 5 gs (ps.map (·.2.2)) * (crow 3 65 B n d (ps.flatMap pkT) * F))))) (fun i _ => n - (intOf i).toNat)
  case atStart => exact ⟨0, Nat.zero_le _, rfl, HO⟩
  case round =>
    obtain ⟨j, hj, rfl, HW⟩ := hrel
    clear HO
    by_cases hlt : j < n
    · go_upto_region 6 with fail
      have HD := Aside0.mk HW.out.drew
      obtain ⟨ad, f, t, A', n', c', xs, rfl, a0, a1, a2, a3, hpi, hhi⟩ := pkt_at HD.out HL.out MM.out j hlt
      obtain ⟨bd, f', t', xs', rfl, b0, b1, b2, b3, hp2⟩ := rpk_at (HD.out.at (crow 3 65 B n d (ps.flatMap pkT))) MM.out j hlt
      have e1 := hp2.out
      rw [hpi.out] at e1
      simp only [Option.some.injEq, Prod.mk.injEq] at e1
      obtain ⟨rfl, rfl, rfl⟩ := e1
      obtain ⟨R, hR, _⟩ := rows_focus (d := Kd.int .u8) (e := 5) gs (ps.map (·.2.2)) j (A', n', c') xs hhi.out (by rw [List.getElem?_map, hpi.out]; rfl)
      have hcv := (((HD.out.at (rowsHP (Kd.int .u8) 5 gs (ps.map (·.2.2)))).left.as (P := rowsHP (Kd.int .u8) 5 gs (ps.map (·.2.2))) (Q := row (Kd.int .u8) 5 (.slice A' n' c') xs * R) hR)).row_string (P := Try.prog) (src := 56) (dst := 9) Try.underlying56 Try.underlying5 Try.underlying9
      have hne := rnagg_eq f t (strOfNums xs)
      clear hR hpi hhi hp2
      refine start_ (n := 22) (S := fun w' => w'.cell? (ad.add (j * 3)) = some (.int .i64 f) ∧ w'.cell? ⟨(ad.add (j * 3)).block, (ad.add (j * 3)).off, none⟩ = some (.int .i64 f) ∧ w'.cell? ⟨(ad.add (j * 3)).block, (ad.add (j * 3)).off + 1, none⟩ = some (.int .i64 t) ∧ w'.cell? ⟨(ad.add (j * 3)).block, (ad.add (j * 3)).off + 2, none⟩ = some (.slice A' n' c') ∧ w'.cell? (bd.add (j * 3)) = some (.int .i64 f) ∧ w'.cell? ⟨(bd.add (j * 3)).block, (bd.add (j * 3)).off, none⟩ = some (.int .i64 f) ∧ w'.cell? ⟨(bd.add (j * 3)).block, (bd.add (j * 3)).off + 1, none⟩ = some (.int .i64 t) ∧ w'.cell? ⟨(bd.add (j * 3)).block, (bd.add (j * 3)).off + 2, none⟩ = some (.string (strOfNums xs)) ∧ (convert 56 9 (.slice A' n' c')).run Try.prog w' = .ok (.string (strOfNums xs)) w') (ds := []) #[false, false, false, false, false, false, false, false, false, false, false, false, false, false, false, false, false, false, false, false, false, false] (by kernel_rfl) rfl rfl ⟨a3, a0, a1, a2, b3, b0, b1, b2, hcv⟩ (fun hHeld => ?_)
      refine pure_ (i := 0) (N := some 16) (v := ?_) (a' := ?_) #[true, false, false, false, false, false, false, false, false, false, false, false, false, false, false, false, false, false, false, false, false, false] rfl rfl (by kernel_rfl) (fun _ _ _ h => h) (Or.inl ⟨by rfl, ?_⟩) ?_ ?_
      rotate_left
      · intro w'
        go_simp
        with_reducible rfl
      rotate_left
      · simp only [Act.put, List.setIfInBounds_toArray, List.set_cons_zero, List.set_cons_succ, i64_w, i32_w]
        rfl
      refine pure_ (i := 1) (N := some 17) (v := ?_) (a' := ?_) #[true, true, false, false, false, false, false, false, false, false, false, false, false, false, false, false, false, false, false, false, false, false] rfl rfl (by kernel_rfl) (fun _ _ _ h => h) (Or.inl ⟨by rfl, ?_⟩) ?_ ?_
      rotate_left
      · intro w'
        go_simp
        with_reducible rfl
      rotate_left
      · simp only [Act.put, List.setIfInBounds_toArray, List.set_cons_zero, List.set_cons_succ, i64_w, i32_w]
        rfl
      refine pure_ (i := 2) (N := some 18) (v := ?_) (a' := ?_) #[true, true, true, false, false, false, false, false, false, false, false, false, false, false, false, false, false, false, false, false, false, false] rfl rfl (by kernel_rfl) (fun _ _ _ h => h) (Or.inl ⟨by rfl, ?_⟩) ?_ ?_
      rotate_left
      · intro w'
        go_simp
        with_reducible rfl
      rotate_left
      · simp only [Act.put, List.setIfInBounds_toArray, List.set_cons_zero, List.set_cons_succ, i64_w, i32_w]
        rfl
      refine pure_ (i := 3) (N := some 19) (v := ?_) (a' := ?_) #[true, true, true, true, false, false, false, false, false, false, false, false, false, false, false, false, false, false, false, false, false, false] rfl rfl (by kernel_rfl) (fun _ _ _ h => h) (Or.inl ⟨by rfl, ?_⟩) ?_ ?_
      rotate_left
      · intro w'
        go_simp
        with_reducible rfl
      rotate_left
      · simp only [Act.put, List.setIfInBounds_toArray, List.set_cons_zero, List.set_cons_succ, i64_w, i32_w]
        rfl
      refine pure_ (i := 5) (N := some 21) (v := ?_) (a' := ?_) #[true, true, true, true, false, true, false, false, false, false, false, false, false, false, false, false, false, false, false, false, false, false] rfl rfl (by kernel_rfl) (fun _ _ _ h => h) (Or.inl ⟨by rfl, ?_⟩) ?_ ?_
      rotate_left
      · intro w'
        go_simp
        with_reducible rfl
      rotate_left
      · simp only [Act.put, List.setIfInBounds_toArray, List.set_cons_zero, List.set_cons_succ, i64_w, i32_w]
        rfl
      refine pure_ (i := 6) (N := some 22) (v := ?_) (a' := ?_) #[true, true, true, true, false, true, true, false, false, false, false, false, false, false, false, false, false, false, false, false, false, false] rfl rfl (by kernel_rfl) (fun _ _ _ h => h) (Or.inl ⟨by rfl, ?_⟩) ?_ ?_
      rotate_left
      · intro w'
        go_simp
        with_reducible rfl
      rotate_left
      · simp only [Act.put, List.setIfInBounds_toArray, List.set_cons_zero, List.set_cons_succ, i64_w, i32_w]
        rfl
      refine pure_ (i := 7) (N := some 23) (v := ?_) (a' := ?_) #[true, true, true, true, false, true, true, true, false, false, false, false, false, false, false, false, false, false, false, false, false, false] rfl rfl (by kernel_rfl) (fun _ _ _ h => h) (Or.inl ⟨by rfl, ?_⟩) ?_ ?_
      rotate_left
      · intro w'
        go_simp
        with_reducible rfl
      rotate_left
      · simp only [Act.put, List.setIfInBounds_toArray, List.set_cons_zero, List.set_cons_succ, i64_w, i32_w]
        rfl
      refine pure_ (i := 8) (N := some 24) (v := ?_) (a' := ?_) #[true, true, true, true, false, true, true, true, true, false, false, false, false, false, false, false, false, false, false, false, false, false] rfl rfl (by kernel_rfl) (fun _ _ _ h => h) (Or.inl ⟨by rfl, ?_⟩) ?_ ?_
      rotate_left
      · intro w'
        go_simp
        with_reducible rfl
      rotate_left
      · simp only [Act.put, List.setIfInBounds_toArray, List.set_cons_zero, List.set_cons_succ, i64_w, i32_w]
        rfl
      refine pure_ (i := 10) (N := some 26) (v := ?_) (a' := ?_) #[true, true, true, true, false, true, true, true, true, false, true, false, false, false, false, false, false, false, false, false, false, false] rfl rfl (by kernel_rfl) (fun _ _ _ h => h) (Or.inl ⟨by rfl, ?_⟩) ?_ ?_
      rotate_left
      · intro w'
        go_simp
        with_reducible rfl
      rotate_left
      · simp only [Act.put, List.setIfInBounds_toArray, List.set_cons_zero, List.set_cons_succ, i64_w, i32_w]
        rfl
      refine pure_ (i := 11) (N := some 27) (v := ?_) (a' := ?_) #[true, true, true, true, false, true, true, true, true, false, true, true, false, false, false, false, false, false, false, false, false, false] rfl rfl (by kernel_rfl) (fun _ _ _ h => h) (Or.inl ⟨by rfl, ?_⟩) ?_ ?_
      rotate_left
      · intro w'
        go_simp
        with_reducible rfl
      rotate_left
      · simp only [Act.put, List.setIfInBounds_toArray, List.set_cons_zero, List.set_cons_succ, i64_w, i32_w]
        rfl
      refine pure_ (i := 12) (N := some 28) (v := ?_) (a' := ?_) #[true, true, true, true, false, true, true, true, true, false, true, true, true, false, false, false, false, false, false, false, false, false] rfl rfl (by kernel_rfl) (fun _ _ _ h => h) (Or.inl ⟨by rfl, ?_⟩) ?_ ?_
      rotate_left
      · intro w'
        go_simp
        with_reducible rfl
      rotate_left
      · simp only [Act.put, List.setIfInBounds_toArray, List.set_cons_zero, List.set_cons_succ, i64_w, i32_w]
        rfl
      refine pure_ (i := 13) (N := some 29) (v := ?_) (a' := ?_) #[true, true, true, true, false, true, true, true, true, false, true, true, true, true, false, false, false, false, false, false, false, false] rfl rfl (by kernel_rfl) (fun _ _ _ h => h) (Or.inl ⟨by rfl, ?_⟩) ?_ ?_
      rotate_left
      · intro w'
        go_simp
        with_reducible rfl
      rotate_left
      · simp only [Act.put, List.setIfInBounds_toArray, List.set_cons_zero, List.set_cons_succ, i64_w, i32_w]
        rfl
      refine pure_ (i := 17) (N := some 33) (v := ?_) (a' := ?_) #[true, true, true, true, false, true, true, true, true, false, true, true, true, true, false, false, false, true, false, false, false, false] rfl rfl (by kernel_rfl) (fun _ _ _ h => h) (Or.inl ⟨by rfl, ?_⟩) ?_ ?_
      rotate_left
      · intro w'
        go_simp
        with_reducible rfl
      rotate_left
      · simp only [Act.put, List.setIfInBounds_toArray, List.set_cons_zero, List.set_cons_succ, i64_w, i32_w]
        rfl
      refine pure_ (i := 18) (N := some 34) (v := ?_) (a' := ?_) #[true, true, true, true, false, true, true, true, true, false, true, true, true, true, false, false, false, true, true, false, false, false] rfl rfl (by kernel_rfl) (fun _ _ _ h => h) (Or.inl ⟨by rfl, ?_⟩) ?_ ?_
      rotate_left
      · intro w'
        go_simp
        with_reducible rfl
      rotate_left
      · simp only [Act.put, List.setIfInBounds_toArray, List.set_cons_zero, List.set_cons_succ, i64_w, i32_w]
        rfl
      refine pure_ (i := 19) (N := some 35) (v := ?_) (a' := ?_) #[true, true, true, true, false, true, true, true, true, false, true, true, true, true, false, false, false, true, true, true, false, false] rfl rfl (by kernel_rfl) (fun _ _ _ h => h) (Or.inl ⟨by rfl, ?_⟩) ?_ ?_
      rotate_left
      · intro w'
        go_simp
        with_reducible rfl
      rotate_left
      · simp only [Act.put, List.setIfInBounds_toArray, List.set_cons_zero, List.set_cons_succ, i64_w, i32_w]
        rfl
      refine take_ (i := 4) (N := some 20) (v := ?_) (a' := ?_) #[true, true, true, true, true, true, true, true, true, false, true, true, true, true, false, false, false, true, true, true, false, false] rfl rfl (by kernel_rfl) (fun _ _ _ h => h) (Or.inl ⟨by rfl, ?_⟩) hHeld ?_ ?_
      rotate_left
      · rintro w' ⟨s0, s1, s2, s3, s4, s5, s6, s7, s8⟩
        go_simp
        with_reducible rfl
      rotate_left
      · simp only [Act.put, List.setIfInBounds_toArray, List.set_cons_zero, List.set_cons_succ, i64_w, i32_w]
        rfl
      refine take_ (i := 9) (N := some 25) (v := ?_) (a' := ?_) #[true, true, true, true, true, true, true, true, true, true, true, true, true, true, false, false, false, true, true, true, false, false] rfl rfl (by kernel_rfl) (fun _ _ _ h => h) (Or.inl ⟨by rfl, ?_⟩) hHeld ?_ ?_
      rotate_left
      · rintro w' ⟨s0, s1, s2, s3, s4, s5, s6, s7, s8⟩
        go_simp
        with_reducible rfl
      rotate_left
      · simp only [Act.put, List.setIfInBounds_toArray, List.set_cons_zero, List.set_cons_succ, i64_w, i32_w]
        rfl
      refine take_ (i := 14) (N := some 30) (v := ?_) (a' := ?_) #[true, true, true, true, true, true, true, true, true, true, true, true, true, true, true, false, false, true, true, true, false, false] rfl rfl (by kernel_rfl) (fun _ _ _ h => h) (Or.inl ⟨by rfl, ?_⟩) hHeld ?_ ?_
      rotate_left
      · rintro w' ⟨s0, s1, s2, s3, s4, s5, s6, s7, s8⟩
        go_simp
        with_reducible rfl
      rotate_left
      · simp only [Act.put, List.setIfInBounds_toArray, List.set_cons_zero, List.set_cons_succ, i64_w, i32_w]
        rfl
      refine take_ (i := 15) (N := some 31) (v := ?_) (a' := ?_) #[true, true, true, true, true, true, true, true, true, true, true, true, true, true, true, true, false, true, true, true, false, false] rfl rfl (by kernel_rfl) (fun _ _ _ h => h) (Or.inl ⟨by rfl, ?_⟩) hHeld ?_ ?_
      rotate_left
      · rintro w' ⟨s0, s1, s2, s3, s4, s5, s6, s7, s8⟩
        go_simp
        with_reducible rfl
      rotate_left
      · simp only [Act.put, List.setIfInBounds_toArray, List.set_cons_zero, List.set_cons_succ, i64_w, i32_w]
        rfl
      refine pure_ (i := 16) (N := some 32) (v := ?_) (a' := ?_) #[true, true, true, true, true, true, true, true, true, true, true, true, true, true, true, true, true, true, true, true, false, false] rfl rfl (by kernel_rfl) (fun _ _ _ h => h) (Or.inl ⟨by rfl, ?_⟩) ?_ ?_
      rotate_left
      · intro w'
        go_simp
        with_reducible rfl
      rotate_left
      · simp only [Act.put, List.setIfInBounds_toArray, List.set_cons_zero, List.set_cons_succ, i64_w, i32_w]
        rfl
      refine take_ (i := 20) (N := some 36) (v := ?_) (a' := ?_) #[true, true, true, true, true, true, true, true, true, true, true, true, true, true, true, true, true, true, true, true, true, false] rfl rfl (by kernel_rfl) (fun _ _ _ h => h) (Or.inl ⟨by rfl, ?_⟩) hHeld ?_ ?_
      rotate_left
      · rintro w' ⟨s0, s1, s2, s3, s4, s5, s6, s7, s8⟩
        go_simp
        with_reducible rfl
      rotate_left
      · simp only [Act.put, List.setIfInBounds_toArray, List.set_cons_zero, List.set_cons_succ, i64_w, i32_w]
        rfl
      refine pure_ (i := 21) (N := some 37) (v := ?_) (a' := ?_) #[true, true, true, true, true, true, true, true, true, true, true, true, true, true, true, true, true, true, true, true, true, true] rfl rfl (by kernel_rfl) (fun _ _ _ h => h) (Or.inl ⟨by rfl, ?_⟩) ?_ ?_
      rotate_left
      · intro w'
        go_simp
        with_reducible rfl
      rotate_left
      · simp only [Act.put, List.setIfInBounds_toArray, List.set_cons_zero, List.set_cons_succ, i64_w, i32_w]
        rfl
      refine done_ (by kernel_rfl) ?_
      clear hHeld a0 a1 a2 a3 b0 b1 b2 b3 hcv hne
      go_wp2_with fail
      go_roundw
      case rel => exact ⟨j + 1, by omega, by go_num, HD⟩
      case measure => simp [intOf]; omega
    · go_wp2_with fail
      go_ret
      exact ⟨rfl, HW.out⟩
end
end Go.Proofs.Ytenblkbieaadnaa
