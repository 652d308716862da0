/- The document's frame: its functions. -/
import Derived.Test.YtckdkbjobipniaaFA
import Derived.Test.YtckdkbjobipniaaBB
set_option linter.unusedVariables false
set_option linter.unusedSimpArgs false
namespace Go.Proofs.Ytckdkbjobipniaa
open Go.RowKit Go.Proofs.YtckdkbjobipniaaW.PrintWords Go.Proofs.YtckdkbjobipniaaW.PrintLast
section
variable {w0 w : World} {F : HP}
set_option maxHeartbeats 3200000 in
set_option maxRecDepth 100000 in
theorem rbit_ok (w : World) (xs : List Int) (i : Nat) (hi : i / 8 < xs.length) (hm : xs.length ≤ 140737488355328) (hb : bytes xs) (s : ByteArray) (hs : s = strOfNums xs) :
    Calls Try.prog 138 #[.string s, .int .i64 i] w fun e w' => e = .returned (.int .i64 (bitI (tbit xs i))) ∧ w' = w := by
  obtain ⟨x, hx⟩ : ∃ x, xs[i / 8]? = some x := ⟨_, List.getElem?_eq_getElem hi⟩
  have hxb := hb x (List.mem_of_getElem? hx)
  have hbit := tbit_num xs i x hx hxb.1
  obtain ⟨q, hq⟩ : ∃ q, q = i / 8 := ⟨_, rfl⟩
  obtain ⟨r, hr⟩ : ∃ r, r = i % 8 := ⟨_, rfl⟩
  rw [← hq] at hx hi
  rw [← hr] at hbit
  have hr8 : r < 8 := by omega
  have e1 : ((i : Int) / 8) = q := by omega
  have e2 : ((i : Int) % 8) = r := by omega
  have hidx := tx_index (P := Try.prog) 9 Try.underlying9 xs .i64 (q : Int) q x rfl hx hxb
  rw [← hs] at hidx
  have hx0 := hxb.1
  have hx1 := hxb.2
  have hi0 : i < 1125899906842624 * 8 := by omega
  have BB := Aside0.mk hbit
  clear hbit hq hr hx hxb hs hb hi hm
  go_enter Try.func138, Try.ntmps138
  obtain ⟨p2, hp2⟩ : ∃ p2 : Int, p2 = x / 2 ^ r := ⟨_, rfl⟩
  have hp0 : 0 ≤ p2 := by rw [hp2]; exact Int.ediv_nonneg hx0 (Int.pow_nonneg (by decide))
  have hp1 : p2 ≤ 255 := by rw [hp2]; exact Int.le_trans (Int.ediv_le_self _ hx0) hx1
  have e5 : wrap64 p2 = p2 := by unfold wrap64; omega
  have e6 : p2.tmod 2 = p2 % 2 := Int.tmod_eq_emod_of_nonneg hp0
  have e7 := hp2.symm
  have BB2 : Aside0 (p2 % 2 = bitI (tbit xs i)) := ⟨by rw [hp2]; exact BB.out⟩
  clear hp2 BB
  go_wp2_with fail
  go_ret
  refine ⟨?_, rfl⟩
  rw [← BB2.out]
  first | rfl | (simp only [e7, e5, e6]; rfl)
/-- The powers, as the document has them. -/
def powI (k : Nat) : Int := bitI (fpoly.getLsbD k)
theorem powI_cells : ([0, 0, 0, 1, 1, 1, 1, 0, 1, 1, 0, 1, 1, 1, 0, 0, 0, 1, 1, 0, 1, 1, 1, 1, 0, 1, 0, 0, 0, 0, 0, 1] : List Int) = (List.range 32).map powI := by decide +kernel
theorem powI_at (k : Nat) (hk : k < 32) : ([0, 0, 0, 1, 1, 1, 1, 0, 1, 1, 0, 1, 1, 1, 0, 0, 0, 1, 1, 0, 1, 1, 1, 1, 0, 1, 0, 0, 0, 0, 0, 1] : List Int)[k]? = some (powI k) := by
  rw [powI_cells]; simp [hk]
abbrev powL : List Int := [0, 0, 0, 1, 1, 1, 1, 0, 1, 1, 0, 1, 1, 1, 0, 0, 0, 1, 1, 0, 1, 1, 1, 1, 0, 1, 0, 0, 0, 0, 0, 1]
/-- A row, the first k of it new. -/
def fillTo (k : Nat) (new old : List Int) : List Int := new.take k ++ old.drop k
theorem fillTo_zero (new old : List Int) : fillTo 0 new old = old := by simp [fillTo]
theorem fillTo_all (new old : List Int) (k : Nat) (h1 : new.length = k) (h2 : old.length = k) : fillTo k new old = new := by
  unfold fillTo
  rw [List.take_of_length_le (by omega), List.drop_of_length_le (by omega), List.append_nil]
theorem fillTo_len (k : Nat) (new old : List Int) (h : new.length = old.length) (hk : k ≤ old.length) : (fillTo k new old).length = old.length := by
  unfold fillTo
  rw [List.length_append, List.length_take, List.length_drop]; omega
theorem fillTo_set (k : Nat) (new old : List Int) (x : Int) (h : new.length = old.length) (hx : new[k]? = some x) : (fillTo k new old).set k x = fillTo (k + 1) new old := by
  have hk := (List.getElem?_eq_some_iff.1 hx).1
  unfold fillTo
  have hl : (new.take k).length = k := by rw [List.length_take]; omega
  rw [List.set_append_right _ _ (by omega), hl, Nat.sub_self, take_snoc_of hx, List.append_assoc]
  congr 1
  have hd : old.drop k = old[k] :: old.drop (k + 1) := (List.getElem_cons_drop (by omega)).symm
  rw [hd, List.set_cons_zero]
  rfl
theorem fillTo_at (k : Nat) (new old : List Int) (h : new.length = old.length) (hk : k < old.length) : ∃ x, (fillTo k new old)[k]? = some x := ⟨_, List.getElem?_eq_getElem (by rw [fillTo_len k new old h (by omega)]; exact hk)⟩
theorem ones_bits : List.replicate 32 (1 : Int) = bitsI (~~~ 0#32) := by decide +kernel
theorem bit_sum (a b : Bool) : (bitI a + bitI b).tmod 2 = bitI (a ^^ b) := by cases a <;> cases b <;> rfl
theorem pow_cell (k : Nat) (hk : k < 32) {w0 w : World} {F : HP} {b : Nat} {e : TypeId} (h : Hw w0 w (blk b (.cells (powL.map (Value.int .i64)).toArray e (0, 0)) * F)) : w.cell? ⟨b, k, none⟩ = some (.int .i64 (powI k)) := by
  refine h.cell (i := k) ?_
  rw [List.getElem?_toArray, List.getElem?_map, powI_at k hk]
  rfl
set_option maxHeartbeats 3200000 in
set_option maxRecDepth 100000 in
theorem rsum_ok (xs : List Int) (hm : xs.length ≤ 140737488355328) (hb : bytes xs) (s : ByteArray) (hs : s = strOfNums xs) (h : Hw w0 w F) :
    Calls Try.prog 128 #[.string s] w fun e w' => e = .returned (.int .u32 ((crc xs).toNat : Int)) ∧ Hw w0 w' F := by
  have H := Aside0.mk h
  have S := Aside0.mk hs
  have hsz : s.size = xs.length := by rw [hs, tx_size]
  obtain ⟨n, hn⟩ : ∃ n, n = xs.length := ⟨_, rfl⟩
  rw [← hn] at hsz hm
  have N := Aside0.mk hn
  have HB := Aside0.mk hb
  clear h hs hb hn
  go_enter Try.func128, Try.ntmps128
  go_wp2_with (first | (refine Hw.store_row rfl 236 (.tmp 3) (.tmp 13) rfl w.heap.size #[.int .i64 0, .int .i64 0, .int .i64 0, .int .i64 1, .int .i64 1, .int .i64 1, .int .i64 1, .int .i64 0, .int .i64 1, .int .i64 1, .int .i64 0, .int .i64 1, .int .i64 1, .int .i64 1, .int .i64 0, .int .i64 0, .int .i64 0, .int .i64 1, .int .i64 1, .int .i64 0, .int .i64 1, .int .i64 1, .int .i64 1, .int .i64 1, .int .i64 0, .int .i64 1, .int .i64 0, .int .i64 0, .int .i64 0, .int .i64 0, .int .i64 0, .int .i64 1] rfl rfl (H.out.alloc _) (by kernel_rfl) (by kernel_rfl) (by kernel_rfl) ?_; intro w1 H1) |
    (refine Hw.make_int (k := .i64) rfl 22 3 _ _ rfl 8 Try.underlying22 (by kernel_rfl) (by decide) 32 32 rfl (by decide) rfl rfl H1.out ?_; intro g2 w2 H2))
  have H3 : Aside0 (Hw w0 w2 (row (Kd.int .i64) 3 (.slice (some ⟨g2, 0, none⟩) 32 32) (List.replicate 32 0) * (blk w.heap.size (.cells (powL.map (Value.int .i64)).toArray 236 (0, 0)) * F))) := H2
  clear H H1 H2
  go_loopw [5] (fun i wr => ∃ k : Nat, k ≤ 32 ∧ i = .int .i64 k ∧ Aside0 (Hw w0 wr (row (Kd.int .i64) 3 (.slice (some ⟨g2, 0, none⟩) 32 32) (fillTo k (List.replicate 32 1) (List.replicate 32 0)) * (blk w.heap.size (.cells (powL.map (Value.int .i64)).toArray 236 (0, 0)) * F)))) (fun i _ => 32 - (intOf i).toNat)
  case atStart => exact ⟨0, Nat.zero_le _, rfl, ⟨by rw [fillTo_zero]; exact H3.out⟩⟩
  case round =>
    obtain ⟨k, hk, rfl, HW⟩ := hrel
    clear H3
    by_cases hlt : k < 32
    · obtain ⟨x, hx⟩ := fillTo_at k (List.replicate 32 1) (List.replicate 32 0) (by simp) (by simpa using hlt)
      obtain ⟨ad, e1, hcx, hfx, hput⟩ := HW.out.row_int_at k x hx
      injection e1 with e1
      subst e1
      rw [add_plain] at hcx hfx
      have hput2 := hput.out 1 _ (fillTo_set k (List.replicate 32 1) (List.replicate 32 0) 1 (by simp) (by rw [List.getElem?_replicate, if_pos hlt]))
      rw [add_plain] at hput2
      have HP2 := Aside0.mk hput2
      clear hx hput hput2 HW
      go_wp2
      go_roundw
      case rel => exact ⟨k + 1, by omega, by go_num, HP2⟩
      case measure => simp [intOf]; omega
    · have hk2 : k = 32 := by omega
      subst hk2
      rw [fillTo_all _ _ 32 (by simp) (by simp), ones_bits] at HW
      go_wp2_with (refine Hw.make_int (k := .i64) rfl 22 3 _ _ rfl 8 Try.underlying22 (by kernel_rfl) (by decide) 32 32 rfl (by decide) rfl rfl HW.out ?_; intro g3 w3 H3)
      clear HW
      go_loopw [7, 4, 6] (fun i v4 v6 wr => ∃ (k ga gb : Nat) (ys : List Int), k ≤ n * 8 ∧ i = .int .i64 k ∧ v4 = .slice (some ⟨ga, 0, none⟩) 32 32 ∧ v6 = .slice (some ⟨gb, 0, none⟩) 32 32 ∧ Aside0 (ys.length = 32) ∧
        Aside0 (Hw w0 wr (row (Kd.int .i64) 3 (.slice (some ⟨ga, 0, none⟩) 32 32) (bitsI (rbits (~~~ 0#32) xs k)) * (row (Kd.int .i64) 3 (.slice (some ⟨gb, 0, none⟩) 32 32) ys * (blk w.heap.size (.cells (powL.map (Value.int .i64)).toArray 236 (0, 0)) * F))))) (fun i _ _ _ => n * 8 - (intOf i).toNat)
      case atStart => exact ⟨0, g2, g3, List.replicate 32 0, Nat.zero_le _, rfl, rfl, rfl, ⟨by simp⟩, ⟨H3.out.atR (Kd.int .i64) 3 (.slice (some ⟨g2, 0, none⟩) 32 32)⟩⟩
      case round =>
        obtain ⟨k, ga, gb, ys, hk, rfl, rfl, rfl, HY, HW⟩ := hrel
        clear H3
        by_cases hlt : k < n * 8
        · obtain ⟨t, ht⟩ : ∃ t, t = rbits (~~~ 0#32) xs k := ⟨_, rfl⟩
          rw [← ht] at HW
          have T := Aside0.mk ht
          obtain ⟨bb, hbb⟩ : ∃ bb, bb = tbit xs k := ⟨_, rfl⟩
          have hT2 : rbits (~~~ 0#32) xs (k + 1) = rstep t bb := by rw [ht, hbb]; rfl
          have T2 := Aside0.mk hT2
          have BB := Aside0.mk hbb
          clear ht hbb hT2
          have hd : decide ((k : Int) < n * 8) = true := decide_eq_true (by omega)
          have hc0 := (HW.out.row_int_at 0 (bitI (t.getLsbD 0)) (bitsI_at t 0 (by decide)))
          obtain ⟨ad, e1, hcx, _, _⟩ := hc0
          injection e1 with e1
          subst e1
          rw [add_plain] at hcx
          obtain ⟨a0, ha0⟩ : ∃ a0, a0 = bitI (t.getLsbD 0) := ⟨_, rfl⟩
          obtain ⟨b0, hb0⟩ : ∃ b0, b0 = bitI bb := ⟨_, rfl⟩
          obtain ⟨c0, hc0⟩ : ∃ c0, c0 = bitI (t.getLsbD 0 ^^ bb) := ⟨_, rfl⟩
          rw [← ha0] at hcx
          have hsum : (a0 + b0).tmod 2 = c0 := by rw [ha0, hb0, hc0]; exact bit_sum _ _
          have hr1 : 0 ≤ a0 ∧ a0 ≤ 1 := by rw [ha0]; exact bitI_range _
          have hr2 : 0 ≤ b0 ∧ b0 ≤ 1 := by rw [hb0]; exact bitI_range _
          have hr3 : 0 ≤ c0 ∧ c0 ≤ 1 := by rw [hc0]; exact bitI_range _
          have hws : IntKind.i64.wrap (a0 + b0) = a0 + b0 := by rw [IntKind.wrap_i64]; omega
          have hws2 : wrap64 (a0 + b0) = a0 + b0 := by unfold wrap64; omega
          have CC := Aside0.mk hc0
          have B0 := Aside0.mk hb0
          have R3 := Aside0.mk hr3
          clear ha0 hb0 hc0 hr1 hr2 hr3
          go_upto_region 11 with fail
          refine start_ (n := 9) (S := fun w' => w'.cell? ⟨ga, 0, none⟩ = some (.int .i64 a0)) (ds := []) #[false, false, false, false, false, false, false, false, false] (by kernel_rfl) rfl rfl (hcx) (fun hHeld => ?_)
          refine pure_ (i := 0) (N := some 30) (v := ?_) (a' := ?_) #[true, false, false, false, false, false, false, false, false] rfl rfl (by kernel_rfl) (fun _ _ _ h => h) (Or.inl ⟨by rfl, ?_⟩) ?_ ?_
          rotate_left
          · intro w'
            go_simp
            with_reducible rfl
          rotate_left
          · simp only [Act.put, List.setIfInBounds_toArray, List.set_cons_zero, List.set_cons_succ, i64_w, i32_w]
            rfl
          refine pure_ (i := 1) (N := some 31) (v := ?_) (a' := ?_) #[true, true, false, false, false, false, false, false, false] rfl rfl (by kernel_rfl) (fun _ _ _ h => h) (Or.inl ⟨by rfl, ?_⟩) ?_ ?_
          rotate_left
          · intro w'
            go_simp
            with_reducible rfl
          rotate_left
          · simp only [Act.put, List.setIfInBounds_toArray, List.set_cons_zero, List.set_cons_succ, i64_w, i32_w]
            rfl
          refine pure_ (i := 3) (N := some 33) (v := ?_) (a' := ?_) #[true, true, false, true, false, false, false, false, false] rfl rfl (by kernel_rfl) (fun _ _ _ h => h) (Or.inl ⟨by rfl, ?_⟩) ?_ ?_
          rotate_left
          · intro w'
            go_simp
            with_reducible rfl
          rotate_left
          · simp only [Act.put, List.setIfInBounds_toArray, List.set_cons_zero, List.set_cons_succ, i64_w, i32_w]
            rfl
          refine pure_ (i := 4) (N := some 34) (v := ?_) (a' := ?_) #[true, true, false, true, true, false, false, false, false] rfl rfl (by kernel_rfl) (fun _ _ _ h => h) (Or.inl ⟨by rfl, ?_⟩) ?_ ?_
          rotate_left
          · intro w'
            go_simp
            with_reducible rfl
          rotate_left
          · simp only [Act.put, List.setIfInBounds_toArray, List.set_cons_zero, List.set_cons_succ, i64_w, i32_w]
            rfl
          refine take_ (i := 2) (N := some 32) (v := ?_) (a' := ?_) #[true, true, true, true, true, false, false, false, false] rfl rfl (by kernel_rfl) (fun _ _ _ h => h) (Or.inl ⟨by rfl, ?_⟩) hHeld ?_ ?_
          rotate_left
          · intro w' s0
            go_simp
            with_reducible rfl
          rotate_left
          · simp only [Act.put, List.setIfInBounds_toArray, List.set_cons_zero, List.set_cons_succ, i64_w, i32_w]
            rfl
          refine one_ (i := 5) (N := some 35) #[true, true, true, true, true, true, false, false, false] rfl rfl (by kernel_rfl) (by decide) (fun K hK => ?_)
          refine goes_ Try.func138 (by kernel_rfl) rfl #[.string s, .int .i64 k] (by rfl) rfl rfl (by simp only [List.map_toArray, List.map_cons, List.map_nil]; rfl) ?_
          with_reducible refine (rbit_ok _ xs k (by have := N.out; omega) (by have := N.out; omega) HB.out s S.out).mono ?_
          rintro e w5 ⟨rfl, rfl⟩
          refine ⟨_, rfl, ?_⟩
          rw [← BB.out, ← B0.out]
          refine hK.out _ _ (hcx) (fun hHeld => ?_)
          clear hK K
          refine norm_ (a' := ?_) ?_ ?_
          rotate_left
          · show Act.put _ (some 35) _ = _
            simp only [Act.put, List.setIfInBounds_toArray, List.set_cons_zero, List.set_cons_succ, i64_w, i32_w]
            rfl
          refine pure_ (i := 6) (N := some 36) (v := ?_) (a' := ?_) #[true, true, true, true, true, true, true, false, false] rfl rfl (by kernel_rfl) (fun _ _ _ h => h) (Or.inl ⟨by rfl, ?_⟩) ?_ ?_
          rotate_left
          · intro w'
            go_simp
            with_reducible rfl
          rotate_left
          · simp only [Act.put, List.setIfInBounds_toArray, List.set_cons_zero, List.set_cons_succ, i64_w, i32_w]
            rfl
          refine pure_ (i := 7) (N := some 37) (v := ?_) (a' := ?_) #[true, true, true, true, true, true, true, true, false] rfl rfl (by kernel_rfl) (fun _ _ _ h => h) (Or.inl ⟨by rfl, ?_⟩) ?_ ?_
          rotate_left
          · intro w'
            go_simp
            with_reducible rfl
          rotate_left
          · simp only [Act.put, List.setIfInBounds_toArray, List.set_cons_zero, List.set_cons_succ, i64_w, i32_w]
            rfl
          refine pure_ (i := 8) (N := some 8) (v := ?_) (a' := ?_) #[true, true, true, true, true, true, true, true, true] rfl rfl (by kernel_rfl) (fun _ _ _ h => h) (Or.inl ⟨by rfl, ?_⟩) ?_ ?_
          rotate_left
          · intro w'
            go_simp
            with_reducible rfl
          rotate_left
          · simp only [Act.put, List.setIfInBounds_toArray, List.set_cons_zero, List.set_cons_succ, i64_w, i32_w]
            rfl
          refine done_ (by kernel_rfl) ?_
          clear hHeld hcx hsum hws hws2 hd
          go_wp2_with fail
          go_loopw [9, 10] (fun i9 _ wr => ∃ j : Nat, j ≤ 32 ∧ i9 = .int .i64 j ∧ Aside0 (Hw w0 wr (row (Kd.int .i64) 3 (.slice (some ⟨gb, 0, none⟩) 32 32) (fillTo j (bitsI (rstep t bb)) ys) * (row (Kd.int .i64) 3 (.slice (some ⟨ga, 0, none⟩) 32 32) (bitsI t) * (blk w.heap.size (.cells (powL.map (Value.int .i64)).toArray 236 (0, 0)) * F))))) (fun i9 _ _ => 32 - (intOf i9).toNat)
          case atStart => exact ⟨0, Nat.zero_le _, rfl, ⟨by rw [fillTo_zero]; exact (HW.out.drew).atR (Kd.int .i64) 3 (.slice (some ⟨gb, 0, none⟩) 32 32)⟩⟩
          case round =>
            obtain ⟨j, hj, rfl, HV⟩ := hrel
            clear HW
            by_cases hlj : j < 32
            · obtain ⟨x, hx⟩ := fillTo_at j (bitsI (rstep t bb)) ys (by rw [bitsI_len, HY.out]) (by rw [HY.out]; exact hlj)
              obtain ⟨ad, e1, hcx, hfx, hput⟩ := HV.out.row_int_at j x hx
              injection e1 with e1
              subst e1
              rw [add_plain] at hcx hfx
              have hput2 := hput.out (bitI ((rstep t bb).getLsbD j)) _ (fillTo_set j (bitsI (rstep t bb)) ys _ (by rw [bitsI_len, HY.out]) (bitsI_at _ j hlj))
              rw [add_plain] at hput2
              have hpow := pow_cell j hlj ((HV.out.right).atB w.heap.size)
              obtain ⟨pp, hpp⟩ : ∃ pp, pp = powI j := ⟨_, rfl⟩
              obtain ⟨vv, hvv⟩ : ∃ vv, vv = bitI ((rstep t bb).getLsbD j) := ⟨_, rfl⟩
              obtain ⟨qq, hqq⟩ : ∃ qq, qq = bitI ((t.getLsbD 0 ^^ bb) && fpoly.getLsbD j) := ⟨_, rfl⟩
              obtain ⟨xx, hxx⟩ : ∃ xx, xx = bitI (t.getLsbD (j + 1)) := ⟨_, rfl⟩
              rw [← hvv] at hput2
              rw [← hpp] at hpow
              have hmul : c0 * pp = qq := by rw [CC.out, hpp, hqq]; exact bitI_and _ _
              have hsum : (xx + qq) % 2 = vv := by rw [hxx, hqq, hvv, rstep_get]; exact bitI_xor _ _
              have hsum2 : (xx + qq).tmod 2 = vv := by rw [hxx, hqq, hvv, rstep_get]; exact bit_sum _ _
              have hx1 : 0 ≤ xx ∧ xx ≤ 1 := by rw [hxx]; exact bitI_range _
              have hq1 : 0 ≤ qq ∧ qq ≤ 1 := by rw [hqq]; exact bitI_range _
              have hw1 : wrap64 qq = qq := by unfold wrap64; omega
              have hw2 : wrap64 (xx + qq) = xx + qq := by unfold wrap64; omega
              have hw3 : IntKind.i64.wrap (xx + qq) = xx + qq := by rw [IntKind.wrap_i64]; omega
              have hw4 : IntKind.i64.wrap qq = qq := by rw [IntKind.wrap_i64]; omega
              have HP2 := Aside0.mk hput2
              clear hx hput hput2 hpp hvv hqq hx1 hq1
              by_cases h31 : j < 31
              · have d31 : decide ((j : Int) < 31) = true := decide_eq_true (by omega)
                obtain ⟨ad, e1, hcx2, _, _⟩ := (HV.out.right).row_int_at (j + 1) xx (by rw [hxx]; exact bitsI_at t (j + 1) (by omega))
                injection e1 with e1
                subst e1
                rw [add_plain] at hcx2
                clear hxx HV
                go_wp2
                go_roundw
                case rel => exact ⟨j + 1, by omega, by go_num, HP2⟩
                case measure => simp [intOf]; omega
              · have hj31 : j = 31 := by omega
                subst hj31
                have hx0 : xx = 0 := by rw [hxx, BitVec.getLsbD_of_ge _ _ (by decide)]; rfl
                subst hx0
                rw [Int.zero_add] at hsum hsum2 hw2 hw3
                clear hxx HV hw2 hw3
                go_wp2
                go_roundw
                case rel => exact ⟨32, by omega, rfl, HP2⟩
                case measure => simp [intOf]
            · have hj32 : j = 32 := by omega
              subst hj32
              have h4 := HV.out
              rw [fillTo_all _ _ 32 (bitsI_len _) HY.out, ← T2.out] at h4
              have H4 := Aside0.mk h4
              clear h4 HV
              go_wp2_with fail
              go_roundw
              case rel => exact ⟨k + 1, gb, ga, bitsI t, by omega, by go_num, rfl, rfl, ⟨bitsI_len t⟩, H4⟩
              case measure => simp [intOf]; omega
        · have hkn : k = n * 8 := by omega
          have hd : decide ((k : Int) < n * 8) = false := decide_eq_false (by omega)
          have hd2 : decide (k < n * 8) = false := decide_eq_false (by omega)
          have hcrc : ~~~ (rbits (~~~ 0#32) xs k) = crc xs := by rw [hkn, N.out]; exact rbits_crc xs HB.out
          obtain ⟨t, ht⟩ : ∃ t, t = rbits (~~~ 0#32) xs k := ⟨_, rfl⟩
          rw [← ht] at HW hcrc
          have CRC := Aside0.mk hcrc
          clear ht hcrc hkn
          go_wp2_with fail
          go_loop [12, 11] (fun i12 v11 => ∃ j : Nat, j ≤ 32 ∧ i12 = .int .i64 j ∧ v11 = .int .u32 (lowN (~~~ t) j)) (fun i12 _ => 32 - (intOf i12).toNat)
          case atStart => exact ⟨0, Nat.zero_le _, rfl, by rw [show lowN (~~~ t) 0 = 0 by simp [lowN, Nat.mod_one]]⟩
          case round =>
            obtain ⟨j, hj, rfl, rfl⟩ := hrel
            by_cases hlj : j < 32
            · obtain ⟨ad, e1, hcx, _, _⟩ := HW.out.row_int_at j (bitI (t.getLsbD j)) (bitsI_at t j hlj)
              injection e1 with e1
              subst e1
              rw [add_plain] at hcx
              have hs := lowN_succ (~~~ t) j
              have hlow := lowN_lt (~~~ t) j
              rw [BitVec.getLsbD_not] at hs
              simp only [hlj, decide_true, Bool.true_and] at hs
              obtain ⟨oo, hoo⟩ : ∃ oo, oo = lowN (~~~ t) j := ⟨_, rfl⟩
              rw [← hoo] at hs hlow ⊢
              clear hoo
              cases hbit : t.getLsbD j
              · rw [hbit] at hcx hs
                obtain ⟨pk, hpk⟩ : ∃ pk : Int, pk = 2 ^ j := ⟨_, rfl⟩
                have hp2 : pk ≤ 2147483648 := by
                  rw [hpk]
                  have : (2 : Int) ^ j ≤ 2 ^ 31 := by exact_mod_cast Nat.pow_le_pow_right (n := 2) (by decide) (show j ≤ 31 by omega)
                  exact this
                rw [← hpk] at hlow
                have hw : IntKind.u32.wrap ((2 : Int) ^ j) = pk := by rw [IntKind.wrap_u32, ← hpk]; omega
                have hw' : ((2 : Int) ^ j) % 4294967296 = pk := by rw [← hpk]; omega
                have hs : lowN (~~~ t) (j + 1) = oo + pk := by rw [hs, hpk]; rfl
                have ho0 := hlow.1
                have ho1 : oo ≤ 2147483647 := by have := hlow.2; omega
                have hp0 : 0 ≤ pk := by have := hlow.2; omega
                have hadd : IntKind.u32.wrap (oo + pk) = oo + pk := by rw [IntKind.wrap_u32]; omega
                have hadd' : (oo + pk) % 4294967296 = oo + pk := by omega
                have HS := Aside0.mk hs
                have hcx : wr.cell? ⟨ga, j, none⟩ = some (.int .i64 0) := hcx
                clear hlow hs hpk hbit
                go_wp2
                go_round
                case rel => exact ⟨j + 1, by omega, by go_num, by rw [HS.out]⟩
                case measure => simp [intOf]; omega
              · rw [hbit] at hcx hs
                have hs : lowN (~~~ t) (j + 1) = oo := by rw [hs]; exact Int.add_zero _
                have HS := Aside0.mk hs
                have hcx : wr.cell? ⟨ga, j, none⟩ = some (.int .i64 1) := hcx
                clear hlow hs hbit
                go_wp2
                go_round
                case rel => exact ⟨j + 1, by omega, by go_num, by rw [HS.out]⟩
                case measure => simp [intOf]; omega
            · have hj32 : j = 32 := by omega
              subst hj32
              rw [lowN_full, CRC.out]
              go_wp2_with fail
              go_ret
              exact ⟨rfl, ((HW.out.dropR (Kd.int .i64) 3 (.slice (some ⟨ga, 0, none⟩) 32 32)).dropR (Kd.int .i64) 3 (.slice (some ⟨gb, 0, none⟩) 32 32)).dropB w.heap.size⟩
end
end Go.Proofs.Ytckdkbjobipniaa
