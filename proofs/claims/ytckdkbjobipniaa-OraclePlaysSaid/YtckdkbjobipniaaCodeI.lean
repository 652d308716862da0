/- The reference's Int and GetInt. -/
import Derived.Test.YtckdkbjobipniaaCC
import Derived.Test.YtckdkbjobipniaaBA
set_option linter.unusedVariables false
set_option linter.unusedSimpArgs false
namespace Go.Proofs.Ytckdkbjobipniaa
open Go.RowKit Go.Proofs.YtckdkbjobipniaaW.PrintWords Go.Proofs.YtckdkbjobipniaaW.PrintLast
theorem zig_up (n : Int) (h : i64r n) (h0 : 0 ≤ n) : IntKind.u64.wrap (IntKind.u64.wrap n * 2) = (zig n : Int) := by
  unfold i64r at h
  rw [IntKind.wrap_u64, IntKind.wrap_u64]
  unfold zig; rw [if_pos h0]; omega
theorem zig_dn (n : Int) (h : i64r n) (h0 : n < 0) : wrap64 (n + 1) = n + 1 ∧ IntKind.i64.wrap (n + 1) = n + 1 ∧ wrap64 (-(n + 1)) = -(n + 1) ∧ IntKind.i64.wrap (-(n + 1)) = -(n + 1) ∧ IntKind.u64.wrap (-(n + 1)) = -(n + 1) ∧ IntKind.u64.wrap (-(n + 1) * 2) = -(n + 1) * 2 ∧ IntKind.u64.wrap (-(n + 1) * 2 + 1) = (zig n : Int) := by
  unfold i64r at h
  refine ⟨by unfold wrap64; omega, by rw [IntKind.wrap_i64]; omega, by unfold wrap64; omega, by rw [IntKind.wrap_i64]; omega, by rw [IntKind.wrap_u64]; omega, by rw [IntKind.wrap_u64]; omega, ?_⟩
  rw [IntKind.wrap_u64]
  unfold zig; rw [if_neg (by omega)]; omega
/-- '[]byte{b}' as a text. -/
theorem lit_text (w : World) (x : Int) : (convert 28 9 (.slice (some ⟨w.heap.size, 0, none⟩) 1 1)).run Try.prog (w.alloc (.cells #[.int .u8 x] 5)) = .ok (.string (strOfNums [x])) (w.alloc (.cells #[.int .u8 x] 5)) :=
  Kd.C_string (c := 1) Try.underlying28 Try.underlying5 Try.underlying9 (C_blk (enc := Value.int .u8) (h1 := fun _ => rfl) (xs := [x]) (by simp) ((Hw.start w).alloc (.cells #[.int .u8 x] 5)).blk_at.1)
set_option maxHeartbeats 3200000 in
set_option maxRecDepth 100000 in
theorem refint_ok (n : Int) (hn : i64r n) (w : World) :
    Calls Try.prog 71 #[.int .i64 n] w fun e w' => e = .returned (.string (strOfNums (encI n))) ∧ Below w.heap.size w w' := by
  obtain ⟨z, hzz⟩ : ∃ z, z = zig n := ⟨_, rfl⟩
  have hzl := zig_lt n hn
  have EN : Aside0 (encI n = venc z) := ⟨by rw [hzz]; rfl⟩
  have hl := encI_len n hn
  have LL : Aside0 ((venc z).length ≤ 10) := ⟨by rw [← EN.out]; exact hl.2⟩
  clear hl
  have K : ∀ a : Act, True := fun _ => trivial
  by_cases h0 : 0 ≤ n
  · have d1 : decide (n < 0) = false := decide_eq_false (by omega)
    have hu := zig_up n hn h0
    rw [← hzz] at hu hzl
    clear hzz hn h0 K
    go_enter Try.func71, Try.ntmps71
    go_wp2_with fail
    go_loopw [3, 4] (fun v3 v4 wr => ∃ (u : Nat) (ys : List Int), u < 18446744073709551616 ∧ v3 = .int .u64 u ∧ v4 = .string (strOfNums ys) ∧ Aside0 (ys ++ venc u = venc z) ∧ Aside0 (Below w.heap.size w wr)) (fun i _ _ => (intOf i).toNat)
    case atStart => exact ⟨z, [], hzl, rfl, rfl, ⟨rfl⟩, ⟨(Hw.start w).below⟩⟩
    case round =>
      obtain ⟨u, ys, hul, rfl, rfl, YE, BE⟩ := hrel
      obtain ⟨s, hs⟩ : ∃ s, s = strOfNums ys := ⟨_, rfl⟩
      have hsz : s.size ≤ 10 := by
        rw [hs, tx_size]
        have h1 := congrArg List.length YE.out
        rw [List.length_append] at h1
        have := LL.out
        omega
      rw [← hs]
      have S := Aside0.mk hs
      clear hs
      by_cases hlt : 128 ≤ u
      · have d1 : decide ((128 : Int) ≤ u) = true := decide_eq_true (by omega)
        have d2 : decide (128 ≤ u) = true := decide_eq_true hlt
        obtain ⟨y, hy⟩ : ∃ y : Int, y = ((u % 128 + 128 : Nat) : Int) := ⟨_, rfl⟩
        obtain ⟨q, hq⟩ : ∃ q, q = u / 128 := ⟨_, rfl⟩
        have e1 : (u : Int) % 128 + 128 = y := by omega
        have e2 : IntKind.u64.wrap y = y := by rw [IntKind.wrap_u64]; omega
        have e3 : y % 256 = y := by omega
        have e4 : IntKind.u8.wrap y = y := by rw [IntKind.wrap_u8]; omega
        have e5 : (u : Int) / 128 = q := by omega
        have hq3 : q < u := by omega
        have hlit := lit_text wr y
        obtain ⟨t, ht⟩ : ∃ t, t = strOfNums [y] := ⟨_, rfl⟩
        have htz : t.size = 1 := by rw [ht, tx_size]; rfl
        rw [← ht] at hlit
        have hcat : ¬ 9223372036854775807 < s.size + 1 := by omega
        have VE := Aside0.mk (show venc u = y :: venc q by rw [hy, hq]; exact venc_ge hlt)
        have YE2 := Aside0.mk (show (ys ++ [y]) ++ venc q = venc z by rw [List.append_assoc, ← YE.out, VE.out]; rfl)
        have CAT := Aside0.mk (show s ++ t = strOfNums (ys ++ [y]) by rw [S.out, ht, tx_append])
        have B2 := Aside0.mk (BE.out.alloc BE.out.size (.cells #[.int .u8 y] 5))
        clear hy hq ht
        go_wp2_with fail
        go_roundw
        case rel => exact ⟨q, ys ++ [y], by omega, rfl, by rw [← CAT.out], YE2, B2⟩
        case measure => simp [intOf]; omega
      · have d1 : decide ((128 : Int) ≤ u) = false := decide_eq_false (by omega)
        have d2 : decide (128 ≤ u) = false := decide_eq_false hlt
        have e3 : (u : Int) % 256 = u := by omega
        have e4 : IntKind.u8.wrap (u : Int) = u := by rw [IntKind.wrap_u8]; omega
        have hlit := lit_text wr u
        obtain ⟨t, ht⟩ : ∃ t, t = strOfNums [(u : Int)] := ⟨_, rfl⟩
        have htz : t.size = 1 := by rw [ht, tx_size]; rfl
        rw [← ht] at hlit
        have hcat : ¬ 9223372036854775807 < s.size + 1 := by omega
        have CAT := Aside0.mk (show s ++ t = strOfNums (encI n) by rw [S.out, ht, ← tx_append, EN.out, ← YE.out, venc_lt (by omega)])
        have B2 := Aside0.mk (BE.out.alloc BE.out.size (.cells #[.int .u8 (u : Int)] 5))
        clear ht
        go_wp2_with fail
        go_ret
        exact ⟨by rw [CAT.out]; rfl, B2.out⟩
  · have d1 : decide (n < 0) = true := decide_eq_true (by omega)
    obtain ⟨u1, u2, u3, u4, u5, u6, hu⟩ := zig_dn n hn (by omega)
    rw [← hzz] at hu hzl
    clear hzz hn h0 K
    go_enter Try.func71, Try.ntmps71
    go_wp2_with fail
    go_loopw [3, 4] (fun v3 v4 wr => ∃ (u : Nat) (ys : List Int), u < 18446744073709551616 ∧ v3 = .int .u64 u ∧ v4 = .string (strOfNums ys) ∧ Aside0 (ys ++ venc u = venc z) ∧ Aside0 (Below w.heap.size w wr)) (fun i _ _ => (intOf i).toNat)
    case atStart => exact ⟨z, [], hzl, rfl, rfl, ⟨rfl⟩, ⟨(Hw.start w).below⟩⟩
    case round =>
      obtain ⟨u, ys, hul, rfl, rfl, YE, BE⟩ := hrel
      obtain ⟨s, hs⟩ : ∃ s, s = strOfNums ys := ⟨_, rfl⟩
      have hsz : s.size ≤ 10 := by
        rw [hs, tx_size]
        have h1 := congrArg List.length YE.out
        rw [List.length_append] at h1
        have := LL.out
        omega
      rw [← hs]
      have S := Aside0.mk hs
      clear hs
      by_cases hlt : 128 ≤ u
      · have d1 : decide ((128 : Int) ≤ u) = true := decide_eq_true (by omega)
        have d2 : decide (128 ≤ u) = true := decide_eq_true hlt
        obtain ⟨y, hy⟩ : ∃ y : Int, y = ((u % 128 + 128 : Nat) : Int) := ⟨_, rfl⟩
        obtain ⟨q, hq⟩ : ∃ q, q = u / 128 := ⟨_, rfl⟩
        have e1 : (u : Int) % 128 + 128 = y := by omega
        have e2 : IntKind.u64.wrap y = y := by rw [IntKind.wrap_u64]; omega
        have e3 : y % 256 = y := by omega
        have e4 : IntKind.u8.wrap y = y := by rw [IntKind.wrap_u8]; omega
        have e5 : (u : Int) / 128 = q := by omega
        have hq3 : q < u := by omega
        have hlit := lit_text wr y
        obtain ⟨t, ht⟩ : ∃ t, t = strOfNums [y] := ⟨_, rfl⟩
        have htz : t.size = 1 := by rw [ht, tx_size]; rfl
        rw [← ht] at hlit
        have hcat : ¬ 9223372036854775807 < s.size + 1 := by omega
        have VE := Aside0.mk (show venc u = y :: venc q by rw [hy, hq]; exact venc_ge hlt)
        have YE2 := Aside0.mk (show (ys ++ [y]) ++ venc q = venc z by rw [List.append_assoc, ← YE.out, VE.out]; rfl)
        have CAT := Aside0.mk (show s ++ t = strOfNums (ys ++ [y]) by rw [S.out, ht, tx_append])
        have B2 := Aside0.mk (BE.out.alloc BE.out.size (.cells #[.int .u8 y] 5))
        clear hy hq ht
        go_wp2_with fail
        go_roundw
        case rel => exact ⟨q, ys ++ [y], by omega, rfl, by rw [← CAT.out], YE2, B2⟩
        case measure => simp [intOf]; omega
      · have d1 : decide ((128 : Int) ≤ u) = false := decide_eq_false (by omega)
        have d2 : decide (128 ≤ u) = false := decide_eq_false hlt
        have e3 : (u : Int) % 256 = u := by omega
        have e4 : IntKind.u8.wrap (u : Int) = u := by rw [IntKind.wrap_u8]; omega
        have hlit := lit_text wr u
        obtain ⟨t, ht⟩ : ∃ t, t = strOfNums [(u : Int)] := ⟨_, rfl⟩
        have htz : t.size = 1 := by rw [ht, tx_size]; rfl
        rw [← ht] at hlit
        have hcat : ¬ 9223372036854775807 < s.size + 1 := by omega
        have CAT := Aside0.mk (show s ++ t = strOfNums (encI n) by rw [S.out, ht, ← tx_append, EN.out, ← YE.out, venc_lt (by omega)])
        have B2 := Aside0.mk (BE.out.alloc BE.out.size (.cells #[.int .u8 (u : Int)] 5))
        clear ht
        go_wp2_with fail
        go_ret
        exact ⟨by rw [CAT.out]; rfl, B2.out⟩
/-- One byte more, as the reference reckons. -/
theorem step_mul (u k : Nat) (x : Int) (hk : k ≤ 9) (h0 : 0 ≤ x) (h1 : x ≤ 255) (hu : u < 128 ^ k) (h9 : k = 9 → x ≤ 1) : ∃ (y p q v : Nat) (p' : Int), p = 128 ^ k ∧ y = x.toNat % 128 ∧ v = u + y * 128 ^ k ∧ v < 18446744073709551616 ∧ (k < 9 → v < 128 ^ (k + 1)) ∧
    x % 128 = y ∧ IntKind.u64.wrap (y : Int) = y ∧ IntKind.u64.wrap ((y : Int) * p) = q ∧ IntKind.u64.wrap ((u : Int) + q) = v ∧ IntKind.u64.wrap ((p : Int) * 128) = p' ∧ (k < 9 → p' = ((128 ^ (k + 1) : Nat) : Int)) := by
  have hp := pow7_le k hk
  have hy : x.toNat % 128 ≤ 127 := by omega
  have hb : (x.toNat % 128) * 128 ^ k + u < 18446744073709551616 := by
    by_cases h : k = 9
    · have : x.toNat % 128 ≤ 1 := by have := h9 h; omega
      have := Nat.mul_le_mul_right (128 ^ k) this
      omega
    · have h8 : (128 : Nat) ^ k ≤ 128 ^ 8 := Nat.pow_le_pow_right (by decide) (by omega)
      have h9 : (128 : Nat) ^ 8 = 72057594037927936 := by decide
      have := Nat.mul_le_mul_right (128 ^ k) hy
      omega
  refine ⟨x.toNat % 128, 128 ^ k, (x.toNat % 128) * 128 ^ k, u + (x.toNat % 128) * 128 ^ k, _, rfl, rfl, rfl, by omega, ?_, by omega, by rw [IntKind.wrap_u64]; omega, ?_, ?_, rfl, ?_⟩
  · intro _
    have := Nat.mul_le_mul_right (128 ^ k) hy
    rw [Nat.pow_succ]
    omega
  · rw [← Int.natCast_mul, IntKind.wrap_u64]; omega
  · rw [← Int.natCast_add, IntKind.wrap_u64]; omega
  · intro h
    have h8 : (128 : Nat) ^ k ≤ 128 ^ 8 := Nat.pow_le_pow_right (by decide) (by omega)
    have h9 : (128 : Nat) ^ 8 = 72057594037927936 := by decide
    rw [IntKind.wrap_u64, Nat.pow_succ]
    omega
/-- What int64(u / 2), and -n - 1 of it, are. -/
structure ZagEven (v : Nat) (z : Int) : Prop where
  a : (v : Int) / 2 = z
  b : (v : Int) % 2 = 0
  c : wrap64 z = z
  d : IntKind.i64.wrap z = z
structure ZagOdd (v : Nat) (z : Int) (h m : Int) : Prop where
  a : (v : Int) / 2 = h
  b : (v : Int) % 2 = 1
  c : wrap64 h = h
  d : IntKind.i64.wrap h = h
  e : wrap64 (-h) = m
  f : IntKind.i64.wrap (-h) = m
  g : wrap64 (m - 1) = z
  k : IntKind.i64.wrap (m - 1) = z
theorem zag_div (v : Nat) (hv : v < 18446744073709551616) : ZagEven v (zag v) ∨ ∃ h m, ZagOdd v (zag v) h m := by
  have hr : v % 2 = 0 ∨ v % 2 = 1 := by omega
  rcases hr with hr | hr
  · have e : zag v = ((v / 2 : Nat) : Int) := by unfold zag; rw [if_pos hr]
    rw [e]
    exact .inl ⟨by omega, by omega, (i64_in2 _ (by omega) (by omega)).1, (i64_in2 _ (by omega) (by omega)).2⟩
  · have e : zag v = -((v / 2 : Nat) : Int) - 1 := by unfold zag; rw [if_neg (by omega)]
    rw [e]
    exact .inr ⟨((v / 2 : Nat) : Int), -((v / 2 : Nat) : Int), ⟨by omega, by omega, (i64_in2 _ (by omega) (by omega)).1, (i64_in2 _ (by omega) (by omega)).2, (i64_in2 _ (by omega) (by omega)).1, (i64_in2 _ (by omega) (by omega)).2, (i64_in2 _ (by omega) (by omega)).1, (i64_in2 _ (by omega) (by omega)).2⟩⟩
set_option maxHeartbeats 3200000 in
set_option maxRecDepth 100000 in
theorem refget_ok (xs : List Int) (hb : bytes xs) (hl : xs.length ≤ 140737488351232) (w : World) :
    Calls Try.prog 122 #[.string (strOfNums xs)] w fun e w' => e = .returned (.tuple #[.int .i64 (getI xs).1, .int .i64 (getI xs).2.1, .int .i64 (getI xs).2.2]) ∧ Below w.heap.size w w' := by
  obtain ⟨n, hn⟩ : ∃ n, n = xs.length := ⟨_, rfl⟩
  obtain ⟨s, hs⟩ : ∃ s, s = strOfNums xs := ⟨_, rfl⟩
  have ssz : s.size = n := by rw [hs, tx_size, hn]
  have NL := Aside0.mk hn
  have S := Aside0.mk hs
  have HB := Aside0.mk hb
  rw [← hs]
  rw [← hn] at hl
  clear hs hb hn
  have B0 : Aside0 (Below w.heap.size w w) := ⟨(Hw.start w).below⟩
  go_enter Try.func122, Try.ntmps122
  go_wp2_with fail
  go_loopw [7, 5, 6] (fun i v p wr => ∃ (k u : Nat), k ≤ n ∧ k ≤ 9 ∧ i = .int .i64 k ∧ v = .int .u64 u ∧ p = .int .u64 (128 ^ k : Nat) ∧ w = wr ∧ Aside0 (u < 128 ^ k) ∧ Aside0 (getI xs = gget k u (xs.drop k)) ∧ Aside0 (∀ t : Nat, 0 < t ∨ k = 0 → venc (u + t * 128 ^ k) = xs.take k ++ venc t)) (fun i _ _ _ => n - (intOf i).toNat)
  case atStart => exact ⟨0, 0, Nat.zero_le _, by omega, rfl, rfl, rfl, rfl, ⟨by simp⟩, ⟨by simp [getI]⟩, ⟨fun t _ => by simp⟩⟩
  case round =>
    obtain ⟨k, u, hk, hk9, rfl, rfl, rfl, rfl, HU, HG, HT⟩ := hrel
    by_cases hlt : k < n
    · obtain ⟨x, hx⟩ : ∃ x, xs[k]? = some x := ⟨_, List.getElem?_eq_getElem (by rw [← NL.out]; exact hlt)⟩
      obtain ⟨x0, x255⟩ := HB.out x (List.mem_of_getElem? hx)
      have hix := tx_index (P := Try.prog) 9 Try.underlying9 xs .i64 (k : Int) k x rfl hx ⟨x0, x255⟩
      rw [← S.out] at hix
      have hd : xs.drop k = x :: xs.drop (k + 1) := by
        have hl := (List.getElem?_eq_some_iff.1 hx).1
        rw [List.drop_eq_getElem_cons hl]
        congr 1
        exact (List.getElem?_eq_some_iff.1 hx).2
      have htk : xs.take (k + 1) = xs.take k ++ [x] := take_snoc_of hx
      have TK := Aside0.mk htk
      have G1 := HG.out
      rw [hd] at G1
      have G := Aside0.mk G1
      clear G1 hd hx htk
      have kb : (k : Int) < n := by omega
      obtain ⟨w8, w8'⟩ := i64_in2 ((k : Int) + 1) (by omega) (by omega)
      by_cases hbig : k = 9 ∧ 1 < x
      · have RES := Aside0.mk (show getI xs = (0, 0, 20) by rw [G.out]; unfold gget; rw [if_pos hbig])
        obtain ⟨h9, hx1⟩ := hbig
        have q9 : ((k : Int) == 9) = true := by simp; omega
        clear G HG HU w8 w8' h9 HT
        go_wp2_with fail
        exact bodyPost_ret (v := .tuple #[.int .i64 0, .int .i64 0, .int .i64 20]) (by simp [results, Try.results122, go_sem]) rfl ⟨by rw [RES.out], B0.out⟩
      · obtain ⟨y, p, q, v, p', hp, hy, hv, hv64, hvk, e1, e2, e3, e4, e5, hp'⟩ := step_mul u k x hk9 x0 x255 HU.out (by omega)
        have G2 := G.out
        unfold gget at G2
        rw [if_neg hbig] at G2
        have hq : ((k : Int) == 9) = false ∨ (((k : Int) == 9) = true ∧ x ≤ 1) := by
          by_cases h9 : k = 9
          · exact .inr ⟨by simp; omega, by omega⟩
          · exact .inl (by simp; omega)
        have ZG := zag_div v hv64
        have YY := Aside0.mk hy
        have VV := Aside0.mk hv
        have VK := Aside0.mk hvk
        have PK := Aside0.mk hp'
        have H9 : Aside0 (x < 128 ∨ k < 9) := ⟨by omega⟩
        rw [← hp]
        have HU2 := HU
        clear G HG hy hv hvk hbig HU hp' hp
        by_cases hx128 : x < 128
        · rw [if_pos hx128] at G2
          have hx128' : decide ((128 : Int) ≤ x) = false := decide_eq_false (by omega)
          obtain ⟨zv, hzv⟩ : ∃ zv, zv = zag v := ⟨_, rfl⟩
          rw [← hzv] at ZG
          have ZE : encI zv = venc v := by rw [hzv]; unfold encI; rw [zig_zag]
          have ZR : i64r zv := by rw [hzv]; exact zag_r v hv64
          have RI := Aside0.mk (refint_ok zv ZR)
          have hcut := tx_slice_to (P := Try.prog) 9 Try.underlying9 xs ((k : Int) + 1) (k + 1) (by omega) (by rw [← NL.out]; exact hlt)
          rw [← S.out] at hcut
          obtain ⟨s1, hs1⟩ : ∃ s1, s1 = strOfNums (encI zv) := ⟨_, rfl⟩
          obtain ⟨s2, hs2⟩ : ∃ s2, s2 = strOfNums (xs.take (k + 1)) := ⟨_, rfl⟩
          rw [← hs1] at RI
          rw [← hs2] at hcut
          by_cases hz : x = 0 ∧ 0 < k
          · rw [if_pos hz] at G2
            have RES := Aside0.mk G2
            have hne : ¬ s1.toList = s2.toList := fun hh => by
              have h1 : s1 = s2 := tx_toList.mp hh
              rw [hs1, hs2] at h1
              have h2 := congrArg List.length (tx_inj (by rw [ZE]; exact venc_bytes v) (fun a ha => HB.out a (List.mem_of_mem_take ha)) h1)
              have h3 := venc_len (k - 1) v (by
                have e : k - 1 + 1 = k := by omega
                rw [e, VV.out, YY.out, hz.1]
                simpa using HU2.out)
              rw [ZE, List.length_take, ← NL.out] at h2
              omega
            have hne2 : (s1.toList == s2.toList) = false := by simpa using hne
            clear hz
            clear G2 VK HT TK hs1 hs2 ZE ZR hzv HU2
            rcases hq with hq | ⟨hq, hq1⟩
            all_goals
              rcases ZG with ⟨z1, z2, z3, z4⟩ | ⟨h, m, ⟨z1, z2, z3, z4, z5, z6, z7, z8⟩⟩
              all_goals
                go_upto_region 14 with fail
                refine start_ (n := 7) (S := fun w' => True) (ds := []) #[false, false, false, false, false, false, false] (by kernel_rfl) rfl rfl trivial (fun hHeld => ?_)
                refine pure_ (i := 0) (N := some 47) (v := ?_) (a' := ?_) #[true, false, false, false, false, false, false] rfl rfl (by kernel_rfl) (fun _ _ _ h => h) (Or.inl ⟨by rfl, ?_⟩) ?_ ?_
                rotate_left
                · intro w'
                  go_simp
                  with_reducible rfl
                rotate_left
                · simp only [Act.put, List.setIfInBounds_toArray, List.set_cons_zero, List.set_cons_succ, i64_w, i32_w]
                  rfl
                refine pure_ (i := 2) (N := some 49) (v := ?_) (a' := ?_) #[true, false, true, false, false, false, false] rfl rfl (by kernel_rfl) (fun _ _ _ h => h) (Or.inl ⟨by rfl, ?_⟩) ?_ ?_
                rotate_left
                · intro w'
                  go_simp
                  with_reducible rfl
                rotate_left
                · simp only [Act.put, List.setIfInBounds_toArray, List.set_cons_zero, List.set_cons_succ, i64_w, i32_w]
                  rfl
                refine pure_ (i := 3) (N := some 50) (v := ?_) (a' := ?_) #[true, false, true, true, false, false, false] rfl rfl (by kernel_rfl) (fun _ _ _ h => h) (Or.inl ⟨by rfl, ?_⟩) ?_ ?_
                rotate_left
                · intro w'
                  go_simp
                  with_reducible rfl
                rotate_left
                · simp only [Act.put, List.setIfInBounds_toArray, List.set_cons_zero, List.set_cons_succ, i64_w, i32_w]
                  rfl
                refine pure_ (i := 4) (N := some 51) (v := ?_) (a' := ?_) #[true, false, true, true, true, false, false] rfl rfl (by kernel_rfl) (fun _ _ _ h => h) (Or.inl ⟨by rfl, ?_⟩) ?_ ?_
                rotate_left
                · intro w'
                  go_simp
                  with_reducible rfl
                rotate_left
                · simp only [Act.put, List.setIfInBounds_toArray, List.set_cons_zero, List.set_cons_succ, i64_w, i32_w]
                  rfl
                refine pure_ (i := 5) (N := some 52) (v := ?_) (a' := ?_) #[true, false, true, true, true, true, false] rfl rfl (by kernel_rfl) (fun _ _ _ h => h) (Or.inl ⟨by rfl, ?_⟩) ?_ ?_
                rotate_left
                · intro w'
                  go_simp
                  with_reducible rfl
                rotate_left
                · simp only [Act.put, List.setIfInBounds_toArray, List.set_cons_zero, List.set_cons_succ, i64_w, i32_w]
                  rfl
                refine one_ (i := 1) (N := some 48) #[true, true, true, true, true, true, false] rfl rfl (by kernel_rfl) (by decide) (fun K hK => ?_)
                refine goes_ Try.func71 (by kernel_rfl) rfl #[.int .i64 zv] (by rfl) rfl rfl (by simp only [List.map_toArray, List.map_cons, List.map_nil]; rfl) ?_
                with_reducible refine (RI.out _).mono ?_
                rintro e w4 ⟨rfl, hbel⟩
                refine ⟨_, rfl, ?_⟩
                refine hK.out _ _ trivial (fun hHeld => ?_)
                clear hK K
                refine norm_ (a' := ?_) ?_ ?_
                rotate_left
                · show Act.put _ (some 48) _ = _
                  simp only [Act.put, List.setIfInBounds_toArray, List.set_cons_zero, List.set_cons_succ, i64_w, i32_w]
                  rfl
                refine pure_ (i := 6) (N := some 53) (v := ?_) (a' := ?_) #[true, true, true, true, true, true, true] rfl rfl (by kernel_rfl) (fun _ _ _ h => h) (Or.inl ⟨by rfl, ?_⟩) ?_ ?_
                rotate_left
                · intro w'
                  go_simp
                  with_reducible rfl
                rotate_left
                · simp only [Act.put, List.setIfInBounds_toArray, List.set_cons_zero, List.set_cons_succ, i64_w, i32_w]
                  rfl
                refine done_ (by kernel_rfl) ?_
                clear hHeld
                have B1 := Aside0.mk ((Hw.start w).drew.from_below hbel).below
                clear hbel
                go_wp2_with fail
                exact bodyPost_ret (v := .tuple #[.int .i64 0, .int .i64 0, .int .i64 20]) (by simp [results, Try.results122, go_sem]) rfl ⟨by rw [RES.out], B1.out⟩
          · rw [if_neg hz] at G2
            have RES := Aside0.mk (show getI xs = (zv, (k : Int) + 1, 0) by
              rw [G2, hzv, VV.out, YY.out, show x.toNat % 128 = x.toNat by omega])
            have heq : s1 = s2 := by
              rw [hs1, hs2, ZE, VV.out, YY.out, HT.out _ (by omega), TK.out, venc_lt (by omega), show ((x.toNat % 128 : Nat) : Int) = x by omega]
            subst heq
            clear G2 hz VK HT TK hs1 hs2 ZE ZR hzv HU2
            rcases hq with hq | ⟨hq, hq1⟩
            all_goals
              rcases ZG with ⟨z1, z2, z3, z4⟩ | ⟨h, m, ⟨z1, z2, z3, z4, z5, z6, z7, z8⟩⟩
              all_goals
                go_upto_region 14 with fail
                refine start_ (n := 7) (S := fun w' => True) (ds := []) #[false, false, false, false, false, false, false] (by kernel_rfl) rfl rfl trivial (fun hHeld => ?_)
                refine pure_ (i := 0) (N := some 47) (v := ?_) (a' := ?_) #[true, false, false, false, false, false, false] rfl rfl (by kernel_rfl) (fun _ _ _ h => h) (Or.inl ⟨by rfl, ?_⟩) ?_ ?_
                rotate_left
                · intro w'
                  go_simp
                  with_reducible rfl
                rotate_left
                · simp only [Act.put, List.setIfInBounds_toArray, List.set_cons_zero, List.set_cons_succ, i64_w, i32_w]
                  rfl
                refine pure_ (i := 2) (N := some 49) (v := ?_) (a' := ?_) #[true, false, true, false, false, false, false] rfl rfl (by kernel_rfl) (fun _ _ _ h => h) (Or.inl ⟨by rfl, ?_⟩) ?_ ?_
                rotate_left
                · intro w'
                  go_simp
                  with_reducible rfl
                rotate_left
                · simp only [Act.put, List.setIfInBounds_toArray, List.set_cons_zero, List.set_cons_succ, i64_w, i32_w]
                  rfl
                refine pure_ (i := 3) (N := some 50) (v := ?_) (a' := ?_) #[true, false, true, true, false, false, false] rfl rfl (by kernel_rfl) (fun _ _ _ h => h) (Or.inl ⟨by rfl, ?_⟩) ?_ ?_
                rotate_left
                · intro w'
                  go_simp
                  with_reducible rfl
                rotate_left
                · simp only [Act.put, List.setIfInBounds_toArray, List.set_cons_zero, List.set_cons_succ, i64_w, i32_w]
                  rfl
                refine pure_ (i := 4) (N := some 51) (v := ?_) (a' := ?_) #[true, false, true, true, true, false, false] rfl rfl (by kernel_rfl) (fun _ _ _ h => h) (Or.inl ⟨by rfl, ?_⟩) ?_ ?_
                rotate_left
                · intro w'
                  go_simp
                  with_reducible rfl
                rotate_left
                · simp only [Act.put, List.setIfInBounds_toArray, List.set_cons_zero, List.set_cons_succ, i64_w, i32_w]
                  rfl
                refine pure_ (i := 5) (N := some 52) (v := ?_) (a' := ?_) #[true, false, true, true, true, true, false] rfl rfl (by kernel_rfl) (fun _ _ _ h => h) (Or.inl ⟨by rfl, ?_⟩) ?_ ?_
                rotate_left
                · intro w'
                  go_simp
                  with_reducible rfl
                rotate_left
                · simp only [Act.put, List.setIfInBounds_toArray, List.set_cons_zero, List.set_cons_succ, i64_w, i32_w]
                  rfl
                refine one_ (i := 1) (N := some 48) #[true, true, true, true, true, true, false] rfl rfl (by kernel_rfl) (by decide) (fun K hK => ?_)
                refine goes_ Try.func71 (by kernel_rfl) rfl #[.int .i64 zv] (by rfl) rfl rfl (by simp only [List.map_toArray, List.map_cons, List.map_nil]; rfl) ?_
                with_reducible refine (RI.out _).mono ?_
                rintro e w4 ⟨rfl, hbel⟩
                refine ⟨_, rfl, ?_⟩
                refine hK.out _ _ trivial (fun hHeld => ?_)
                clear hK K
                refine norm_ (a' := ?_) ?_ ?_
                rotate_left
                · show Act.put _ (some 48) _ = _
                  simp only [Act.put, List.setIfInBounds_toArray, List.set_cons_zero, List.set_cons_succ, i64_w, i32_w]
                  rfl
                refine pure_ (i := 6) (N := some 53) (v := ?_) (a' := ?_) #[true, true, true, true, true, true, true] rfl rfl (by kernel_rfl) (fun _ _ _ h => h) (Or.inl ⟨by rfl, ?_⟩) ?_ ?_
                rotate_left
                · intro w'
                  go_simp
                  with_reducible rfl
                rotate_left
                · simp only [Act.put, List.setIfInBounds_toArray, List.set_cons_zero, List.set_cons_succ, i64_w, i32_w]
                  rfl
                refine done_ (by kernel_rfl) ?_
                clear hHeld
                have B1 := Aside0.mk ((Hw.start w).drew.from_below hbel).below
                clear hbel
                go_wp2_with fail
                exact bodyPost_ret (v := .tuple #[.int .i64 zv, .int .i64 ((k : Int) + 1), .int .i64 0]) (by simp [results, Try.results122, go_sem]) rfl ⟨by rw [RES.out], B1.out⟩
        · rw [if_neg hx128] at G2
          have hk8 : k < 9 := by have := H9.out; omega
          have hx128' : decide ((128 : Int) ≤ x) = true := decide_eq_true (by omega)
          have HU3 := Aside0.mk (VK.out hk8)
          have G3 := Aside0.mk (show getI xs = gget (k + 1) v (xs.drop (k + 1)) by
            rw [G2, VV.out, YY.out, show x.toNat % 128 = x.toNat - 128 by omega])
          have T3 : Aside0 (∀ t : Nat, 0 < t ∨ k + 1 = 0 → venc (v + t * 128 ^ (k + 1)) = xs.take (k + 1) ++ venc t) := ⟨fun t ht => by
            have e : v + t * 128 ^ (k + 1) = u + (y + 128 * t) * 128 ^ k := by
              rw [VV.out, Nat.pow_succ, Nat.add_mul]
              have h7 : t * (128 ^ k * 128) = 128 * t * 128 ^ k := by rw [Nat.mul_comm (128 ^ k), ← Nat.mul_assoc, Nat.mul_comm t]
              omega
            rw [e, HT.out _ (by omega), TK.out, venc_ge (by omega), List.append_assoc]
            have e2 : ((y + 128 * t) % 128 + 128 : Nat) = x.toNat := by rw [YY.out]; omega
            have e3 : (y + 128 * t) / 128 = t := by rw [YY.out]; omega
            rw [e2, e3, Int.toNat_of_nonneg x0]
            rfl⟩
          have P3 := Aside0.mk (PK.out hk8)
          have hq2 : ((k : Int) == 9) = false := by simp; omega
          clear G2 hq VK ZG HT TK PK HU2
          go_wp2_with fail
          clear w8 w8' e1 e2 e3 e4 e5
          go_roundw
          case rel => exact ⟨k + 1, v, by omega, by omega, by go_num, rfl, by rw [P3.out], trivial, HU3, G3, T3⟩
          case measure => simp [intOf]; omega
    · have hk2 : k = n := by omega
      subst hk2
      have hd : xs.drop k = [] := List.drop_of_length_le (by rw [NL.out]; omega)
      have G1 := HG.out
      rw [hd] at G1
      have G := Aside0.mk G1
      clear G1 hd
      go_wp2_with fail
      exact bodyPost_ret (v := .tuple #[.int .i64 0, .int .i64 0, .int .i64 10]) (by simp [results, Try.results122, go_sem]) rfl ⟨by rw [G.out]; rfl, B0.out⟩
end Go.Proofs.Ytckdkbjobipniaa
