/- The frame's functions: a number's four bytes, and back; Seal. -/
import Derived.Test.YtehbchggekbkkaaFrame
set_option linter.unusedVariables false
set_option linter.unusedSimpArgs false
namespace Go.Proofs.Ytehbchggekbkkaa
open Go.RowKit Go.Proofs.YtehbchggekbkkaaW.PrintWords Go.Proofs.YtehbchggekbkkaaW.PrintLast
/-- A number's four bytes, the highest first; and back. -/
def be4 (n : Int) : List Int := [n / 16777216 % 256, n / 65536 % 256, n / 256 % 256, n % 256]
def rd4 (xs : List Int) : Int := (xs.take 4).foldl (fun n x => n * 256 + x) 0
def isB (xs : List Int) : Prop := ∀ x ∈ xs, 0 ≤ x ∧ x ≤ 255
theorem be4_len (n : Int) : (be4 n).length = 4 := rfl
theorem be4_isB (n : Int) : isB (be4 n) := by
  intro x hx
  simp only [be4, List.mem_cons, List.not_mem_nil, or_false] at hx
  rcases hx with rfl | rfl | rfl | rfl <;> omega
theorem rd4_be4 (n : Int) (h0 : 0 ≤ n) (h1 : n < 4294967296) (ys : List Int) : rd4 (be4 n ++ ys) = n := by
  simp only [rd4, be4, List.cons_append, List.nil_append, List.take_succ_cons, List.take_zero, List.foldl_cons, List.foldl_nil]
  omega
theorem foldl_bound (xs : List Int) (h : isB xs) : ∀ (k : Nat), k ≤ 4 → 0 ≤ (xs.take k).foldl (fun n x => n * 256 + x) 0 ∧ (xs.take k).foldl (fun n x => n * 256 + x) 0 < 256 ^ k := by
  intro k
  induction k with
  | zero => intro _; simp
  | succ k ih =>
    intro hk
    have ih := ih (by omega)
    by_cases hx : k < xs.length
    · rw [take_snoc_of (List.getElem?_eq_getElem hx), List.foldl_append]
      have hb := h xs[k] (List.getElem_mem hx)
      simp only [List.foldl_cons, List.foldl_nil]
      have hp : (256 : Int) ^ (k + 1) = 256 ^ k * 256 := by rw [Int.pow_succ]
      omega
    · rw [show xs.take (k + 1) = xs.take k by rw [List.take_of_length_le (by omega), List.take_of_length_le (by omega)]]
      have hp : (256 : Int) ^ (k + 1) = 256 ^ k * 256 := by rw [Int.pow_succ]
      omega
theorem rd4_range (xs : List Int) (h : isB xs) : 0 ≤ rd4 xs ∧ rd4 xs < 4294967296 := foldl_bound xs h 4 (Nat.le_refl _)
theorem be4_rd4 (a b c d : Int) (ys : List Int) (h : isB (a :: b :: c :: d :: ys)) : be4 (rd4 (a :: b :: c :: d :: ys)) = [a, b, c, d] := by
  have ha := h a (by simp)
  have hb := h b (by simp)
  have hc := h c (by simp)
  have hd := h d (by simp)
  simp only [rd4, be4, List.take_succ_cons, List.take_zero, List.foldl_cons, List.foldl_nil]
  refine List.cons_eq_cons.2 ⟨by omega, List.cons_eq_cons.2 ⟨by omega, List.cons_eq_cons.2 ⟨by omega, List.cons_eq_cons.2 ⟨by omega, rfl⟩⟩⟩⟩
theorem be4_rd4_take (xs : List Int) (hl : 4 ≤ xs.length) (h : isB xs) : be4 (rd4 xs) = xs.take 4 := by
  match xs, hl with
  | a :: b :: c :: d :: ys, _ => rw [be4_rd4 a b c d ys h]; rfl
theorem rd4_take (xs : List Int) : rd4 (xs.take 4) = rd4 xs := by simp [rd4, List.take_take]
section
variable {w0 w : World} {F : HP}
set_option maxHeartbeats 800000 in
theorem fnumber_ok (n : Int) (h0 : 0 ≤ n) (h1 : n < 4294967296) (h : Hw w0 w F) :
    Calls Try.prog 44 #[.int .u32 n] w fun e w' => ∃ g, e = .returned (.slice (some ⟨g, 0, none⟩) 4 4) ∧ Hw w0 w' (row (Kd.int .u8) 5 (.slice (some ⟨g, 0, none⟩) 4 4) (be4 n) * F) := by
  have H := Aside0.mk h
  clear h
  go_enter Try.func44, Try.ntmps44
  go_wp2
  go_ret
  have e1 : n / 16777216 % 256 = n / 16777216 := by omega
  exact ⟨_, rfl, Hw.row_of_blk (xs := be4 n) (enc := Value.int .u8) (h1 := fun _ => rfl) rfl (by decide) ((H.out.alloc (.cells #[.int .u8 (n / 16777216), .int .u8 (n / 65536 % 256), .int .u8 (n / 256 % 256), .int .u8 (n % 256)] 5)).as (by rw [show be4 n = [n / 16777216, n / 65536 % 256, n / 256 % 256, n % 256] by rw [be4, e1]]; rfl))⟩
set_option maxHeartbeats 800000 in
set_option maxRecDepth 100000 in
theorem fread_ok (w : World) (A : Option Addr) (n c : Nat) (xs : List Int) (hC : (Kd.int .u8).C w A n xs) (h4 : 4 ≤ n) (hc : n ≤ c) (hb : isB xs) :
    Calls Try.prog 45 #[.slice A n c] w fun e w' => e = .returned (.int .u32 (rd4 xs)) ∧ w' = w := by
  obtain ⟨inf, hinf, hiz⟩ := info_parts (P := Try.prog) (e := 5) (by kernel_rfl : (Try.prog.info? 5).map (fun i => (i.zero, i.size, i.bytes)) = some (some (.int .u8 0), 1, 1))
  obtain ⟨hrun, hC4⟩ := sl_take (Kd.int .u8) 31 5 Try.underlying31 hinf A n c 4 4 rfl h4 hc
  have HC := Aside0.mk (hC4 w xs hC)
  have HB := Aside0.mk hb
  have hlen : xs.length = n := hC.1
  have HL := Aside0.mk hlen
  have hfb := Aside0.mk (foldl_bound xs hb)
  clear hC4 hC hb hiz hinf hlen
  go_enter Try.func45, Try.ntmps45
  go_wp2
  go_loop [3, 9] (fun s i => ∃ k : Nat, k ≤ 4 ∧ i = .int .i64 k ∧ s = .int .u32 ((xs.take k).foldl (fun n x => n * 256 + x) 0)) (fun _ i => 4 - (intOf i).toNat)
  case atStart => exact ⟨0, Nat.zero_le _, rfl, rfl⟩
  case round =>
    obtain ⟨k, hk, rfl, rfl⟩ := hrel
    by_cases hlt : k < 4
    · obtain ⟨ad, x, e1, hcell, hx⟩ := C_scalar_at HC.out k hlt
      subst e1
      have hx2 : xs[k]? = some x := by
        have := hx.out
        rw [List.getElem?_take, if_pos hlt] at this
        exact this
      have hxb := HB.out x (List.mem_of_getElem? hx2)
      have hv := hfb.out k (by omega)
      obtain ⟨v, hvv⟩ : ∃ v, v = (xs.take k).foldl (fun n x => n * 256 + x) 0 := ⟨_, rfl⟩
      rw [← hvv] at hv ⊢
      have hp : (256 : Int) ^ k ≤ 256 ^ 3 := by exact_mod_cast Nat.pow_le_pow_right (n := 256) (by decide) (show k ≤ 3 by omega)
      have hv2 : v < 16777216 := by have : (256 : Int) ^ 3 = 16777216 := by decide
                                    omega
      have hv0 := hv.1
      have e1 : v * 256 % 4294967296 = v * 256 := by omega
      have e2 : x % 4294967296 = x := by omega
      have e3 : Go.bits .or .u32 (v * 256) x = v * 256 + x := bits_join .u32 32 (by decide) (fun n h0 h1 => by rw [IntKind.wrap_u32]; omega) 8 (v * 256) x (by omega) (by omega) (by omega) hxb.1 (by omega) (by omega)
      have V := Aside0.mk hvv
      have X := Aside0.mk hx2
      clear hvv hx2 hv hp
      go_wp2
      go_round
      case rel => exact ⟨k + 1, by omega, by go_num, by rw [take_snoc_of X.out, List.foldl_append, ← V.out]; first | rfl | (simp only [e1, e2, e3]; rfl)⟩
      case measure => simp [intOf]; omega
    · have hk4 : k = 4 := by omega
      subst hk4
      go_wp2
      go_ret
      exact ⟨rfl, rfl⟩
/-- The frame of a payload. -/
def sealOf (xs : List Int) : List Int := be4 xs.length ++ be4 ((crc (be4 xs.length ++ xs)).toNat : Int) ++ xs
theorem sealOf_len (xs : List Int) : (sealOf xs).length = 8 + xs.length := by simp [sealOf, be4_len]; omega
theorem crc_range (xs : List Int) : 0 ≤ ((crc xs).toNat : Int) ∧ ((crc xs).toNat : Int) < 4294967296 := by
  have := (crc xs).isLt
  omega
theorem Try.finfoU8 : (Try.prog.info? 5).map (fun i => (i.zero, i.size, i.bytes)) = some (some (.int .u8 0), 1, 1) := by kernel_rfl
set_option maxHeartbeats 1600000 in
set_option maxRecDepth 100000 in
theorem fseal_ok (A : Option Addr) (n c : Nat) (xs : List Int) (hn : n ≤ 16384) (hc : n ≤ c) (h : Hw w0 w F) (hE : Ent w0 F (fun w => (Kd.int .u8).C w A n xs)) :
    Calls Try.prog 26 #[.slice A n c] w fun e w' => ∃ A' n' c', e = .returned (.tuple #[.slice A' n' c', .int .i64 0]) ∧ Hw w0 w' (row (Kd.int .u8) 5 (.slice A' n' c') (sealOf xs) * F) := by
  have hl : xs.length = n := (hE w h).1
  have HL := Aside0.mk hl
  have H := Aside0.mk h
  have HE := Aside0.mk hE
  have d1 : decide ((16384 : Int) < n) = false := decide_eq_false (by omega)
  have d2 : decide (16384 < n) = false := decide_eq_false (by omega)
  have e0 : (n : Int) % 4294967296 = n := by omega
  clear h hE hl
  go_enter Try.func26, Try.ntmps26
  go_wp2_with fail
  refine (fnumber_ok (n : Int) (by omega) (by omega) H.out).mono ?_
  rintro e w1 ⟨g1, rfl, h1⟩
  have H1 := Aside0.mk h1
  clear h1 H d1 d2 e0
  go_wp2_with fail
  have HB := Aside0.mk (H1.out.alloc (.cells #[.slice (some ⟨g1, 0, none⟩) 4 4, .slice A n c] 31))
  refine (fsum_ok _ _ 2 2 [be4 n, xs] (C_lit2 (n := 4) (m := n) HB.out.blk_at.1 rfl (by omega) (HB.out.right.row_C.2.2) HL.out.symm hc (HE.out _ HB.out.right.right))).mono ?_
  rintro e w2 ⟨rfl, rfl⟩
  obtain ⟨s, hs⟩ : ∃ s : Int, s = ((crc (be4 n ++ xs)).toNat : Int) := ⟨_, rfl⟩
  have es : ((crc ([be4 (n : Int), xs] : List (List Int)).flatten).toNat : Int) = s := by rw [hs]; simp
  rw [es]
  have hsr := crc_range (be4 n ++ xs)
  rw [← hs] at hsr
  have S := Aside0.mk hs
  clear hs es
  go_wp2_with fail
  refine (fnumber_ok s hsr.1 hsr.2 HB.out).mono ?_
  rintro e w3 ⟨g2, rfl, h3⟩
  have H3 := Aside0.mk h3
  have HC3 := Aside0.mk h3.row_C.2.2
  have H3' := Aside0.mk (h3.atR (Kd.int .u8) 5 (.slice (some ⟨g1, 0, none⟩) 4 4))
  clear h3 H1 HB hsr
  go_wp2_with (first | (at_builtin; refine Hw.append_row (Value.int .u8) (0 : Int) rfl (.tmp 13) (.tmp 18) 31 5 (.int .u8 0) 1 rfl Try.underlying31 Try.finfoU8 rfl (by decide) _ (be4 n) (be4 s) _ 4 4 rfl rfl H3'.out HC3.out (by rw [be4_len]; decide) ?_; intro A1 n1 c1 w4 hn1 hw4; have H4 := Aside0.mk hw4; have HC4 := Aside0.mk (HE.out _ hw4.right.right.right); clear hw4) | (at_builtin; refine Hw.append_row (Value.int .u8) (0 : Int) rfl (.tmp 20) (.tmp 21) 31 5 (.int .u8 0) 1 rfl Try.underlying31 Try.finfoU8 rfl (by decide) _ (be4 n ++ be4 s) xs _ n c rfl rfl H4.out HC4.out (by rw [List.length_append, be4_len, be4_len]; omega) ?_; intro A2 n2 c2 w5 hn2 hw5; have H5 := Aside0.mk hw5; clear hw5))
  go_ret2
  refine ⟨A2, n2, c2, rfl, ?_⟩
  have e6 : sealOf xs = be4 n ++ be4 s ++ xs := by unfold sealOf; rw [HL.out, S.out]
  rw [e6]
  exact (H5.out.dropR (Kd.int .u8) 5 (.slice (some ⟨g2, 0, none⟩) 4 4)).dropB w1.heap.size
theorem fseal_long (A : Option Addr) (n c : Nat) (hn : 16384 < n) :
    Calls Try.prog 26 #[.slice A n c] w fun e w' => e = .returned (.tuple #[.slice none 0 0, .int .i64 2]) ∧ w' = w := by
  have d1 : decide ((16384 : Int) < n) = true := decide_eq_true (by omega)
  have d2 : decide (16384 < n) = true := decide_eq_true (by omega)
  go_enter Try.func26, Try.ntmps26
  go_wp2_with fail
  go_ret2
  exact ⟨rfl, rfl⟩
end
end Go.Proofs.Ytehbchggekbkkaa
