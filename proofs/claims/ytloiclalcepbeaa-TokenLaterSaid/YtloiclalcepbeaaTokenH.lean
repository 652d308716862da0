/- Tokens: Later. -/
import Derived.Test.YtloiclalcepbeaaTokenG
import Derived.Test.YtloiclalcepbeaaKindsToken
set_option linter.unusedVariables false
set_option linter.unusedSimpArgs false
namespace Go.Proofs.Ytloiclalcepbeaa
open Go.RowKit Go.Proofs.YtloiclalcepbeaaW.PrintWords Go.Proofs.YtloiclalcepbeaaW.PrintLast
theorem tok_at {w0 w : World} {A : Option Addr} {n : Nat} {ts : List (Int × Int)} (h : KTok.C w0 A n ts) (hb : Below w0.heap.size w0 w) (k : Nat) (hk : k < n) :
    ∃ ad a b, A = some ad ∧ Aside0 (ts[k]? = some (a, b)) ∧ w.cell? (ad.add (k * 2)) = some (.int .i64 a) ∧ w.cell? ⟨(ad.add (k * 2)).block, (ad.add (k * 2)).off + 1, none⟩ = some (.int .i64 b) := by
  obtain ⟨ad, e, hc⟩ := h.2.2 (by omega)
  have hl : k < ts.length := by have := h.1; omega
  obtain ⟨c, hs, hK, hcell⟩ := hc k _ (List.getElem?_eq_getElem hl)
  obtain ⟨c0, c1, rfl, h0, h1⟩ := hK
  have h0 : c0 = [.int .i64 ts[k].1] := h0
  have h1 : c1 = [.int .i64 ts[k].2] := h1
  subst h0; subst h1
  refine ⟨ad, ts[k].1, ts[k].2, e, ⟨List.getElem?_eq_getElem hl⟩, ?_, ?_⟩
  · exact pw_cell_below hb (hcell 0 _ rfl)
  · rw [← add_field _ _ _ (by decide)]; exact pw_cell_below hb (hcell 1 _ rfl)
/-- The later of two. -/
def later (f t : Int × Int) : Int × Int := if f.2 < t.2 ∨ (t.2 = f.2 ∧ t.1 < f.1) then t else f
def laters (f : Int × Int) (ts : List (Int × Int)) : Int × Int := ts.foldl later f
theorem laters_snoc (f : Int × Int) (ts : List (Int × Int)) (t : Int × Int) : laters f (ts ++ [t]) = later (laters f ts) t := by simp [laters]
set_option maxHeartbeats 3200000 in
set_option maxRecDepth 100000 in
theorem tlater_ok (n0 r0 : Int) (A : Option Addr) (n c : Nat) (ts : List (Int × Int)) (w : World) (hC : KTok.C w A n ts) :
    Calls Try.prog 20 #[.agg #[.int .i64 n0, .int .i64 r0], .slice A n c] w fun e w' => e = .returned (.agg #[.int .i64 (laters (n0, r0) ts).1, .int .i64 (laters (n0, r0) ts).2]) ∧ Below w.heap.size w w' := by
  have HL := Aside0.mk hC.1
  have HC := Aside0.mk hC
  have hn : n ≤ 9223372036854775807 := hC.2.1
  have H1 := Aside0.mk (((Hw.start w).alloc (.cells #[.int .i64 n0, .int .i64 r0] 23)).alloc (.cells #[.int .i64 0, .int .i64 0] 23))
  simp only [World.size_alloc] at H1
  have H2 := Aside0.mk (H1.out.atB w.heap.size)
  clear hC H1
  go_enter Try.func20, Try.ntmps20
  go_wp2_with fail
  go_loopw [9] (fun i wr => ∃ (k : Nat) (a b : Int), k ≤ n ∧ i = .int .i64 k ∧ Aside0 ((a, b) = laters (n0, r0) (ts.take k)) ∧
    Aside0 (Hw w wr (blk w.heap.size (.cells #[.int .i64 a, .int .i64 b] 23) * (blk (w.heap.size + 1) (.cells #[.int .i64 0, .int .i64 0] 23) * HP.emp)))) (fun i _ => n - (intOf i).toNat)
  case atStart => exact ⟨0, n0, r0, Nat.zero_le _, rfl, ⟨rfl⟩, H2⟩
  case round =>
    obtain ⟨k, a, b, hk, rfl, HR, HW⟩ := hrel
    clear H2
    by_cases hlt : k < n
    · obtain ⟨ad, x, y, rfl, hx, k0, k1⟩ := tok_at HC.out HW.out.below k hlt
      have HT := Aside0.mk ((HW.out.alloc (.cells #[.int .i64 x, .int .i64 y] 23)).atB w.heap.size)
      have g0 := HT.out.cell (i := 0) (v := .int .i64 a) rfl
      have g1 := HT.out.cell (i := 1) (v := .int .i64 b) rfl
      have fr := HT.out.unfrozen
      have t0 := HT.out.cellAt wr.heap.size 0 (v := .int .i64 x) rfl
      have t1 := HT.out.cellAt wr.heap.size 1 (v := .int .i64 y) rfl
      have HS := Aside0.mk (((HT.out.set 0 (.int .i64 x)).set 1 (.int .i64 y)).dropB wr.heap.size)
      have HK := Aside0.mk (HT.out.dropB wr.heap.size)
      have RS := Aside0.mk (show laters (n0, r0) (ts.take (k + 1)) = later (a, b) (x, y) by rw [take_snoc_of hx.out, laters_snoc, ← HR.out])
      clear hx
      by_cases c1 : b < y
      · have RV := Aside0.mk (show (x, y) = laters (n0, r0) (ts.take (k + 1)) by rw [RS.out]; unfold later; rw [if_pos (.inl c1)])
        go_wp2_with fail
        go_roundw
        case rel => exact ⟨k + 1, x, y, by omega, by go_num, RV, HS⟩
        case measure => simp [intOf]; omega
      · by_cases c2 : y = b
        · subst c2
          have c5 : (y == y) = true := by simp
          by_cases c3 : x < a
          · have RV := Aside0.mk (show (x, y) = laters (n0, r0) (ts.take (k + 1)) by rw [RS.out]; unfold later; rw [if_pos (.inr ⟨rfl, c3⟩)])
            go_wp2_with fail
            go_roundw
            case rel => exact ⟨k + 1, x, y, by omega, by go_num, RV, HS⟩
            case measure => simp [intOf]; omega
          · have RV := Aside0.mk (show (a, y) = laters (n0, r0) (ts.take (k + 1)) by rw [RS.out]; unfold later; rw [if_neg (by simp; omega)])
            go_wp2_with fail
            go_roundw
            case rel => exact ⟨k + 1, a, y, by omega, by go_num, RV, HK⟩
            case measure => simp [intOf]; omega
        · have RV := Aside0.mk (show (a, b) = laters (n0, r0) (ts.take (k + 1)) by rw [RS.out]; unfold later; rw [if_neg (by simp; omega)])
          have c4 : (y == b) = false := by simpa using c2
          go_wp2_with fail
          go_roundw
          case rel => exact ⟨k + 1, a, b, by omega, by go_num, RV, HK⟩
          case measure => simp [intOf]; omega
    · have hk2 : k = n := by omega
      have et : ts.take k = ts := List.take_of_length_le (by rw [HL.out]; omega)
      rw [et] at HR
      have g0 := HW.out.cell (i := 0) (v := .int .i64 a) rfl
      have g1 := HW.out.cell (i := 1) (v := .int .i64 b) rfl
      have HZ := Aside0.mk (HW.out.atB (w.heap.size + 1))
      have f4 := HZ.out.unfrozen
      have k0 := HZ.out.cell (i := 0) rfl
      have k1 := HZ.out.cell (i := 1) rfl
      have H5 := Aside0.mk ((HZ.out.set 0 (.int .i64 a)).set 1 (.int .i64 b))
      clear et hk2
      go_wp2_with fail
      have z0 := H5.out.cell (i := 0) (v := .int .i64 a) rfl
      have z1 := H5.out.cell (i := 1) (v := .int .i64 b) rfl
      clear f4 k0 k1 g0 g1
      refine bodyPost_ret (v := .agg #[.int .i64 a, .int .i64 b]) (by simp [results, Try.results20, go_sem, z0, z1]) rfl ⟨by rw [← HR.out], H5.out.below⟩
end Go.Proofs.Ytloiclalcepbeaa
