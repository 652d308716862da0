/- Tokens: the builder of a text, written byte by byte. -/
import Derived.Test.YtloiclalcepbeaaToken
import Derived.Lib.Builder
import Derived.Laws.Externs
set_option linter.unusedVariables false
set_option linter.unusedSimpArgs false
namespace Go.Proofs.Ytloiclalcepbeaa
open Go.RowKit Go.Proofs.YtloiclalcepbeaaW.PrintWords Go.Proofs.YtloiclalcepbeaaW.PrintLast
theorem Try.bsize : (Try.prog.info? 72).map (·.size) = some 2 := by kernel_rfl
theorem Try.blies : liesAt Try.prog Try.prog.depth 72 (2 / Try.prog.cellsOf 72) 0 72 1 = true := by kernel_rfl
theorem Try.binfoU8 : (Try.prog.info? 5).map (fun i => (i.zero, i.size, i.bytes)) = some (some (.int .u8 0), 1, 1) := by kernel_rfl
abbrev bobj (p v : Value) : Obj := .cells #[p, v] 72 (0, 0)
abbrev bptr (b : Nat) : Value := .pointer (some ⟨b, 0, none⟩)
section
variable {w0 w : World} {F : HP}
set_option maxHeartbeats 1600000 in
set_option maxRecDepth 100000 in
theorem bcheck_ok (b : Nat) (p v : Value) (hp : p = .pointer none ∨ p = bptr b) (h : Hw w0 w (blk b (bobj p v) * F)) :
    Calls Try.prog 48 #[bptr b] w fun e w' => e = .returned (.tuple #[]) ∧ Hw w0 w' (blk b (bobj (bptr b) v) * F) := by
  obtain ⟨j, hj, hjs⟩ := Option.map_eq_some_iff.1 Try.bsize
  have c0 := h.cell (i := 0) rfl
  have hf := h.unfrozen 0
  have hsh : w.shape? b = some (72, 2) := by simp [World.shape?, h.blk_at.1]
  have hset := Aside0.mk (h.set 0 (bptr b))
  have H := Aside0.mk h
  clear h
  rcases hp with rfl | rfl
  · go_enter Try.func48, Try.ntmps48
    go_wp2
    rw [Lib.run_to_unsafe w ⟨b, 0, none⟩ Try.underlying70 Try.underlying138 hj (by rw [hjs]; decide) hsh (Nat.zero_lt_succ 1)]
    simp only [Result.andThen]
    rw [Oper.upon_value]
    go_wp2
    rw [run_callFunc_extern Try.func74 (by kernel_rfl) (by kernel_rfl) (by kernel_rfl) (e := Extern.AbiNoEscape.same) (by kernel_rfl)]
    rw [Lib.run_noEscape]
    simp only [Result.andThen]
    rw [Oper.upon_value]
    go_wp2
    rw [Lib.run_from_unsafe w ⟨b, 0, none⟩ Try.underlying138 Try.underlying70 hj hsh Try.blies]
    simp only [Result.andThen]
    rw [Oper.upon_value]
    go_wp2
    go_end0
    exact ⟨rfl, hset.out⟩
  · have hne := Lib.run_neq_ptr_same w ⟨b, 0, none⟩ Try.underlying70 hj
    go_enter Try.func48, Try.ntmps48
    go_wp2
    go_end0
    exact ⟨rfl, H.out⟩
set_option maxHeartbeats 1600000 in
set_option maxRecDepth 100000 in
theorem bwrite_ok (b : Nat) (p v : Value) (xs : List Int) (x : Int) (hp : p = .pointer none ∨ p = bptr b) (hx : xs.length ≤ 4096) (h : Hw w0 w (blk b (bobj p v) * (row (Kd.int .u8) 5 v xs * F))) :
    Calls Try.prog 33 #[bptr b, .int .u8 x] w fun e w' => ∃ v', e = .returned .nilIface ∧ Hw w0 w' (blk b (bobj (bptr b) v') * (row (Kd.int .u8) 5 v' (xs ++ [x]) * F)) := by
  have H := Aside0.mk h
  clear h
  go_enter Try.func33, Try.ntmps33
  go_wp2_with fail
  refine (bcheck_ok b p v hp H.out).mono ?_
  rintro e w1 ⟨rfl, h1⟩
  have c1 := h1.cell (i := 1) rfl
  have H2 := Aside0.mk ((h1.alloc (.cells #[.int .u8 x] 5)).atR (Kd.int .u8) 5 v)
  have HC2 := Aside0.mk (C_blk (enc := Value.int .u8) (h1 := fun _ => rfl) (xs := [x]) (by simp) (h1.alloc (.cells #[.int .u8 x] 5)).blk_at.1)
  clear h1 H
  go_wp2_with (at_builtin; refine Hw.append_int (k := .u8) rfl (.tmp 11) (.tmp 13) 35 5 1 rfl Try.underlying35 Try.binfoU8 (by decide) v xs [x] _ 1 1 rfl rfl H2.out HC2.out (by omega) (xs ++ [x]) rfl (xs.length + 1) (by simp) ?_; intro A3 c3 w3 H3; have H4 := Aside0.mk (H3.out.atB b); have c4 := H4.out.cell (i := 1) rfl; have f4 := H4.out.unfrozen 1; have H5 := Aside0.mk (H4.out.set 1 (.slice A3 (xs.length + 1) c3)))
  go_ret
  exact ⟨.slice A3 (xs.length + 1) c3, rfl, H5.out.dropB w1.heap.size⟩
end
end Go.Proofs.Ytloiclalcepbeaa
