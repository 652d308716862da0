/- '[]byte(s)', owned whole: written to and turned back. -/
import Derived.Test.YtloiclalcepbeaaTokenG
import Derived.Test.YtloiclalcepbeaaTokenT
set_option linter.unusedVariables false
set_option linter.unusedSimpArgs false
namespace Go.Proofs.Ytloiclalcepbeaa
open Go.RowKit Go.Proofs.YtloiclalcepbeaaW.PrintWords Go.Proofs.YtloiclalcepbeaaW.PrintLast
/-- The first cells are those bytes. -/
def preC (cs : Array Value) (xs : List Int) : Prop := ∀ (j : Nat) (x : Int), xs[j]? = some x → cs[j]? = some (.int .u8 x)
theorem preC_set {cs : Array Value} {xs : List Int} (h : preC cs xs) (k : Nat) (y : Int) (hk : k < xs.length) : preC (cs.setIfInBounds k (.int .u8 y)) (xs.set k y) := by
  intro j x hj
  by_cases hjk : k = j
  · subst hjk
    rw [List.getElem?_set_self hk] at hj
    obtain rfl : y = x := by simpa using hj
    have h1 := h k xs[k] (List.getElem?_eq_getElem hk)
    have h2 := (Array.getElem?_eq_some_iff.1 h1).1
    simp [Array.getElem?_setIfInBounds, h2]
  · rw [List.getElem?_set_ne hjk] at hj
    rw [Array.getElem?_setIfInBounds_ne hjk]
    exact h j x hj
section
variable {w0 w : World} {F : HP} {g : Nat} {cs : Array Value} {e : TypeId} {fz : Nat × Nat} {xs : List Int}
theorem blk_preC (h : Hw w0 w (blk g (.cells cs e fz) * F)) (hp : preC cs xs) (hl : xs.length ≤ 9223372036854775807) : (Kd.int .u8).C w (some ⟨g, 0, none⟩) xs.length xs := by
  refine Kd.C_of_reads (d := (0 : Int)) (h1 := fun _ => rfl) ⟨rfl, hl, fun _ => ⟨⟨g, 0, none⟩, rfl, fun j hj => ?_⟩⟩
  rw [add_plain]
  have := h.cell (hp j xs[j] (List.getElem?_eq_getElem hj))
  rw [this, List.getD_eq_getElem?_getD, List.getElem?_eq_getElem hj]
  rfl
theorem blk_unf {m : Nat} (h : Hw w0 w (blk g (.cells cs e (m, m + 1)) * F)) (i : Nat) (hi : i < m) : w.frozen? ⟨g, i, none⟩ = false := by
  simp [World.frozen?, h.blk_at.1]
  omega
theorem tx_bytes_pre (e : TypeId) (s : ByteArray) (h : Hw w0 w F) : ∃ (cs : Array Value) (m : Nat), s.size ≤ m ∧ cs.size = m ∧ Hw w0 (Lib.bytesWorld w e s) (blk w.heap.size (.cells cs e (m, m + 1)) * F) ∧ preC cs (numsOf s) := by
  refine ⟨_, _, ?_, rfl, h.add w.heap.size _ (Nat.le_refl _) rfl rfl rfl (by rw [Lib.bytesWorld_size]; omega) (fun i hi => Lib.bytesWorld_at_old w e s i hi) (Lib.bytesWorld_at_new w e s), fun j x hx => ?_⟩
  · unfold Lib.bytesCells
    have : s.data.size = s.size := rfl
    simp [this]
  have hj : j < s.size := by have := (List.getElem?_eq_some_iff.1 hx).1; rwa [numsOf_len] at this
  have hj2 : j < s.data.size := hj
  have h2 : (numsOf s)[j]? = some (((s.data[j]'hj2).toNat : Int)) := by
    unfold numsOf
    rw [List.getElem?_map, Array.getElem?_toList, Array.getElem?_eq_getElem hj2]
    rfl
  rw [h2] at hx
  simp only [Option.some.injEq] at hx
  subst hx
  unfold Lib.bytesCells
  rw [Array.getElem?_append_left (by simpa using hj2), Array.getElem?_map, Array.getElem?_eq_getElem hj2]
  rfl
theorem blk_string {P : Program} {src dst e' : TypeId} {c : Nat} (h : Hw w0 w (blk g (.cells cs e fz) * F)) (hp : preC cs xs) (hl : xs.length ≤ 9223372036854775807)
    (hs : P.underlying src = some (.slice e')) (he : P.underlying e' = some (.int .u8)) (hd : P.underlying dst = some .string) : (convert src dst (.slice (some ⟨g, 0, none⟩) xs.length c)).run P w = .ok (.string (strOfNums xs)) w :=
  Kd.C_string hs he hd (blk_preC h hp hl)
end
/-- The text of a token that may be written, sign by sign. -/
theorem tells_text (a b : Nat) (ha : a < 8) (hb : b ≤ 1125899906842624) : ∃ xs : List Int, xs = (tdigits a b).map sgn ∧ bytes xs ∧ 2 ≤ xs.length ∧ xs.length ≤ 13 := by
  obtain ⟨l2, l13⟩ := tdigits_len a b hb
  exact ⟨_, rfl, sgns_bytes _ (tdigits_digs a b ha), by simpa using l2, by simpa using l13⟩
theorem bytes_set {xs : List Int} (h : bytes xs) (k : Nat) (y : Int) (hy : 0 ≤ y ∧ y ≤ 255) : bytes (xs.set k y) := by
  intro x hx
  rcases List.mem_or_eq_of_mem_set hx with h' | h'
  · exact h x h'
  · rw [h']; exact hy
end Go.Proofs.Ytloiclalcepbeaa
