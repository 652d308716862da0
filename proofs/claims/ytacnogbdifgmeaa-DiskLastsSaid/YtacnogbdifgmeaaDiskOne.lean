/- Append of one slice; what the statements read of their arguments. -/
import Derived.Test.YtacnogbdifgmeaaDiskAwake
set_option linter.unusedVariables false
set_option linter.unusedSimpArgs false
namespace Go.Proofs.Ytacnogbdifgmeaa
open Go.RowKit Go.Proofs.YtacnogbdifgmeaaW.PrintWords Go.Proofs.YtacnogbdifgmeaaW.PrintMore

theorem Ent_arg {α : Type} {d : Kd α} {w0 : World} {A : Option Addr} {n : Nat} {xs : List α} (h : d.C w0 A n xs) (F : HP) : Ent w0 F (fun w => d.C w A n xs) := fun w hw => Kd.C_below h hw.below
theorem append1_ok (p : Nat) (bytes : List Int) (dur room : Int) (xs : List Int) (A : Option Addr) (n c : Nat) {w0 w : World} {F : HP} (h : Hw w0 w (disk p bytes dur room * F)) (hr : 0 ≤ room) (hr2 : room ≤ 1048576)
    (hn : n = xs.length) (hc : n ≤ c) (hE : Ent w0 F (fun w => (Kd.int .u8).C w A n xs)) (hfit : bytes.length + n ≤ room) :
    Calls Try.prog 13 #[.pointer (some ⟨p, 0, none⟩), .slice (some ⟨w.heap.size, 0, none⟩) 1 1] (w.alloc (.cells #[.slice A n c] 22)) fun e w' => e = .returned (.int .i64 0) ∧ Hw w0 w' (disk p (bytes ++ xs) dur room * F) := by
  have hA := h.alloc (.cells #[.slice A n c] 22)
  obtain ⟨g, hg⟩ : ∃ g, g = w.heap.size := ⟨_, rfl⟩
  rw [← hg] at hA ⊢
  have ht : total [xs] = n := by simp [total, hn]
  refine (append_ok p bytes dur room [xs] _ 1 (hA.as (Q := disk p bytes dur room * (F * blk g (.cells #[.slice A n c] 22))) (by ac_rfl)) hr hr2 (fun w' h' => ?_) (by omega)).mono ?_
  · exact C_lit1 (h'.as (HP.comm _ _)).blk_at.1 hn hc (hE w' h'.left)
  rintro e w' ⟨rfl, h'⟩
  refine ⟨rfl, ?_⟩
  have h2 := (h'.as (Q := disk p (bytes ++ [xs].flatten) dur room * F * blk g (.cells #[.slice A n c] 22)) (by ac_rfl)).left
  simpa using h2
theorem append1_full (p : Nat) (bytes : List Int) (dur room : Int) (xs : List Int) (A : Option Addr) (n c : Nat) {w0 w : World} {F : HP} (h : Hw w0 w (disk p bytes dur room * F)) (hr : 0 ≤ room) (hr2 : room ≤ 1048576)
    (hn : n = xs.length) (hc : n ≤ c) (hE : Ent w0 F (fun w => (Kd.int .u8).C w A n xs)) (hm : n ≤ 4611686018427387904) (hfit : room < bytes.length + n) :
    Calls Try.prog 13 #[.pointer (some ⟨p, 0, none⟩), .slice (some ⟨w.heap.size, 0, none⟩) 1 1] (w.alloc (.cells #[.slice A n c] 22)) fun e w' => e = .returned (.int .i64 3) ∧ Hw w0 w' (disk p bytes dur room * F) := by
  have hA := h.alloc (.cells #[.slice A n c] 22)
  have hF := hE _ (h.alloc (.cells #[.slice A n c] 22)).right.right
  obtain ⟨g, hg⟩ : ∃ g, g = w.heap.size := ⟨_, rfl⟩
  rw [← hg] at hA ⊢
  have ht : total [xs] = n := by simp [total, hn]
  refine (append_full p bytes dur room [xs] _ 1 (hA.as (Q := disk p bytes dur room * (F * blk g (.cells #[.slice A n c] 22))) (by ac_rfl)) hr hr2 (C_lit1 hA.blk_at.1 hn hc hF) (by omega) (by omega)).mono ?_
  rintro e w' ⟨rfl, h'⟩
  exact ⟨rfl, (h'.as (Q := disk p bytes dur room * F * blk g (.cells #[.slice A n c] 22)) (by ac_rfl)).left⟩

theorem strOfNums_append (xs ys : List Int) : strOfNums (xs ++ ys) = strOfNums xs ++ strOfNums ys := by
  apply ByteArray.ext
  simp [strOfNums]
/-- A row of bytes as a string, whatever has been drawn. -/
theorem C_string_n {P : Program} {w : World} {src dst e : TypeId} {A : Option Addr} {n c : Nat} {xs : List Int} (h : (Kd.int .u8).C w A n xs)
    (hs : P.underlying src = some (.slice e)) (he : P.underlying e = some (.int .u8)) (hd : P.underlying dst = some .string) (nq : Nat) : (convert src dst (.slice A n c)).run P (w.drewN nq) = .ok (.string (strOfNums xs)) (w.drewN nq) :=
  Kd.C_string hs he hd (Kd.C_drewN h nq)
end Go.Proofs.Ytacnogbdifgmeaa
