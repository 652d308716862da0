/- Append of one slice; what the statements read of their arguments. -/
import Derived.Test.YtacnogbdifgmeaaDiskAwake
set_option linter.unusedVariables false
set_option linter.unusedSimpArgs false
namespace Go.Proofs.Ytacnogbdifgmeaa
open Go.RowKit Go.Proofs.YtacnogbdifgmeaaW.PrintWords

theorem Ent_arg {α : Type} {d : Kd α} {w0 : World} {A : Option Addr} {n : Nat} {xs : List α} (h : d.C w0 A n xs) (F : HP) : Ent w0 F (fun w => d.C w A n xs) := fun w hw => Kd.C_below h hw.below
theorem append1g_ok (p : Nat) (bytes : List Int) (dur room : Int) (xs : List Int) (A : Option Addr) (n c g : Nat) {w0 w : World} {F : HP} (hg : g = w.heap.size) (h : Hw w0 w (disk p bytes dur room * F)) (hr : 0 ≤ room) (hr2 : room ≤ 1048576)
    (hn : n = xs.length) (hc : n ≤ c) (hE : Ent w0 F (fun w => (Kd.int .u8).C w A n xs)) (hfit : bytes.length + n ≤ room) :
    Calls Try.prog 13 #[.pointer (some ⟨p, 0, none⟩), .slice (some ⟨g, 0, none⟩) 1 1] (w.alloc (.cells #[.slice A n c] 22)) fun e w' => e = .returned (.int .i64 0) ∧ Hw w0 w' (disk p (bytes ++ xs) dur room * F) := by
  have hA := h.alloc (.cells #[.slice A n c] 22)
  rw [← hg] at hA
  have ht : total [xs] = n := by simp [total, hn]
  refine (append_ok p bytes dur room [xs] _ 1 (hA.as (Q := disk p bytes dur room * (F * blk g (.cells #[.slice A n c] 22))) (by ac_rfl)) hr hr2 (fun w' h' => ?_) (by omega)).mono ?_
  · exact C_lit1 (h'.as (HP.comm _ _)).blk_at.1 hn hc (hE w' h'.left)
  rintro e w' ⟨rfl, h'⟩
  refine ⟨rfl, ?_⟩
  have h2 := (h'.as (Q := disk p (bytes ++ [xs].flatten) dur room * F * blk g (.cells #[.slice A n c] 22)) (by ac_rfl)).left
  simpa using h2
theorem append1g_full (p : Nat) (bytes : List Int) (dur room : Int) (xs : List Int) (A : Option Addr) (n c g : Nat) {w0 w : World} {F : HP} (hg : g = w.heap.size) (h : Hw w0 w (disk p bytes dur room * F)) (hr : 0 ≤ room) (hr2 : room ≤ 1048576)
    (hn : n = xs.length) (hc : n ≤ c) (hE : Ent w0 F (fun w => (Kd.int .u8).C w A n xs)) (hm : n ≤ 4611686018427387904) (hfit : room < bytes.length + n) :
    Calls Try.prog 13 #[.pointer (some ⟨p, 0, none⟩), .slice (some ⟨g, 0, none⟩) 1 1] (w.alloc (.cells #[.slice A n c] 22)) fun e w' => e = .returned (.int .i64 3) ∧ Hw w0 w' (disk p bytes dur room * F) := by
  have hA := h.alloc (.cells #[.slice A n c] 22)
  have hF := hE _ (h.alloc (.cells #[.slice A n c] 22)).right.right
  rw [← hg] at hA
  have ht : total [xs] = n := by simp [total, hn]
  refine (append_full p bytes dur room [xs] _ 1 (hA.as (Q := disk p bytes dur room * (F * blk g (.cells #[.slice A n c] 22))) (by ac_rfl)) hr hr2 (C_lit1 hA.blk_at.1 hn hc hF) (by omega) (by omega)).mono ?_
  rintro e w' ⟨rfl, h'⟩
  exact ⟨rfl, (h'.as (Q := disk p bytes dur room * F * blk g (.cells #[.slice A n c] 22)) (by ac_rfl)).left⟩

theorem append1_ok (p : Nat) (bytes : List Int) (dur room : Int) (xs : List Int) (A : Option Addr) (n c : Nat) {w0 w : World} {F : HP} (h : Hw w0 w (disk p bytes dur room * F)) (hr : 0 ≤ room) (hr2 : room ≤ 1048576)
    (hn : n = xs.length) (hc : n ≤ c) (hE : Ent w0 F (fun w => (Kd.int .u8).C w A n xs)) (hfit : bytes.length + n ≤ room) :
    Calls Try.prog 13 #[.pointer (some ⟨p, 0, none⟩), .slice (some ⟨w.heap.size, 0, none⟩) 1 1] (w.alloc (.cells #[.slice A n c] 22)) fun e w' => e = .returned (.int .i64 0) ∧ Hw w0 w' (disk p (bytes ++ xs) dur room * F) :=
  append1g_ok p bytes dur room xs A n c _ rfl h hr hr2 hn hc hE hfit
theorem strOfNums_append (xs ys : List Int) : strOfNums (xs ++ ys) = strOfNums xs ++ strOfNums ys := by
  apply ByteArray.ext
  simp [strOfNums]
theorem strOfNums_extract (xs : List Int) (k : Nat) : (strOfNums xs).extract 0 k = strOfNums (xs.take k) := by
  apply ByteArray.ext
  simp [strOfNums, ByteArray.data_extract, List.map_take]
/-- A row of bytes as a string, whatever has been drawn. -/
theorem C_string_n {P : Program} {w : World} {src dst e : TypeId} {A : Option Addr} {n c : Nat} {xs : List Int} (h : (Kd.int .u8).C w A n xs)
    (hs : P.underlying src = some (.slice e)) (he : P.underlying e = some (.int .u8)) (hd : P.underlying dst = some .string) (nq : Nat) : (convert src dst (.slice A n c)).run P (w.drewN nq) = .ok (.string (strOfNums xs)) (w.drewN nq) :=
  Kd.C_string hs he hd (Kd.C_drewN h nq)
theorem Hw.right_comm {w0 w : World} {P Q R : HP} (h : Hw w0 w (P * Q * R)) : Hw w0 w (P * (Q * R)) := h.as (HP.assoc _ _ _)
theorem size_k (p : Nat) (bytes : List Int) (dur room : Int) (k : Int) (hn : (bytes.length : Int) = k) {w0 w : World} {F : HP} (h : Hw w0 w (disk p bytes dur room * F)) :
    Calls Try.prog 19 #[.pointer (some ⟨p, 0, none⟩)] w fun e w' => e = .returned (.int .i64 k) ∧ Drawn0 w w' := by
  subst hn
  exact size_ok p bytes dur room h
theorem left_k (p : Nat) (bytes : List Int) (dur room : Int) (k : Int) (hk : room - bytes.length = k) (hr : 0 ≤ room) (hr2 : room ≤ 1048576) {w0 w : World} {F : HP} (h : Hw w0 w (disk p bytes dur room * F)) :
    Calls Try.prog 20 #[.pointer (some ⟨p, 0, none⟩)] w fun e w' => e = .returned (.int .i64 k) ∧ Drawn0 w w' := by
  subst hk
  exact left_ok p bytes dur room h hr hr2
theorem bytes_n (p : Nat) (bytes : List Int) (dur room : Int) (n : Nat) (hn : bytes.length = n) (hb : n ≤ 140737488355328) {w0 w : World} {F : HP} (h : Hw w0 w (disk p bytes dur room * F)) :
    Calls Try.prog 16 #[.pointer (some ⟨p, 0, none⟩)] w fun e w' => ∃ A c, e = .returned (.slice A n c) ∧ n ≤ c ∧ Hw w0 w' (row (Kd.int .u8) 5 (.slice A n c) bytes * (disk p bytes dur room * F)) := by
  subst hn
  refine (bytes_ok p bytes dur room hb h).mono ?_
  rintro e w' ⟨A, c, rfl, h'⟩
  obtain ⟨A', c', e1, hl, _⟩ := h'.row_reads
  injection e1 with e1 e2 e3
  subst e3
  exact ⟨A, c, rfl, hl, h'⟩
theorem C_max' {α : Type} {d : Kd α} {w : World} {A : Option Addr} {n : Nat} {xs : List α} (h : d.C w A n xs) : n ≤ 9223372036854775807 := h.2.1
theorem ret_bool {b : Bool} (h : b = true) : Ending.returned (.bool b) = .returned (.bool true) := by rw [h]
theorem durable_q (p : Nat) (bytes : List Int) (dur room : Int) {w0 w : World} {F : HP} {n : Nat} (h : Hw w0 (w.drewN n) (disk p bytes dur room * F)) :
    Calls Try.prog 17 #[.pointer (some ⟨p, 0, none⟩)] (w.drewN n) fun e w' => e = .returned (.int .i64 dur) ∧ ∃ m, w' = w.drewN m := by
  refine (durable_ok p bytes dur room h).mono ?_
  rintro e w' ⟨rfl, ⟨m, rfl⟩⟩
  exact ⟨rfl, _, World.drewN_drewN ..⟩
theorem size_q (p : Nat) (bytes : List Int) (dur room : Int) (k : Nat) (hk : bytes.length = k) {w0 w : World} {F : HP} {n : Nat} (h : Hw w0 (w.drewN n) (disk p bytes dur room * F)) :
    Calls Try.prog 19 #[.pointer (some ⟨p, 0, none⟩)] (w.drewN n) fun e w' => e = .returned (.int .i64 k) ∧ ∃ m, w' = w.drewN m := by
  subst hk
  refine (size_ok p bytes dur room h).mono ?_
  rintro e w' ⟨rfl, ⟨m, rfl⟩⟩
  exact ⟨rfl, _, World.drewN_drewN ..⟩
theorem left_q (p : Nat) (bytes : List Int) (dur room : Int) (k : Int) (hk : room - bytes.length = k) (hr : 0 ≤ room) (hr2 : room ≤ 1048576) {w0 w : World} {F : HP} {n : Nat} (h : Hw w0 (w.drewN n) (disk p bytes dur room * F)) :
    Calls Try.prog 20 #[.pointer (some ⟨p, 0, none⟩)] (w.drewN n) fun e w' => e = .returned (.int .i64 k) ∧ ∃ m, w' = w.drewN m := by
  subst hk
  refine (left_ok p bytes dur room h hr hr2).mono ?_
  rintro e w' ⟨rfl, ⟨m, rfl⟩⟩
  exact ⟨rfl, _, World.drewN_drewN ..⟩
/-- What a crash leaves behind two appends, the first made durable. -/
theorem kept_two (xs ys : List Int) (keep : Int) : ∃ j : Nat, j ≤ ys.length ∧ (xs ++ ys).take (kept xs.length keep (xs ++ ys).length).toNat = xs ++ ys.take j ∧ (keep ≤ 0 ∧ j = 0 ∨ ys.length ≤ keep ∧ j = ys.length ∨ (j : Int) = keep) := by
  have hl : ((xs ++ ys).length : Int) = xs.length + ys.length := by simp
  unfold kept
  rw [hl]
  by_cases h1 : keep < 0
  · rw [if_pos h1]
    refine ⟨0, by omega, ?_, .inl ⟨by omega, rfl⟩⟩
    simp
  · rw [if_neg h1]
    by_cases h2 : (xs.length : Int) + ys.length - xs.length < keep
    · rw [if_pos h2]
      refine ⟨ys.length, Nat.le_refl _, ?_, .inr (.inl ⟨by omega, rfl⟩)⟩
      rw [List.take_length]
      exact List.take_of_length_le (by simp; omega)
    · rw [if_neg h2]
      refine ⟨keep.toNat, by omega, ?_, .inr (.inr (by omega))⟩
      have : ((xs.length : Int) + keep).toNat = xs.length + keep.toNat := by omega
      rw [this, List.take_append, List.take_of_length_le (by omega)]
      congr 2
      omega
end Go.Proofs.Ytacnogbdifgmeaa
