/- Texts as rows of numbers. -/
import Derived.Test.YtenblkbieaadnaaFocus
import Derived.Lib.ConvBytes
set_option linter.unusedVariables false
set_option linter.unusedSimpArgs false
namespace Go.Proofs.Ytenblkbieaadnaa
open Go.RowKit Go.Proofs.YtenblkbieaadnaaW.PrintWords
def bytes (xs : List Int) : Prop := ∀ x ∈ xs, 0 ≤ x ∧ x ≤ 255
theorem tx_size (xs : List Int) : (strOfNums xs).size = xs.length := strOfNums_size xs
theorem tx_ext {s t : ByteArray} (h : s.data.toList = t.data.toList) : s = t := by
  cases s with | mk a => cases t with | mk b => exact congrArg ByteArray.mk (Array.ext' h)
theorem tx_toList {s t : ByteArray} : s.toList = t.toList ↔ s = t := by
  constructor
  · intro h
    apply tx_ext
    have e : ∀ s : ByteArray, s.toList = s.data.toList := fun s => ByteArray.toList_eq s
    rw [← e, ← e, h]
  · intro h; rw [h]
theorem tx_append (xs ys : List Int) : strOfNums (xs ++ ys) = strOfNums xs ++ strOfNums ys := by
  apply tx_ext
  rw [strOfNums_data]
  simp [strOfNums]
theorem tx_mid (xs : List Int) (i j : Nat) : (strOfNums xs).extract i j = strOfNums ((xs.take j).drop i) := by
  apply tx_ext
  rw [strOfNums_data]
  simp [strOfNums, List.map_take, List.map_drop, List.drop_take]
theorem tx_to (xs : List Int) (j : Nat) : (strOfNums xs).extract 0 j = strOfNums (xs.take j) := by
  have := tx_mid xs 0 j
  rwa [List.drop_zero] at this
theorem tx_from (xs : List Int) (i : Nat) : (strOfNums xs).extract i (strOfNums xs).size = strOfNums (xs.drop i) := by
  rw [tx_mid, tx_size, List.take_length]
theorem tx_inj {xs ys : List Int} (hx : bytes xs) (hy : bytes ys) (h : strOfNums xs = strOfNums ys) : xs = ys := by
  have h1 := congrArg (fun s : ByteArray => s.data.toList) h
  simp only [strOfNums_data] at h1
  have key : ∀ (xs ys : List Int), bytes xs → bytes ys → xs.map (fun n => UInt8.ofNat n.toNat) = ys.map (fun n => UInt8.ofNat n.toNat) → xs = ys := by
    intro xs
    induction xs with
    | nil => intro ys _ _ h; cases ys with
      | nil => rfl
      | cons y ys => simp at h
    | cons x xs ih =>
      intro ys hx hy h
      cases ys with
      | nil => simp at h
      | cons y ys =>
        simp only [List.map_cons, List.cons.injEq] at h
        have h2 := ih ys (fun z hz => hx z (.tail _ hz)) (fun z hz => hy z (.tail _ hz)) h.2
        have h3 := congrArg UInt8.toNat h.1
        have bx := hx x (.head _)
        have hby := hy y (.head _)
        simp only [UInt8.toNat_ofNat'] at h3
        have : x = y := by omega
        rw [this, h2]
  exact key xs ys hx hy h1
theorem tx_at (xs : List Int) (i : Nat) (x : Int) (hi : xs[i]? = some x) (hx : 0 ≤ x ∧ x ≤ 255) (h : i < (strOfNums xs).size) : (((strOfNums xs)[i]'h).toNat : Int) = x := by
  have h1 : (strOfNums xs).data.toList[i]? = some (UInt8.ofNat x.toNat) := by rw [strOfNums_data, List.getElem?_map, hi]; rfl
  have h2 : (strOfNums xs)[i]'h = UInt8.ofNat x.toNat := by
    have : (strOfNums xs).data.toList[i]? = some ((strOfNums xs)[i]'h) := by
      rw [List.getElem?_eq_getElem (by simpa using h)]
      rfl
    rw [this] at h1
    exact Option.some.inj h1
  rw [h2, UInt8.toNat_ofNat']
  omega
theorem tx_index {P : Program} (t : TypeId) (ht : P.underlying t = some .string) (xs : List Int) (k : IntKind) (j : Int) (i : Nat) (x : Int) (hj : j = i) (hi : xs[i]? = some x) (hx : 0 ≤ x ∧ x ≤ 255) :
    ∀ W : World, (Instr.index t (.string (strOfNums xs)) (.int k j)).run P W = .ok (.int .u8 x) W := by
  intro W
  subst hj
  have hlt : i < (strOfNums xs).size := by rw [tx_size]; exact (List.getElem?_eq_some_iff.1 hi).1
  rw [run_index_string W t _ k _ ht, dif_pos ⟨by omega, by omega⟩]
  have := tx_at xs i x hi hx hlt
  simp only [Int.toNat_natCast]
  rw [this]
theorem tx_slice {P : Program} (t : TypeId) (ht : P.underlying t = some .string) (xs : List Int) (lo hi : Int) (a b : Nat) (hlo : lo = a) (hhi : hi = b) (hab : a ≤ b) (hb : b ≤ xs.length) :
    ∀ W : World, (Instr.slice t (.string (strOfNums xs)) (some (.int .i64 lo)) (some (.int .i64 hi)) none).run P W = .ok (.string (strOfNums ((xs.take b).drop a))) W := by
  intro W
  subst hlo
  subst hhi
  have hs := tx_size xs
  rw [run_slice_string W t (strOfNums xs) .i64 .i64 a b ht (by omega) (by omega) (by omega)]
  simp only [Int.toNat_natCast]
  rw [tx_mid]
theorem tx_slice_to {P : Program} (t : TypeId) (ht : P.underlying t = some .string) (xs : List Int) (hi : Int) (b : Nat) (hhi : hi = b) (hb : b ≤ xs.length) :
    ∀ W : World, (Instr.slice t (.string (strOfNums xs)) none (some (.int .i64 hi)) none).run P W = .ok (.string (strOfNums (xs.take b))) W := by
  intro W
  subst hhi
  have hs := tx_size xs
  rw [run_slice_string_to_if W t (strOfNums xs) .i64 b ht, if_pos ⟨by omega, by omega⟩]
  simp only [Int.toNat_natCast]
  rw [tx_to]
theorem tx_slice_from {P : Program} (t : TypeId) (ht : P.underlying t = some .string) (xs : List Int) (lo : Int) (a : Nat) (hlo : lo = a) (ha : a ≤ xs.length) :
    ∀ W : World, (Instr.slice t (.string (strOfNums xs)) (some (.int .i64 lo)) none none).run P W = .ok (.string (strOfNums (xs.drop a))) W := by
  intro W
  subst hlo
  have hs := tx_size xs
  rw [run_slice_string_from_if W t (strOfNums xs) .i64 a ht, if_pos ⟨by omega, by omega⟩]
  simp only [Int.toNat_natCast]
  rw [tx_from]
/-- A text as numbers. -/
def numsOf (s : ByteArray) : List Int := s.data.toList.map fun b => (b.toNat : Int)
theorem numsOf_bytes (s : ByteArray) : bytes (numsOf s) := by
  intro x hx
  obtain ⟨b, _, rfl⟩ := List.mem_map.1 hx
  have := b.toNat_lt
  omega
theorem strOf_numsOf (s : ByteArray) : strOfNums (numsOf s) = s := by
  apply tx_ext
  rw [strOfNums_data]
  unfold numsOf
  rw [List.map_map]
  have : ((fun n : Int => UInt8.ofNat n.toNat) ∘ fun b : UInt8 => (b.toNat : Int)) = id := by
    funext b
    simp
  rw [this, List.map_id]
theorem numsOf_len (s : ByteArray) : (numsOf s).length = s.size := by simp [numsOf]
/-- '[]byte(s)'. -/
theorem tx_bytes {w0 w : World} {F : HP} (e : TypeId) (s : ByteArray) (hs : s.size ≤ 9223372036854775807) (h : Hw w0 w F) : Hw w0 (Lib.bytesWorld w e s) F ∧ (Kd.int .u8).C (Lib.bytesWorld w e s) (some ⟨w.heap.size, 0, none⟩) s.size (numsOf s) := by
  refine ⟨h.step rfl rfl rfl (by rw [Lib.bytesWorld_size]; omega) (fun i hi => Lib.bytesWorld_at_old w e s i hi), ?_⟩
  refine Kd.C_of_reads (d := (0 : Int)) (h1 := fun _ => rfl) ⟨numsOf_len s, hs, fun hp => ⟨⟨w.heap.size, 0, none⟩, rfl, fun j hj => ?_⟩⟩
  rw [add_plain, Lib.bytesWorld_cell w e s j hj]
  have hj2 : j < s.data.toList.length := by simpa using hj
  simp [numsOf, List.getD_eq_getElem?_getD, List.getElem?_eq_getElem hj2]
end Go.Proofs.Ytenblkbieaadnaa
