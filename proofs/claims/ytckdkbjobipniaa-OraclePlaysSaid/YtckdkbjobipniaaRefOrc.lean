/- The document's oracle: Last, Rev, IsDone. Printed by wip/gen/reforc.py. -/
import Derived.Test.YtckdkbjobipniaaOrcK
set_option linter.unusedVariables false
set_option linter.unusedSimpArgs false
namespace Go.Proofs.Ytckdkbjobipniaa
open Go.RowKit Go.Proofs.YtckdkbjobipniaaW.PrintWords Go.Proofs.YtckdkbjobipniaaW.PrintLast
theorem find_first {l : List Iss} {j : Nat} {id : Int} {y : Iss} (h : ∀ z ∈ l.take j, z.id ≠ id) (hy : l[j]? = some y) (e : y.id = id) : l.find? (fun x => x.id == id) = some y := by
  have hs : l = l.take j ++ l.drop j := (List.take_append_drop j l).symm
  have hd : l.drop j = y :: l.drop (j + 1) := drop_cons hy
  rw [hs, List.find?_append, find_none.2 h, hd]
  simp [e]
set_option maxHeartbeats 12800000 in
set_option maxRecDepth 100000 in
theorem r14last_ok (t : ByteArray) (dur room : Int) (A : Option Addr) (n c : Nat) (B : Option Addr) (m d : Nat) (l : List Iss) (ids : List Int) (w : World) (hA : MsgsC w A n (l.map issMH)) (hn : n ≤ 1000000) :
    Calls Try.prog 44 #[.agg #[.string t, .int .i64 dur, .int .i64 room, .slice A n c, .slice B m d]] w fun e w' => e = .returned (.int .i64 (olast ⟨l, ids⟩)) ∧ Below w.heap.size w w' := by
  have HA := Aside0.mk hA
  have H1 := Aside0.mk ((Hw.start w).alloc (.cells #[.string t, .int .i64 dur, .int .i64 room, .slice A n c, .slice B m d] 77))
  have LL := Aside0.mk (show l.length = n by have h := hA.len; rwa [List.length_map] at h)
  clear hA
  have k3 := H1.out.cellAt w.heap.size 3 (v := .slice A n c) rfl
  rcases Nat.eq_zero_or_pos n with h0 | hp
  · subst h0
    go_enter Try.func44, Try.ntmps44
    go_wp2_with fail
    go_ret
    have : l = [] := List.eq_nil_of_length_eq_zero LL.out
    subst this
    exact ⟨rfl, H1.out.below⟩
  · obtain ⟨k, rfl⟩ : ∃ k, n = k + 1 := ⟨n - 1, by omega⟩
    obtain ⟨ad, xh, rfl, hx, XC, XA⟩ := msgs_at (HA.out.below H1.out.below) k (by omega)
    obtain ⟨y, hy, rfl⟩ : ∃ y, l[k]? = some y ∧ xh = issMH y := by
      have h1 := hx.out
      rw [List.getElem?_map] at h1
      cases h2 : l[k]? with
      | none => rw [h2] at h1; exact absurd h1 (by simp)
      | some y => rw [h2] at h1; exact ⟨y, rfl, by injection h1 with h1; exact h1.symm⟩
    have OLA := Aside0.mk (show olast ⟨l, ids⟩ = y.rev by
      unfold olast
      simp only
      rw [List.getLast?_eq_getElem?, LL.out, Nat.add_sub_cancel, hy]
      rfl)
    have c4 : (w.alloc (.cells #[.string t, .int .i64 dur, .int .i64 room, .slice (some ad) (k + 1) c, .slice B m d] 77)).cell? ⟨(ad.add (k * 12)).block, (ad.add (k * 12)).off + 4, none⟩ = some (.int .i64 y.rev) := XA.out.c4
    have e1 : ((k : Int) + 1 == 0) = false := by simp; omega
    have e2 : wrap64 ((k : Int) + 1 - 1) = (k : Int) := by rw [show (k : Int) + 1 - 1 = (k : Int) by omega]; exact (i64_in2 _ (by omega) (by omega)).1
    have e3 : wrap64 (k : Int) = (k : Int) := (i64_in2 _ (by omega) (by omega)).1
    have e4 : IntKind.i64.wrap ((k : Int) + 1 - 1) = (k : Int) := by rw [show (k : Int) + 1 - 1 = (k : Int) by omega]; exact (i64_in2 _ (by omega) (by omega)).2
    have e5 : IntKind.i64.wrap (k : Int) = (k : Int) := (i64_in2 _ (by omega) (by omega)).2
    clear hx hy XC XA
    go_enter Try.func44, Try.ntmps44
    go_wp2_with fail
    go_ret
    exact ⟨by rw [OLA.out]; rfl, H1.out.below⟩
set_option maxHeartbeats 12800000 in
set_option maxRecDepth 100000 in
theorem r14rev_ok (t : ByteArray) (dur room : Int) (A : Option Addr) (n c : Nat) (B : Option Addr) (m d : Nat) (l : List Iss) (ids : List Int) (w : World) (hA : MsgsC w A n (l.map issMH)) (hn : n ≤ 1000000) (id : Int) :
    Calls Try.prog 90 #[.agg #[.string t, .int .i64 dur, .int .i64 room, .slice A n c, .slice B m d], .int .i64 id] w fun e w' => e = .returned (.int .i64 (orev ⟨l, ids⟩ id)) ∧ Below w.heap.size w w' := by
  have HA := Aside0.mk hA
  have H1 := Aside0.mk ((Hw.start w).alloc (.cells #[.string t, .int .i64 dur, .int .i64 room, .slice A n c, .slice B m d] 77))
  have LL := Aside0.mk (show l.length = n by have h := hA.len; rwa [List.length_map] at h)
  clear hA
  have k3 := H1.out.cellAt w.heap.size 3 (v := .slice A n c) rfl
  go_enter Try.func90, Try.ntmps90
  go_wp2_with fail
  clear k3
  go_loopw [5] (fun i wr => ∃ j : Nat, j ≤ n ∧ i = .int .i64 j ∧ Aside0 (∀ z ∈ l.take j, z.id ≠ id) ∧ Aside0 (Hw w wr (blk w.heap.size (.cells #[.string t, .int .i64 dur, .int .i64 room, .slice A n c, .slice B m d] 77) * HP.emp)))
    (fun i _ => n - (intOf i).toNat)
  case atStart => exact ⟨0, Nat.zero_le _, rfl, ⟨by simp⟩, H1⟩
  case round =>
    obtain ⟨j, hj, rfl, NO, HW⟩ := hrel
    clear H1
    have k3 := HW.out.cellAt w.heap.size 3 (v := .slice A n c) rfl
    by_cases hlt : j < n
    · have MS := Aside0.mk (HA.out.below HW.out.below)
      obtain ⟨ad, xh, rfl, hx, XC, XA⟩ := msgs_at MS.out j hlt
      obtain ⟨y, hy, rfl⟩ : ∃ y, l[j]? = some y ∧ xh = issMH y := by
        have h1 := hx.out
        rw [List.getElem?_map] at h1
        cases h2 : l[j]? with
        | none => rw [h2] at h1; exact absurd h1 (by simp)
        | some y => rw [h2] at h1; exact ⟨y, rfl, by injection h1 with h1; exact h1.symm⟩
      have HY := Aside0.mk hy
      have x0 : wr.cell? (ad.add (j * 12)) = some (.int .i64 1) := XA.out.c0
      have x1 : wr.cell? ⟨(ad.add (j * 12)).block, (ad.add (j * 12)).off + 1, none⟩ = some (.int .i64 y.src) := XA.out.c1
      have x2 : wr.cell? ⟨(ad.add (j * 12)).block, (ad.add (j * 12)).off + 2, none⟩ = some (.int .i64 0) := XA.out.c2
      have x3 : wr.cell? ⟨(ad.add (j * 12)).block, (ad.add (j * 12)).off + 3, none⟩ = some (.int .i64 y.id) := XA.out.c3
      have x4 : wr.cell? ⟨(ad.add (j * 12)).block, (ad.add (j * 12)).off + 4, none⟩ = some (.int .i64 y.rev) := XA.out.c4
      have x5 : wr.cell? ⟨(ad.add (j * 12)).block, (ad.add (j * 12)).off + 5, none⟩ = some (.int .i64 0) := XA.out.c5
      have x6 : wr.cell? ⟨(ad.add (j * 12)).block, (ad.add (j * 12)).off + 6, none⟩ = some (.int .i64 0) := XA.out.c6
      have x7 : wr.cell? ⟨(ad.add (j * 12)).block, (ad.add (j * 12)).off + 7, none⟩ = some (.bool false) := XA.out.c7
      have x8 : wr.cell? ⟨(ad.add (j * 12)).block, (ad.add (j * 12)).off + 8, none⟩ = some (.slice none 0 0) := XA.out.c8
      have x9 : wr.cell? ⟨(ad.add (j * 12)).block, (ad.add (j * 12)).off + 9, none⟩ = some (.slice none 0 0) := XA.out.c9
      have x10 : wr.cell? ⟨(ad.add (j * 12)).block, (ad.add (j * 12)).off + 10, none⟩ = some (.slice none 0 0) := XA.out.c10
      have x11 : wr.cell? ⟨(ad.add (j * 12)).block, (ad.add (j * 12)).off + 11, none⟩ = some (.slice none 0 0) := XA.out.c11
      clear hx hy XC XA
      clear x0 x1 x2 x5 x6 x7 x8 x9 x10 x11
      by_cases he : y.id = id
      · have d5 : (y.id == id) = true := by simpa using he
        have RV := Aside0.mk (show orev ⟨l, ids⟩ id = y.rev by unfold orev; rw [find_first NO.out HY.out he]; rfl)
        clear he
        go_wp2_with fail
        go_ret
        exact ⟨by rw [RV.out]; rfl, HW.out.below⟩
      · have d5 : (y.id == id) = false := by simpa using he
        have NO2 := Aside0.mk (show ∀ z ∈ l.take (j + 1), z.id ≠ id by
          rw [take_snoc_of HY.out]
          intro z hz
          rcases List.mem_append.1 hz with hz | hz
          · exact NO.out z hz
          · obtain rfl : z = y := by simpa using hz
            exact he)
        clear he HY
        go_wp2_with fail
        go_roundw
        case rel => exact ⟨j + 1, by omega, by go_num, NO2, HW⟩
        case measure => simp [intOf]; omega
    · have hjn : j = n := by omega
      have RV := Aside0.mk (show orev ⟨l, ids⟩ id = 0 by
        have h := NO.out
        rw [List.take_of_length_le (by rw [LL.out]; omega)] at h
        unfold orev
        rw [find_none.2 h]
        rfl)
      subst hjn
      go_wp2_with fail
      go_ret
      exact ⟨by rw [RV.out]; rfl, HW.out.below⟩
set_option maxHeartbeats 12800000 in
set_option maxRecDepth 100000 in
theorem r14done_ok (t : ByteArray) (dur room : Int) (A : Option Addr) (n c : Nat) (B : Option Addr) (m d : Nat) (l : List Iss) (ids : List Int) (w : World) (hA : MsgsC w A n (l.map issMH)) (hn : n ≤ 1000000) (hB : (Kd.int .i64).C w B m ids) (id : Int) (hm : m ≤ 1000000) :
    Calls Try.prog 92 #[.agg #[.string t, .int .i64 dur, .int .i64 room, .slice A n c, .slice B m d], .int .i64 id] w fun e w' => e = .returned (.bool (decide (id ∈ ids))) ∧ Below w.heap.size w w' := by
  have HB := Aside0.mk hB
  have H1 := Aside0.mk ((Hw.start w).alloc (.cells #[.string t, .int .i64 dur, .int .i64 room, .slice A n c, .slice B m d] 77))
  have LL := Aside0.mk (show ids.length = m from hB.1.symm ▸ rfl)
  clear hA hB
  have k3 := H1.out.cellAt w.heap.size 4 (v := .slice B m d) rfl
  go_enter Try.func92, Try.ntmps92
  go_wp2_with fail
  clear k3
  go_loopw [5] (fun i wr => ∃ j : Nat, j ≤ m ∧ i = .int .i64 j ∧ Aside0 (id ∉ ids.take j) ∧ Aside0 (Hw w wr (blk w.heap.size (.cells #[.string t, .int .i64 dur, .int .i64 room, .slice A n c, .slice B m d] 77) * HP.emp)))
    (fun i _ => m - (intOf i).toNat)
  case atStart => exact ⟨0, Nat.zero_le _, rfl, ⟨by simp⟩, H1⟩
  case round =>
    obtain ⟨j, hj, rfl, NO, HW⟩ := hrel
    clear H1
    have k3 := HW.out.cellAt w.heap.size 4 (v := .slice B m d) rfl
    by_cases hlt : j < m
    · obtain ⟨ad, x, rfl, hcell, hx⟩ := C_scalar_at (Kd.C_below HB.out HW.out.below) j hlt
      by_cases he : x = id
      · have d5 : (x == id) = true := by simpa using he
        have RV := Aside0.mk (show decide (id ∈ ids) = true from decide_eq_true (by rw [← he]; exact List.mem_of_getElem? hx.out))
        clear he
        go_wp2_with fail
        go_ret
        exact ⟨by rw [RV.out]; rfl, HW.out.below⟩
      · have d5 : (x == id) = false := by simpa using he
        have NO2 := Aside0.mk (show id ∉ ids.take (j + 1) by
          rw [take_snoc_of hx.out]
          intro hz
          rcases List.mem_append.1 hz with hz | hz
          · exact NO.out hz
          · exact he (by simpa using hz : id = x).symm)
        clear he hx
        go_wp2_with fail
        go_roundw
        case rel => exact ⟨j + 1, by omega, by go_num, NO2, HW⟩
        case measure => simp [intOf]; omega
    · have hjn : j = m := by omega
      have RV := Aside0.mk (show decide (id ∈ ids) = false from decide_eq_false (by
        have h := NO.out
        rwa [List.take_of_length_le (by rw [LL.out]; omega)] at h))
      subst hjn
      go_wp2_with fail
      go_ret
      exact ⟨by rw [RV.out]; rfl, HW.out.below⟩
end Go.Proofs.Ytckdkbjobipniaa
