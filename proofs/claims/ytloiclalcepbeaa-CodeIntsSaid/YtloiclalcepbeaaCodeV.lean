/- The source: the lists of a message. Printed by gen/coder.py. -/
import Derived.Test.YtloiclalcepbeaaCodeU
import Derived.Test.YtloiclalcepbeaaCrow
set_option linter.unusedVariables false
set_option linter.unusedSimpArgs false
namespace Go.Proofs.Ytloiclalcepbeaa
open Go.RowKit Go.Proofs.YtloiclalcepbeaaW.PrintWords Go.Proofs.YtloiclalcepbeaaW.PrintLast
def rMany {α : Type} (one : List Int → Rd α) : Nat → List Int → Rd (List α)
  | 0, xs => .ok ([], xs)
  | k + 1, xs => (one xs).bind fun a ys => (rMany one k ys).bind fun l zs => .ok (a :: l, zs)
def rList {α : Type} (one : List Int → Rd α) (xs : List Int) : Rd (List α) := (rCount 1024 xs).bind fun n ys => rMany one n ys
theorem rCount_le {most : Int} (hm : 0 ≤ most) {xs ys : List Int} {n : Nat} (h : rCount most xs = .ok (n, ys)) : (n : Int) ≤ most := by
  unfold rCount at h
  split at h
  · cases h
  · rename_i m zs hr
    split at h
    · cases h
    · injection h with h
      injection h with h1 h2
      omega
theorem many_step {α : Type} {one : List Int → Rd α} {r : Rd (List α)} {l : List α} {k : Nat} {xs ys : List Int} {a : α} (h : r = (rMany one (k + 1) xs).bind fun l' vs => .ok (l ++ l', vs)) (h1 : one xs = .ok (a, ys)) :
    r = (rMany one k ys).bind fun l' vs => .ok ((l ++ [a]) ++ l', vs) := by
  rw [h]
  show ((one xs).bind fun a ys => (rMany one k ys).bind fun l zs => .ok (a :: l, zs)).bind _ = _
  rw [Rd.bind_ok h1]
  cases hr : rMany one k ys with
  | error e => rfl
  | ok p => simp [Rd.bind]
theorem many_err {α : Type} {one : List Int → Rd α} {r : Rd (List α)} {l : List α} {k : Nat} {xs : List Int} {c : Int} (h : r = (rMany one (k + 1) xs).bind fun l' vs => .ok (l ++ l', vs)) (h1 : one xs = .error c) : r = .error c := by
  rw [h]
  show ((one xs).bind fun a ys => (rMany one k ys).bind fun l zs => .ok (a :: l, zs)).bind _ = _
  rw [Rd.bind_err h1]; rfl
theorem many_end {α : Type} {one : List Int → Rd α} {r : Rd (List α)} {l : List α} {xs : List Int} (h : r = (rMany one 0 xs).bind fun l' vs => .ok (l ++ l', vs)) : r = .ok (l, xs) := by
  rw [h]
  show Except.ok (l ++ [], xs) = _
  rw [List.append_nil]
theorem flat_at {α : Type} (cs : α → List Value) (sz : Nat) (hl : ∀ x, (cs x).length = sz) : ∀ (l : List α) (j i : Nat) (x : α), l[j]? = some x → i < sz → (l.flatMap cs)[j * sz + i]? = (cs x)[i]?
  | [], j, i, x, h, _ => by simp at h
  | y :: l, 0, i, x, h, hi => by
    obtain rfl : y = x := by simpa using h
    rw [List.flatMap_cons, Nat.zero_mul, Nat.zero_add, List.getElem?_append_left (by rw [hl]; exact hi)]
  | y :: l, j + 1, i, x, h, hi => by
    rw [List.flatMap_cons, List.getElem?_append_right (by rw [hl, Nat.add_mul]; omega), hl, show (j + 1) * sz + i - sz = j * sz + i by rw [Nat.add_mul]; omega]
    exact flat_at cs sz hl l j i x (by simpa using h) hi
theorem crow_C {α : Type} {d : Kd α} {w0 w : World} {F : HP} {e n c : Nat} {A : Option Addr} {l : List α} (cs : α → List Value) (hK : ∀ w x, d.K w x (cs x)) (hz : 0 < d.sz) (h : Hw w0 w (crow d.sz e A n c (l.flatMap cs) * F)) (hn : l.length = n) (hm : n ≤ 9223372036854775807) : d.C w A n l := by
  refine ⟨hn, hm, fun hp => ?_⟩
  obtain ⟨ad, e, hc⟩ := crow_reads h hp
  refine ⟨ad, e, fun j p hj => ⟨cs p, d.K_len (hK w p), hK w p, fun i u hu => ?_⟩⟩
  have hi : i < d.sz := by
    have := (List.getElem?_eq_some_iff.1 hu).1
    rwa [d.K_len (hK w p)] at this
  exact hc _ _ (by rw [flat_at cs d.sz (fun x => d.K_len (hK w x)) l j i p hj hi]; exact hu)
abbrev intC (n : Int) : List Value := [.int .i64 n]
theorem KInt_mk (w : World) (x : Int) : (Kd.int .i64).K w x (intC x) := rfl
theorem KMut_mk (w : World) (x : Mut) : KMut.K w x (mutC x) := ⟨[.bool x.1], _, rfl, rfl, [.string x.2.1], _, rfl, rfl, [.string x.2.2.1], [.string x.2.2.2], rfl, rfl, rfl⟩
theorem KRow_mk (w : World) (x : Rw) : KRow.K w x (rowC x) := ⟨[.string x.1.1, .string x.1.2.1, .string x.1.2.2], _, rfl, ⟨[.string x.1.1], _, rfl, rfl, [.string x.1.2.1], [.string x.1.2.2], rfl, rfl, rfl⟩, [.int .i64 x.2.1], [.int .i64 x.2.2], rfl, rfl, rfl⟩
theorem Try.infoInt : (Try.prog.info? 3).map (fun i => (i.zero, i.size, i.bytes)) = some (some (.int .i64 0), 1, 8) := by kernel_rfl
theorem Try.infoMut : (Try.prog.info? 83).map (fun i => (i.zero, i.size, i.bytes)) = some (some (.agg #[.bool false, .string ⟨#[]⟩, .string ⟨#[]⟩, .string ⟨#[]⟩]), 4, 56) := by kernel_rfl
theorem Try.infoCond : (Try.prog.info? 91).map (fun i => (i.zero, i.size, i.bytes)) = some (some (.agg #[.bool false, .string ⟨#[]⟩, .string ⟨#[]⟩, .string ⟨#[]⟩]), 4, 56) := by kernel_rfl
theorem Try.infoRow : (Try.prog.info? 93).map (fun i => (i.zero, i.size, i.bytes)) = some (some (.agg #[.string ⟨#[]⟩, .string ⟨#[]⟩, .string ⟨#[]⟩, .int .i64 0, .int .i64 0]), 5, 64) := by kernel_rfl
section
variable {w0 w : World} {F : HP} {p b : Nat} {xs : List Int}

set_option maxHeartbeats 3200000 in
set_option maxRecDepth 100000 in
theorem rlist1_ok (h : Hw w0 w (srcP w0 p xs * (scapP b p * F))) :
    Calls Try.prog 64 #[.pointer (some ⟨p, 0, none⟩), .func (.func 65) #[] #[.pointer (some ⟨b, 0, none⟩)]] w fun e w' =>
      (∃ l ys A n c, rList rInt xs = .ok (l, ys) ∧ n = l.length ∧ n ≤ 1024 ∧ e = .returned (.slice A n c) ∧ Hw w0 w' (srcP w0 p ys * (crow 1 3 A n c (l.flatMap intC) * (scapP b p * F)))) ∨
      (∃ c ys, rList rInt xs = .error c ∧ c ≠ 0 ∧ e = thrown c ∧ Hw w0 w' (srcP w0 p ys * (scapP b p * F))) := by
  have R := Aside0.mk (rcount_ok 1024 (by decide) h)
  have RT := Aside0.mk (show rList rInt xs = (rCount 1024 xs).bind fun n ys => rMany rInt n ys from rfl)
  clear h
  go_enter Try.func64, Try.ntmps64
  go_wp2_with fail
  refine R.out.mono ?_
  rintro e w1 (⟨n, ys, hr, rfl, g⟩ | ⟨c, ys, hr, hc, rfl, g⟩)
  · have hn1024 : n ≤ 1024 := by have := rCount_le (by decide) hr; omega
    have R1 := Aside0.mk (show rList rInt xs = (rMany rInt (n - 0) ys).bind fun l' vs => .ok (([] : List _) ++ l', vs) by
      rw [RT.out, Rd.bind_ok hr, Nat.sub_zero]
      cases rMany rInt n ys with
      | error e => rfl
      | ok p => rfl)
    have G := Aside0.mk ((crow_none (sz := 1) (e := 3) (A := none) (n := 0) (cs := []) rfl rfl g).as (Q := srcP w0 p ys * (crow 1 3 none 0 0 (([] : List _).flatMap intC) * (scapP b p * F))) (HP.left_comm _ _ _))
    clear g hr RT R
    go_wp2_with fail
    go_loopw [8, 5] (fun i v wr => ∃ (k : Nat) (l : List _) (A : Option Addr) (c : Nat) (zs : List Int), k ≤ n ∧ i = .int .i64 k ∧ v = .slice A k c ∧ Aside0 (l.length = k) ∧ Aside0 (rList rInt xs = (rMany rInt (n - k) zs).bind fun l' vs => .ok (l ++ l', vs)) ∧
      Aside0 (Hw w0 wr (srcP w0 p zs * (crow 1 3 A k c (l.flatMap intC) * (scapP b p * F))))) (fun i _ _ => n - (intOf i).toNat)
    case atStart => exact ⟨0, [], none, 0, ys, Nat.zero_le _, rfl, rfl, ⟨rfl⟩, R1, G⟩
    case round =>
      obtain ⟨k, l, A, c, zs, hk, rfl, rfl, LL, RR, HW⟩ := hrel
      clear G R1
      by_cases hlt : k < n
      · have RX := Aside0.mk (show rList rInt xs = (rMany rInt (n - (k + 1) + 1) zs).bind fun l' vs => .ok (l ++ l', vs) by rw [show n - (k + 1) + 1 = n - k by omega]; exact RR.out)
        have O := Aside0.mk (r1_one (HW.out.as (Q := srcP w0 p zs * (scapP b p * (crow 1 3 A k c (l.flatMap intC) * F))) (by ac_rfl)))
        clear RR HW
        go_wp2_with fail
        refine O.out.mono ?_
        rintro e w2 (⟨a, vs, hr, rfl, g⟩ | ⟨ce, vs, hr, hc, rfl, g⟩)
        · have R2 := Aside0.mk (many_step RX.out hr)
          have H4 := Aside0.mk ((g.alloc (.cells (intC a).toArray 3)).as (Q := crow 1 3 A k c (l.flatMap intC) * (blk w2.heap.size (.cells (intC a).toArray 3) * (srcP w0 p vs * (scapP b p * F)))) (by ac_rfl))
          have BC := Aside0.mk (blk_cells (H4.out.atB w2.heap.size))
          have FM := Aside0.mk (show (l ++ [a]).flatMap intC = l.flatMap intC ++ intC a by simp)
          clear g hr RX O
          go_wp2_with (at_builtin; refine crow_append (news := intC a) (m := 1) (c := 1) rfl (.tmp 10) (.tmp 13) 48 (.int .i64 0) 8 rfl Try.underlying48 Try.infoInt rfl (by decide) rfl rfl H4.out rfl (by intro u hu; simp only [List.mem_cons, List.not_mem_nil, or_false] at hu; rcases hu with rfl <;> rfl) (fun _ => ⟨_, rfl, BC.out⟩) (by decide) (by omega) ?_; intro A3 c3' w5 h5)
          go_roundw
          case rel => exact ⟨k + 1, l ++ [a], A3, c3', vs, by omega, by go_num, rfl, ⟨by rw [List.length_append, LL.out]; rfl⟩, R2, ⟨by rw [FM.out]; exact (h5.out.dropB w2.heap.size).as (HP.left_comm _ _ _)⟩⟩
          case measure => simp [intOf]; omega
        · exact ⟨rfl, .inr ⟨ce, vs, many_err RX.out hr, hc, rfl, (g.as (Q := srcP w0 p vs * (scapP b p * F) * crow 1 3 A k c (l.flatMap intC)) (by ac_rfl)).left⟩⟩
      · have hk2 : k = n := by omega
        subst hk2
        have RR2 := RR.out
        rw [Nat.sub_self] at RR2
        have RE := Aside0.mk (many_end RR2)
        clear RR RR2
        go_wp2_with fail
        go_ret
        exact .inl ⟨l, zs, A, k, c, RE.out, LL.out.symm, hn1024, rfl, HW.out⟩
  · exact ⟨rfl, .inr ⟨c, ys, RT.out.trans (Rd.bind_err hr _), hc, rfl, g⟩⟩

set_option maxHeartbeats 3200000 in
set_option maxRecDepth 100000 in
theorem rlist2_ok (h : Hw w0 w (srcP w0 p xs * (scapP b p * F))) :
    Calls Try.prog 66 #[.pointer (some ⟨p, 0, none⟩), .func (.func 67) #[] #[.pointer (some ⟨b, 0, none⟩)]] w fun e w' =>
      (∃ l ys A n c, rList rMut xs = .ok (l, ys) ∧ n = l.length ∧ n ≤ 1024 ∧ e = .returned (.slice A n c) ∧ Hw w0 w' (srcP w0 p ys * (crow 4 83 A n c (l.flatMap mutC) * (scapP b p * F)))) ∨
      (∃ c ys, rList rMut xs = .error c ∧ c ≠ 0 ∧ e = thrown c ∧ Hw w0 w' (srcP w0 p ys * (scapP b p * F))) := by
  have R := Aside0.mk (rcount_ok 1024 (by decide) h)
  have RT := Aside0.mk (show rList rMut xs = (rCount 1024 xs).bind fun n ys => rMany rMut n ys from rfl)
  clear h
  go_enter Try.func66, Try.ntmps66
  go_wp2_with fail
  refine R.out.mono ?_
  rintro e w1 (⟨n, ys, hr, rfl, g⟩ | ⟨c, ys, hr, hc, rfl, g⟩)
  · have hn1024 : n ≤ 1024 := by have := rCount_le (by decide) hr; omega
    have R1 := Aside0.mk (show rList rMut xs = (rMany rMut (n - 0) ys).bind fun l' vs => .ok (([] : List _) ++ l', vs) by
      rw [RT.out, Rd.bind_ok hr, Nat.sub_zero]
      cases rMany rMut n ys with
      | error e => rfl
      | ok p => rfl)
    have G := Aside0.mk ((crow_none (sz := 4) (e := 83) (A := none) (n := 0) (cs := []) rfl rfl g).as (Q := srcP w0 p ys * (crow 4 83 none 0 0 (([] : List _).flatMap mutC) * (scapP b p * F))) (HP.left_comm _ _ _))
    clear g hr RT R
    go_wp2_with fail
    go_loopw [8, 5] (fun i v wr => ∃ (k : Nat) (l : List _) (A : Option Addr) (c : Nat) (zs : List Int), k ≤ n ∧ i = .int .i64 k ∧ v = .slice A k c ∧ Aside0 (l.length = k) ∧ Aside0 (rList rMut xs = (rMany rMut (n - k) zs).bind fun l' vs => .ok (l ++ l', vs)) ∧
      Aside0 (Hw w0 wr (srcP w0 p zs * (crow 4 83 A k c (l.flatMap mutC) * (scapP b p * F))))) (fun i _ _ => n - (intOf i).toNat)
    case atStart => exact ⟨0, [], none, 0, ys, Nat.zero_le _, rfl, rfl, ⟨rfl⟩, R1, G⟩
    case round =>
      obtain ⟨k, l, A, c, zs, hk, rfl, rfl, LL, RR, HW⟩ := hrel
      clear G R1
      by_cases hlt : k < n
      · have RX := Aside0.mk (show rList rMut xs = (rMany rMut (n - (k + 1) + 1) zs).bind fun l' vs => .ok (l ++ l', vs) by rw [show n - (k + 1) + 1 = n - k by omega]; exact RR.out)
        have O := Aside0.mk (r2_one (HW.out.as (Q := srcP w0 p zs * (scapP b p * (crow 4 83 A k c (l.flatMap mutC) * F))) (by ac_rfl)))
        clear RR HW
        go_wp2_with fail
        refine O.out.mono ?_
        rintro e w2 (⟨a, vs, hr, rfl, g⟩ | ⟨ce, vs, hr, hc, rfl, g⟩)
        · have R2 := Aside0.mk (many_step RX.out hr)
          have H4 := Aside0.mk ((g.alloc (.cells (mutC a).toArray 83)).as (Q := crow 4 83 A k c (l.flatMap mutC) * (blk w2.heap.size (.cells (mutC a).toArray 83) * (srcP w0 p vs * (scapP b p * F)))) (by ac_rfl))
          have BC := Aside0.mk (blk_cells (H4.out.atB w2.heap.size))
          have FM := Aside0.mk (show (l ++ [a]).flatMap mutC = l.flatMap mutC ++ mutC a by simp)
          clear g hr RX O
          go_wp2_with (at_builtin; refine crow_append (news := mutC a) (m := 1) (c := 1) rfl (.tmp 10) (.tmp 13) 49 (.agg #[.bool false, .string ⟨#[]⟩, .string ⟨#[]⟩, .string ⟨#[]⟩]) 56 rfl Try.underlying49 Try.infoMut rfl (by decide) rfl rfl H4.out rfl (by intro u hu; simp only [List.mem_cons, List.not_mem_nil, or_false] at hu; rcases hu with rfl | rfl | rfl | rfl <;> rfl) (fun _ => ⟨_, rfl, BC.out⟩) (by decide) (by omega) ?_; intro A3 c3' w5 h5)
          go_roundw
          case rel => exact ⟨k + 1, l ++ [a], A3, c3', vs, by omega, by go_num, rfl, ⟨by rw [List.length_append, LL.out]; rfl⟩, R2, ⟨by rw [FM.out]; exact (h5.out.dropB w2.heap.size).as (HP.left_comm _ _ _)⟩⟩
          case measure => simp [intOf]; omega
        · exact ⟨rfl, .inr ⟨ce, vs, many_err RX.out hr, hc, rfl, (g.as (Q := srcP w0 p vs * (scapP b p * F) * crow 4 83 A k c (l.flatMap mutC)) (by ac_rfl)).left⟩⟩
      · have hk2 : k = n := by omega
        subst hk2
        have RR2 := RR.out
        rw [Nat.sub_self] at RR2
        have RE := Aside0.mk (many_end RR2)
        clear RR RR2
        go_wp2_with fail
        go_ret
        exact .inl ⟨l, zs, A, k, c, RE.out, LL.out.symm, hn1024, rfl, HW.out⟩
  · exact ⟨rfl, .inr ⟨c, ys, RT.out.trans (Rd.bind_err hr _), hc, rfl, g⟩⟩

set_option maxHeartbeats 3200000 in
set_option maxRecDepth 100000 in
theorem rlist3_ok (h : Hw w0 w (srcP w0 p xs * (scapP b p * F))) :
    Calls Try.prog 69 #[.pointer (some ⟨p, 0, none⟩), .func (.func 70) #[] #[.pointer (some ⟨b, 0, none⟩)]] w fun e w' =>
      (∃ l ys A n c, rList rMut xs = .ok (l, ys) ∧ n = l.length ∧ n ≤ 1024 ∧ e = .returned (.slice A n c) ∧ Hw w0 w' (srcP w0 p ys * (crow 4 91 A n c (l.flatMap mutC) * (scapP b p * F)))) ∨
      (∃ c ys, rList rMut xs = .error c ∧ c ≠ 0 ∧ e = thrown c ∧ Hw w0 w' (srcP w0 p ys * (scapP b p * F))) := by
  have R := Aside0.mk (rcount_ok 1024 (by decide) h)
  have RT := Aside0.mk (show rList rMut xs = (rCount 1024 xs).bind fun n ys => rMany rMut n ys from rfl)
  clear h
  go_enter Try.func69, Try.ntmps69
  go_wp2_with fail
  refine R.out.mono ?_
  rintro e w1 (⟨n, ys, hr, rfl, g⟩ | ⟨c, ys, hr, hc, rfl, g⟩)
  · have hn1024 : n ≤ 1024 := by have := rCount_le (by decide) hr; omega
    have R1 := Aside0.mk (show rList rMut xs = (rMany rMut (n - 0) ys).bind fun l' vs => .ok (([] : List _) ++ l', vs) by
      rw [RT.out, Rd.bind_ok hr, Nat.sub_zero]
      cases rMany rMut n ys with
      | error e => rfl
      | ok p => rfl)
    have G := Aside0.mk ((crow_none (sz := 4) (e := 91) (A := none) (n := 0) (cs := []) rfl rfl g).as (Q := srcP w0 p ys * (crow 4 91 none 0 0 (([] : List _).flatMap mutC) * (scapP b p * F))) (HP.left_comm _ _ _))
    clear g hr RT R
    go_wp2_with fail
    go_loopw [8, 5] (fun i v wr => ∃ (k : Nat) (l : List _) (A : Option Addr) (c : Nat) (zs : List Int), k ≤ n ∧ i = .int .i64 k ∧ v = .slice A k c ∧ Aside0 (l.length = k) ∧ Aside0 (rList rMut xs = (rMany rMut (n - k) zs).bind fun l' vs => .ok (l ++ l', vs)) ∧
      Aside0 (Hw w0 wr (srcP w0 p zs * (crow 4 91 A k c (l.flatMap mutC) * (scapP b p * F))))) (fun i _ _ => n - (intOf i).toNat)
    case atStart => exact ⟨0, [], none, 0, ys, Nat.zero_le _, rfl, rfl, ⟨rfl⟩, R1, G⟩
    case round =>
      obtain ⟨k, l, A, c, zs, hk, rfl, rfl, LL, RR, HW⟩ := hrel
      clear G R1
      by_cases hlt : k < n
      · have RX := Aside0.mk (show rList rMut xs = (rMany rMut (n - (k + 1) + 1) zs).bind fun l' vs => .ok (l ++ l', vs) by rw [show n - (k + 1) + 1 = n - k by omega]; exact RR.out)
        have O := Aside0.mk (r3_one (HW.out.as (Q := srcP w0 p zs * (scapP b p * (crow 4 91 A k c (l.flatMap mutC) * F))) (by ac_rfl)))
        clear RR HW
        go_wp2_with fail
        refine O.out.mono ?_
        rintro e w2 (⟨a, vs, hr, rfl, g⟩ | ⟨ce, vs, hr, hc, rfl, g⟩)
        · have R2 := Aside0.mk (many_step RX.out hr)
          have H4 := Aside0.mk ((g.alloc (.cells (mutC a).toArray 91)).as (Q := crow 4 91 A k c (l.flatMap mutC) * (blk w2.heap.size (.cells (mutC a).toArray 91) * (srcP w0 p vs * (scapP b p * F)))) (by ac_rfl))
          have BC := Aside0.mk (blk_cells (H4.out.atB w2.heap.size))
          have FM := Aside0.mk (show (l ++ [a]).flatMap mutC = l.flatMap mutC ++ mutC a by simp)
          clear g hr RX O
          go_wp2_with (at_builtin; refine crow_append (news := mutC a) (m := 1) (c := 1) rfl (.tmp 10) (.tmp 13) 50 (.agg #[.bool false, .string ⟨#[]⟩, .string ⟨#[]⟩, .string ⟨#[]⟩]) 56 rfl Try.underlying50 Try.infoCond rfl (by decide) rfl rfl H4.out rfl (by intro u hu; simp only [List.mem_cons, List.not_mem_nil, or_false] at hu; rcases hu with rfl | rfl | rfl | rfl <;> rfl) (fun _ => ⟨_, rfl, BC.out⟩) (by decide) (by omega) ?_; intro A3 c3' w5 h5)
          go_roundw
          case rel => exact ⟨k + 1, l ++ [a], A3, c3', vs, by omega, by go_num, rfl, ⟨by rw [List.length_append, LL.out]; rfl⟩, R2, ⟨by rw [FM.out]; exact (h5.out.dropB w2.heap.size).as (HP.left_comm _ _ _)⟩⟩
          case measure => simp [intOf]; omega
        · exact ⟨rfl, .inr ⟨ce, vs, many_err RX.out hr, hc, rfl, (g.as (Q := srcP w0 p vs * (scapP b p * F) * crow 4 91 A k c (l.flatMap mutC)) (by ac_rfl)).left⟩⟩
      · have hk2 : k = n := by omega
        subst hk2
        have RR2 := RR.out
        rw [Nat.sub_self] at RR2
        have RE := Aside0.mk (many_end RR2)
        clear RR RR2
        go_wp2_with fail
        go_ret
        exact .inl ⟨l, zs, A, k, c, RE.out, LL.out.symm, hn1024, rfl, HW.out⟩
  · exact ⟨rfl, .inr ⟨c, ys, RT.out.trans (Rd.bind_err hr _), hc, rfl, g⟩⟩

set_option maxHeartbeats 3200000 in
set_option maxRecDepth 100000 in
theorem rlist4_ok (h : Hw w0 w (srcP w0 p xs * (scapP b p * F))) :
    Calls Try.prog 71 #[.pointer (some ⟨p, 0, none⟩), .func (.func 72) #[] #[.pointer (some ⟨b, 0, none⟩)]] w fun e w' =>
      (∃ l ys A n c, rList rRow xs = .ok (l, ys) ∧ n = l.length ∧ n ≤ 1024 ∧ e = .returned (.slice A n c) ∧ Hw w0 w' (srcP w0 p ys * (crow 5 93 A n c (l.flatMap rowC) * (scapP b p * F)))) ∨
      (∃ c ys, rList rRow xs = .error c ∧ c ≠ 0 ∧ e = thrown c ∧ Hw w0 w' (srcP w0 p ys * (scapP b p * F))) := by
  have R := Aside0.mk (rcount_ok 1024 (by decide) h)
  have RT := Aside0.mk (show rList rRow xs = (rCount 1024 xs).bind fun n ys => rMany rRow n ys from rfl)
  clear h
  go_enter Try.func71, Try.ntmps71
  go_wp2_with fail
  refine R.out.mono ?_
  rintro e w1 (⟨n, ys, hr, rfl, g⟩ | ⟨c, ys, hr, hc, rfl, g⟩)
  · have hn1024 : n ≤ 1024 := by have := rCount_le (by decide) hr; omega
    have R1 := Aside0.mk (show rList rRow xs = (rMany rRow (n - 0) ys).bind fun l' vs => .ok (([] : List _) ++ l', vs) by
      rw [RT.out, Rd.bind_ok hr, Nat.sub_zero]
      cases rMany rRow n ys with
      | error e => rfl
      | ok p => rfl)
    have G := Aside0.mk ((crow_none (sz := 5) (e := 93) (A := none) (n := 0) (cs := []) rfl rfl g).as (Q := srcP w0 p ys * (crow 5 93 none 0 0 (([] : List _).flatMap rowC) * (scapP b p * F))) (HP.left_comm _ _ _))
    clear g hr RT R
    go_wp2_with fail
    go_loopw [8, 5] (fun i v wr => ∃ (k : Nat) (l : List _) (A : Option Addr) (c : Nat) (zs : List Int), k ≤ n ∧ i = .int .i64 k ∧ v = .slice A k c ∧ Aside0 (l.length = k) ∧ Aside0 (rList rRow xs = (rMany rRow (n - k) zs).bind fun l' vs => .ok (l ++ l', vs)) ∧
      Aside0 (Hw w0 wr (srcP w0 p zs * (crow 5 93 A k c (l.flatMap rowC) * (scapP b p * F))))) (fun i _ _ => n - (intOf i).toNat)
    case atStart => exact ⟨0, [], none, 0, ys, Nat.zero_le _, rfl, rfl, ⟨rfl⟩, R1, G⟩
    case round =>
      obtain ⟨k, l, A, c, zs, hk, rfl, rfl, LL, RR, HW⟩ := hrel
      clear G R1
      by_cases hlt : k < n
      · have RX := Aside0.mk (show rList rRow xs = (rMany rRow (n - (k + 1) + 1) zs).bind fun l' vs => .ok (l ++ l', vs) by rw [show n - (k + 1) + 1 = n - k by omega]; exact RR.out)
        have O := Aside0.mk (r4_one (HW.out.as (Q := srcP w0 p zs * (scapP b p * (crow 5 93 A k c (l.flatMap rowC) * F))) (by ac_rfl)))
        clear RR HW
        go_wp2_with fail
        refine O.out.mono ?_
        rintro e w2 (⟨a, vs, hr, rfl, g⟩ | ⟨ce, vs, hr, hc, rfl, g⟩)
        · have R2 := Aside0.mk (many_step RX.out hr)
          have H4 := Aside0.mk ((g.alloc (.cells (rowC a).toArray 93)).as (Q := crow 5 93 A k c (l.flatMap rowC) * (blk w2.heap.size (.cells (rowC a).toArray 93) * (srcP w0 p vs * (scapP b p * F)))) (by ac_rfl))
          have BC := Aside0.mk (blk_cells (H4.out.atB w2.heap.size))
          have FM := Aside0.mk (show (l ++ [a]).flatMap rowC = l.flatMap rowC ++ rowC a by simp)
          clear g hr RX O
          go_wp2_with (at_builtin; refine crow_append (news := rowC a) (m := 1) (c := 1) rfl (.tmp 10) (.tmp 13) 51 (.agg #[.string ⟨#[]⟩, .string ⟨#[]⟩, .string ⟨#[]⟩, .int .i64 0, .int .i64 0]) 64 rfl Try.underlying51 Try.infoRow rfl (by decide) rfl rfl H4.out rfl (by intro u hu; simp only [List.mem_cons, List.not_mem_nil, or_false] at hu; rcases hu with rfl | rfl | rfl | rfl | rfl <;> rfl) (fun _ => ⟨_, rfl, BC.out⟩) (by decide) (by omega) ?_; intro A3 c3' w5 h5)
          go_roundw
          case rel => exact ⟨k + 1, l ++ [a], A3, c3', vs, by omega, by go_num, rfl, ⟨by rw [List.length_append, LL.out]; rfl⟩, R2, ⟨by rw [FM.out]; exact (h5.out.dropB w2.heap.size).as (HP.left_comm _ _ _)⟩⟩
          case measure => simp [intOf]; omega
        · exact ⟨rfl, .inr ⟨ce, vs, many_err RX.out hr, hc, rfl, (g.as (Q := srcP w0 p vs * (scapP b p * F) * crow 5 93 A k c (l.flatMap rowC)) (by ac_rfl)).left⟩⟩
      · have hk2 : k = n := by omega
        subst hk2
        have RR2 := RR.out
        rw [Nat.sub_self] at RR2
        have RE := Aside0.mk (many_end RR2)
        clear RR RR2
        go_wp2_with fail
        go_ret
        exact .inl ⟨l, zs, A, k, c, RE.out, LL.out.symm, hn1024, rfl, HW.out⟩
  · exact ⟨rfl, .inr ⟨c, ys, RT.out.trans (Rd.bind_err hr _), hc, rfl, g⟩⟩
end
end Go.Proofs.Ytloiclalcepbeaa
