/- The source: a message read. Printed by gen/coderm.py. -/
import Derived.Test.YtloiclalcepbeaaCodeW
set_option linter.unusedVariables false
set_option linter.unusedSimpArgs false
namespace Go.Proofs.Ytloiclalcepbeaa
open Go.RowKit Go.Proofs.YtloiclalcepbeaaW.PrintWords Go.Proofs.YtloiclalcepbeaaW.PrintLast
theorem ptr3_at (pm k : Nat) (h : k < 3) : (#[.pointer (some ⟨pm, 0, none⟩), .pointer (some ⟨pm, 1, none⟩), .pointer (some ⟨pm, 2, none⟩)] : Array Value)[k]? = some (.pointer (some ⟨pm, k, none⟩)) := by
  match k, h with
  | 0, _ => rfl
  | 1, _ => rfl
  | 2, _ => rfl
def intsV (l : List Int) : List Value := l.map (Value.int .i64)
theorem intsV_len (l : List Int) : (intsV l).length = l.length := by simp [intsV]
theorem intsV_snoc (l : List Int) (x : Int) : intsV (l ++ [x]) = intsV l ++ [.int .i64 x] := by simp [intsV]
/-- A message's lists, owned. -/
def listsP (n : List Int) (u p : List Mut) (r : List Rw) (s1 s2 s3 s4 : Hdr) : HP :=
  crow 1 3 s1.1 s1.2.1 s1.2.2 (n.flatMap intC) * (crow 4 83 s2.1 s2.2.1 s2.2.2 (u.flatMap mutC) * (crow 4 91 s3.1 s3.2.1 s3.2.2 (p.flatMap mutC) * crow 5 93 s4.1 s4.2.1 s4.2.2 (r.flatMap rowC)))
structure HdrsOf (m : Msg) (s1 s2 s3 s4 : Hdr) : Prop where
  l1 : s1.2.1 = m.nodes.length ∧ s1.2.1 ≤ 1024
  l2 : s2.2.1 = m.muts.length ∧ s2.2.1 ≤ 1024
  l3 : s3.2.1 = m.pre.length ∧ s3.2.1 ≤ 1024
  l4 : s4.2.1 = m.rows.length ∧ s4.2.1 ≤ 1024
abbrev hdrV (s : Hdr) : Value := .slice s.1 s.2.1 s.2.2
abbrev msgCells (m : Msg) (s1 s2 s3 s4 : Hdr) : Array Value := #[.int .i64 m.kind, .int .i64 m.src, .int .i64 m.dst, .int .i64 m.id, .int .i64 m.rev, .int .i64 m.epoch, .int .i64 m.slot, .bool m.flag, .slice s1.1 s1.2.1 s1.2.2, .slice s2.1 s2.2.1 s2.2.2, .slice s3.1 s3.2.1 s3.2.2, .slice s4.1 s4.2.1 s4.2.2]
theorem mcells_full (l : List Int) (h : l.length = 7) (f : Bool) (n : List Int) (u p : List Mut) (r : List Rw) (s1 s2 s3 s4 : Hdr) : mcells (intsV l ++ [.bool f] ++ [.slice s1.1 s1.2.1 s1.2.2] ++ [.slice s2.1 s2.2.1 s2.2.2] ++ [.slice s3.1 s3.2.1 s3.2.2] ++ [.slice s4.1 s4.2.1 s4.2.2]) = msgCells (mkMsg l f n u p r) s1 s2 s3 s4 := by
  match l, h with
  | [a, b, c, d, e, g, i], _ => rfl
set_option maxHeartbeats 12800000 in
set_option maxRecDepth 100000 in
theorem rmessage_ok {w0 w : World} {F : HP} {p pm : Nat} {xs : List Int} (h : Hw w0 w (srcP w0 p xs * (blk pm (.cells (mcells []) 53) * F))) :
    Calls Try.prog 43 #[.pointer (some ⟨p, 0, none⟩), .pointer (some ⟨pm, 0, none⟩)] w fun e w' =>
      (∃ m ys s1 s2 s3 s4, rMsg xs = .ok (m, ys) ∧ HdrsOf m s1 s2 s3 s4 ∧ e = .returned (.int .i64 0) ∧ Hw w0 w' (srcP w0 p ys * (blk pm (.cells (msgCells m s1 s2 s3 s4) 53) * (listsP m.nodes m.muts m.pre m.rows s1 s2 s3 s4 * F)))) ∨
      (∃ c, rMsg xs = .error c ∧ c ≠ 0 ∧ e = .returned (.int .i64 c) ∧ Hw w0 w' F) := by
  have hmf : ∀ (fn : Fn) (first cap : Array Value) (w : World), (Instr.makeFunc fn first cap).run Try.prog w = .ok (.func fn first cap) w := fun _ _ _ _ => rfl
  have R0 := Aside0.mk (show rMsg xs = (rMany rInt 7 xs).bind fun l' vs => rRest ([] ++ l') vs from rfl)
  have H1 := Aside0.mk ((((h.alloc (.cells #[.pointer (some ⟨p, 0, none⟩)] 94)).alloc (.cells #[.int .i64 0] 25)).alloc (.cells #[.pointer (some ⟨pm, 0, none⟩), .pointer (some ⟨pm, 1, none⟩), .pointer (some ⟨pm, 2, none⟩)] 124)).drew)
  simp only [World.size_alloc] at H1
  clear h
  go_enter_defers Try.func43, Try.ntmps43
  go_wp2_with fail
  refine start_ (n := 12) (S := fun w' => True) (ds := []) #[false, false, false, false, false, false, false, false, false, false, false, false] (by kernel_rfl) rfl rfl trivial (fun hHeld => ?_)
  refine pure_ (i := 0) (N := some 7) (v := ?_) (a' := ?_) #[true, false, false, false, false, false, false, false, false, false, false, false] rfl rfl (by kernel_rfl) (hq43 (by decide)) (Or.inl ⟨by rfl, ?_⟩) ?_ ?_
  rotate_left
  · intro w'
    go_simp
    with_reducible rfl
  rotate_left
  · simp only [Act.put, List.setIfInBounds_toArray, List.set_cons_zero, List.set_cons_succ, i64_w, i32_w]
    rfl
  refine pure_ (i := 1) (N := some 8) (v := ?_) (a' := ?_) #[true, true, false, false, false, false, false, false, false, false, false, false] rfl rfl (by kernel_rfl) (hq43 (by decide)) (Or.inl ⟨by rfl, ?_⟩) ?_ ?_
  rotate_left
  · intro w'
    go_simp
    with_reducible rfl
  rotate_left
  · simp only [Act.put, List.setIfInBounds_toArray, List.set_cons_zero, List.set_cons_succ, i64_w, i32_w]
    rfl
  refine pure_ (i := 2) (N := some 9) (v := ?_) (a' := ?_) #[true, true, true, false, false, false, false, false, false, false, false, false] rfl rfl (by kernel_rfl) (hq43 (by decide)) (Or.inl ⟨by rfl, ?_⟩) ?_ ?_
  rotate_left
  · intro w'
    go_simp
    with_reducible rfl
  rotate_left
  · simp only [Act.put, List.setIfInBounds_toArray, List.set_cons_zero, List.set_cons_succ, i64_w, i32_w]
    rfl
  refine pure_ (i := 3) (N := some 10) (v := ?_) (a' := ?_) #[true, true, true, true, false, false, false, false, false, false, false, false] rfl rfl (by kernel_rfl) (hq43 (by decide)) (Or.inl ⟨by rfl, ?_⟩) ?_ ?_
  rotate_left
  · intro w'
    go_simp
    with_reducible rfl
  rotate_left
  · simp only [Act.put, List.setIfInBounds_toArray, List.set_cons_zero, List.set_cons_succ, i64_w, i32_w]
    rfl
  refine pure_ (i := 4) (N := some 11) (v := ?_) (a' := ?_) #[true, true, true, true, true, false, false, false, false, false, false, false] rfl rfl (by kernel_rfl) (hq43 (by decide)) (Or.inl ⟨by rfl, ?_⟩) ?_ ?_
  rotate_left
  · intro w'
    go_simp
    with_reducible rfl
  rotate_left
  · simp only [Act.put, List.setIfInBounds_toArray, List.set_cons_zero, List.set_cons_succ, i64_w, i32_w]
    rfl
  refine pure_ (i := 5) (N := some 12) (v := ?_) (a' := ?_) #[true, true, true, true, true, true, false, false, false, false, false, false] rfl rfl (by kernel_rfl) (hq43 (by decide)) (Or.inl ⟨by rfl, ?_⟩) ?_ ?_
  rotate_left
  · intro w'
    go_simp
    with_reducible rfl
  rotate_left
  · simp only [Act.put, List.setIfInBounds_toArray, List.set_cons_zero, List.set_cons_succ, i64_w, i32_w]
    rfl
  refine pure_ (i := 6) (N := some 13) (v := ?_) (a' := ?_) #[true, true, true, true, true, true, true, false, false, false, false, false] rfl rfl (by kernel_rfl) (hq43 (by decide)) (Or.inl ⟨by rfl, ?_⟩) ?_ ?_
  rotate_left
  · intro w'
    go_simp
    with_reducible rfl
  rotate_left
  · simp only [Act.put, List.setIfInBounds_toArray, List.set_cons_zero, List.set_cons_succ, i64_w, i32_w]
    rfl
  refine pure_ (i := 7) (N := some 14) (v := ?_) (a' := ?_) #[true, true, true, true, true, true, true, true, false, false, false, false] rfl rfl (by kernel_rfl) (hq43 (by decide)) (Or.inl ⟨by rfl, ?_⟩) ?_ ?_
  rotate_left
  · intro w'
    go_simp
    with_reducible rfl
  rotate_left
  · simp only [Act.put, List.setIfInBounds_toArray, List.set_cons_zero, List.set_cons_succ, i64_w, i32_w]
    rfl
  refine pure_ (i := 8) (N := some 15) (v := ?_) (a' := ?_) #[true, true, true, true, true, true, true, true, true, false, false, false] rfl rfl (by kernel_rfl) (hq43 (by decide)) (Or.inl ⟨by rfl, ?_⟩) ?_ ?_
  rotate_left
  · intro w'
    go_simp
    with_reducible rfl
  rotate_left
  · simp only [Act.put, List.setIfInBounds_toArray, List.set_cons_zero, List.set_cons_succ, i64_w, i32_w]
    rfl
  refine pure_ (i := 11) (N := some 18) (v := ?_) (a' := ?_) #[true, true, true, true, true, true, true, true, true, false, false, true] rfl rfl (by kernel_rfl) (hq43 (by decide)) (Or.inl ⟨by rfl, ?_⟩) ?_ ?_
  rotate_left
  · intro w'
    go_simp
    with_reducible rfl
  rotate_left
  · simp only [Act.put, List.setIfInBounds_toArray, List.set_cons_zero, List.set_cons_succ, i64_w, i32_w]
    rfl
  refine one_ (i := 9) (N := some 16) #[true, true, true, true, true, true, true, true, true, true, false, true] rfl rfl (by kernel_rfl) (by decide) (fun K hK => ?_)
  refine value_ (w1 := ?_) (v := ?_) (by rfl) rfl ?_ ?_
  rotate_left 2
  · go_simp
    constructor
    · rfl
    · rfl
  refine hK.out _ _ trivial (fun hHeld => ?_)
  clear hK K
  refine norm_ (a' := ?_) ?_ ?_
  rotate_left
  · show Act.put _ (some 16) _ = _
    simp only [Act.put, List.setIfInBounds_toArray, List.set_cons_zero, List.set_cons_succ, i64_w, i32_w]
    rfl
  refine pure_ (i := 10) (N := some 17) (v := ?_) (a' := ?_) #[true, true, true, true, true, true, true, true, true, true, true, true] rfl rfl (by kernel_rfl) (hq43 (by decide)) (Or.inl ⟨by rfl, ?_⟩) ?_ ?_
  rotate_left
  · intro w'
    go_simp
    with_reducible rfl
  rotate_left
  · simp only [Act.put, List.setIfInBounds_toArray, List.set_cons_zero, List.set_cons_succ, i64_w, i32_w]
    rfl
  refine done_ (by kernel_rfl) ?_
  clear hHeld
  go_wp2_with fail
  obtain ⟨q, hq⟩ : ∃ q, q = w.heap.size := ⟨_, rfl⟩
  have G0 := Aside0.mk (H1.out.as (Q := srcP w0 p xs * (blk pm (.cells (mcells (intsV [])) 53) * (scapP w.heap.size p * (blk (w.heap.size + 1) (.cells #[.int .i64 0] 25) * (blk (w.heap.size + 1 + 1) (.cells #[.pointer (some ⟨pm, 0, none⟩), .pointer (some ⟨pm, 1, none⟩), .pointer (some ⟨pm, 2, none⟩)] 124) * F))))) (by unfold scapP; ac_rfl))
  rw [← hq] at G0 ⊢
  clear hq H1
  go_loopw [18] (fun i wr => ∃ (k : Nat) (l : List Int) (zs : List Int), k ≤ 3 ∧ i = .int .i64 k ∧ Aside0 (l.length = k) ∧ Aside0 (rMsg xs = (rMany rInt (7 - k) zs).bind fun l' vs => rRest (l ++ l') vs) ∧
    Aside0 (Hw w0 wr (srcP w0 p zs * (blk pm (.cells (mcells (intsV l)) 53) * (scapP q p * (blk (q + 1) (.cells #[.int .i64 0] 25) * (blk (q + 1 + 1) (.cells #[.pointer (some ⟨pm, 0, none⟩), .pointer (some ⟨pm, 1, none⟩), .pointer (some ⟨pm, 2, none⟩)] 124) * F))))))) (fun i _ => 3 - (intOf i).toNat)
  case atStart => exact ⟨0, [], xs, Nat.zero_le _, rfl, ⟨rfl⟩, R0, G0⟩
  case round =>
    obtain ⟨k, l, zs, hk, rfl, LL, RR, HW⟩ := hrel
    clear G0 R0
    by_cases hlt : k < 3
    · have RX := Aside0.mk (show rMsg xs = (rMany rInt (7 - (k + 1) + 1) zs).bind fun l' vs => rRest (l ++ l') vs by rw [show 7 - (k + 1) + 1 = 7 - k by omega]; exact RR.out)
      have k0 := HW.out.cellAt q 0 (v := .pointer (some ⟨p, 0, none⟩)) rfl
      have k1 := HW.out.cellAt (q + 1 + 1) k (v := .pointer (some ⟨pm, k, none⟩)) (ptr3_at pm k hlt)
      have O := Aside0.mk (rint_ok HW.out)
      clear RR HW
      go_wp2_with fail
      refine O.out.mono ?_
      rintro e w2 (⟨a, vs, hr, rfl, g⟩ | ⟨c, vs, hr, hc, rfl, g⟩)
      · have R2 := Aside0.mk (many_stepG RX.out hr)
        have H4 := Aside0.mk (g.atB pm)
        obtain ⟨v0, hv0⟩ := mcells_at (intsV l) k (by omega)
        have c0 := H4.out.cell hv0
        have cf := H4.out.unfrozen k
        have MS := Aside0.mk (mcells_set (intsV l) (.int .i64 a) k (by rw [intsV_len, LL.out]) (by omega))
        have H5 := Aside0.mk (H4.out.set k (.int .i64 a))
        clear g hr RX O hv0
        go_wp2_with fail
        go_roundw
        case rel => exact ⟨k + 1, l ++ [a], vs, by omega, by go_num, ⟨by rw [List.length_append, LL.out]; rfl⟩, R2, ⟨by rw [intsV_snoc, ← MS.out]; exact H5.out.as (HP.left_comm _ _ _)⟩⟩
        case measure => simp [intOf]; omega
      · have RE := Aside0.mk (many_errG RX.out hr)
        have HX := Aside0.mk (g.atB (q + 1))
        have k2 := HX.out.cell (i := 0) (v := .int .i64 0) rfl
        have zf := HX.out.unfrozen 0
        have l2 := HX.out.lt
        refine leaves_cons (f := 50) (args := #[.pointer (some ⟨q + 1, 0, none⟩)]) (by simp) (by simp [go_sem]) ?_
        refine (caught_some (q + 1) _ c _ k2 zf l2).mono ?_
        rintro e u' w6 ⟨rfl, rfl, rfl⟩
        have HZ := Aside0.mk (((HX.out.alloc (.cells #[.int .i64 c] 141)).atB (q + 1)).set 0 (.int .i64 c))
        have z0 := HZ.out.cell (i := 0) (v := .int .i64 c) rfl
        exact ⟨.int .i64 c, by simp [results, Try.results43, go_sem, z0], .inr ⟨c, RE.out, hc, rfl, HZ.out.only F⟩⟩
    · have hk2 : k = 3 := by omega
      subst hk2
      have RX := Aside0.mk (show rMsg xs = (rMany rInt (3 + 1) zs).bind fun l' vs => rRest (l ++ l') vs from RR.out)
      have O := Aside0.mk (rint_ok HW.out.drew)
      have k0 := HW.out.cellAt q 0 (v := .pointer (some ⟨p, 0, none⟩)) rfl
      clear RR HW hlt hk
      go_wp2_with fail
      refine start_ (n := 18) (S := fun w' => w'.cell? ⟨q, 0, none⟩ = some (.pointer (some ⟨p, 0, none⟩))) (ds := [11, 14, 17]) #[false, false, false, false, false, false, false, false, false, false, false, false, false, false, false, false, false, false] (by kernel_rfl) rfl rfl (k0) (fun hHeld => ?_)
      refine pure_ (i := 0) (N := some 27) (v := ?_) (a' := ?_) #[true, false, false, false, false, false, false, false, false, false, false, false, false, false, false, false, false, false] rfl rfl (by kernel_rfl) (hq43 (by decide)) (Or.inl ⟨by rfl, ?_⟩) ?_ ?_
      rotate_left
      · intro w'
        go_simp
        with_reducible rfl
      rotate_left
      · simp only [Act.put, List.setIfInBounds_toArray, List.set_cons_zero, List.set_cons_succ, i64_w, i32_w]
        rfl
      refine pure_ (i := 1) (N := some 28) (v := ?_) (a' := ?_) #[true, true, false, false, false, false, false, false, false, false, false, false, false, false, false, false, false, false] rfl rfl (by kernel_rfl) (hq43 (by decide)) (Or.inl ⟨by rfl, ?_⟩) ?_ ?_
      rotate_left
      · intro w'
        go_simp
        with_reducible rfl
      rotate_left
      · simp only [Act.put, List.setIfInBounds_toArray, List.set_cons_zero, List.set_cons_succ, i64_w, i32_w]
        rfl
      refine pure_ (i := 2) (N := some 29) (v := ?_) (a' := ?_) #[true, true, true, false, false, false, false, false, false, false, false, false, false, false, false, false, false, false] rfl rfl (by kernel_rfl) (hq43 (by decide)) (Or.inl ⟨by rfl, ?_⟩) ?_ ?_
      rotate_left
      · intro w'
        go_simp
        with_reducible rfl
      rotate_left
      · simp only [Act.put, List.setIfInBounds_toArray, List.set_cons_zero, List.set_cons_succ, i64_w, i32_w]
        rfl
      refine take_ (i := 3) (N := some 30) (v := ?_) (a' := ?_) #[true, true, true, true, false, false, false, false, false, false, false, false, false, false, false, false, false, false] rfl rfl (by kernel_rfl) (hq43 (by decide)) (Or.inl ⟨by rfl, ?_⟩) hHeld ?_ ?_
      rotate_left
      · intro w' s0
        go_simp
        with_reducible rfl
      rotate_left
      · simp only [Act.put, List.setIfInBounds_toArray, List.set_cons_zero, List.set_cons_succ, i64_w, i32_w]
        rfl
      refine take_ (i := 5) (N := some 32) (v := ?_) (a' := ?_) #[true, true, true, true, false, true, false, false, false, false, false, false, false, false, false, false, false, false] rfl rfl (by kernel_rfl) (hq43 (by decide)) (Or.inl ⟨by rfl, ?_⟩) hHeld ?_ ?_
      rotate_left
      · intro w' s0
        go_simp
        with_reducible rfl
      rotate_left
      · simp only [Act.put, List.setIfInBounds_toArray, List.set_cons_zero, List.set_cons_succ, i64_w, i32_w]
        rfl
      refine take_ (i := 7) (N := some 34) (v := ?_) (a' := ?_) #[true, true, true, true, false, true, false, true, false, false, false, false, false, false, false, false, false, false] rfl rfl (by kernel_rfl) (hq43 (by decide)) (Or.inl ⟨by rfl, ?_⟩) hHeld ?_ ?_
      rotate_left
      · intro w' s0
        go_simp
        with_reducible rfl
      rotate_left
      · simp only [Act.put, List.setIfInBounds_toArray, List.set_cons_zero, List.set_cons_succ, i64_w, i32_w]
        rfl
      refine one_ (i := 4) (N := some 31) #[true, true, true, true, true, true, false, true, false, false, false, false, false, false, false, false, false, false] rfl rfl (by kernel_rfl) (by decide) (fun K hK => ?_)
      refine goesP_ Try.func62 (by kernel_rfl) rfl #[.pointer (some ⟨p, 0, none⟩)] (by rfl) rfl rfl (by simp only [List.map_toArray, List.map_cons, List.map_nil]; rfl) ?_
      with_reducible refine (O.out).mono ?_
      rintro e w4 (⟨a3, vs4, hr, rfl, g⟩ | ⟨c, vs4, hr, hc, rfl, g⟩)
      rotate_left
      · refine .inr ⟨_, rfl, ?_⟩
        have RE := Aside0.mk (many_errG RX.out hr)
        have HX := Aside0.mk (g.atB (q + 1))
        have k2 := HX.out.cell (i := 0) (v := .int .i64 0) rfl
        have zf := HX.out.unfrozen 0
        have l2 := HX.out.lt
        refine leaves_cons (f := 50) (args := #[.pointer (some ⟨q + 1, 0, none⟩)]) (by simp) (by simp [go_sem]) ?_
        refine (caught_some (q + 1) _ c _ k2 zf l2).mono ?_
        rintro e u' w6 ⟨rfl, rfl, rfl⟩
        have HZ := Aside0.mk (((HX.out.alloc (.cells #[.int .i64 c] 141)).atB (q + 1)).set 0 (.int .i64 c))
        have z0 := HZ.out.cell (i := 0) (v := .int .i64 c) rfl
        exact ⟨.int .i64 c, by simp [results, Try.results43, go_sem, z0], .inr ⟨c, RE.out, hc, rfl, HZ.out.only F⟩⟩
      refine .inl ⟨_, rfl, ?_⟩
      have R4 := Aside0.mk (many_stepG RX.out hr)
      have y4 := g.cellAt q 0 (v := .pointer (some ⟨p, 0, none⟩)) rfl
      have O4 := Aside0.mk (rint_ok g)
      have G4 := Aside0.mk g
      clear g hr
      refine hK.out _ _ (y4) (fun hHeld => ?_)
      clear hK K
      refine norm_ (a' := ?_) ?_ ?_
      rotate_left
      · show Act.put _ (some 31) _ = _
        simp only [Act.put, List.setIfInBounds_toArray, List.set_cons_zero, List.set_cons_succ, i64_w, i32_w]
        rfl
      refine one_ (i := 6) (N := some 33) #[true, true, true, true, true, true, true, true, false, false, false, false, false, false, false, false, false, false] rfl rfl (by kernel_rfl) (by decide) (fun K hK => ?_)
      refine goesP_ Try.func62 (by kernel_rfl) rfl #[.pointer (some ⟨p, 0, none⟩)] (by rfl) rfl rfl (by simp only [List.map_toArray, List.map_cons, List.map_nil]; rfl) ?_
      with_reducible refine (O4.out).mono ?_
      rintro e w6 (⟨a4, vs6, hr, rfl, g⟩ | ⟨c, vs6, hr, hc, rfl, g⟩)
      rotate_left
      · refine .inr ⟨_, rfl, ?_⟩
        have RE := Aside0.mk (many_errG R4.out hr)
        have HX := Aside0.mk (g.atB (q + 1))
        have k2 := HX.out.cell (i := 0) (v := .int .i64 0) rfl
        have zf := HX.out.unfrozen 0
        have l2 := HX.out.lt
        refine leaves_cons (f := 50) (args := #[.pointer (some ⟨q + 1, 0, none⟩)]) (by simp) (by simp [go_sem]) ?_
        refine (caught_some (q + 1) _ c _ k2 zf l2).mono ?_
        rintro e u' w6 ⟨rfl, rfl, rfl⟩
        have HZ := Aside0.mk (((HX.out.alloc (.cells #[.int .i64 c] 141)).atB (q + 1)).set 0 (.int .i64 c))
        have z0 := HZ.out.cell (i := 0) (v := .int .i64 c) rfl
        exact ⟨.int .i64 c, by simp [results, Try.results43, go_sem, z0], .inr ⟨c, RE.out, hc, rfl, HZ.out.only F⟩⟩
      refine .inl ⟨_, rfl, ?_⟩
      have R6 := Aside0.mk (many_stepG R4.out hr)
      have y6 := g.cellAt q 0 (v := .pointer (some ⟨p, 0, none⟩)) rfl
      have O6 := Aside0.mk (rint_ok g)
      clear g hr
      refine hK.out _ _ (y6) (fun hHeld => ?_)
      clear hK K
      refine norm_ (a' := ?_) ?_ ?_
      rotate_left
      · show Act.put _ (some 33) _ = _
        simp only [Act.put, List.setIfInBounds_toArray, List.set_cons_zero, List.set_cons_succ, i64_w, i32_w]
        rfl
      refine one_ (i := 8) (N := some 35) #[true, true, true, true, true, true, true, true, true, false, false, false, false, false, false, false, false, false] rfl rfl (by kernel_rfl) (by decide) (fun K hK => ?_)
      refine goesP_ Try.func62 (by kernel_rfl) rfl #[.pointer (some ⟨p, 0, none⟩)] (by rfl) rfl rfl (by simp only [List.map_toArray, List.map_cons, List.map_nil]; rfl) ?_
      with_reducible refine (O6.out).mono ?_
      rintro e w8 (⟨a5, vs8, hr, rfl, g⟩ | ⟨c, vs8, hr, hc, rfl, g⟩)
      rotate_left
      · refine .inr ⟨_, rfl, ?_⟩
        have RE := Aside0.mk (many_errG R6.out hr)
        have HX := Aside0.mk (g.atB (q + 1))
        have k2 := HX.out.cell (i := 0) (v := .int .i64 0) rfl
        have zf := HX.out.unfrozen 0
        have l2 := HX.out.lt
        refine leaves_cons (f := 50) (args := #[.pointer (some ⟨q + 1, 0, none⟩)]) (by simp) (by simp [go_sem]) ?_
        refine (caught_some (q + 1) _ c _ k2 zf l2).mono ?_
        rintro e u' w6 ⟨rfl, rfl, rfl⟩
        have HZ := Aside0.mk (((HX.out.alloc (.cells #[.int .i64 c] 141)).atB (q + 1)).set 0 (.int .i64 c))
        have z0 := HZ.out.cell (i := 0) (v := .int .i64 c) rfl
        exact ⟨.int .i64 c, by simp [results, Try.results43, go_sem, z0], .inr ⟨c, RE.out, hc, rfl, HZ.out.only F⟩⟩
      refine .inl ⟨_, rfl, ?_⟩
      have R8 := Aside0.mk (many_stepG R6.out hr)
      have y8 := g.cellAt q 0 (v := .pointer (some ⟨p, 0, none⟩)) rfl
      have G8 := Aside0.mk (g.atB pm)
      obtain ⟨v3, hv3⟩ := mcells_at (intsV l) 3 (by decide)
      obtain ⟨v4, hv4⟩ := mcells_at (intsV l) 4 (by decide)
      obtain ⟨v5, hv5⟩ := mcells_at (intsV l) 5 (by decide)
      have m3 := G8.out.cell hv3
      have m4 := G8.out.cell hv4
      have m5 := G8.out.cell hv5
      have mf := G8.out.unfrozen
      clear g hr hv3 hv4 hv5
      refine hK.out _ _ (y8) (fun hHeld => ?_)
      clear hK K
      refine norm_ (a' := ?_) ?_ ?_
      rotate_left
      · show Act.put _ (some 35) _ = _
        simp only [Act.put, List.setIfInBounds_toArray, List.set_cons_zero, List.set_cons_succ, i64_w, i32_w]
        rfl
      refine pure_ (i := 9) (N := some 36) (v := ?_) (a' := ?_) #[true, true, true, true, true, true, true, true, true, true, false, false, false, false, false, false, false, false] rfl rfl (by kernel_rfl) (hq43 (by decide)) (Or.inl ⟨by rfl, ?_⟩) ?_ ?_
      rotate_left
      · intro w'
        go_simp
        with_reducible rfl
      rotate_left
      · simp only [Act.put, List.setIfInBounds_toArray, List.set_cons_zero, List.set_cons_succ, i64_w, i32_w]
        rfl
      refine pure_ (i := 10) (N := some 37) (v := ?_) (a' := ?_) #[true, true, true, true, true, true, true, true, true, true, true, false, false, false, false, false, false, false] rfl rfl (by kernel_rfl) (hq43 (by decide)) (Or.inl ⟨by rfl, ?_⟩) ?_ ?_
      rotate_left
      · intro w'
        go_simp
        with_reducible rfl
      rotate_left
      · simp only [Act.put, List.setIfInBounds_toArray, List.set_cons_zero, List.set_cons_succ, i64_w, i32_w]
        rfl
      refine last_ (i := 11) (N := none) #[true, true, true, true, true, true, true, true, true, true, true, true, false, false, false, false, false, false] rfl rfl (by kernel_rfl) (by decide) (fun K hK => ?_)
      refine skip_ (w1 := ?_) (by rfl) rfl ?_ ?_
      rotate_left
      · go_simp
        rfl
      refine hK.out _ _ ?_
      clear hK K
      refine pure_ (i := 12) (N := some 38) (v := ?_) (a' := ?_) #[true, true, true, true, true, true, true, true, true, true, true, true, true, false, false, false, false, false] rfl rfl (by kernel_rfl) (hq43 (by decide)) (Or.inl ⟨by rfl, ?_⟩) ?_ ?_
      rotate_left
      · intro w'
        go_simp
        with_reducible rfl
      rotate_left
      · simp only [Act.put, List.setIfInBounds_toArray, List.set_cons_zero, List.set_cons_succ, i64_w, i32_w]
        rfl
      refine pure_ (i := 13) (N := some 39) (v := ?_) (a' := ?_) #[true, true, true, true, true, true, true, true, true, true, true, true, true, true, false, false, false, false] rfl rfl (by kernel_rfl) (hq43 (by decide)) (Or.inl ⟨by rfl, ?_⟩) ?_ ?_
      rotate_left
      · intro w'
        go_simp
        with_reducible rfl
      rotate_left
      · simp only [Act.put, List.setIfInBounds_toArray, List.set_cons_zero, List.set_cons_succ, i64_w, i32_w]
        rfl
      refine last_ (i := 14) (N := none) #[true, true, true, true, true, true, true, true, true, true, true, true, true, true, true, false, false, false] rfl rfl (by kernel_rfl) (by decide) (fun K hK => ?_)
      refine skip_ (w1 := ?_) (by rfl) rfl ?_ ?_
      rotate_left
      · go_simp
        rfl
      refine hK.out _ _ ?_
      clear hK K
      refine pure_ (i := 15) (N := some 40) (v := ?_) (a' := ?_) #[true, true, true, true, true, true, true, true, true, true, true, true, true, true, true, true, false, false] rfl rfl (by kernel_rfl) (hq43 (by decide)) (Or.inl ⟨by rfl, ?_⟩) ?_ ?_
      rotate_left
      · intro w'
        go_simp
        with_reducible rfl
      rotate_left
      · simp only [Act.put, List.setIfInBounds_toArray, List.set_cons_zero, List.set_cons_succ, i64_w, i32_w]
        rfl
      refine pure_ (i := 16) (N := some 41) (v := ?_) (a' := ?_) #[true, true, true, true, true, true, true, true, true, true, true, true, true, true, true, true, true, false] rfl rfl (by kernel_rfl) (hq43 (by decide)) (Or.inl ⟨by rfl, ?_⟩) ?_ ?_
      rotate_left
      · intro w'
        go_simp
        with_reducible rfl
      rotate_left
      · simp only [Act.put, List.setIfInBounds_toArray, List.set_cons_zero, List.set_cons_succ, i64_w, i32_w]
        rfl
      refine last_ (i := 17) (N := none) #[true, true, true, true, true, true, true, true, true, true, true, true, true, true, true, true, true, true] rfl rfl (by kernel_rfl) (by decide) (fun K hK => ?_)
      refine skip_ (w1 := ?_) (by rfl) rfl ?_ ?_
      rotate_left
      · go_simp
        rfl
      refine hK.out _ _ ?_
      clear hK K
      refine done_ (by kernel_rfl) ?_
      clear hHeld m3 m4 m5 mf k0
      have M3 := mcells_set (intsV l) (.int .i64 a3) 3 (by rw [intsV_len, LL.out]) (by decide)
      have M4 := mcells_set (intsV (l ++ [a3])) (.int .i64 a4) 4 (by rw [intsV_len, List.length_append, LL.out]; rfl) (by decide)
      have M5 := mcells_set (intsV (l ++ [a3] ++ [a4])) (.int .i64 a5) 5 (by rw [intsV_len, List.length_append, List.length_append, LL.out]; rfl) (by decide)
      rw [← intsV_snoc] at M3 M4 M5
      have HB := ((G8.out.set 3 (.int .i64 a3)).set 4 (.int .i64 a4)).set 5 (.int .i64 a5)
      rw [M3, M4, M5] at HB
      obtain ⟨l6, hl6⟩ : ∃ l6, l6 = l ++ [a3] ++ [a4] ++ [a5] := ⟨_, rfl⟩
      have L6 := Aside0.mk (show l6.length = 6 by rw [hl6]; simp [LL.out])
      have R9 := R8.out
      rw [← hl6] at HB R9
      have RX2 := Aside0.mk R9
      have HC := Aside0.mk (HB.as (Q := srcP w0 p vs8 * (blk pm (.cells (mcells (intsV l6)) 53) * (scapP q p * (blk (q + 1) (.cells #[.int .i64 0] 25) * (blk (q + 1 + 1) (.cells #[.pointer (some ⟨pm, 0, none⟩), .pointer (some ⟨pm, 1, none⟩), .pointer (some ⟨pm, 2, none⟩)] 124) * F))))) (by ac_rfl))
      clear M3 M4 M5 HB R9 hl6 G8 R4 R6 R8 RX LL O O4 O6 G4
      go_wp2_with fail
      have k0 := HC.out.cellAt q 0 (v := .pointer (some ⟨p, 0, none⟩)) rfl
      have O := Aside0.mk (rint_ok HC.out.drew)
      refine start_ (n := 12) (S := fun w' => w'.cell? ⟨q, 0, none⟩ = some (.pointer (some ⟨p, 0, none⟩))) (ds := [8, 11]) #[false, false, false, false, false, false, false, false, false, false, false, false] (by kernel_rfl) rfl rfl (k0) (fun hHeld => ?_)
      refine pure_ (i := 0) (N := some 42) (v := ?_) (a' := ?_) #[true, false, false, false, false, false, false, false, false, false, false, false] rfl rfl (by kernel_rfl) (hq43 (by decide)) (Or.inl ⟨by rfl, ?_⟩) ?_ ?_
      rotate_left
      · intro w'
        go_simp
        with_reducible rfl
      rotate_left
      · simp only [Act.put, List.setIfInBounds_toArray, List.set_cons_zero, List.set_cons_succ, i64_w, i32_w]
        rfl
      refine pure_ (i := 1) (N := some 43) (v := ?_) (a' := ?_) #[true, true, false, false, false, false, false, false, false, false, false, false] rfl rfl (by kernel_rfl) (hq43 (by decide)) (Or.inl ⟨by rfl, ?_⟩) ?_ ?_
      rotate_left
      · intro w'
        go_simp
        with_reducible rfl
      rotate_left
      · simp only [Act.put, List.setIfInBounds_toArray, List.set_cons_zero, List.set_cons_succ, i64_w, i32_w]
        rfl
      refine take_ (i := 2) (N := some 44) (v := ?_) (a' := ?_) #[true, true, true, false, false, false, false, false, false, false, false, false] rfl rfl (by kernel_rfl) (hq43 (by decide)) (Or.inl ⟨by rfl, ?_⟩) hHeld ?_ ?_
      rotate_left
      · intro w' s0
        go_simp
        with_reducible rfl
      rotate_left
      · simp only [Act.put, List.setIfInBounds_toArray, List.set_cons_zero, List.set_cons_succ, i64_w, i32_w]
        rfl
      refine take_ (i := 4) (N := some 46) (v := ?_) (a' := ?_) #[true, true, true, false, true, false, false, false, false, false, false, false] rfl rfl (by kernel_rfl) (hq43 (by decide)) (Or.inl ⟨by rfl, ?_⟩) hHeld ?_ ?_
      rotate_left
      · intro w' s0
        go_simp
        with_reducible rfl
      rotate_left
      · simp only [Act.put, List.setIfInBounds_toArray, List.set_cons_zero, List.set_cons_succ, i64_w, i32_w]
        rfl
      refine one_ (i := 3) (N := some 45) #[true, true, true, true, true, false, false, false, false, false, false, false] rfl rfl (by kernel_rfl) (by decide) (fun K hK => ?_)
      refine goesP_ Try.func62 (by kernel_rfl) rfl #[.pointer (some ⟨p, 0, none⟩)] (by rfl) rfl rfl (by simp only [List.map_toArray, List.map_cons, List.map_nil]; rfl) ?_
      with_reducible refine (O.out).mono ?_
      rintro e w3 (⟨a6, vs3, hr, rfl, g⟩ | ⟨c, vs3, hr, hc, rfl, g⟩)
      rotate_left
      · refine .inr ⟨_, rfl, ?_⟩
        have RE := Aside0.mk (many_errG RX2.out hr)
        have HX := Aside0.mk (g.atB (q + 1))
        have k2 := HX.out.cell (i := 0) (v := .int .i64 0) rfl
        have zf := HX.out.unfrozen 0
        have l2 := HX.out.lt
        refine leaves_cons (f := 50) (args := #[.pointer (some ⟨q + 1, 0, none⟩)]) (by simp) (by simp [go_sem]) ?_
        refine (caught_some (q + 1) _ c _ k2 zf l2).mono ?_
        rintro e u' w6 ⟨rfl, rfl, rfl⟩
        have HZ := Aside0.mk (((HX.out.alloc (.cells #[.int .i64 c] 141)).atB (q + 1)).set 0 (.int .i64 c))
        have z0 := HZ.out.cell (i := 0) (v := .int .i64 c) rfl
        exact ⟨.int .i64 c, by simp [results, Try.results43, go_sem, z0], .inr ⟨c, RE.out, hc, rfl, HZ.out.only F⟩⟩
      refine .inl ⟨_, rfl, ?_⟩
      have R3 := Aside0.mk (show rMsg xs = rRest (l6 ++ [a6]) vs3 from (many_stepG (k := 0) RX2.out hr).trans (by show rRest (l6 ++ [a6] ++ []) vs3 = _; rw [List.append_nil]))
      have y3 := g.cellAt q 0 (v := .pointer (some ⟨p, 0, none⟩)) rfl
      have O3 := Aside0.mk (rflag_ok g)
      clear g hr
      refine hK.out _ _ (y3) (fun hHeld => ?_)
      clear hK K
      refine norm_ (a' := ?_) ?_ ?_
      rotate_left
      · show Act.put _ (some 45) _ = _
        simp only [Act.put, List.setIfInBounds_toArray, List.set_cons_zero, List.set_cons_succ, i64_w, i32_w]
        rfl
      refine one_ (i := 5) (N := some 47) #[true, true, true, true, true, true, false, false, false, false, false, false] rfl rfl (by kernel_rfl) (by decide) (fun K hK => ?_)
      refine goesP_ Try.func63 (by kernel_rfl) rfl #[.pointer (some ⟨p, 0, none⟩)] (by rfl) rfl rfl (by simp only [List.map_toArray, List.map_cons, List.map_nil]; rfl) ?_
      with_reducible refine (O3.out).mono ?_
      rintro e w5 (⟨a7, vs5, hr, rfl, g⟩ | ⟨c, vs5, hr, hc, rfl, g⟩)
      rotate_left
      · refine .inr ⟨_, rfl, ?_⟩
        have RE := Aside0.mk (R3.out.trans (Rd.bind_err hr _))
        have HX := Aside0.mk (g.atB (q + 1))
        have k2 := HX.out.cell (i := 0) (v := .int .i64 0) rfl
        have zf := HX.out.unfrozen 0
        have l2 := HX.out.lt
        refine leaves_cons (f := 50) (args := #[.pointer (some ⟨q + 1, 0, none⟩)]) (by simp) (by simp [go_sem]) ?_
        refine (caught_some (q + 1) _ c _ k2 zf l2).mono ?_
        rintro e u' w6 ⟨rfl, rfl, rfl⟩
        have HZ := Aside0.mk (((HX.out.alloc (.cells #[.int .i64 c] 141)).atB (q + 1)).set 0 (.int .i64 c))
        have z0 := HZ.out.cell (i := 0) (v := .int .i64 c) rfl
        exact ⟨.int .i64 c, by simp [results, Try.results43, go_sem, z0], .inr ⟨c, RE.out, hc, rfl, HZ.out.only F⟩⟩
      refine .inl ⟨_, rfl, ?_⟩
      have R7 := Aside0.mk (R3.out.trans (Rd.bind_ok hr _))
      have y5 := g.cellAt q 0 (v := .pointer (some ⟨p, 0, none⟩)) rfl
      have G7 := Aside0.mk (g.atB pm)
      obtain ⟨v6, hv6⟩ := mcells_at (intsV l6) 6 (by decide)
      obtain ⟨v7, hv7⟩ := mcells_at (intsV l6) 7 (by decide)
      have m6 := G7.out.cell hv6
      have m7 := G7.out.cell hv7
      have mf := G7.out.unfrozen
      clear g hr hv6 hv7
      refine hK.out _ _ (y5) (fun hHeld => ?_)
      clear hK K
      refine norm_ (a' := ?_) ?_ ?_
      rotate_left
      · show Act.put _ (some 47) _ = _
        simp only [Act.put, List.setIfInBounds_toArray, List.set_cons_zero, List.set_cons_succ, i64_w, i32_w]
        rfl
      refine pure_ (i := 6) (N := some 48) (v := ?_) (a' := ?_) #[true, true, true, true, true, true, true, false, false, false, false, false] rfl rfl (by kernel_rfl) (hq43 (by decide)) (Or.inl ⟨by rfl, ?_⟩) ?_ ?_
      rotate_left
      · intro w'
        go_simp
        with_reducible rfl
      rotate_left
      · simp only [Act.put, List.setIfInBounds_toArray, List.set_cons_zero, List.set_cons_succ, i64_w, i32_w]
        rfl
      refine pure_ (i := 7) (N := some 49) (v := ?_) (a' := ?_) #[true, true, true, true, true, true, true, true, false, false, false, false] rfl rfl (by kernel_rfl) (hq43 (by decide)) (Or.inl ⟨by rfl, ?_⟩) ?_ ?_
      rotate_left
      · intro w'
        go_simp
        with_reducible rfl
      rotate_left
      · simp only [Act.put, List.setIfInBounds_toArray, List.set_cons_zero, List.set_cons_succ, i64_w, i32_w]
        rfl
      refine last_ (i := 8) (N := none) #[true, true, true, true, true, true, true, true, true, false, false, false] rfl rfl (by kernel_rfl) (by decide) (fun K hK => ?_)
      refine skip_ (w1 := ?_) (by rfl) rfl ?_ ?_
      rotate_left
      · go_simp
        rfl
      refine hK.out _ _ ?_
      clear hK K
      refine pure_ (i := 9) (N := some 50) (v := ?_) (a' := ?_) #[true, true, true, true, true, true, true, true, true, true, false, false] rfl rfl (by kernel_rfl) (hq43 (by decide)) (Or.inl ⟨by rfl, ?_⟩) ?_ ?_
      rotate_left
      · intro w'
        go_simp
        with_reducible rfl
      rotate_left
      · simp only [Act.put, List.setIfInBounds_toArray, List.set_cons_zero, List.set_cons_succ, i64_w, i32_w]
        rfl
      refine pure_ (i := 10) (N := some 51) (v := ?_) (a' := ?_) #[true, true, true, true, true, true, true, true, true, true, true, false] rfl rfl (by kernel_rfl) (hq43 (by decide)) (Or.inl ⟨by rfl, ?_⟩) ?_ ?_
      rotate_left
      · intro w'
        go_simp
        with_reducible rfl
      rotate_left
      · simp only [Act.put, List.setIfInBounds_toArray, List.set_cons_zero, List.set_cons_succ, i64_w, i32_w]
        rfl
      refine last_ (i := 11) (N := none) #[true, true, true, true, true, true, true, true, true, true, true, true] rfl rfl (by kernel_rfl) (by decide) (fun K hK => ?_)
      refine skip_ (w1 := ?_) (by rfl) rfl ?_ ?_
      rotate_left
      · go_simp
        rfl
      refine hK.out _ _ ?_
      clear hK K
      refine done_ (by kernel_rfl) ?_
      clear hHeld m6 m7 mf k0
      have M6 := mcells_set (intsV l6) (.int .i64 a6) 6 (by rw [intsV_len, L6.out]) (by decide)
      have M7 := mcells_set (intsV (l6 ++ [a6])) (.bool a7) 7 (by rw [intsV_len, List.length_append, L6.out]; rfl) (by decide)
      rw [← intsV_snoc] at M6
      have HB := (G7.out.set 6 (.int .i64 a6)).set 7 (.bool a7)
      rw [M6, M7] at HB
      obtain ⟨l7, hl7⟩ : ∃ l7, l7 = l6 ++ [a6] := ⟨_, rfl⟩
      have L7 := Aside0.mk (show l7.length = 7 by rw [hl7]; simp [L6.out])
      have R9 := R7.out
      rw [← hl7] at HB R9
      have RY := Aside0.mk R9
      have HD := Aside0.mk (HB.as (Q := srcP w0 p vs5 * (scapP q p * (blk pm (.cells (mcells (intsV l7 ++ [.bool a7])) 53) * (blk (q + 1) (.cells #[.int .i64 0] 25) * (blk (q + 1 + 1) (.cells #[.pointer (some ⟨pm, 0, none⟩), .pointer (some ⟨pm, 1, none⟩), .pointer (some ⟨pm, 2, none⟩)] 124) * F))))) (by ac_rfl))
      clear M6 M7 HB R9 hl7 G7 R7 R3 RX2 HC L6 O O3
      go_wp2_with fail
      clear y5
      refine (rlist1_ok HD.out).mono ?_
      rintro e wl1 (⟨n1, zs1, A1, m1, c1, hr, hl, hb, rfl, g⟩ | ⟨c, zs1, hr, hc, rfl, g⟩)
      · have R1L := Aside0.mk (RY.out.trans (Rd.bind_ok hr _))
        have L1L := Aside0.mk (And.intro hl hb)
        have y1 := g.cellAt q 0 (v := .pointer (some ⟨p, 0, none⟩)) rfl
        have P1 := Aside0.mk (g.atB pm)
        obtain ⟨v1, hv1⟩ := mcells_at (intsV l7 ++ [.bool a7]) 8 (by decide)
        have mm := P1.out.cell hv1
        have mf := P1.out.unfrozen 8
        have MS := mcells_set (intsV l7 ++ [.bool a7]) (.slice A1 m1 c1) 8 (by simp [intsV_len, L7.out]) (by decide)
        have HB := P1.out.set 8 (.slice A1 m1 c1)
        rw [MS] at HB
        have K1 := Aside0.mk (HB.as (Q := srcP w0 p zs1 * (scapP q p * (blk pm (.cells (mcells (intsV l7 ++ [.bool a7] ++ [.slice A1 m1 c1])) 53) * (crow 1 3 A1 m1 c1 (n1.flatMap intC) * (blk (q + 1) (.cells #[.int .i64 0] 25) * (blk (q + 1 + 1) (.cells #[.pointer (some ⟨pm, 0, none⟩), .pointer (some ⟨pm, 1, none⟩), .pointer (some ⟨pm, 2, none⟩)] 124) * F)))))) (by ac_rfl))
        clear g hr hl hb MS HB hv1 HD RY
        go_wp2_with fail
        clear y1 mm mf P1
        refine (rlist2_ok K1.out).mono ?_
        rintro e wl2 (⟨n2, zs2, A2, m2, c2, hr, hl, hb, rfl, g⟩ | ⟨c, zs2, hr, hc, rfl, g⟩)
        · have R2L := Aside0.mk (R1L.out.trans (Rd.bind_ok hr _))
          have L2L := Aside0.mk (And.intro hl hb)
          have y2 := g.cellAt q 0 (v := .pointer (some ⟨p, 0, none⟩)) rfl
          have P2 := Aside0.mk (g.atB pm)
          obtain ⟨v2, hv2⟩ := mcells_at (intsV l7 ++ [.bool a7] ++ [.slice A1 m1 c1]) 9 (by decide)
          have mm := P2.out.cell hv2
          have mf := P2.out.unfrozen 9
          have MS := mcells_set (intsV l7 ++ [.bool a7] ++ [.slice A1 m1 c1]) (.slice A2 m2 c2) 9 (by simp [intsV_len, L7.out]) (by decide)
          have HB := P2.out.set 9 (.slice A2 m2 c2)
          rw [MS] at HB
          have K2 := Aside0.mk (HB.as (Q := srcP w0 p zs2 * (scapP q p * (blk pm (.cells (mcells (intsV l7 ++ [.bool a7] ++ [.slice A1 m1 c1] ++ [.slice A2 m2 c2])) 53) * (crow 4 83 A2 m2 c2 (n2.flatMap mutC) * (crow 1 3 A1 m1 c1 (n1.flatMap intC) * (blk (q + 1) (.cells #[.int .i64 0] 25) * (blk (q + 1 + 1) (.cells #[.pointer (some ⟨pm, 0, none⟩), .pointer (some ⟨pm, 1, none⟩), .pointer (some ⟨pm, 2, none⟩)] 124) * F))))))) (by ac_rfl))
          clear g hr hl hb MS HB hv2 K1 R1L
          go_wp2_with fail
          clear y2 mm mf P2
          refine (rlist3_ok K2.out).mono ?_
          rintro e wl3 (⟨n3, zs3, A3, m3, c3, hr, hl, hb, rfl, g⟩ | ⟨c, zs3, hr, hc, rfl, g⟩)
          · have R3L := Aside0.mk (R2L.out.trans (Rd.bind_ok hr _))
            have L3L := Aside0.mk (And.intro hl hb)
            have y3 := g.cellAt q 0 (v := .pointer (some ⟨p, 0, none⟩)) rfl
            have P3 := Aside0.mk (g.atB pm)
            obtain ⟨v3, hv3⟩ := mcells_at (intsV l7 ++ [.bool a7] ++ [.slice A1 m1 c1] ++ [.slice A2 m2 c2]) 10 (by decide)
            have mm := P3.out.cell hv3
            have mf := P3.out.unfrozen 10
            have MS := mcells_set (intsV l7 ++ [.bool a7] ++ [.slice A1 m1 c1] ++ [.slice A2 m2 c2]) (.slice A3 m3 c3) 10 (by simp [intsV_len, L7.out]) (by decide)
            have HB := P3.out.set 10 (.slice A3 m3 c3)
            rw [MS] at HB
            have K3 := Aside0.mk (HB.as (Q := srcP w0 p zs3 * (scapP q p * (blk pm (.cells (mcells (intsV l7 ++ [.bool a7] ++ [.slice A1 m1 c1] ++ [.slice A2 m2 c2] ++ [.slice A3 m3 c3])) 53) * (crow 4 91 A3 m3 c3 (n3.flatMap mutC) * (crow 4 83 A2 m2 c2 (n2.flatMap mutC) * (crow 1 3 A1 m1 c1 (n1.flatMap intC) * (blk (q + 1) (.cells #[.int .i64 0] 25) * (blk (q + 1 + 1) (.cells #[.pointer (some ⟨pm, 0, none⟩), .pointer (some ⟨pm, 1, none⟩), .pointer (some ⟨pm, 2, none⟩)] 124) * F)))))))) (by ac_rfl))
            clear g hr hl hb MS HB hv3 K2 R2L
            go_wp2_with fail
            clear y3 mm mf P3
            refine (rlist4_ok K3.out).mono ?_
            rintro e wl4 (⟨n4, zs4, A4, m4, c4, hr, hl, hb, rfl, g⟩ | ⟨c, zs4, hr, hc, rfl, g⟩)
            · have R4L := Aside0.mk (R3L.out.trans (Rd.bind_ok hr _))
              have L4L := Aside0.mk (And.intro hl hb)
              have y4 := g.cellAt q 0 (v := .pointer (some ⟨p, 0, none⟩)) rfl
              have P4 := Aside0.mk (g.atB pm)
              obtain ⟨v4, hv4⟩ := mcells_at (intsV l7 ++ [.bool a7] ++ [.slice A1 m1 c1] ++ [.slice A2 m2 c2] ++ [.slice A3 m3 c3]) 11 (by decide)
              have mm := P4.out.cell hv4
              have mf := P4.out.unfrozen 11
              have MS := mcells_set (intsV l7 ++ [.bool a7] ++ [.slice A1 m1 c1] ++ [.slice A2 m2 c2] ++ [.slice A3 m3 c3]) (.slice A4 m4 c4) 11 (by simp [intsV_len, L7.out]) (by decide)
              have HB := P4.out.set 11 (.slice A4 m4 c4)
              rw [MS] at HB
              have K4 := Aside0.mk (HB.as (Q := srcP w0 p zs4 * (scapP q p * (blk pm (.cells (mcells (intsV l7 ++ [.bool a7] ++ [.slice A1 m1 c1] ++ [.slice A2 m2 c2] ++ [.slice A3 m3 c3] ++ [.slice A4 m4 c4])) 53) * (crow 5 93 A4 m4 c4 (n4.flatMap rowC) * (crow 4 91 A3 m3 c3 (n3.flatMap mutC) * (crow 4 83 A2 m2 c2 (n2.flatMap mutC) * (crow 1 3 A1 m1 c1 (n1.flatMap intC) * (blk (q + 1) (.cells #[.int .i64 0] 25) * (blk (q + 1 + 1) (.cells #[.pointer (some ⟨pm, 0, none⟩), .pointer (some ⟨pm, 1, none⟩), .pointer (some ⟨pm, 2, none⟩)] 124) * F))))))))) (by ac_rfl))
              clear g hr hl hb MS HB hv4 K3 R3L
              have PE := Aside0.mk (K4.out.atB (q + 1))
              have z1 := PE.out.cell (i := 0) (v := .int .i64 0) rfl
              have z2 := PE.out.unfrozen 0
              have PZ := Aside0.mk (PE.out.set 0 (.int .i64 0))
              have z3 := (P4.out.atB (q + 1)).cell (i := 0) (v := .int .i64 0) rfl
              have z4 := (P4.out.atB (q + 1)).unfrozen 0
              go_wp2_with fail
              clear y4 mm mf P4
              refine leaves_cons (f := 50) (args := #[.pointer (some ⟨q + 1, 0, none⟩)]) (by simp) (by simp [go_sem]) ?_
              refine (caught_idle (q + 1) _).mono ?_
              rintro e u' w9 ⟨rfl, rfl, rfl⟩
              have AL := Aside0.mk (PZ.out.alloc (.cells #[.int .i64 0] 141))
              have z0 := (AL.out.atB (q + 1)).cell (i := 0) (v := .int .i64 0) rfl
              refine ⟨.int .i64 0, by simp [results, Try.results43, go_sem, z0], .inl ⟨mkMsg l7 a7 n1 n2 n3 n4, zs4, (A1, m1, c1), (A2, m2, c2), (A3, m3, c3), (A4, m4, c4), R4L.out, ⟨L1L.out, L2L.out, L3L.out, L4L.out⟩, rfl, ?_⟩⟩
              rw [← mcells_full l7 L7.out]
              exact (AL.out.right.as (Q := (srcP w0 p zs4 * (blk pm (.cells (mcells (intsV l7 ++ [.bool a7] ++ [.slice A1 m1 c1] ++ [.slice A2 m2 c2] ++ [.slice A3 m3 c3] ++ [.slice A4 m4 c4])) 53) * (listsP n1 n2 n3 n4 (A1, m1, c1) (A2, m2, c2) (A3, m3, c3) (A4, m4, c4) * F))) * (scapP q p * (blk (q + 1) (.cells #[.int .i64 0] 25) * blk (q + 1 + 1) (.cells #[.pointer (some ⟨pm, 0, none⟩), .pointer (some ⟨pm, 1, none⟩), .pointer (some ⟨pm, 2, none⟩)] 124)))) (by
                show blk (q + 1) (.cells #[.int .i64 0] 25) * _ = _
                unfold listsP
                ac_rfl)).left
            · have RE := Aside0.mk (R3L.out.trans (Rd.bind_err hr _))
              have HX := Aside0.mk (g.atB (q + 1))
              have k2 := HX.out.cell (i := 0) (v := .int .i64 0) rfl
              have zf := HX.out.unfrozen 0
              have l2 := HX.out.lt
              refine leaves_cons (f := 50) (args := #[.pointer (some ⟨q + 1, 0, none⟩)]) (by simp) (by simp [go_sem]) ?_
              refine (caught_some (q + 1) _ c _ k2 zf l2).mono ?_
              rintro e u' w6 ⟨rfl, rfl, rfl⟩
              have HZ := Aside0.mk (((HX.out.alloc (.cells #[.int .i64 c] 141)).atB (q + 1)).set 0 (.int .i64 c))
              have z0 := HZ.out.cell (i := 0) (v := .int .i64 c) rfl
              exact ⟨.int .i64 c, by simp [results, Try.results43, go_sem, z0], .inr ⟨c, RE.out, hc, rfl, HZ.out.only F⟩⟩
          · have RE := Aside0.mk (R2L.out.trans (Rd.bind_err hr _))
            have HX := Aside0.mk (g.atB (q + 1))
            have k2 := HX.out.cell (i := 0) (v := .int .i64 0) rfl
            have zf := HX.out.unfrozen 0
            have l2 := HX.out.lt
            refine leaves_cons (f := 50) (args := #[.pointer (some ⟨q + 1, 0, none⟩)]) (by simp) (by simp [go_sem]) ?_
            refine (caught_some (q + 1) _ c _ k2 zf l2).mono ?_
            rintro e u' w6 ⟨rfl, rfl, rfl⟩
            have HZ := Aside0.mk (((HX.out.alloc (.cells #[.int .i64 c] 141)).atB (q + 1)).set 0 (.int .i64 c))
            have z0 := HZ.out.cell (i := 0) (v := .int .i64 c) rfl
            exact ⟨.int .i64 c, by simp [results, Try.results43, go_sem, z0], .inr ⟨c, RE.out, hc, rfl, HZ.out.only F⟩⟩
        · have RE := Aside0.mk (R1L.out.trans (Rd.bind_err hr _))
          have HX := Aside0.mk (g.atB (q + 1))
          have k2 := HX.out.cell (i := 0) (v := .int .i64 0) rfl
          have zf := HX.out.unfrozen 0
          have l2 := HX.out.lt
          refine leaves_cons (f := 50) (args := #[.pointer (some ⟨q + 1, 0, none⟩)]) (by simp) (by simp [go_sem]) ?_
          refine (caught_some (q + 1) _ c _ k2 zf l2).mono ?_
          rintro e u' w6 ⟨rfl, rfl, rfl⟩
          have HZ := Aside0.mk (((HX.out.alloc (.cells #[.int .i64 c] 141)).atB (q + 1)).set 0 (.int .i64 c))
          have z0 := HZ.out.cell (i := 0) (v := .int .i64 c) rfl
          exact ⟨.int .i64 c, by simp [results, Try.results43, go_sem, z0], .inr ⟨c, RE.out, hc, rfl, HZ.out.only F⟩⟩
      · have RE := Aside0.mk (RY.out.trans (Rd.bind_err hr _))
        have HX := Aside0.mk (g.atB (q + 1))
        have k2 := HX.out.cell (i := 0) (v := .int .i64 0) rfl
        have zf := HX.out.unfrozen 0
        have l2 := HX.out.lt
        refine leaves_cons (f := 50) (args := #[.pointer (some ⟨q + 1, 0, none⟩)]) (by simp) (by simp [go_sem]) ?_
        refine (caught_some (q + 1) _ c _ k2 zf l2).mono ?_
        rintro e u' w6 ⟨rfl, rfl, rfl⟩
        have HZ := Aside0.mk (((HX.out.alloc (.cells #[.int .i64 c] 141)).atB (q + 1)).set 0 (.int .i64 c))
        have z0 := HZ.out.cell (i := 0) (v := .int .i64 c) rfl
        exact ⟨.int .i64 c, by simp [results, Try.results43, go_sem, z0], .inr ⟨c, RE.out, hc, rfl, HZ.out.only F⟩⟩
end Go.Proofs.Ytloiclalcepbeaa
