/- The reference's Decode: what it answers. Printed by wip/gen/refdec.py. -/
import Derived.Test.YtckdkbjobipniaaCodeJC
import Derived.Test.YtckdkbjobipniaaCC
import Derived.Deep.DeepCutAuto
import Derived.Deep.CutBlock
set_option linter.unusedVariables false
set_option linter.unusedSimpArgs false
namespace Go.Proofs.Ytckdkbjobipniaa
open Go.RowKit Go.Proofs.YtckdkbjobipniaaW.PrintWords Go.Proofs.YtckdkbjobipniaaW.PrintLast
def zeros7 : List Value := [.int .i64 0, .int .i64 0, .int .i64 0, .int .i64 0, .int .i64 0, .int .i64 0, .int .i64 0]
def icells (l : List Int) : Array Value := (intsV l ++ zeros7.drop l.length).toArray
theorem icells_set (l : List Int) (a : Int) (h : l.length < 7) : (icells l).setIfInBounds l.length (.int .i64 a) = icells (l ++ [a]) := by
  unfold icells
  rw [List.setIfInBounds_toArray]
  congr 1
  have e : (intsV l).length = l.length := intsV_len l
  rw [List.set_append_right _ _ (by omega), e, Nat.sub_self, intsV_snoc, List.length_append, List.append_assoc]
  congr 1
  have hz : l.length < zeros7.length := h
  rw [List.drop_eq_getElem_cons hz]
  rfl
theorem icells_at (l : List Int) (h : l.length < 7) : (icells l)[l.length]? = some (.int .i64 0) := by
  unfold icells
  rw [List.getElem?_toArray, List.getElem?_append_right (by rw [intsV_len]; omega), intsV_len, Nat.sub_self]
  match hl : l.length, h with
  | 0, _ => rfl
  | 1, _ => rfl
  | 2, _ => rfl
  | 3, _ => rfl
  | 4, _ => rfl
  | 5, _ => rfl
  | 6, _ => rfl
theorem seven (l : List Int) (h : l.length = 7) : ∃ a0 a1 a2 a3 a4 a5 a6, l = [a0, a1, a2, a3, a4, a5, a6] := by
  match l, h with
  | [a0, a1, a2, a3, a4, a5, a6], _ => exact ⟨_, _, _, _, _, _, _, rfl⟩
theorem Rd.assoc {α β γ : Type} (r : Rd α) (f : α → List Int → Rd β) (g : β → List Int → Rd γ) : (r.bind f).bind g = r.bind fun a ys => (f a ys).bind g := by
  cases r with
  | error c => rfl
  | ok p => rfl
theorem many_go {α β : Type} (one : List Int → Rd α) (k : Nat) (l : List α) (G : List α → List Int → Rd β) (xs : List Int) : ((rMany one (k + 1) xs).bind fun l' vs => G (l ++ l') vs) = (one xs).bind fun a ys => (rMany one k ys).bind fun l' vs => G (l ++ [a] ++ l') vs := by
  show ((one xs).bind fun a ys => (rMany one k ys).bind fun l zs => .ok (a :: l, zs)).bind _ = _
  rw [Rd.assoc]
  congr 1
  funext a ys
  rw [Rd.assoc]
  congr 1
  funext l' vs
  show G (l ++ a :: l') vs = _
  rw [List.append_assoc]; rfl
theorem list_go {α β : Type} (one : List Int → Rd α) (G : List α → List Int → Rd β) (xs : List Int) : ((rList one xs).bind G) = (rCount 1024 xs).bind fun n ys => (rMany one (n - 0) ys).bind fun l' vs => G ([] ++ l') vs := by
  unfold rList
  rw [Rd.assoc]
  rfl
/-- The state of a list that is read: at a round's head, at a round's end, behind it. -/
theorem list_round {α β : Type} {one : List Int → Rd α} {k n : Nat} {l : List α} {G : List α → List Int → Rd β} {r : Rd β} {t : Sr} (hk : k < n) (h : r = srB t fun ys => (rMany one (n - k) ys).bind fun l' vs => G (l ++ l') vs) :
    r = srB t fun xs => (one xs).bind fun a ys => (rMany one (n - (k + 1)) ys).bind fun l' vs => G (l ++ [a] ++ l') vs := by
  rw [h, show n - k = n - (k + 1) + 1 by omega]
  congr 1
  funext ys
  exact many_go one _ l G ys
theorem list_done {α β : Type} {one : List Int → Rd α} {k n : Nat} {l : List α} {G : List α → List Int → Rd β} {r : Rd β} {t : Sr} (hk : n ≤ k ∨ ∃ c, t = .error c) (h : r = srB t fun ys => (rMany one (n - k) ys).bind fun l' vs => G (l ++ l') vs) : r = srB t (G l) := by
  rcases hk with hk | ⟨c, rfl⟩
  · rw [h, show n - k = 0 by omega]
    congr 1
    funext ys
    show G (l ++ []) ys = _
    rw [List.append_nil]
  · exact h
theorem mut_go {β : Type} (H : Mut → List Int → Rd β) (xs : List Int) : (rMut xs).bind H = (rFlag xs).bind fun f ys => (rTup ys).bind fun t zs => H (f, t) zs := by
  unfold rMut
  rw [Rd.assoc]
  congr 1
  funext f ys
  rw [Rd.assoc]
  rfl
theorem row_go {β : Type} (H : Rw → List Int → Rd β) (xs : List Int) : (rRow xs).bind H = (rTup xs).bind fun t ys => (rInt ys).bind fun s zs => (rInt zs).bind fun u vs => H (t, s, u) vs := by
  unfold rRow
  rw [Rd.assoc]
  congr 1
  funext f ys
  rw [Rd.assoc]
  congr 1
  funext f ys
  rw [Rd.assoc]
  rfl
theorem Hw.put {w0 w : World} {F : HP} {b : Nat} {cs : Array Value} {e : TypeId} {fz : Nat × Nat} (h : Hw w0 w (blk b (.cells cs e fz) * F)) (i : Nat) (v : Value) {cs' : Array Value} (hc : cs.setIfInBounds i v = cs') : Hw w0 (w.setCell ⟨b, i, none⟩ v) (blk b (.cells cs' e fz) * F) := by
  subst hc
  exact h.set i v
theorem list_start {α β : Type} {one : List Int → Rd α} {G : List α → List Int → Rd β} {r : Rd β} {t : Sr} (h : r = srB t fun y => (rList one y).bind G) : r = srB t fun xs => (rCount 1024 xs).bind fun n ys => (rMany one (n - 0) ys).bind fun l' vs => G ([] ++ l') vs := by
  rw [h]
  congr 1
  funext y
  exact list_go one G y
theorem list_round_mut {β : Type} {k n : Nat} {l : List Mut} {G : List Mut → List Int → Rd β} {r : Rd β} {t : Sr} (hk : k < n) (h : r = srB t fun ys => (rMany rMut (n - k) ys).bind fun l' vs => G (l ++ l') vs) :
    r = srB t fun xs => (rFlag xs).bind fun f ys => (rTup ys).bind fun tt zs => (rMany rMut (n - (k + 1)) zs).bind fun l' vs => G (l ++ [(f, tt)] ++ l') vs := by
  rw [list_round hk h]
  congr 1
  funext y
  exact mut_go _ y
theorem list_round_row {β : Type} {k n : Nat} {l : List Rw} {G : List Rw → List Int → Rd β} {r : Rd β} {t : Sr} (hk : k < n) (h : r = srB t fun ys => (rMany rRow (n - k) ys).bind fun l' vs => G (l ++ l') vs) :
    r = srB t fun xs => (rTup xs).bind fun tt ys => (rInt ys).bind fun s zs => (rInt zs).bind fun u us => (rMany rRow (n - (k + 1)) us).bind fun l' vs => G (l ++ [(tt, s, u)] ++ l') vs := by
  rw [list_round hk h]
  congr 1
  funext y
  exact row_go _ y
theorem count_le {n : Nat} {s t : Sr} (h : SrTo (· = 0) s (rCount 1024) n t) : n ≤ 1024 := by
  cases t with
  | error c => have := h.of_err.2; omega
  | ok ys =>
    have h1 := h.of_ok
    cases s with
    | error c => cases h1
    | ok xs => have := rCount_le (by decide) h1; omega
theorem store_row_run {P : Program} {o : Oper} {a : Act} {w : World} (ty : TypeId) (x y : Operand) (ho : o.op = .store ty x y) (g : Nat) (cells : Array Value) (hx : a.eval x = .pointer (some ⟨g, 0, none⟩)) (hy : a.eval y = .agg cells)
    (t : TypeId) (old : Array Value) (hg : w.heap[g]? = some (.cells old t (0, 0))) (hi : (P.info? ty).map (·.size) = some cells.size) (hold : old.size = cells.size) (h1 : cells.all (·.oneCell') = true) : (execOp a.eval o).run P w = .ok .skip (w.setRow g cells) := by
  unfold execOp
  simp only [ho, hx, hy, Instr.storeAt, Instr.sureAddr, Sem.run_bind, Sem.run_pure, Result.andThen_ok, run_storeVar_row w g t ty old cells hg hi hold h1]
theorem Hw.setRow {w0 W : World} {F : HP} {g : Nat} {old : Array Value} {e : TypeId} (h : Hw w0 W (blk g (.cells old e (0, 0)) * F)) (cells : Array Value) (hold : old.size = cells.size) : Hw w0 (W.setRow g cells) (blk g (.cells cells e (0, 0)) * F) := by
  have hg := h.blk_at.1
  refine h.turn rfl rfl rfl (by simp [World.setRow]) (fun i hi hne => ?_) ?_
  · simp [World.setRow, Array.getElem?_modify, Ne.symm hne]
  · simp [World.setRow, Array.getElem?_modify, hg]
theorem str_ne {T : ByteArray} {x : Int} {r : List Int} (h : strOfNums (x :: r) = T) : ¬ T.toList = [] := fun e => by
  have h1 : T = ⟨#[]⟩ := tx_toList.mp (by rw [e]; exact empty_toList.symm)
  have h2 := congrArg ByteArray.size h1
  rw [← h, tx_size] at h2
  change r.length + 1 = 0 at h2
  omega
def after4 (L : List Int) (f : Bool) (l1 : List Int) (l2 l3 : List Mut) : List Rw → List Int → Rd Msg := fun l4 y => .ok (mkMsg L f l1 l2 l3 l4, y)
def after3 (L : List Int) (f : Bool) (l1 : List Int) (l2 : List Mut) : List Mut → List Int → Rd Msg := fun l3 y => (rList rRow y).bind (after4 L f l1 l2 l3)
def after2 (L : List Int) (f : Bool) (l1 : List Int) : List Mut → List Int → Rd Msg := fun l2 y => (rList rMut y).bind (after3 L f l1 l2)
def after1 (L : List Int) (f : Bool) : List Int → List Int → Rd Msg := fun l1 y => (rList rMut y).bind (after2 L f l1)
def after0 (L : List Int) : Bool → List Int → Rd Msg := fun f y => (rList rInt y).bind (after1 L f)
def DecRef (w : World) (xs : List Int) (e : Ending) (w' : World) : Prop := ∃ m s1 s2 s3 s4 k, decRes xs = (m, k) ∧ HdrsOf m s1 s2 s3 s4 ∧ e = .returned (.tuple #[msgV m s1 s2 s3 s4, .int .i64 k]) ∧ Hw w w' (listsP m.nodes m.muts m.pre m.rows s1 s2 s3 s4 * HP.emp)
theorem DecRef.bad {w w' : World} {xs : List Int} {e : Ending} {c : Int} {F : HP} (hd : rDec xs = .error c) (he : e = .returned (.tuple #[.agg #[.int .i64 0, .int .i64 0, .int .i64 0, .int .i64 0, .int .i64 0, .int .i64 0, .int .i64 0, .bool false, .slice none 0 0, .slice none 0 0, .slice none 0 0, .slice none 0 0], .int .i64 c])) (h : Hw w w' F) : DecRef w xs e w' := by
  refine ⟨zeroMsg, nilH, nilH, nilH, nilH, c, by unfold decRes; rw [hd], ⟨⟨rfl, by decide⟩, ⟨rfl, by decide⟩, ⟨rfl, by decide⟩, ⟨rfl, by decide⟩⟩, he, ?_⟩
  have h0 : Hw w w' HP.emp := (Hw.start w).from_below h.below
  have h1 := crow_none (sz := 5) (e := 145) (A := none) (n := 0) (cs := []) rfl rfl h0
  have h2 := crow_none (sz := 4) (e := 143) (A := none) (n := 0) (cs := []) rfl rfl h1
  have h3 := crow_none (sz := 4) (e := 135) (A := none) (n := 0) (cs := []) rfl rfl h2
  have h4 := crow_none (sz := 1) (e := 3) (A := none) (n := 0) (cs := []) rfl rfl h3
  refine h4.as ?_
  show _ = crow 1 3 none 0 0 [] * (crow 4 135 none 0 0 [] * (crow 4 143 none 0 0 [] * crow 5 145 none 0 0 [])) * HP.emp
  ac_rfl
set_option maxHeartbeats 12800000 in
set_option maxRecDepth 100000 in
theorem refdec_ok (xs : List Int) (hb : bytes xs) (hl : xs.length ≤ 140737488351232) (w : World) : Calls Try.prog 15 #[.string (strOfNums xs)] w (DecRef w xs) := by
  obtain ⟨s, hs⟩ : ∃ s, s = strOfNums xs := ⟨_, rfl⟩
  obtain ⟨n, hn⟩ : ∃ n, s.size = n := ⟨_, rfl⟩
  have hnx : xs.length = n := by rw [← hn, hs, tx_size]
  have RD := Aside0.mk (show rDec xs = if 16384 < xs.length then .error 2 else match rMsg xs with
    | .error c => .error c
    | .ok (m, []) => .ok m
    | .ok (_, _ :: _) => .error 21 from rfl)
  have HB := Aside0.mk (And.intro hb hl)
  rw [← hs]
  by_cases hbig : 16384 < n
  · have d1 : decide ((16384 : Int) < n) = true := decide_eq_true (by omega)
    have d2 : decide (16384 < n) = true := decide_eq_true hbig
    have G0 := Aside0.mk ((Hw.start w).alloc (.cells #[.int .i64 0, .int .i64 0, .int .i64 0, .int .i64 0, .int .i64 0, .int .i64 0, .int .i64 0, .bool false, .slice none 0 0, .slice none 0 0, .slice none 0 0, .slice none 0 0] 27))
    have E0 := Aside0.mk (show rDec xs = .error 2 by rw [RD.out, if_pos (by omega)])
    clear hs hnx hb hl
    go_enter Try.func15, Try.ntmps15
    go_wp2_with (refine Hw.store_row rfl 27 (.tmp 2) (.tmp 20) rfl w.heap.size #[.int .i64 0, .int .i64 0, .int .i64 0, .int .i64 0, .int .i64 0, .int .i64 0, .int .i64 0, .bool false, .slice none 0 0, .slice none 0 0, .slice none 0 0, .slice none 0 0] rfl rfl G0.out (by kernel_rfl) (by rfl) (by first | kernel_rfl | rfl | simp [Value.oneCell']) ?_; intro w5 GZ)

    have z0 := GZ.out.cellAt w.heap.size 0 (v := .int .i64 0) rfl
    have z1 := GZ.out.cellAt w.heap.size 1 (v := .int .i64 0) rfl
    have z2 := GZ.out.cellAt w.heap.size 2 (v := .int .i64 0) rfl
    have z3 := GZ.out.cellAt w.heap.size 3 (v := .int .i64 0) rfl
    have z4 := GZ.out.cellAt w.heap.size 4 (v := .int .i64 0) rfl
    have z5 := GZ.out.cellAt w.heap.size 5 (v := .int .i64 0) rfl
    have z6 := GZ.out.cellAt w.heap.size 6 (v := .int .i64 0) rfl
    have z7 := GZ.out.cellAt w.heap.size 7 (v := .bool false) rfl
    have z8 := GZ.out.cellAt w.heap.size 8 (v := .slice none 0 0) rfl
    have z9 := GZ.out.cellAt w.heap.size 9 (v := .slice none 0 0) rfl
    have z10 := GZ.out.cellAt w.heap.size 10 (v := .slice none 0 0) rfl
    have z11 := GZ.out.cellAt w.heap.size 11 (v := .slice none 0 0) rfl
    exact bodyPost_ret (v := .tuple #[.agg #[.int .i64 0, .int .i64 0, .int .i64 0, .int .i64 0, .int .i64 0, .int .i64 0, .int .i64 0, .bool false, .slice none 0 0, .slice none 0 0, .slice none 0 0, .slice none 0 0], .int .i64 2]) (by simp [results, Try.results15, go_sem, z0, z1, z2, z3, z4, z5, z6, z7, z8, z9, z10, z11]) rfl (.bad E0.out rfl GZ.out)
  · have d1 : decide ((16384 : Int) < n) = false := decide_eq_false (by omega)
    have d2 : decide (16384 < n) = false := decide_eq_false hbig
    have RD2 := Aside0.mk (show rDec xs = match rMsg xs with
      | .error c => .error c
      | .ok (m, []) => .ok m
      | .ok (_, _ :: _) => .error 21 by rw [RD.out, if_neg (by omega)])
    have H1 := Aside0.mk ((((Hw.start w).alloc (.cells #[.int .i64 0, .int .i64 0, .int .i64 0, .int .i64 0, .int .i64 0, .int .i64 0, .int .i64 0, .bool false, .slice none 0 0, .slice none 0 0, .slice none 0 0, .slice none 0 0] 27)).alloc (.cells #[.string s, .int .i64 0] 151)).alloc (.cells (icells []) 152))
    simp only [World.size_alloc] at H1
    have R0 := Aside0.mk (show rMsg xs = srB (.ok xs) (fun ys => (rMany rInt (7 - 0) ys).bind fun l' vs => rRest ([] ++ l') vs) from rfl)
    have S0 := Aside0.mk (And.intro hs (show SrOk (.ok xs) from ⟨hb, hl⟩))
    clear hs hnx hb hl RD
    go_enter Try.func15, Try.ntmps15
    go_upto_block 0 with fail
    go_cut [6] (fun s6 wc => ∃ (a0 a1 a2 a3 a4 a5 a6 : Int) (t : Sr) (T : ByteArray) (cc : Int), Aside0 (srT t = T ∧ srC t = cc ∧ SrOk t) ∧ Aside0 (rMsg xs = srB t (rRest [a0, a1, a2, a3, a4, a5, a6])) ∧ Aside0 (Hw w wc (blk (w.heap.size + 1 + 1) (.cells (icells [a0, a1, a2, a3, a4, a5, a6]) 152) * (blk (w.heap.size + 1) (.cells #[.string T, .int .i64 cc] 151) * (blk w.heap.size (.cells #[.int .i64 0, .int .i64 0, .int .i64 0, .int .i64 0, .int .i64 0, .int .i64 0, .int .i64 0, .bool false, .slice none 0 0, .slice none 0 0, .slice none 0 0, .slice none 0 0] 27) * HP.emp)))))
    case first =>
      go_wp2_with fail
      go_loopw [6] (fun i wr => ∃ (k : Nat) (l : List Int) (t : Sr) (T : ByteArray) (cc : Int), k ≤ 7 ∧ i = .int .i64 k ∧ Aside0 (l.length = k) ∧ Aside0 (srT t = T ∧ srC t = cc ∧ SrOk t) ∧ Aside0 (rMsg xs = srB t (fun ys => (rMany rInt (7 - k) ys).bind fun l' vs => rRest (l ++ l') vs)) ∧ Aside0 (Hw w wr (blk (w.heap.size + 1 + 1) (.cells (icells l) 152) * (blk (w.heap.size + 1) (.cells #[.string T, .int .i64 cc] 151) * (blk w.heap.size (.cells #[.int .i64 0, .int .i64 0, .int .i64 0, .int .i64 0, .int .i64 0, .int .i64 0, .int .i64 0, .bool false, .slice none 0 0, .slice none 0 0, .slice none 0 0, .slice none 0 0] 27) * HP.emp)))))  (fun i _ => 7 - (intOf i).toNat)
      case atStart => exact ⟨0, [], .ok xs, s, 0, by omega, rfl, ⟨rfl⟩, ⟨S0.out.1.symm, rfl, S0.out.2⟩, R0, H1⟩
      case round =>
        obtain ⟨k, l, t, T, cc, hk, rfl, LL, ST, RR, HW⟩ := hrel
        clear H1 R0 S0
        by_cases hlt : k < 7
        · have d5 : decide ((k : Int) < 7) = true := decide_eq_true (by omega)
          have RX := Aside0.mk (list_round hlt RR.out)
          have RN := Aside0.mk (refnumber_ok t ST.out.2.2)
          simp only [srV, ST.out.1, ST.out.2.1] at RN
          have k0 := HW.out.cellAt (w.heap.size + 1) 0 (v := .string T) rfl
          have k1 := HW.out.cellAt (w.heap.size + 1) 1 (v := .int .i64 cc) rfl
          go_wp2_with fail
          refine (RN.out _).mono fun e w1 h => ?_
          obtain ⟨a, t1, T1, c1, hto, hT, hc, rfl, hbel⟩ := h.elim
          have R1 := Aside0.mk (hto.next RX.out)
          have ST1 := Aside0.mk (And.intro hT (And.intro hc hto.ok))
          have H2 := Aside0.mk (HW.out.from_below hbel)
          clear h hto hT hc hbel HW RN RX RR k0 k1 ST
          have k0 := H2.out.cellAt (w.heap.size + 1) 0 (v := .string T) rfl
          have k1 := H2.out.cellAt (w.heap.size + 1) 1 (v := .int .i64 cc) rfl
          have kf := H2.out.freeAt (w.heap.size + 1)
          have q0 : w1.cell? ⟨w.heap.size + 1 + 1, k, none⟩ = some (.int .i64 0) := by
            have := H2.out.cellAt (w.heap.size + 1 + 1) l.length (v := .int .i64 0) (icells_at l (by rw [LL.out]; exact hlt))
            rwa [LL.out] at this
          have qf := H2.out.freeAt (w.heap.size + 1 + 1)
          have H3 := Aside0.mk ((((H2.out.put k (.int .i64 a) (cs' := icells (l ++ [a])) (by have h := icells_set l a (by rw [LL.out]; exact hlt); rwa [LL.out] at h)).atB (w.heap.size + 1)).put2 (u := .string T1) (v := .int .i64 c1)).as (by ac_rfl : _ = blk (w.heap.size + 1 + 1) (.cells (icells (l ++ [a])) 152) * (blk (w.heap.size + 1) (.cells #[.string T1, .int .i64 c1] 151) * (blk w.heap.size (.cells #[.int .i64 0, .int .i64 0, .int .i64 0, .int .i64 0, .int .i64 0, .int .i64 0, .int .i64 0, .bool false, .slice none 0 0, .slice none 0 0, .slice none 0 0, .slice none 0 0] 27) * HP.emp))))
          have LN := Aside0.mk (show (l ++ [a]).length = k + 1 by rw [List.length_append, LL.out]; rfl)
          clear H2 LL
          go_wp2_with fail
          go_roundw
          case rel => exact ⟨k + 1, l ++ [a], t1, T1, c1, by omega, by go_num, LN, ST1, R1, H3⟩
          case measure => simp [intOf]; omega
        · have hk7 : k = 7 := by omega
          subst hk7
          obtain ⟨a0, a1, a2, a3, a4, a5, a6, rfl⟩ := seven l LL.out
          have RE := Aside0.mk (list_done (.inl (Nat.le_refl _)) RR.out)
          clear RR
          go_wp2_with fail
          go_meet
          exact ⟨a0, a1, a2, a3, a4, a5, a6, t, T, cc, ST, RE, HW⟩
    case rest =>
      obtain ⟨a0, a1, a2, a3, a4, a5, a6, t, T, cc, ST, RR, HW⟩ := hcut
      clear H1 R0 S0
      have hz := HW.out.ltB (w.heap.size + 1 + 1)

      have i0 := HW.out.cellAt (w.heap.size + 1 + 1) 0 (v := .int .i64 a0) rfl
      have i1 := HW.out.cellAt (w.heap.size + 1 + 1) 1 (v := .int .i64 a1) rfl
      have i2 := HW.out.cellAt (w.heap.size + 1 + 1) 2 (v := .int .i64 a2) rfl
      have i3 := HW.out.cellAt (w.heap.size + 1 + 1) 3 (v := .int .i64 a3) rfl
      have i4 := HW.out.cellAt (w.heap.size + 1 + 1) 4 (v := .int .i64 a4) rfl
      have i5 := HW.out.cellAt (w.heap.size + 1 + 1) 5 (v := .int .i64 a5) rfl
      have i6 := HW.out.cellAt (w.heap.size + 1 + 1) 6 (v := .int .i64 a6) rfl
      obtain ⟨q, hq⟩ : ∃ q, wc.heap.size = q := ⟨_, rfl⟩
      rw [hq] at hz
      have dq1 : ¬ q = w.heap.size + 1 := by omega
      have dq2 : ¬ w.heap.size + 1 = q := by omega
      have dq3 : ¬ q = w.heap.size := by omega
      have dq4 : ¬ w.heap.size = q := by omega
      have G1 := Aside0.mk (HW.out.alloc (.cells #[.int .i64 0, .int .i64 0, .int .i64 0, .int .i64 0, .int .i64 0, .int .i64 0, .int .i64 0, .bool false, .slice none 0 0, .slice none 0 0, .slice none 0 0, .slice none 0 0] 27))
      rw [hq] at G1
      have RF := Aside0.mk (show rMsg xs = srB t (fun y => (rFlag y).bind (after0 [a0, a1, a2, a3, a4, a5, a6])) from RR.out)
      have RN := Aside0.mk (refflag_ok t ST.out.2.2)
      simp only [srV, ST.out.1, ST.out.2.1] at RN
      clear RR hz
      go_wp2_with (refine Hw.store_row rfl 27 (.tmp 7) (.tmp 48) rfl q #[.int .i64 a0, .int .i64 a1, .int .i64 a2, .int .i64 a3, .int .i64 a4, .int .i64 a5, .int .i64 a6, .bool false, .slice none 0 0, .slice none 0 0, .slice none 0 0, .slice none 0 0] (by simp [hq, go_sem]) rfl G1.out (by kernel_rfl) (by rfl) (by first | kernel_rfl | rfl | simp [Value.oneCell']) ?_; intro w5 G2; have k0 := G2.out.cellAt (w.heap.size + 1) 0 (v := .string T) rfl; have k1 := G2.out.cellAt (w.heap.size + 1) 1 (v := .int .i64 cc) rfl)
      clear i0 i1 i2 i3 i4 i5 i6 G1
      refine (RN.out _).mono fun e w6 h => ?_
      obtain ⟨f, t1, T1, c1, hto, hT, hc, rfl, hbel⟩ := h.elim
      have R1 := Aside0.mk (show rMsg xs = srB t1 (fun y => (rList rInt y).bind (after1 [a0, a1, a2, a3, a4, a5, a6] f)) from hto.next RF.out)
      have ST1 := Aside0.mk (And.intro hT (And.intro hc hto.ok))
      have H2 := Aside0.mk (G2.out.from_below hbel)
      clear h hto hT hc hbel G2 RF RN ST k0 k1 HW hq
      have k0 := H2.out.cellAt (w.heap.size + 1) 0 (v := .string T) rfl
      have k1 := H2.out.cellAt (w.heap.size + 1) 1 (v := .int .i64 cc) rfl
      have kf := H2.out.freeAt (w.heap.size + 1)
      have m7 := H2.out.cellAt q 7 (v := .bool false) rfl
      have mf := H2.out.freeAt q
      have H3 := Aside0.mk (((H2.out.atB q).put 7 (.bool f) (cs' := #[.int .i64 a0, .int .i64 a1, .int .i64 a2, .int .i64 a3, .int .i64 a4, .int .i64 a5, .int .i64 a6, .bool f, .slice none 0 0, .slice none 0 0, .slice none 0 0, .slice none 0 0]) rfl).atB (w.heap.size + 1) |>.put2 (u := .string T1) (v := .int .i64 c1))
      have H4 : Aside0 (Hw w _ (blk q (.cells #[.int .i64 a0, .int .i64 a1, .int .i64 a2, .int .i64 a3, .int .i64 a4, .int .i64 a5, .int .i64 a6, .bool f, .slice none 0 0, .slice none 0 0, .slice none 0 0, .slice none 0 0] 27) * (blk (w.heap.size + 1) (.cells #[.string T1, .int .i64 c1] 151) * (crow 1 3 none 0 0 [] * (crow 4 135 none 0 0 [] * (crow 4 143 none 0 0 [] * (crow 5 145 none 0 0 [] * (blk w.heap.size (.cells #[.int .i64 0, .int .i64 0, .int .i64 0, .int .i64 0, .int .i64 0, .int .i64 0, .int .i64 0, .bool false, .slice none 0 0, .slice none 0 0, .slice none 0 0, .slice none 0 0] 27) * HP.emp)))))))) := ⟨by
        have h1 := crow_none (sz := 5) (e := 145) (A := none) (n := 0) (cs := []) rfl rfl H3.out
        have h2 := crow_none (sz := 4) (e := 143) (A := none) (n := 0) (cs := []) rfl rfl h1
        have h3 := crow_none (sz := 4) (e := 135) (A := none) (n := 0) (cs := []) rfl rfl h2
        have h4 := crow_none (sz := 1) (e := 3) (A := none) (n := 0) (cs := []) rfl rfl h3
        exact (h4.dropB (w.heap.size + 1 + 1)).as (by ac_rfl)⟩
      clear H3

      have RS := Aside0.mk (list_start R1.out)
      have k0 := H4.out.cellAt (w.heap.size + 1) 0 (v := .string T1) rfl
      have k1 := H4.out.cellAt (w.heap.size + 1) 1 (v := .int .i64 c1) rfl
      have RN := Aside0.mk (refcount_ok 1024 t1 ST1.out.2.2)
      simp only [srV, ST1.out.1, ST1.out.2.1] at RN
      clear R1
      go_wp2_with fail
      refine (RN.out _).mono fun e w1c h => ?_
      obtain ⟨n1m, tc, Tc, cc, hto, hT, hc, rfl, hbel⟩ := h.elim
      have RC := Aside0.mk (show rMsg xs = srB tc (fun ys => (rMany rInt (n1m - 0) ys).bind fun l' vs => after1 [a0, a1, a2, a3, a4, a5, a6] f ([] ++ l') vs) from hto.next RS.out)
      have STC := Aside0.mk (And.intro hT (And.intro hc hto.ok))
      have hn1m := count_le hto
      have HC0 := Aside0.mk (H4.out.from_below hbel)
      clear h hto hT hc hbel H4 RS RN ST1 k0 k1
      have k0 := HC0.out.cellAt (w.heap.size + 1) 0 (v := .string T1) rfl
      have k1 := HC0.out.cellAt (w.heap.size + 1) 1 (v := .int .i64 c1) rfl
      have kf := HC0.out.freeAt (w.heap.size + 1)
      have HC : Aside0 (Hw w _ (blk q (.cells #[.int .i64 a0, .int .i64 a1, .int .i64 a2, .int .i64 a3, .int .i64 a4, .int .i64 a5, .int .i64 a6, .bool f, .slice none 0 0, .slice none 0 0, .slice none 0 0, .slice none 0 0] 27) * (blk (w.heap.size + 1) (.cells #[.string Tc, .int .i64 cc] 151) * (crow 1 3 none 0 0 [] * (crow 4 135 none 0 0 [] * (crow 4 143 none 0 0 [] * (crow 5 145 none 0 0 [] * (blk w.heap.size (.cells #[.int .i64 0, .int .i64 0, .int .i64 0, .int .i64 0, .int .i64 0, .int .i64 0, .int .i64 0, .bool false, .slice none 0 0, .slice none 0 0, .slice none 0 0, .slice none 0 0] 27) * HP.emp)))))))) := ⟨((HC0.out.atB (w.heap.size + 1)).put2 (u := .string Tc) (v := .int .i64 cc)).as (by show _ = blk q (.cells #[.int .i64 a0, .int .i64 a1, .int .i64 a2, .int .i64 a3, .int .i64 a4, .int .i64 a5, .int .i64 a6, .bool f, .slice none 0 0, .slice none 0 0, .slice none 0 0, .slice none 0 0] 27) * (blk (w.heap.size + 1) (.cells #[.string Tc, .int .i64 cc] 151) * (crow 1 3 none 0 0 [] * (crow 4 135 none 0 0 [] * (crow 4 143 none 0 0 [] * (crow 5 145 none 0 0 [] * (blk w.heap.size (.cells #[.int .i64 0, .int .i64 0, .int .i64 0, .int .i64 0, .int .i64 0, .int .i64 0, .int .i64 0, .bool false, .slice none 0 0, .slice none 0 0, .slice none 0 0, .slice none 0 0] 27) * HP.emp)))))); ac_rfl)⟩
      clear HC0
      go_upto_block 2 with fail
      clear k0 k1 kf m7 mf
      go_cut [9] (fun s9 wc => ∃ (l1 : List Int) (t : Sr) (T : ByteArray) (cc : Int) (A1 : Option Addr) (n1 c1 : Nat), Aside0 (srT t = T ∧ srC t = cc ∧ SrOk t) ∧ Aside0 (rMsg xs = srB t (fun y => (rList rMut y).bind (after2 [a0, a1, a2, a3, a4, a5, a6] f l1))) ∧ Aside0 (n1 = l1.length ∧ n1 ≤ 1024) ∧ Aside0 (Hw w wc (blk q (.cells #[.int .i64 a0, .int .i64 a1, .int .i64 a2, .int .i64 a3, .int .i64 a4, .int .i64 a5, .int .i64 a6, .bool f, .slice A1 n1 c1, .slice none 0 0, .slice none 0 0, .slice none 0 0] 27) * (blk (w.heap.size + 1) (.cells #[.string T, .int .i64 cc] 151) * (crow 1 3 A1 n1 c1 (l1.flatMap intC) * (crow 4 135 none 0 0 [] * (crow 4 143 none 0 0 [] * (crow 5 145 none 0 0 [] * (blk w.heap.size (.cells #[.int .i64 0, .int .i64 0, .int .i64 0, .int .i64 0, .int .i64 0, .int .i64 0, .int .i64 0, .bool false, .slice none 0 0, .slice none 0 0, .slice none 0 0, .slice none 0 0] 27) * HP.emp)))))))))
      case first =>
        go_wp2_with fail
        go_loopw [9] (fun i wr => ∃ (k : Nat) (l : List Int) (t : Sr) (T : ByteArray) (cc : Int) (A : Option Addr) (cp : Nat), k ≤ n1m ∧ i = .int .i64 k ∧ Aside0 (l.length = k) ∧ Aside0 (srT t = T ∧ srC t = cc ∧ SrOk t) ∧ Aside0 (rMsg xs = srB t (fun ys => (rMany rInt (n1m - k) ys).bind fun l' vs => after1 [a0, a1, a2, a3, a4, a5, a6] f (l ++ l') vs)) ∧ Aside0 (Hw w wr (blk q (.cells #[.int .i64 a0, .int .i64 a1, .int .i64 a2, .int .i64 a3, .int .i64 a4, .int .i64 a5, .int .i64 a6, .bool f, .slice A k cp, .slice none 0 0, .slice none 0 0, .slice none 0 0] 27) * (blk (w.heap.size + 1) (.cells #[.string T, .int .i64 cc] 151) * (crow 1 3 A k cp (l.flatMap intC) * (crow 4 135 none 0 0 [] * (crow 4 143 none 0 0 [] * (crow 5 145 none 0 0 [] * (blk w.heap.size (.cells #[.int .i64 0, .int .i64 0, .int .i64 0, .int .i64 0, .int .i64 0, .int .i64 0, .int .i64 0, .bool false, .slice none 0 0, .slice none 0 0, .slice none 0 0, .slice none 0 0] 27) * HP.emp))))))))) (fun i _ => n1m - (intOf i).toNat)
        case atStart => exact ⟨0, [], tc, Tc, cc, none, 0, Nat.zero_le _, rfl, ⟨rfl⟩, STC, RC, HC⟩
        case round =>
          clear HC STC RC
          obtain ⟨k, l, t, T, cc, A, cp, hk, rfl, LL, ST, RR, HW⟩ := hrel
          have k1 := HW.out.cellAt (w.heap.size + 1) 1 (v := .int .i64 cc) rfl
          rcases t with ce | ys
          · obtain rfl : ce = cc := ST.out.2.1
            have C := Aside0.mk (show ce ≠ 0 from ST.out.2.2)
            have d3 : (ce == 0) = false := by simpa using C.out
            have d4 : (ce != 0) = true := by simpa using C.out
            have RE := Aside0.mk (list_done (.inr ⟨ce, rfl⟩) RR.out)
            clear RR
            by_cases hlt : k < n1m
            all_goals
              go_wp2_with fail
              go_meet
              exact ⟨l, .error ce, T, ce, A, k, cp, ST, RE, ⟨by rw [LL.out], by omega⟩, HW⟩
          · obtain rfl : 0 = cc := ST.out.2.1
            by_cases hlt : k < n1m
            · skip
              have RX := Aside0.mk (list_round hlt RR.out)
              have k0 := HW.out.cellAt (w.heap.size + 1) 0 (v := .string T) rfl
              have k1 := HW.out.cellAt (w.heap.size + 1) 1 (v := .int .i64 0) rfl
              have RN := Aside0.mk (refnumber_ok (.ok ys) ST.out.2.2)
              simp only [srV, ST.out.1, ST.out.2.1] at RN
              clear RR ST
              go_wp2_with fail
              refine (RN.out _).mono fun e vn h => ?_
              obtain ⟨a, tn, Tn, cn, hto, hT, hc, rfl, hbel⟩ := h.elim
              have RY := Aside0.mk (hto.next RX.out)
              have STn := Aside0.mk (And.intro hT (And.intro hc hto.ok))
              have H5 := Aside0.mk (HW.out.from_below hbel)
              clear h hto hT hc hbel HW RX RN k0 k1
              have k0 := H5.out.cellAt (w.heap.size + 1) 0 (v := .string T) rfl
              have k1 := H5.out.cellAt (w.heap.size + 1) 1 (v := .int .i64 0) rfl
              have kf := H5.out.freeAt (w.heap.size + 1)
              have H6 := Aside0.mk ((H5.out.atB (w.heap.size + 1)).put2 (u := .string Tn) (v := .int .i64 cn))
              have q8 := H6.out.cellAt q 8 (v := .slice A k cp) rfl
              have H7 := Aside0.mk ((H6.out.alloc (.cells (intC a).toArray 3)).as (Q := crow 1 3 A k cp (l.flatMap intC) * (blk vn.heap.size (.cells (intC a).toArray 3) * (blk q (.cells #[.int .i64 a0, .int .i64 a1, .int .i64 a2, .int .i64 a3, .int .i64 a4, .int .i64 a5, .int .i64 a6, .bool f, .slice A k cp, .slice none 0 0, .slice none 0 0, .slice none 0 0] 27) * (blk (w.heap.size + 1) (.cells #[.string Tn, .int .i64 cn] 151) * (crow 4 135 none 0 0 [] * (crow 4 143 none 0 0 [] * (crow 5 145 none 0 0 [] * (blk w.heap.size (.cells #[.int .i64 0, .int .i64 0, .int .i64 0, .int .i64 0, .int .i64 0, .int .i64 0, .int .i64 0, .bool false, .slice none 0 0, .slice none 0 0, .slice none 0 0, .slice none 0 0] 27) * HP.emp)))))))) (by simp only [World.size_setCell]; ac_rfl))
              have BC := Aside0.mk (blk_cells (H7.out.atB vn.heap.size))
              have FM := Aside0.mk (show (l ++ [a]).flatMap intC = l.flatMap intC ++ intC a by simp)
              clear H6
              go_wp2_with (at_builtin; refine crow_append (news := intC a) (m := 1) (c := 1) rfl (.tmp 76) (.tmp 78) 22 (.int .i64 0) 8 rfl Try.underlying22 Try.infoInt rfl (by decide) rfl rfl H7.out rfl (by intro u hu; simp only [List.mem_cons, List.not_mem_nil, or_false] at hu; rcases hu with rfl <;> rfl) (fun _ => ⟨_, rfl, BC.out⟩) (by decide) (by omega) ?_; intro AN cN w5 h5; have m8 := h5.out.cellAt q 8 (v := .slice A k cp) rfl; have mf := h5.out.freeAt q)
              have H8 := Aside0.mk ((h5.out.atB q).put 8 (.slice AN (k + 1) cN) (cs' := #[.int .i64 a0, .int .i64 a1, .int .i64 a2, .int .i64 a3, .int .i64 a4, .int .i64 a5, .int .i64 a6, .bool f, .slice AN (k + 1) cN, .slice none 0 0, .slice none 0 0, .slice none 0 0]) rfl)
              go_roundw
              case rel => exact ⟨k + 1, l ++ [a], tn, Tn, cn, AN, cN, by omega, by go_num, ⟨by rw [List.length_append, LL.out]; rfl⟩, STn, ⟨RY.out⟩, ⟨by rw [FM.out]; exact (H8.out.dropB vn.heap.size).as (by ac_rfl)⟩⟩
              case measure => simp [intOf]; omega
            · have RE := Aside0.mk (list_done (.inl (by omega)) RR.out)
              clear RR
              go_wp2_with fail
              go_meet
              exact ⟨l, .ok ys, T, 0, A, k, cp, ST, RE, ⟨by rw [LL.out], by omega⟩, HW⟩
      case rest =>
        obtain ⟨l1, t1x, T1x, c1x, A1, n1, c1, STx1, Rx1, LN1, Hx1⟩ := hcut
        clear HC STC RC
        have RS := Aside0.mk (list_start Rx1.out)
        have k0 := Hx1.out.cellAt (w.heap.size + 1) 0 (v := .string T1x) rfl
        have k1 := Hx1.out.cellAt (w.heap.size + 1) 1 (v := .int .i64 c1x) rfl
        have RN := Aside0.mk (refcount_ok 1024 t1x STx1.out.2.2)
        simp only [srV, STx1.out.1, STx1.out.2.1] at RN
        clear Rx1
        go_wp2_with fail
        refine (RN.out _).mono fun e w2c h => ?_
        obtain ⟨n2m, tc, Tc, cc, hto, hT, hc, rfl, hbel⟩ := h.elim
        have RC := Aside0.mk (show rMsg xs = srB tc (fun ys => (rMany rMut (n2m - 0) ys).bind fun l' vs => after2 [a0, a1, a2, a3, a4, a5, a6] f l1 ([] ++ l') vs) from hto.next RS.out)
        have STC := Aside0.mk (And.intro hT (And.intro hc hto.ok))
        have hn2m := count_le hto
        have HC0 := Aside0.mk (Hx1.out.from_below hbel)
        clear h hto hT hc hbel Hx1 RS RN STx1 k0 k1
        have k0 := HC0.out.cellAt (w.heap.size + 1) 0 (v := .string T1x) rfl
        have k1 := HC0.out.cellAt (w.heap.size + 1) 1 (v := .int .i64 c1x) rfl
        have kf := HC0.out.freeAt (w.heap.size + 1)
        have HC : Aside0 (Hw w _ (blk q (.cells #[.int .i64 a0, .int .i64 a1, .int .i64 a2, .int .i64 a3, .int .i64 a4, .int .i64 a5, .int .i64 a6, .bool f, .slice A1 n1 c1, .slice none 0 0, .slice none 0 0, .slice none 0 0] 27) * (blk (w.heap.size + 1) (.cells #[.string Tc, .int .i64 cc] 151) * (crow 1 3 A1 n1 c1 (l1.flatMap intC) * (crow 4 135 none 0 0 [] * (crow 4 143 none 0 0 [] * (crow 5 145 none 0 0 [] * (blk w.heap.size (.cells #[.int .i64 0, .int .i64 0, .int .i64 0, .int .i64 0, .int .i64 0, .int .i64 0, .int .i64 0, .bool false, .slice none 0 0, .slice none 0 0, .slice none 0 0, .slice none 0 0] 27) * HP.emp)))))))) := ⟨((HC0.out.atB (w.heap.size + 1)).put2 (u := .string Tc) (v := .int .i64 cc)).as (by show _ = blk q (.cells #[.int .i64 a0, .int .i64 a1, .int .i64 a2, .int .i64 a3, .int .i64 a4, .int .i64 a5, .int .i64 a6, .bool f, .slice A1 n1 c1, .slice none 0 0, .slice none 0 0, .slice none 0 0] 27) * (blk (w.heap.size + 1) (.cells #[.string Tc, .int .i64 cc] 151) * (crow 1 3 A1 n1 c1 (l1.flatMap intC) * (crow 4 135 none 0 0 [] * (crow 4 143 none 0 0 [] * (crow 5 145 none 0 0 [] * (blk w.heap.size (.cells #[.int .i64 0, .int .i64 0, .int .i64 0, .int .i64 0, .int .i64 0, .int .i64 0, .int .i64 0, .bool false, .slice none 0 0, .slice none 0 0, .slice none 0 0, .slice none 0 0] 27) * HP.emp)))))); ac_rfl)⟩
        clear HC0
        go_upto_block 4 with fail
        clear k0 k1 kf
        go_cut [11] (fun s9 wc => ∃ (l2 : List Mut) (t : Sr) (T : ByteArray) (cc : Int) (A2 : Option Addr) (n2 c2 : Nat), Aside0 (srT t = T ∧ srC t = cc ∧ SrOk t) ∧ Aside0 (rMsg xs = srB t (fun y => (rList rMut y).bind (after3 [a0, a1, a2, a3, a4, a5, a6] f l1 l2))) ∧ Aside0 (n2 = l2.length ∧ n2 ≤ 1024) ∧ Aside0 (Hw w wc (blk q (.cells #[.int .i64 a0, .int .i64 a1, .int .i64 a2, .int .i64 a3, .int .i64 a4, .int .i64 a5, .int .i64 a6, .bool f, .slice A1 n1 c1, .slice A2 n2 c2, .slice none 0 0, .slice none 0 0] 27) * (blk (w.heap.size + 1) (.cells #[.string T, .int .i64 cc] 151) * (crow 1 3 A1 n1 c1 (l1.flatMap intC) * (crow 4 135 A2 n2 c2 (l2.flatMap mutC) * (crow 4 143 none 0 0 [] * (crow 5 145 none 0 0 [] * (blk w.heap.size (.cells #[.int .i64 0, .int .i64 0, .int .i64 0, .int .i64 0, .int .i64 0, .int .i64 0, .int .i64 0, .bool false, .slice none 0 0, .slice none 0 0, .slice none 0 0, .slice none 0 0] 27) * HP.emp)))))))))
        case first =>
          go_wp2_with fail
          go_loopw [11] (fun i wr => ∃ (k : Nat) (l : List Mut) (t : Sr) (T : ByteArray) (cc : Int) (A : Option Addr) (cp : Nat), k ≤ n2m ∧ i = .int .i64 k ∧ Aside0 (l.length = k) ∧ Aside0 (srT t = T ∧ srC t = cc ∧ SrOk t) ∧ Aside0 (rMsg xs = srB t (fun ys => (rMany rMut (n2m - k) ys).bind fun l' vs => after2 [a0, a1, a2, a3, a4, a5, a6] f l1 (l ++ l') vs)) ∧ Aside0 (Hw w wr (blk q (.cells #[.int .i64 a0, .int .i64 a1, .int .i64 a2, .int .i64 a3, .int .i64 a4, .int .i64 a5, .int .i64 a6, .bool f, .slice A1 n1 c1, .slice A k cp, .slice none 0 0, .slice none 0 0] 27) * (blk (w.heap.size + 1) (.cells #[.string T, .int .i64 cc] 151) * (crow 1 3 A1 n1 c1 (l1.flatMap intC) * (crow 4 135 A k cp (l.flatMap mutC) * (crow 4 143 none 0 0 [] * (crow 5 145 none 0 0 [] * (blk w.heap.size (.cells #[.int .i64 0, .int .i64 0, .int .i64 0, .int .i64 0, .int .i64 0, .int .i64 0, .int .i64 0, .bool false, .slice none 0 0, .slice none 0 0, .slice none 0 0, .slice none 0 0] 27) * HP.emp))))))))) (fun i _ => n2m - (intOf i).toNat)
          case atStart => exact ⟨0, [], tc, Tc, cc, none, 0, Nat.zero_le _, rfl, ⟨rfl⟩, STC, RC, HC⟩
          case round =>
            clear HC STC RC
            obtain ⟨k, l, t, T, cc, A, cp, hk, rfl, LL, ST, RR, HW⟩ := hrel
            have k1 := HW.out.cellAt (w.heap.size + 1) 1 (v := .int .i64 cc) rfl
            rcases t with ce | ys
            · obtain rfl : ce = cc := ST.out.2.1
              have C := Aside0.mk (show ce ≠ 0 from ST.out.2.2)
              have d3 : (ce == 0) = false := by simpa using C.out
              have d4 : (ce != 0) = true := by simpa using C.out
              have RE := Aside0.mk (list_done (.inr ⟨ce, rfl⟩) RR.out)
              clear RR
              by_cases hlt : k < n2m
              all_goals
                go_wp2_with fail
                go_meet
                exact ⟨l, .error ce, T, ce, A, k, cp, ST, RE, ⟨by rw [LL.out], by omega⟩, HW⟩
            · obtain rfl : 0 = cc := ST.out.2.1
              by_cases hlt : k < n2m
              · skip
                have ltp := HW.out.ltB (w.heap.size + 1)
                have ltq := HW.out.ltB q
                have : ¬ wr.heap.size = w.heap.size + 1 := by omega
                have : ¬ w.heap.size + 1 = wr.heap.size := by omega
                have : ¬ wr.heap.size = q := by omega
                have : ¬ q = wr.heap.size := by omega
                clear ltp ltq
                have H5 := Aside0.mk (HW.out.alloc (.cells #[.bool false, .string ⟨#[]⟩, .string ⟨#[]⟩, .string ⟨#[]⟩] 135))
                have RX := Aside0.mk (list_round_mut hlt RR.out)
                have k0 := H5.out.cellAt (w.heap.size + 1) 0 (v := .string T) rfl
                have k1 := H5.out.cellAt (w.heap.size + 1) 1 (v := .int .i64 0) rfl
                have RN := Aside0.mk (refflag_ok (.ok ys) ST.out.2.2)
                simp only [srV, ST.out.1, ST.out.2.1] at RN
                clear RR HW
                clear ST
                go_wp2_with fail
                refine (RN.out _).mono fun e vn h => ?_
                obtain ⟨fl, tn, Tn, cn, hto, hT, hc, rfl, hbel⟩ := h.elim
                have RY0 := Aside0.mk (hto.next RX.out)
                have STn := Aside0.mk (And.intro hT (And.intro hc hto.ok))
                have HA0 := Aside0.mk (H5.out.from_below hbel)
                clear h hto hT hc hbel H5 RX RN k0 k1
                have k0 := HA0.out.cellAt (w.heap.size + 1) 0 (v := .string T) rfl
                have k1 := HA0.out.cellAt (w.heap.size + 1) 1 (v := .int .i64 0) rfl
                have kf := HA0.out.freeAt (w.heap.size + 1)
                have x0 := HA0.out.cellAt wr.heap.size 0 (v := .bool false) rfl
                have xf := HA0.out.freeAt wr.heap.size
                have HB0 := Aside0.mk ((((HA0.out.atB wr.heap.size).put 0 (.bool fl) (cs' := #[.bool fl, .string ⟨#[]⟩, .string ⟨#[]⟩, .string ⟨#[]⟩]) rfl).atB (w.heap.size + 1)).put2 (u := .string Tn) (v := .int .i64 cn))
                clear HA0
                have RN := Aside0.mk (reftuple_ok tn STn.out.2.2)
                simp only [srV, STn.out.1, STn.out.2.1] at RN
                clear STn
                go_wp2_with fail
                refine (RN.out _).mono fun e vm h => ?_
                obtain ⟨⟨o, r, u⟩, tm, Tm, cm, hto, hT, hc, rfl, hbel⟩ := h.elim
                have RY1 := Aside0.mk (hto.next RY0.out)
                have STm := Aside0.mk (And.intro hT (And.intro hc hto.ok))
                have HA1 := Aside0.mk (HB0.out.from_below hbel)
                clear h hto hT hc hbel HB0 RY0 RN k0 k1
                have k0 := HA1.out.cellAt (w.heap.size + 1) 0 (v := .string Tn) rfl
                have k1 := HA1.out.cellAt (w.heap.size + 1) 1 (v := .int .i64 cn) rfl
                have kf := HA1.out.freeAt (w.heap.size + 1)
                try dsimp only
                have x1 := HA1.out.cellAt wr.heap.size 1 (v := .string ⟨#[]⟩) rfl
                have x2 := HA1.out.cellAt wr.heap.size 2 (v := .string ⟨#[]⟩) rfl
                have x3 := HA1.out.cellAt wr.heap.size 3 (v := .string ⟨#[]⟩) rfl
                have xf := HA1.out.freeAt wr.heap.size
                have HB1 := Aside0.mk ((((((HA1.out.atB wr.heap.size).put 1 (.string o) (cs' := #[.bool fl, .string o, .string ⟨#[]⟩, .string ⟨#[]⟩]) rfl).put 2 (.string r) (cs' := #[.bool fl, .string o, .string r, .string ⟨#[]⟩]) rfl).put 3 (.string u) (cs' := #[.bool fl, .string o, .string r, .string u]) rfl).atB (w.heap.size + 1)).put2 (u := .string Tm) (v := .int .i64 cm))
                clear HA1
                have X0 := HB1.out.cellAt wr.heap.size 0 (v := .bool fl) rfl
                have X1 := HB1.out.cellAt wr.heap.size 1 (v := .string o) rfl
                have X2 := HB1.out.cellAt wr.heap.size 2 (v := .string r) rfl
                have X3 := HB1.out.cellAt wr.heap.size 3 (v := .string u) rfl
                have q8 := HB1.out.cellAt q 9 (v := .slice A k cp) rfl
                have H7 := Aside0.mk ((HB1.out.alloc (.cells (mutC (fl, o, r, u)).toArray 135)).as (Q := crow 4 135 A k cp (l.flatMap mutC) * (blk vm.heap.size (.cells (mutC (fl, o, r, u)).toArray 135) * (blk wr.heap.size (.cells #[.bool fl, .string o, .string r, .string u] 135) * (blk q (.cells #[.int .i64 a0, .int .i64 a1, .int .i64 a2, .int .i64 a3, .int .i64 a4, .int .i64 a5, .int .i64 a6, .bool f, .slice A1 n1 c1, .slice A k cp, .slice none 0 0, .slice none 0 0] 27) * (blk (w.heap.size + 1) (.cells #[.string Tm, .int .i64 cm] 151) * (crow 1 3 A1 n1 c1 (l1.flatMap intC) * (crow 4 143 none 0 0 [] * (crow 5 145 none 0 0 [] * (blk w.heap.size (.cells #[.int .i64 0, .int .i64 0, .int .i64 0, .int .i64 0, .int .i64 0, .int .i64 0, .int .i64 0, .bool false, .slice none 0 0, .slice none 0 0, .slice none 0 0, .slice none 0 0] 27) * HP.emp))))))))) (by simp only [World.size_setCell]; ac_rfl))
                have BC := Aside0.mk (blk_cells (H7.out.atB vm.heap.size))
                have FM := Aside0.mk (show (l ++ [(fl, o, r, u)]).flatMap mutC = l.flatMap mutC ++ mutC (fl, o, r, u) by simp)
                clear HB1
                go_wp2_with (at_builtin; refine crow_append (news := mutC (fl, o, r, u)) (m := 1) (c := 1) rfl (.tmp 110) (.tmp 112) 23 (.agg #[.bool false, .string ⟨#[]⟩, .string ⟨#[]⟩, .string ⟨#[]⟩]) 56 rfl Try.underlying23 Try.infoMut rfl (by decide) rfl rfl H7.out rfl (by intro u hu; simp only [List.mem_cons, List.not_mem_nil, or_false] at hu; rcases hu with rfl | rfl | rfl | rfl <;> rfl) (fun _ => ⟨_, rfl, BC.out⟩) (by decide) (by omega) ?_; intro AN cN w5 h5; have m8 := h5.out.cellAt q 9 (v := .slice A k cp) rfl; have mf := h5.out.freeAt q)
                have H8 := Aside0.mk ((h5.out.atB q).put 9 (.slice AN (k + 1) cN) (cs' := #[.int .i64 a0, .int .i64 a1, .int .i64 a2, .int .i64 a3, .int .i64 a4, .int .i64 a5, .int .i64 a6, .bool f, .slice A1 n1 c1, .slice AN (k + 1) cN, .slice none 0 0, .slice none 0 0]) rfl)
                go_roundw
                case rel => exact ⟨k + 1, l ++ [(fl, o, r, u)], tm, Tm, cm, AN, cN, by omega, by go_num, ⟨by rw [List.length_append, LL.out]; rfl⟩, STm, ⟨RY1.out⟩, ⟨by rw [FM.out]; exact ((H8.out.dropB vm.heap.size).dropB wr.heap.size).as (by ac_rfl)⟩⟩
                case measure => simp [intOf]; omega
              · have RE := Aside0.mk (list_done (.inl (by omega)) RR.out)
                clear RR
                go_wp2_with fail
                go_meet
                exact ⟨l, .ok ys, T, 0, A, k, cp, ST, RE, ⟨by rw [LL.out], by omega⟩, HW⟩
        case rest =>
          obtain ⟨l2, t2x, T2x, c2x, A2, n2, c2, STx2, Rx2, LN2, Hx2⟩ := hcut
          clear HC STC RC
          have RS := Aside0.mk (list_start Rx2.out)
          have k0 := Hx2.out.cellAt (w.heap.size + 1) 0 (v := .string T2x) rfl
          have k1 := Hx2.out.cellAt (w.heap.size + 1) 1 (v := .int .i64 c2x) rfl
          have RN := Aside0.mk (refcount_ok 1024 t2x STx2.out.2.2)
          simp only [srV, STx2.out.1, STx2.out.2.1] at RN
          clear Rx2
          go_wp2_with fail
          refine (RN.out _).mono fun e w3c h => ?_
          obtain ⟨n3m, tc, Tc, cc, hto, hT, hc, rfl, hbel⟩ := h.elim
          have RC := Aside0.mk (show rMsg xs = srB tc (fun ys => (rMany rMut (n3m - 0) ys).bind fun l' vs => after3 [a0, a1, a2, a3, a4, a5, a6] f l1 l2 ([] ++ l') vs) from hto.next RS.out)
          have STC := Aside0.mk (And.intro hT (And.intro hc hto.ok))
          have hn3m := count_le hto
          have HC0 := Aside0.mk (Hx2.out.from_below hbel)
          clear h hto hT hc hbel Hx2 RS RN STx2 k0 k1
          have k0 := HC0.out.cellAt (w.heap.size + 1) 0 (v := .string T2x) rfl
          have k1 := HC0.out.cellAt (w.heap.size + 1) 1 (v := .int .i64 c2x) rfl
          have kf := HC0.out.freeAt (w.heap.size + 1)
          have HC : Aside0 (Hw w _ (blk q (.cells #[.int .i64 a0, .int .i64 a1, .int .i64 a2, .int .i64 a3, .int .i64 a4, .int .i64 a5, .int .i64 a6, .bool f, .slice A1 n1 c1, .slice A2 n2 c2, .slice none 0 0, .slice none 0 0] 27) * (blk (w.heap.size + 1) (.cells #[.string Tc, .int .i64 cc] 151) * (crow 1 3 A1 n1 c1 (l1.flatMap intC) * (crow 4 135 A2 n2 c2 (l2.flatMap mutC) * (crow 4 143 none 0 0 [] * (crow 5 145 none 0 0 [] * (blk w.heap.size (.cells #[.int .i64 0, .int .i64 0, .int .i64 0, .int .i64 0, .int .i64 0, .int .i64 0, .int .i64 0, .bool false, .slice none 0 0, .slice none 0 0, .slice none 0 0, .slice none 0 0] 27) * HP.emp)))))))) := ⟨((HC0.out.atB (w.heap.size + 1)).put2 (u := .string Tc) (v := .int .i64 cc)).as (by show _ = blk q (.cells #[.int .i64 a0, .int .i64 a1, .int .i64 a2, .int .i64 a3, .int .i64 a4, .int .i64 a5, .int .i64 a6, .bool f, .slice A1 n1 c1, .slice A2 n2 c2, .slice none 0 0, .slice none 0 0] 27) * (blk (w.heap.size + 1) (.cells #[.string Tc, .int .i64 cc] 151) * (crow 1 3 A1 n1 c1 (l1.flatMap intC) * (crow 4 135 A2 n2 c2 (l2.flatMap mutC) * (crow 4 143 none 0 0 [] * (crow 5 145 none 0 0 [] * (blk w.heap.size (.cells #[.int .i64 0, .int .i64 0, .int .i64 0, .int .i64 0, .int .i64 0, .int .i64 0, .int .i64 0, .bool false, .slice none 0 0, .slice none 0 0, .slice none 0 0, .slice none 0 0] 27) * HP.emp)))))); ac_rfl)⟩
          clear HC0
          go_upto_block 6 with fail
          clear k0 k1 kf
          go_cut [13] (fun s9 wc => ∃ (l3 : List Mut) (t : Sr) (T : ByteArray) (cc : Int) (A3 : Option Addr) (n3 c3 : Nat), Aside0 (srT t = T ∧ srC t = cc ∧ SrOk t) ∧ Aside0 (rMsg xs = srB t (fun y => (rList rRow y).bind (after4 [a0, a1, a2, a3, a4, a5, a6] f l1 l2 l3))) ∧ Aside0 (n3 = l3.length ∧ n3 ≤ 1024) ∧ Aside0 (Hw w wc (blk q (.cells #[.int .i64 a0, .int .i64 a1, .int .i64 a2, .int .i64 a3, .int .i64 a4, .int .i64 a5, .int .i64 a6, .bool f, .slice A1 n1 c1, .slice A2 n2 c2, .slice A3 n3 c3, .slice none 0 0] 27) * (blk (w.heap.size + 1) (.cells #[.string T, .int .i64 cc] 151) * (crow 1 3 A1 n1 c1 (l1.flatMap intC) * (crow 4 135 A2 n2 c2 (l2.flatMap mutC) * (crow 4 143 A3 n3 c3 (l3.flatMap mutC) * (crow 5 145 none 0 0 [] * (blk w.heap.size (.cells #[.int .i64 0, .int .i64 0, .int .i64 0, .int .i64 0, .int .i64 0, .int .i64 0, .int .i64 0, .bool false, .slice none 0 0, .slice none 0 0, .slice none 0 0, .slice none 0 0] 27) * HP.emp)))))))))
          case first =>
            go_wp2_with fail
            go_loopw [13] (fun i wr => ∃ (k : Nat) (l : List Mut) (t : Sr) (T : ByteArray) (cc : Int) (A : Option Addr) (cp : Nat), k ≤ n3m ∧ i = .int .i64 k ∧ Aside0 (l.length = k) ∧ Aside0 (srT t = T ∧ srC t = cc ∧ SrOk t) ∧ Aside0 (rMsg xs = srB t (fun ys => (rMany rMut (n3m - k) ys).bind fun l' vs => after3 [a0, a1, a2, a3, a4, a5, a6] f l1 l2 (l ++ l') vs)) ∧ Aside0 (Hw w wr (blk q (.cells #[.int .i64 a0, .int .i64 a1, .int .i64 a2, .int .i64 a3, .int .i64 a4, .int .i64 a5, .int .i64 a6, .bool f, .slice A1 n1 c1, .slice A2 n2 c2, .slice A k cp, .slice none 0 0] 27) * (blk (w.heap.size + 1) (.cells #[.string T, .int .i64 cc] 151) * (crow 1 3 A1 n1 c1 (l1.flatMap intC) * (crow 4 135 A2 n2 c2 (l2.flatMap mutC) * (crow 4 143 A k cp (l.flatMap mutC) * (crow 5 145 none 0 0 [] * (blk w.heap.size (.cells #[.int .i64 0, .int .i64 0, .int .i64 0, .int .i64 0, .int .i64 0, .int .i64 0, .int .i64 0, .bool false, .slice none 0 0, .slice none 0 0, .slice none 0 0, .slice none 0 0] 27) * HP.emp))))))))) (fun i _ => n3m - (intOf i).toNat)
            case atStart => exact ⟨0, [], tc, Tc, cc, none, 0, Nat.zero_le _, rfl, ⟨rfl⟩, STC, RC, HC⟩
            case round =>
              clear HC STC RC
              obtain ⟨k, l, t, T, cc, A, cp, hk, rfl, LL, ST, RR, HW⟩ := hrel
              have k1 := HW.out.cellAt (w.heap.size + 1) 1 (v := .int .i64 cc) rfl
              rcases t with ce | ys
              · obtain rfl : ce = cc := ST.out.2.1
                have C := Aside0.mk (show ce ≠ 0 from ST.out.2.2)
                have d3 : (ce == 0) = false := by simpa using C.out
                have d4 : (ce != 0) = true := by simpa using C.out
                have RE := Aside0.mk (list_done (.inr ⟨ce, rfl⟩) RR.out)
                clear RR
                by_cases hlt : k < n3m
                all_goals
                  go_wp2_with fail
                  go_meet
                  exact ⟨l, .error ce, T, ce, A, k, cp, ST, RE, ⟨by rw [LL.out], by omega⟩, HW⟩
              · obtain rfl : 0 = cc := ST.out.2.1
                by_cases hlt : k < n3m
                · skip
                  have ltp := HW.out.ltB (w.heap.size + 1)
                  have ltq := HW.out.ltB q
                  have : ¬ wr.heap.size = w.heap.size + 1 := by omega
                  have : ¬ w.heap.size + 1 = wr.heap.size := by omega
                  have : ¬ wr.heap.size = q := by omega
                  have : ¬ q = wr.heap.size := by omega
                  clear ltp ltq
                  have H5 := Aside0.mk (HW.out.alloc (.cells #[.bool false, .string ⟨#[]⟩, .string ⟨#[]⟩, .string ⟨#[]⟩] 143))
                  have RX := Aside0.mk (list_round_mut hlt RR.out)
                  have k0 := H5.out.cellAt (w.heap.size + 1) 0 (v := .string T) rfl
                  have k1 := H5.out.cellAt (w.heap.size + 1) 1 (v := .int .i64 0) rfl
                  have RN := Aside0.mk (refflag_ok (.ok ys) ST.out.2.2)
                  simp only [srV, ST.out.1, ST.out.2.1] at RN
                  clear RR HW
                  clear ST
                  go_wp2_with fail
                  refine (RN.out _).mono fun e vn h => ?_
                  obtain ⟨fl, tn, Tn, cn, hto, hT, hc, rfl, hbel⟩ := h.elim
                  have RY0 := Aside0.mk (hto.next RX.out)
                  have STn := Aside0.mk (And.intro hT (And.intro hc hto.ok))
                  have HA0 := Aside0.mk (H5.out.from_below hbel)
                  clear h hto hT hc hbel H5 RX RN k0 k1
                  have k0 := HA0.out.cellAt (w.heap.size + 1) 0 (v := .string T) rfl
                  have k1 := HA0.out.cellAt (w.heap.size + 1) 1 (v := .int .i64 0) rfl
                  have kf := HA0.out.freeAt (w.heap.size + 1)
                  have x0 := HA0.out.cellAt wr.heap.size 0 (v := .bool false) rfl
                  have xf := HA0.out.freeAt wr.heap.size
                  have HB0 := Aside0.mk ((((HA0.out.atB wr.heap.size).put 0 (.bool fl) (cs' := #[.bool fl, .string ⟨#[]⟩, .string ⟨#[]⟩, .string ⟨#[]⟩]) rfl).atB (w.heap.size + 1)).put2 (u := .string Tn) (v := .int .i64 cn))
                  clear HA0
                  have RN := Aside0.mk (reftuple_ok tn STn.out.2.2)
                  simp only [srV, STn.out.1, STn.out.2.1] at RN
                  clear STn
                  go_wp2_with fail
                  refine (RN.out _).mono fun e vm h => ?_
                  obtain ⟨⟨o, r, u⟩, tm, Tm, cm, hto, hT, hc, rfl, hbel⟩ := h.elim
                  have RY1 := Aside0.mk (hto.next RY0.out)
                  have STm := Aside0.mk (And.intro hT (And.intro hc hto.ok))
                  have HA1 := Aside0.mk (HB0.out.from_below hbel)
                  clear h hto hT hc hbel HB0 RY0 RN k0 k1
                  have k0 := HA1.out.cellAt (w.heap.size + 1) 0 (v := .string Tn) rfl
                  have k1 := HA1.out.cellAt (w.heap.size + 1) 1 (v := .int .i64 cn) rfl
                  have kf := HA1.out.freeAt (w.heap.size + 1)
                  try dsimp only
                  have x1 := HA1.out.cellAt wr.heap.size 1 (v := .string ⟨#[]⟩) rfl
                  have x2 := HA1.out.cellAt wr.heap.size 2 (v := .string ⟨#[]⟩) rfl
                  have x3 := HA1.out.cellAt wr.heap.size 3 (v := .string ⟨#[]⟩) rfl
                  have xf := HA1.out.freeAt wr.heap.size
                  have HB1 := Aside0.mk ((((((HA1.out.atB wr.heap.size).put 1 (.string o) (cs' := #[.bool fl, .string o, .string ⟨#[]⟩, .string ⟨#[]⟩]) rfl).put 2 (.string r) (cs' := #[.bool fl, .string o, .string r, .string ⟨#[]⟩]) rfl).put 3 (.string u) (cs' := #[.bool fl, .string o, .string r, .string u]) rfl).atB (w.heap.size + 1)).put2 (u := .string Tm) (v := .int .i64 cm))
                  clear HA1
                  have X0 := HB1.out.cellAt wr.heap.size 0 (v := .bool fl) rfl
                  have X1 := HB1.out.cellAt wr.heap.size 1 (v := .string o) rfl
                  have X2 := HB1.out.cellAt wr.heap.size 2 (v := .string r) rfl
                  have X3 := HB1.out.cellAt wr.heap.size 3 (v := .string u) rfl
                  have q8 := HB1.out.cellAt q 10 (v := .slice A k cp) rfl
                  have H7 := Aside0.mk ((HB1.out.alloc (.cells (mutC (fl, o, r, u)).toArray 143)).as (Q := crow 4 143 A k cp (l.flatMap mutC) * (blk vm.heap.size (.cells (mutC (fl, o, r, u)).toArray 143) * (blk wr.heap.size (.cells #[.bool fl, .string o, .string r, .string u] 143) * (blk q (.cells #[.int .i64 a0, .int .i64 a1, .int .i64 a2, .int .i64 a3, .int .i64 a4, .int .i64 a5, .int .i64 a6, .bool f, .slice A1 n1 c1, .slice A2 n2 c2, .slice A k cp, .slice none 0 0] 27) * (blk (w.heap.size + 1) (.cells #[.string Tm, .int .i64 cm] 151) * (crow 1 3 A1 n1 c1 (l1.flatMap intC) * (crow 4 135 A2 n2 c2 (l2.flatMap mutC) * (crow 5 145 none 0 0 [] * (blk w.heap.size (.cells #[.int .i64 0, .int .i64 0, .int .i64 0, .int .i64 0, .int .i64 0, .int .i64 0, .int .i64 0, .bool false, .slice none 0 0, .slice none 0 0, .slice none 0 0, .slice none 0 0] 27) * HP.emp))))))))) (by simp only [World.size_setCell]; ac_rfl))
                  have BC := Aside0.mk (blk_cells (H7.out.atB vm.heap.size))
                  have FM := Aside0.mk (show (l ++ [(fl, o, r, u)]).flatMap mutC = l.flatMap mutC ++ mutC (fl, o, r, u) by simp)
                  clear HB1
                  go_wp2_with (at_builtin; refine crow_append (news := mutC (fl, o, r, u)) (m := 1) (c := 1) rfl (.tmp 144) (.tmp 146) 24 (.agg #[.bool false, .string ⟨#[]⟩, .string ⟨#[]⟩, .string ⟨#[]⟩]) 56 rfl Try.underlying24 Try.infoCond rfl (by decide) rfl rfl H7.out rfl (by intro u hu; simp only [List.mem_cons, List.not_mem_nil, or_false] at hu; rcases hu with rfl | rfl | rfl | rfl <;> rfl) (fun _ => ⟨_, rfl, BC.out⟩) (by decide) (by omega) ?_; intro AN cN w5 h5; have m8 := h5.out.cellAt q 10 (v := .slice A k cp) rfl; have mf := h5.out.freeAt q)
                  have H8 := Aside0.mk ((h5.out.atB q).put 10 (.slice AN (k + 1) cN) (cs' := #[.int .i64 a0, .int .i64 a1, .int .i64 a2, .int .i64 a3, .int .i64 a4, .int .i64 a5, .int .i64 a6, .bool f, .slice A1 n1 c1, .slice A2 n2 c2, .slice AN (k + 1) cN, .slice none 0 0]) rfl)
                  go_roundw
                  case rel => exact ⟨k + 1, l ++ [(fl, o, r, u)], tm, Tm, cm, AN, cN, by omega, by go_num, ⟨by rw [List.length_append, LL.out]; rfl⟩, STm, ⟨RY1.out⟩, ⟨by rw [FM.out]; exact ((H8.out.dropB vm.heap.size).dropB wr.heap.size).as (by ac_rfl)⟩⟩
                  case measure => simp [intOf]; omega
                · have RE := Aside0.mk (list_done (.inl (by omega)) RR.out)
                  clear RR
                  go_wp2_with fail
                  go_meet
                  exact ⟨l, .ok ys, T, 0, A, k, cp, ST, RE, ⟨by rw [LL.out], by omega⟩, HW⟩
          case rest =>
            obtain ⟨l3, t3x, T3x, c3x, A3, n3, c3, STx3, Rx3, LN3, Hx3⟩ := hcut
            clear HC STC RC
            have RS := Aside0.mk (list_start Rx3.out)
            have k0 := Hx3.out.cellAt (w.heap.size + 1) 0 (v := .string T3x) rfl
            have k1 := Hx3.out.cellAt (w.heap.size + 1) 1 (v := .int .i64 c3x) rfl
            have RN := Aside0.mk (refcount_ok 1024 t3x STx3.out.2.2)
            simp only [srV, STx3.out.1, STx3.out.2.1] at RN
            clear Rx3
            go_wp2_with fail
            refine (RN.out _).mono fun e w4c h => ?_
            obtain ⟨n4m, tc, Tc, cc, hto, hT, hc, rfl, hbel⟩ := h.elim
            have RC := Aside0.mk (show rMsg xs = srB tc (fun ys => (rMany rRow (n4m - 0) ys).bind fun l' vs => after4 [a0, a1, a2, a3, a4, a5, a6] f l1 l2 l3 ([] ++ l') vs) from hto.next RS.out)
            have STC := Aside0.mk (And.intro hT (And.intro hc hto.ok))
            have hn4m := count_le hto
            have HC0 := Aside0.mk (Hx3.out.from_below hbel)
            clear h hto hT hc hbel Hx3 RS RN STx3 k0 k1
            have k0 := HC0.out.cellAt (w.heap.size + 1) 0 (v := .string T3x) rfl
            have k1 := HC0.out.cellAt (w.heap.size + 1) 1 (v := .int .i64 c3x) rfl
            have kf := HC0.out.freeAt (w.heap.size + 1)
            have HC : Aside0 (Hw w _ (blk q (.cells #[.int .i64 a0, .int .i64 a1, .int .i64 a2, .int .i64 a3, .int .i64 a4, .int .i64 a5, .int .i64 a6, .bool f, .slice A1 n1 c1, .slice A2 n2 c2, .slice A3 n3 c3, .slice none 0 0] 27) * (blk (w.heap.size + 1) (.cells #[.string Tc, .int .i64 cc] 151) * (crow 1 3 A1 n1 c1 (l1.flatMap intC) * (crow 4 135 A2 n2 c2 (l2.flatMap mutC) * (crow 4 143 A3 n3 c3 (l3.flatMap mutC) * (crow 5 145 none 0 0 [] * (blk w.heap.size (.cells #[.int .i64 0, .int .i64 0, .int .i64 0, .int .i64 0, .int .i64 0, .int .i64 0, .int .i64 0, .bool false, .slice none 0 0, .slice none 0 0, .slice none 0 0, .slice none 0 0] 27) * HP.emp)))))))) := ⟨((HC0.out.atB (w.heap.size + 1)).put2 (u := .string Tc) (v := .int .i64 cc)).as (by show _ = blk q (.cells #[.int .i64 a0, .int .i64 a1, .int .i64 a2, .int .i64 a3, .int .i64 a4, .int .i64 a5, .int .i64 a6, .bool f, .slice A1 n1 c1, .slice A2 n2 c2, .slice A3 n3 c3, .slice none 0 0] 27) * (blk (w.heap.size + 1) (.cells #[.string Tc, .int .i64 cc] 151) * (crow 1 3 A1 n1 c1 (l1.flatMap intC) * (crow 4 135 A2 n2 c2 (l2.flatMap mutC) * (crow 4 143 A3 n3 c3 (l3.flatMap mutC) * (crow 5 145 none 0 0 [] * (blk w.heap.size (.cells #[.int .i64 0, .int .i64 0, .int .i64 0, .int .i64 0, .int .i64 0, .int .i64 0, .int .i64 0, .bool false, .slice none 0 0, .slice none 0 0, .slice none 0 0, .slice none 0 0] 27) * HP.emp)))))); ac_rfl)⟩
            clear HC0
            go_upto_block 8 with fail
            clear k0 k1 kf
            go_cut [15] (fun s9 wc => ∃ (l4 : List Rw) (t : Sr) (T : ByteArray) (cc : Int) (A4 : Option Addr) (n4 c4 : Nat), Aside0 (srT t = T ∧ srC t = cc ∧ SrOk t) ∧ Aside0 (rMsg xs = srB t (fun y => .ok (mkMsg [a0, a1, a2, a3, a4, a5, a6] f l1 l2 l3 l4, y))) ∧ Aside0 (n4 = l4.length ∧ n4 ≤ 1024) ∧ Aside0 (Hw w wc (blk q (.cells #[.int .i64 a0, .int .i64 a1, .int .i64 a2, .int .i64 a3, .int .i64 a4, .int .i64 a5, .int .i64 a6, .bool f, .slice A1 n1 c1, .slice A2 n2 c2, .slice A3 n3 c3, .slice A4 n4 c4] 27) * (blk (w.heap.size + 1) (.cells #[.string T, .int .i64 cc] 151) * (crow 1 3 A1 n1 c1 (l1.flatMap intC) * (crow 4 135 A2 n2 c2 (l2.flatMap mutC) * (crow 4 143 A3 n3 c3 (l3.flatMap mutC) * (crow 5 145 A4 n4 c4 (l4.flatMap rowC) * (blk w.heap.size (.cells #[.int .i64 0, .int .i64 0, .int .i64 0, .int .i64 0, .int .i64 0, .int .i64 0, .int .i64 0, .bool false, .slice none 0 0, .slice none 0 0, .slice none 0 0, .slice none 0 0] 27) * HP.emp)))))))))
            case first =>
              go_wp2_with fail
              go_loopw [15] (fun i wr => ∃ (k : Nat) (l : List Rw) (t : Sr) (T : ByteArray) (cc : Int) (A : Option Addr) (cp : Nat), k ≤ n4m ∧ i = .int .i64 k ∧ Aside0 (l.length = k) ∧ Aside0 (srT t = T ∧ srC t = cc ∧ SrOk t) ∧ Aside0 (rMsg xs = srB t (fun ys => (rMany rRow (n4m - k) ys).bind fun l' vs => after4 [a0, a1, a2, a3, a4, a5, a6] f l1 l2 l3 (l ++ l') vs)) ∧ Aside0 (Hw w wr (blk q (.cells #[.int .i64 a0, .int .i64 a1, .int .i64 a2, .int .i64 a3, .int .i64 a4, .int .i64 a5, .int .i64 a6, .bool f, .slice A1 n1 c1, .slice A2 n2 c2, .slice A3 n3 c3, .slice A k cp] 27) * (blk (w.heap.size + 1) (.cells #[.string T, .int .i64 cc] 151) * (crow 1 3 A1 n1 c1 (l1.flatMap intC) * (crow 4 135 A2 n2 c2 (l2.flatMap mutC) * (crow 4 143 A3 n3 c3 (l3.flatMap mutC) * (crow 5 145 A k cp (l.flatMap rowC) * (blk w.heap.size (.cells #[.int .i64 0, .int .i64 0, .int .i64 0, .int .i64 0, .int .i64 0, .int .i64 0, .int .i64 0, .bool false, .slice none 0 0, .slice none 0 0, .slice none 0 0, .slice none 0 0] 27) * HP.emp))))))))) (fun i _ => n4m - (intOf i).toNat)
              case atStart => exact ⟨0, [], tc, Tc, cc, none, 0, Nat.zero_le _, rfl, ⟨rfl⟩, STC, RC, HC⟩
              case round =>
                clear HC STC RC
                obtain ⟨k, l, t, T, cc, A, cp, hk, rfl, LL, ST, RR, HW⟩ := hrel
                have k1 := HW.out.cellAt (w.heap.size + 1) 1 (v := .int .i64 cc) rfl
                rcases t with ce | ys
                · obtain rfl : ce = cc := ST.out.2.1
                  have C := Aside0.mk (show ce ≠ 0 from ST.out.2.2)
                  have d3 : (ce == 0) = false := by simpa using C.out
                  have d4 : (ce != 0) = true := by simpa using C.out
                  have RE := Aside0.mk (list_done (.inr ⟨ce, rfl⟩) RR.out)
                  clear RR
                  by_cases hlt : k < n4m
                  all_goals
                    go_wp2_with fail
                    go_meet
                    exact ⟨l, .error ce, T, ce, A, k, cp, ST, RE, ⟨by rw [LL.out], by omega⟩, HW⟩
                · obtain rfl : 0 = cc := ST.out.2.1
                  by_cases hlt : k < n4m
                  · skip
                    have ltp := HW.out.ltB (w.heap.size + 1)
                    have ltq := HW.out.ltB q
                    have : ¬ wr.heap.size = w.heap.size + 1 := by omega
                    have : ¬ w.heap.size + 1 = wr.heap.size := by omega
                    have : ¬ wr.heap.size = q := by omega
                    have : ¬ q = wr.heap.size := by omega
                    clear ltp ltq
                    have H5 := Aside0.mk (HW.out.alloc (.cells #[.string ⟨#[]⟩, .string ⟨#[]⟩, .string ⟨#[]⟩, .int .i64 0, .int .i64 0] 145))
                    have RX := Aside0.mk (list_round_row hlt RR.out)
                    have k0 := H5.out.cellAt (w.heap.size + 1) 0 (v := .string T) rfl
                    have k1 := H5.out.cellAt (w.heap.size + 1) 1 (v := .int .i64 0) rfl
                    have RN := Aside0.mk (reftuple_ok (.ok ys) ST.out.2.2)
                    simp only [srV, ST.out.1, ST.out.2.1] at RN
                    clear RR HW
                    clear ST
                    go_wp2_with fail
                    refine (RN.out _).mono fun e vn h => ?_
                    obtain ⟨⟨o, r, u⟩, tn, Tn, cn, hto, hT, hc, rfl, hbel⟩ := h.elim
                    have RY0 := Aside0.mk (hto.next RX.out)
                    have STn := Aside0.mk (And.intro hT (And.intro hc hto.ok))
                    have HA0 := Aside0.mk (H5.out.from_below hbel)
                    clear h hto hT hc hbel H5 RX RN k0 k1
                    have k0 := HA0.out.cellAt (w.heap.size + 1) 0 (v := .string T) rfl
                    have k1 := HA0.out.cellAt (w.heap.size + 1) 1 (v := .int .i64 0) rfl
                    have kf := HA0.out.freeAt (w.heap.size + 1)
                    try dsimp only
                    have x0 := HA0.out.cellAt wr.heap.size 0 (v := .string ⟨#[]⟩) rfl
                    have x1 := HA0.out.cellAt wr.heap.size 1 (v := .string ⟨#[]⟩) rfl
                    have x2 := HA0.out.cellAt wr.heap.size 2 (v := .string ⟨#[]⟩) rfl
                    have xf := HA0.out.freeAt wr.heap.size
                    have HB0 := Aside0.mk ((((((HA0.out.atB wr.heap.size).put 0 (.string o) (cs' := #[.string o, .string ⟨#[]⟩, .string ⟨#[]⟩, .int .i64 0, .int .i64 0]) rfl).put 1 (.string r) (cs' := #[.string o, .string r, .string ⟨#[]⟩, .int .i64 0, .int .i64 0]) rfl).put 2 (.string u) (cs' := #[.string o, .string r, .string u, .int .i64 0, .int .i64 0]) rfl).atB (w.heap.size + 1)).put2 (u := .string Tn) (v := .int .i64 cn))
                    clear HA0
                    have RN := Aside0.mk (refnumber_ok tn STn.out.2.2)
                    simp only [srV, STn.out.1, STn.out.2.1] at RN
                    clear STn
                    go_wp2_with fail
                    refine (RN.out _).mono fun e vm h => ?_
                    obtain ⟨si, tm, Tm, cm, hto, hT, hc, rfl, hbel⟩ := h.elim
                    have RY1 := Aside0.mk (hto.next RY0.out)
                    have STm := Aside0.mk (And.intro hT (And.intro hc hto.ok))
                    have HA1 := Aside0.mk (HB0.out.from_below hbel)
                    clear h hto hT hc hbel HB0 RY0 RN k0 k1
                    have k0 := HA1.out.cellAt (w.heap.size + 1) 0 (v := .string Tn) rfl
                    have k1 := HA1.out.cellAt (w.heap.size + 1) 1 (v := .int .i64 cn) rfl
                    have kf := HA1.out.freeAt (w.heap.size + 1)
                    have x3 := HA1.out.cellAt wr.heap.size 3 (v := .int .i64 0) rfl
                    have xf := HA1.out.freeAt wr.heap.size
                    have HB1 := Aside0.mk ((((HA1.out.atB wr.heap.size).put 3 (.int .i64 si) (cs' := #[.string o, .string r, .string u, .int .i64 si, .int .i64 0]) rfl).atB (w.heap.size + 1)).put2 (u := .string Tm) (v := .int .i64 cm))
                    clear HA1
                    have RN := Aside0.mk (refnumber_ok tm STm.out.2.2)
                    simp only [srV, STm.out.1, STm.out.2.1] at RN
                    clear STm
                    go_wp2_with fail
                    refine (RN.out _).mono fun e vz h => ?_
                    obtain ⟨un, tz, Tz, cz, hto, hT, hc, rfl, hbel⟩ := h.elim
                    have RY2 := Aside0.mk (hto.next RY1.out)
                    have STz := Aside0.mk (And.intro hT (And.intro hc hto.ok))
                    have HA2 := Aside0.mk (HB1.out.from_below hbel)
                    clear h hto hT hc hbel HB1 RY1 RN k0 k1
                    have k0 := HA2.out.cellAt (w.heap.size + 1) 0 (v := .string Tm) rfl
                    have k1 := HA2.out.cellAt (w.heap.size + 1) 1 (v := .int .i64 cm) rfl
                    have kf := HA2.out.freeAt (w.heap.size + 1)
                    have x4 := HA2.out.cellAt wr.heap.size 4 (v := .int .i64 0) rfl
                    have xf := HA2.out.freeAt wr.heap.size
                    have HB2 := Aside0.mk ((((HA2.out.atB wr.heap.size).put 4 (.int .i64 un) (cs' := #[.string o, .string r, .string u, .int .i64 si, .int .i64 un]) rfl).atB (w.heap.size + 1)).put2 (u := .string Tz) (v := .int .i64 cz))
                    clear HA2
                    have X0 := HB2.out.cellAt wr.heap.size 0 (v := .string o) rfl
                    have X1 := HB2.out.cellAt wr.heap.size 1 (v := .string r) rfl
                    have X2 := HB2.out.cellAt wr.heap.size 2 (v := .string u) rfl
                    have X3 := HB2.out.cellAt wr.heap.size 3 (v := .int .i64 si) rfl
                    have X4 := HB2.out.cellAt wr.heap.size 4 (v := .int .i64 un) rfl
                    have q8 := HB2.out.cellAt q 11 (v := .slice A k cp) rfl
                    have H7 := Aside0.mk ((HB2.out.alloc (.cells (rowC ((o, r, u), si, un)).toArray 145)).as (Q := crow 5 145 A k cp (l.flatMap rowC) * (blk vz.heap.size (.cells (rowC ((o, r, u), si, un)).toArray 145) * (blk wr.heap.size (.cells #[.string o, .string r, .string u, .int .i64 si, .int .i64 un] 145) * (blk q (.cells #[.int .i64 a0, .int .i64 a1, .int .i64 a2, .int .i64 a3, .int .i64 a4, .int .i64 a5, .int .i64 a6, .bool f, .slice A1 n1 c1, .slice A2 n2 c2, .slice A3 n3 c3, .slice A k cp] 27) * (blk (w.heap.size + 1) (.cells #[.string Tz, .int .i64 cz] 151) * (crow 1 3 A1 n1 c1 (l1.flatMap intC) * (crow 4 135 A2 n2 c2 (l2.flatMap mutC) * (crow 4 143 A3 n3 c3 (l3.flatMap mutC) * (blk w.heap.size (.cells #[.int .i64 0, .int .i64 0, .int .i64 0, .int .i64 0, .int .i64 0, .int .i64 0, .int .i64 0, .bool false, .slice none 0 0, .slice none 0 0, .slice none 0 0, .slice none 0 0] 27) * HP.emp))))))))) (by simp only [World.size_setCell]; ac_rfl))
                    have BC := Aside0.mk (blk_cells (H7.out.atB vz.heap.size))
                    have FM := Aside0.mk (show (l ++ [((o, r, u), si, un)]).flatMap rowC = l.flatMap rowC ++ rowC ((o, r, u), si, un) by simp)
                    clear HB2
                    go_wp2_with (at_builtin; refine crow_append (news := rowC ((o, r, u), si, un)) (m := 1) (c := 1) rfl (.tmp 184) (.tmp 186) 25 (.agg #[.string ⟨#[]⟩, .string ⟨#[]⟩, .string ⟨#[]⟩, .int .i64 0, .int .i64 0]) 64 rfl Try.underlying25 Try.infoRow rfl (by decide) rfl rfl H7.out rfl (by intro u hu; simp only [List.mem_cons, List.not_mem_nil, or_false] at hu; rcases hu with rfl | rfl | rfl | rfl | rfl <;> rfl) (fun _ => ⟨_, rfl, BC.out⟩) (by decide) (by omega) ?_; intro AN cN w5 h5; have m8 := h5.out.cellAt q 11 (v := .slice A k cp) rfl; have mf := h5.out.freeAt q)
                    have H8 := Aside0.mk ((h5.out.atB q).put 11 (.slice AN (k + 1) cN) (cs' := #[.int .i64 a0, .int .i64 a1, .int .i64 a2, .int .i64 a3, .int .i64 a4, .int .i64 a5, .int .i64 a6, .bool f, .slice A1 n1 c1, .slice A2 n2 c2, .slice A3 n3 c3, .slice AN (k + 1) cN]) rfl)
                    go_roundw
                    case rel => exact ⟨k + 1, l ++ [((o, r, u), si, un)], tz, Tz, cz, AN, cN, by omega, by go_num, ⟨by rw [List.length_append, LL.out]; rfl⟩, STz, ⟨RY2.out⟩, ⟨by rw [FM.out]; exact ((H8.out.dropB vz.heap.size).dropB wr.heap.size).as (by ac_rfl)⟩⟩
                    case measure => simp [intOf]; omega
                  · have RE := Aside0.mk (list_done (.inl (by omega)) RR.out)
                    clear RR
                    go_wp2_with fail
                    go_meet
                    exact ⟨l, .ok ys, T, 0, A, k, cp, ST, RE, ⟨by rw [LL.out], by omega⟩, HW⟩
            case rest =>
              obtain ⟨l4, t4x, T4x, c4x, A4, n4, c4, STx4, Rx4, LN4, Hx4⟩ := hcut
              clear HC STC RC
              have j0 := Hx4.out.cellAt (w.heap.size + 1) 0 (v := .string T4x) rfl
              have j1 := Hx4.out.cellAt (w.heap.size + 1) 1 (v := .int .i64 c4x) rfl
              have HP0 := Aside0.mk (Hx4.out.atB w.heap.size)
              rcases t4x with ce | ys
              · obtain rfl : ce = c4x := STx4.out.2.1
                have C := Aside0.mk (show ce ≠ 0 from STx4.out.2.2)
                have d3 : (ce == 0) = false := by simpa using C.out
                have d4 : (ce != 0) = true := by simpa using C.out
                have E0 := Aside0.mk (show rDec xs = .error ce by rw [RD2.out, Rx4.out]; rfl)
                have HD := Aside0.mk HP0.out.drew
                have j1d := HD.out.cellAt (w.heap.size + 1) 1 (v := .int .i64 ce) rfl
                have HG := Aside0.mk HD.out.blk_at.1
                have GZ := Aside0.mk (HD.out.setRow #[.int .i64 0, .int .i64 0, .int .i64 0, .int .i64 0, .int .i64 0, .int .i64 0, .int .i64 0, .bool false, .slice none 0 0, .slice none 0 0, .slice none 0 0, .slice none 0 0] rfl)
                clear Hx4 HP0
                go_upto_region 45 with fail
                refine start_ (n := 5) (S := fun w' => w'.cell? ⟨w.heap.size + 1, 1, none⟩ = some (.int .i64 ce)) (ds := []) #[false, false, false, false, false] (by kernel_rfl) rfl rfl (j1d) (fun hHeld => ?_)
                refine pure_ (i := 0) (N := some 192) (v := ?_) (a' := ?_) #[true, false, false, false, false] rfl rfl (by kernel_rfl) (fun _ _ _ h => h) (Or.inl ⟨by rfl, ?_⟩) ?_ ?_
                rotate_left
                · intro w'
                  go_simp
                  with_reducible rfl
                rotate_left
                · simp only [Act.put, List.setIfInBounds_toArray, List.set_cons_zero, List.set_cons_succ, i64_w, i32_w]
                  rfl
                refine pure_ (i := 1) (N := some 193) (v := ?_) (a' := ?_) #[true, true, false, false, false] rfl rfl (by kernel_rfl) (fun _ _ _ h => h) (Or.inl ⟨by rfl, ?_⟩) ?_ ?_
                rotate_left
                · intro w'
                  go_simp
                  with_reducible rfl
                rotate_left
                · simp only [Act.put, List.setIfInBounds_toArray, List.set_cons_zero, List.set_cons_succ, i64_w, i32_w]
                  rfl
                refine take_ (i := 2) (N := some 194) (v := ?_) (a' := ?_) #[true, true, true, false, false] rfl rfl (by kernel_rfl) (fun _ _ _ h => h) (Or.inl ⟨by rfl, ?_⟩) hHeld ?_ ?_
                rotate_left
                · intro w' s0
                  go_simp
                  with_reducible rfl
                rotate_left
                · simp only [Act.put, List.setIfInBounds_toArray, List.set_cons_zero, List.set_cons_succ, i64_w, i32_w]
                  rfl
                refine one_ (i := 3) (N := none) #[true, true, true, true, false] rfl rfl (by kernel_rfl) (by decide) (fun K hK => ?_)
                refine skip_ (w1 := _) (by rfl) rfl (store_row_run 27 (.tmp 2) (.tmp 192) rfl w.heap.size #[.int .i64 0, .int .i64 0, .int .i64 0, .int .i64 0, .int .i64 0, .int .i64 0, .int .i64 0, .bool false, .slice none 0 0, .slice none 0 0, .slice none 0 0, .slice none 0 0] rfl rfl 27 _ HG.out (by kernel_rfl) (by rfl) (by first | kernel_rfl | rfl | simp [Value.oneCell'])) ?_
                refine hK.out _ _ (GZ.out.cellAt (w.heap.size + 1) 1 (v := .int .i64 ce) rfl) (fun hHeld => ?_)
                clear hK K
                refine pure_ (i := 4) (N := some 3) (v := ?_) (a' := ?_) #[true, true, true, true, true] rfl rfl (by kernel_rfl) (fun _ _ _ h => h) (Or.inl ⟨by rfl, ?_⟩) ?_ ?_
                rotate_left
                · intro w'
                  go_simp
                  with_reducible rfl
                rotate_left
                · simp only [Act.put, List.setIfInBounds_toArray, List.set_cons_zero, List.set_cons_succ, i64_w, i32_w]
                  rfl
                refine done_ (by kernel_rfl) ?_
                clear hHeld j0 j1 j1d HG
                go_wp2_with fail
                have z0 := GZ.out.cellAt w.heap.size 0 (v := .int .i64 0) rfl
                have z1 := GZ.out.cellAt w.heap.size 1 (v := .int .i64 0) rfl
                have z2 := GZ.out.cellAt w.heap.size 2 (v := .int .i64 0) rfl
                have z3 := GZ.out.cellAt w.heap.size 3 (v := .int .i64 0) rfl
                have z4 := GZ.out.cellAt w.heap.size 4 (v := .int .i64 0) rfl
                have z5 := GZ.out.cellAt w.heap.size 5 (v := .int .i64 0) rfl
                have z6 := GZ.out.cellAt w.heap.size 6 (v := .int .i64 0) rfl
                have z7 := GZ.out.cellAt w.heap.size 7 (v := .bool false) rfl
                have z8 := GZ.out.cellAt w.heap.size 8 (v := .slice none 0 0) rfl
                have z9 := GZ.out.cellAt w.heap.size 9 (v := .slice none 0 0) rfl
                have z10 := GZ.out.cellAt w.heap.size 10 (v := .slice none 0 0) rfl
                have z11 := GZ.out.cellAt w.heap.size 11 (v := .slice none 0 0) rfl
                exact bodyPost_ret (v := .tuple #[.agg #[.int .i64 0, .int .i64 0, .int .i64 0, .int .i64 0, .int .i64 0, .int .i64 0, .int .i64 0, .bool false, .slice none 0 0, .slice none 0 0, .slice none 0 0, .slice none 0 0], .int .i64 ce]) (by simp [results, Try.results15, go_sem, z0, z1, z2, z3, z4, z5, z6, z7, z8, z9, z10, z11]) rfl (.bad E0.out rfl GZ.out)
              · obtain rfl : 0 = c4x := STx4.out.2.1
                rcases ys with _ | ⟨y, ys⟩
                · obtain rfl : T4x = ⟨#[]⟩ := STx4.out.1.symm
                  have E0 := Aside0.mk (show decRes xs = (mkMsg [a0, a1, a2, a3, a4, a5, a6] f l1 l2 l3 l4, 0) by unfold decRes; rw [RD2.out, Rx4.out]; rfl)
                  clear Rx4 STx4
                  have z0 := HP0.out.cellAt q 0 (v := .int .i64 a0) rfl
                  have z1 := HP0.out.cellAt q 1 (v := .int .i64 a1) rfl
                  have z2 := HP0.out.cellAt q 2 (v := .int .i64 a2) rfl
                  have z3 := HP0.out.cellAt q 3 (v := .int .i64 a3) rfl
                  have z4 := HP0.out.cellAt q 4 (v := .int .i64 a4) rfl
                  have z5 := HP0.out.cellAt q 5 (v := .int .i64 a5) rfl
                  have z6 := HP0.out.cellAt q 6 (v := .int .i64 a6) rfl
                  have z7 := HP0.out.cellAt q 7 (v := .bool f) rfl
                  have z8 := HP0.out.cellAt q 8 (v := .slice A1 n1 c1) rfl
                  have z9 := HP0.out.cellAt q 9 (v := .slice A2 n2 c2) rfl
                  have z10 := HP0.out.cellAt q 10 (v := .slice A3 n3 c3) rfl
                  have z11 := HP0.out.cellAt q 11 (v := .slice A4 n4 c4) rfl
                  go_wp2_with (refine Hw.store_row rfl 27 (.tmp 2) (.tmp 199) rfl w.heap.size #[.int .i64 a0, .int .i64 a1, .int .i64 a2, .int .i64 a3, .int .i64 a4, .int .i64 a5, .int .i64 a6, .bool f, .slice A1 n1 c1, .slice A2 n2 c2, .slice A3 n3 c3, .slice A4 n4 c4] rfl rfl HP0.out (by kernel_rfl) (by rfl) (by first | kernel_rfl | rfl | simp [Value.oneCell']) ?_; intro w5 GZ)
                  clear z0 z1 z2 z3 z4 z5 z6 z7 z8 z9 z10 z11
                  have z0 := GZ.out.cellAt w.heap.size 0 (v := .int .i64 a0) rfl
                  have z1 := GZ.out.cellAt w.heap.size 1 (v := .int .i64 a1) rfl
                  have z2 := GZ.out.cellAt w.heap.size 2 (v := .int .i64 a2) rfl
                  have z3 := GZ.out.cellAt w.heap.size 3 (v := .int .i64 a3) rfl
                  have z4 := GZ.out.cellAt w.heap.size 4 (v := .int .i64 a4) rfl
                  have z5 := GZ.out.cellAt w.heap.size 5 (v := .int .i64 a5) rfl
                  have z6 := GZ.out.cellAt w.heap.size 6 (v := .int .i64 a6) rfl
                  have z7 := GZ.out.cellAt w.heap.size 7 (v := .bool f) rfl
                  have z8 := GZ.out.cellAt w.heap.size 8 (v := .slice A1 n1 c1) rfl
                  have z9 := GZ.out.cellAt w.heap.size 9 (v := .slice A2 n2 c2) rfl
                  have z10 := GZ.out.cellAt w.heap.size 10 (v := .slice A3 n3 c3) rfl
                  have z11 := GZ.out.cellAt w.heap.size 11 (v := .slice A4 n4 c4) rfl
                  refine bodyPost_ret (v := .tuple #[.agg #[.int .i64 a0, .int .i64 a1, .int .i64 a2, .int .i64 a3, .int .i64 a4, .int .i64 a5, .int .i64 a6, .bool f, .slice A1 n1 c1, .slice A2 n2 c2, .slice A3 n3 c3, .slice A4 n4 c4], .int .i64 0]) (by simp [results, Try.results15, go_sem, z0, z1, z2, z3, z4, z5, z6, z7, z8, z9, z10, z11]) rfl ⟨mkMsg [a0, a1, a2, a3, a4, a5, a6] f l1 l2 l3 l4, (A1, n1, c1), (A2, n2, c2), (A3, n3, c3), (A4, n4, c4), 0, E0.out, ⟨LN1.out, LN2.out, LN3.out, LN4.out⟩, rfl, ?_⟩
                  refine (((GZ.out.dropB w.heap.size).dropB q).dropB (w.heap.size + 1)).as ?_
                  show _ = crow 1 3 A1 n1 c1 (l1.flatMap intC) * (crow 4 135 A2 n2 c2 (l2.flatMap mutC) * (crow 4 143 A3 n3 c3 (l3.flatMap mutC) * crow 5 145 A4 n4 c4 (l4.flatMap rowC))) * HP.emp
                  ac_rfl
                · have hne : ¬ T4x.toList = [] := str_ne STx4.out.1
                  have hne2 : T4x.toList.isEmpty = false := by cases hh : T4x.toList with
                    | nil => exact absurd hh hne
                    | cons a l => rfl
                  have hne3 : (T4x.toList == []) = false := beq_false_of_ne hne
                  have hne4 : (T4x.toList != []) = true := by simpa using hne
                  have E0 := Aside0.mk (show rDec xs = .error 21 by rw [RD2.out, Rx4.out]; rfl)
                  clear Rx4 STx4
                  go_wp2_with (refine Hw.store_row rfl 27 (.tmp 2) (.tmp 198) rfl w.heap.size #[.int .i64 0, .int .i64 0, .int .i64 0, .int .i64 0, .int .i64 0, .int .i64 0, .int .i64 0, .bool false, .slice none 0 0, .slice none 0 0, .slice none 0 0, .slice none 0 0] rfl rfl HP0.out (by kernel_rfl) (by rfl) (by first | kernel_rfl | rfl | simp [Value.oneCell']) ?_; intro w5 GZ)
                  have z0 := GZ.out.cellAt w.heap.size 0 (v := .int .i64 0) rfl
                  have z1 := GZ.out.cellAt w.heap.size 1 (v := .int .i64 0) rfl
                  have z2 := GZ.out.cellAt w.heap.size 2 (v := .int .i64 0) rfl
                  have z3 := GZ.out.cellAt w.heap.size 3 (v := .int .i64 0) rfl
                  have z4 := GZ.out.cellAt w.heap.size 4 (v := .int .i64 0) rfl
                  have z5 := GZ.out.cellAt w.heap.size 5 (v := .int .i64 0) rfl
                  have z6 := GZ.out.cellAt w.heap.size 6 (v := .int .i64 0) rfl
                  have z7 := GZ.out.cellAt w.heap.size 7 (v := .bool false) rfl
                  have z8 := GZ.out.cellAt w.heap.size 8 (v := .slice none 0 0) rfl
                  have z9 := GZ.out.cellAt w.heap.size 9 (v := .slice none 0 0) rfl
                  have z10 := GZ.out.cellAt w.heap.size 10 (v := .slice none 0 0) rfl
                  have z11 := GZ.out.cellAt w.heap.size 11 (v := .slice none 0 0) rfl
                  exact bodyPost_ret (v := .tuple #[.agg #[.int .i64 0, .int .i64 0, .int .i64 0, .int .i64 0, .int .i64 0, .int .i64 0, .int .i64 0, .bool false, .slice none 0 0, .slice none 0 0, .slice none 0 0, .slice none 0 0], .int .i64 21]) (by simp [results, Try.results15, go_sem, z0, z1, z2, z3, z4, z5, z6, z7, z8, z9, z10, z11]) rfl (.bad E0.out rfl GZ.out)
end Go.Proofs.Ytckdkbjobipniaa
