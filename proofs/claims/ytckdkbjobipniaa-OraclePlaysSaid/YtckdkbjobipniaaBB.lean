/- Rows of cells that lie anywhere in a block of one's own: cut at either end, appended to, written. -/
import Derived.Test.YtckdkbjobipniaaBA
import Derived.ArgAppend
import Derived.Laws.IdiomCopy
import Derived.Lib.ConvBytes
import Derived.Laws.Tables
import Derived.Lib.AppendStr
import Derived.Test.YtckdkbjobipniaaWWords
set_option linter.unusedVariables false
set_option linter.unusedSimpArgs false
namespace Go.Proofs.Ytckdkbjobipniaa
open Go.RowKit Go.Proofs.YtckdkbjobipniaaW.PrintWords

/-- n elements of sz cells, room for cap; what the cells hold. -/
def crow (sz e : Nat) (A : Option Addr) (n cap : Nat) (cs : List Value) : HP := fun h =>
  cs.length = n * sz ∧ n ≤ cap ∧ cap ≤ maxLen ∧ (∀ u ∈ cs, u.oneCell' = true) ∧
  ((cap = 0 ∧ ∀ i, h i = none) ∨ ∃ b off cur, A = some ⟨b, off, none⟩ ∧ blk b (.cells cur e (0, 0)) h ∧ off + cap * sz ≤ cur.size ∧ ∀ j u, cs[j]? = some u → cur[off + j]? = some u)
section
variable {sz e n cap : Nat} {A : Option Addr} {cs : List Value} {w0 w : World} {F : HP}
theorem crow_split (h : Hw w0 w (crow sz e A n cap cs * F)) : (cs.length = n * sz ∧ n ≤ cap ∧ cap ≤ maxLen ∧ (∀ u ∈ cs, u.oneCell' = true)) ∧
    ((cap = 0 ∧ Hw w0 w F) ∨ ∃ b off cur, A = some ⟨b, off, none⟩ ∧ off + cap * sz ≤ cur.size ∧ (∀ j u, cs[j]? = some u → cur[off + j]? = some u) ∧ Hw w0 w (blk b (.cells cur e (0, 0)) * F)) := by
  have hr := h.right
  obtain ⟨hb, x, ⟨h1, h2, hd, hj, ⟨k1, k2, k3, k4, k5⟩, hq⟩, hw⟩ := h
  refine ⟨⟨k1, k2, k3, k4⟩, ?_⟩
  rcases k5 with ⟨k5, _⟩ | ⟨b, off, cur, k5, k6, k7, k8⟩
  · exact .inl ⟨k5, hr⟩
  · exact .inr ⟨b, off, cur, k5, k7, k8, hb, x, ⟨h1, h2, hd, hj, k6, hq⟩, hw⟩
theorem crow_none (hn : n = 0) (hl : cs = []) (h : Hw w0 w F) : Hw w0 w (crow sz e A n 0 cs * F) := by
  subst hn
  subst hl
  have h := h.emp_mul
  obtain ⟨hb, x, ⟨h1, h2, hd, hj, hp, hq⟩, hw⟩ := h
  exact ⟨hb, x, ⟨h1, h2, hd, hj, ⟨by simp, Nat.le_refl _, by simp [maxLen], by simp, .inl ⟨rfl, hp⟩⟩, hq⟩, hw⟩
theorem crow_some {b off : Nat} {cur : Array Value} (k1 : cs.length = n * sz) (k2 : n ≤ cap) (k3 : cap ≤ maxLen) (k4 : ∀ u ∈ cs, u.oneCell' = true) (k7 : off + cap * sz ≤ cur.size) (k8 : ∀ j u, cs[j]? = some u → cur[off + j]? = some u)
    (h : Hw w0 w (blk b (.cells cur e (0, 0)) * F)) : Hw w0 w (crow sz e (some ⟨b, off, none⟩) n cap cs * F) := by
  obtain ⟨hb, x, ⟨h1, h2, hd, hj, hp, hq⟩, hw⟩ := h
  exact ⟨hb, x, ⟨h1, h2, hd, hj, ⟨k1, k2, k3, k4, .inr ⟨b, off, cur, rfl, hp, k7, k8⟩⟩, hq⟩, hw⟩
theorem crow_len (h : Hw w0 w (crow sz e A n cap cs * F)) : cs.length = n * sz := (crow_split h).1.1
/-- What lies at place j. -/
theorem crow_cell (h : Hw w0 w (crow sz e A n cap cs * F)) (hn : 0 < n) : ∃ b off, A = some ⟨b, off, none⟩ ∧ ∀ j u, cs[j]? = some u → w.cell? ⟨b, off + j, none⟩ = some u ∧ w.frozen? ⟨b, off + j, none⟩ = false := by
  obtain ⟨⟨k1, k2, k3, k4⟩, h⟩ := crow_split h
  rcases h with ⟨h, _⟩ | ⟨b, off, cur, rfl, h1, h2, h3⟩
  · omega
  · exact ⟨b, off, rfl, fun j u hu => ⟨h3.cell (h2 j u hu), h3.unfrozen _⟩⟩
theorem crow_blk {b : Nat} (hc : cs.length = n * sz) (hm : n ≤ maxLen) (h1 : ∀ u ∈ cs, u.oneCell' = true) (h : Hw w0 w (blk b (.cells cs.toArray e (0, 0)) * F)) : Hw w0 w (crow sz e (some ⟨b, 0, none⟩) n n cs * F) :=
  crow_some hc (Nat.le_refl _) hm h1 (by simp [hc]) (fun j u hu => by simpa using hu) h
/-- Some cells are written. -/
theorem Hw.setCells {b : Nat} : ∀ (vs : List Value) (o : Nat) (w : World) (cur : Array Value), Hw w0 w (blk b (.cells cur e (0, 0)) * F) → ∃ cur', cur'.size = cur.size ∧ (∀ i, i < o → cur'[i]? = cur[i]?) ∧ (o + vs.length ≤ cur.size → ∀ i v, vs[i]? = some v → cur'[o + i]? = some v) ∧ Hw w0 (w.setCells b o vs) (blk b (.cells cur' e (0, 0)) * F)
  | [], o, w, cur, h => ⟨cur, rfl, fun i _ => rfl, fun _ i v hv => by simp at hv, h⟩
  | v :: vs, o, w, cur, h => by
    obtain ⟨cur', h1, h2, h3, h4⟩ := Hw.setCells vs (o + 1) _ _ (h.set o v)
    refine ⟨cur', by simpa using h1, fun i hi => ?_, fun hl i u hu => ?_, h4⟩
    · rw [h2 i (by omega), Array.getElem?_setIfInBounds_ne (by omega)]
    · have hl2 : o + 1 + vs.length ≤ cur.size := by simp only [List.length_cons] at hl; omega
      cases i with
      | zero =>
        have : v = u := by simpa using hu
        subst this
        rw [Nat.add_zero, h2 o (by omega)]
        have : o < cur.size := by simp only [List.length_cons] at hl; omega
        simp [this]
      | succ i =>
        have := h3 (by simpa using hl2) i u (by simpa using hu)
        rw [← this]
        congr 1
        omega
end

section
variable {P : Program} {ops : Array Oper} {rest : List Oper} {o : Oper} {a : Act} {Q : Exit → Act → World → Prop} {w0 W : World} {F : HP}
theorem run_append_zero (t ty e : TypeId) (i : TypeInfo) (ht : P.underlying t = some (.slice e)) (hi : P.info? e = some i) (A B : Option Addr) (n cap c : Nat) (hn : n ≤ cap) (w : World) :
    (Builtin.append_ #[t, t] ty #[.slice A n cap, .slice B 0 c]).run P w = .ok (.slice A n cap) w := by
  have hf : (Builtin.firstCells i.size 0 (.slice B 0 c)).run P w = .ok #[] w := by
    cases B with
    | none => exact run_firstCells_none w i.size 0 0 c
    | some b => exact run_firstCells_some w i.size 0 b 0 c [] (by simp) (fun j v h => by simp at h)
  cases A <;> simp [Builtin.append_, run_underlying ht, sizeOf, typeInfo, hi, Builtin.lenOf, hn, hf, storeCells]
/-- append(v, ys...), as it runs. -/
theorem crow_append_run {sz e n cap m c : Nat} {A B : Option Addr} {cs news : List Value} (t ty : TypeId) (z : Value) (bytes : Nat)
    (ht : P.underlying t = some (.slice e)) (hinfo : (P.info? e).map (fun i => (i.zero, i.size, i.bytes)) = some (some z, sz, bytes)) (hz : z.cells.size = sz) (hs0 : 0 < sz)
    (h : Hw w0 W (crow sz e A n cap cs * F)) (hnl : news.length = m * sz) (hn1 : ∀ u ∈ news, u.oneCell' = true) (hB : 0 < m → ∃ ad, B = some ad ∧ ∀ j u, news[j]? = some u → W.cell? (ad.add j) = some u) (hb0 : 0 < bytes) (hl : (n + m) * bytes ≤ 140737488355328) :
    ∃ A1 c1 w1, (Builtin.append_ #[t, t] ty #[.slice A n cap, .slice B m c]).run P W = .ok (.slice A1 (n + m) c1) w1 ∧ Hw w0 w1 (crow sz e A1 (n + m) c1 (cs ++ news) * F) := by
  obtain ⟨i0, hi, hzz⟩ := Option.map_eq_some_iff.1 hinfo
  simp only [Prod.mk.injEq] at hzz
  obtain ⟨hz0, hz1, hz2⟩ := hzz
  have hh := h
  obtain ⟨⟨k1, k2, k3, k4⟩, h⟩ := crow_split h
  have hml : n + m ≤ maxLen := by
    have : n + m ≤ (n + m) * bytes := Nat.le_mul_of_pos_right _ hb0
    simp only [maxLen]
    omega
  have hfresh : ∀ v' w', w'.ownsRow W.heap.size e sz v' (n + m) (cs ++ news) → W.grownBy w' none → 0 < m → ∃ A1 c1, v' = .slice A1 (n + m) c1 ∧ Hw w0 w' (crow sz e A1 (n + m) c1 (cs ++ news) * F) := by
    intro v' w' hown hg hm
    obtain ⟨o1, o2⟩ := hown
    rcases o2 with ⟨_, o2⟩ | ⟨g, cap', cur, rfl, hgb, hgh, hc1, hc2, hc3, hc4⟩
    · omega
    · refine ⟨_, _, rfl, crow_some o1 hc1 hc2 (fun u hu => ?_) (by omega) (fun j u hu => ?_) (hh.right.add g _ hgb hg.os hg.tape hg.output hg.size (fun i hi => hg.block i hi (by simp)) hgh)⟩
      · rcases List.mem_append.1 hu with hu | hu
        · exact k4 u hu
        · exact hn1 u hu
      · rw [← hc4, List.getElem?_take] at hu
        split at hu
        · rw [Nat.zero_add, ← Array.getElem?_toList]; exact hu
        · cases hu
  by_cases hm : m = 0
  · subst hm
    obtain rfl : news = [] := List.eq_nil_of_length_eq_zero (by simpa using hnl)
    exact ⟨A, cap, W, run_append_zero (P := P) t ty e i0 ht hi A B n cap c k2 W, by simpa using hh⟩
  · obtain ⟨ad, rfl, hcells⟩ := hB (by omega)
    rcases h with ⟨hc0, h0⟩ | ⟨b, off, cur, rfl, h1, h2, h3⟩
    · subst hc0
      have hn0 : n = 0 := by omega
      subst hn0
      obtain rfl : cs = [] := List.eq_nil_of_length_eq_zero (by simpa using k1)
      cases A with
      | none =>
        obtain ⟨v', w', hrun, r1, r2, _⟩ := run_append_own (P := P) W W.heap.size t ty e i0 z sz bytes ht hi hz0 hz1 hz2 hz hs0 (.slice none 0 0) 0 [] (World.ownsRow_nil W _ e sz) ad m c news hnl hcells hn1 hml hl (Nat.le_refl _)
        obtain ⟨A1, c1, rfl, hw⟩ := hfresh v' w' r1 r2 (by omega)
        exact ⟨A1, c1, w', hrun, hw⟩
      | some b0 =>
        obtain ⟨v', w', hrun, r1, r2⟩ := run_append_arg_grows (P := P) W t ty e i0 z sz bytes ht hi hz0 hz1 hz2 hz hs0 b0 0 0 [] (by simp) (fun j u hu => by simp at hu) ad m c news hnl hcells (by omega) hml hl
        obtain ⟨A1, c1, rfl, hw⟩ := hfresh v' w' r1 r2 (by omega)
        exact ⟨A1, c1, w', hrun, hw⟩
    · by_cases hr : n + m ≤ cap
      · have hsz : (n + m) * sz ≤ cap * sz := Nat.mul_le_mul_right _ hr
        rw [Nat.add_mul] at hsz
        subst hz1
        have hrun := run_append_room_cells (P := P) W t ty e i0 ht hi b off n cap ad m c news hnl hcells hn1 hr (fun j hj => by
          have hlt : off + n * i0.size + j < cur.size := by omega
          rw [h3.cell (v := cur[off + n * i0.size + j]) (by simp [hlt])]
          rfl) (fun j hj => h3.unfrozen _)
        obtain ⟨cur', c1, c2, c3, c4⟩ := Hw.setCells news (off + n * i0.size) W cur h3
        refine ⟨_, _, _, hrun, crow_some (by rw [List.length_append, k1, hnl, Nat.add_mul]) hr k3 (fun u hu => ?_) (by omega) (fun j u hu => ?_) c4⟩
        · rcases List.mem_append.1 hu with hu | hu
          · exact k4 u hu
          · exact hn1 u hu
        · by_cases hj : j < cs.length
          · rw [List.getElem?_append_left hj] at hu
            rw [c2 _ (by omega)]
            exact h2 j u hu
          · rw [List.getElem?_append_right (by omega)] at hu
            have := c3 (by omega) _ u hu
            rw [← this]
            congr 1
            omega
      · obtain ⟨v', w', hrun, r1, r2⟩ := run_append_arg_grows (P := P) W t ty e i0 z sz bytes ht hi hz0 hz1 hz2 hz hs0 ⟨b, off, none⟩ n cap cs k1 (fun j u hj => by rw [Addr.add_lit]; exact h3.cell (h2 j u hj)) ad m c news hnl hcells (by omega) hml hl
        obtain ⟨A1, c1, rfl, hw⟩ := hfresh v' w' r1 r2 (by omega)
        exact ⟨A1, c1, w', hrun, hw⟩
/-- append(v, ys...), at the operation. -/
theorem crow_append {sz e n cap m c : Nat} {A B : Option Addr} {cs news : List Value} (hgd : o.guard = none) (s x : Operand) (t : TypeId) (z : Value) (bytes : Nat)
    (ho : o.op = .call { callee := .builtin .append, args := #[s, x], argTypes := #[t, t] })
    (ht : P.underlying t = some (.slice e)) (hinfo : (P.info? e).map (fun i => (i.zero, i.size, i.bytes)) = some (some z, sz, bytes)) (hz : z.cells.size = sz) (hs0 : 0 < sz)
    (hs : a.eval s = .slice A n cap) (hx : a.eval x = .slice B m c)
    (h : Hw w0 W (crow sz e A n cap cs * F)) (hnl : news.length = m * sz) (hn1 : ∀ u ∈ news, u.oneCell' = true) (hB : 0 < m → ∃ ad, B = some ad ∧ ∀ j u, news[j]? = some u → W.cell? (ad.add j) = some u) (hb0 : 0 < bytes) (hl : (n + m) * bytes ≤ 140737488355328)
    (K : ∀ A1 c1 w1, Aside0 (Hw w0 w1 (crow sz e A1 (n + m) c1 (cs ++ news) * F)) → wpList P ops Q rest (a.put o.dst (.slice A1 (n + m) c1)) w1) : wpList P ops Q (o :: rest) a W := by
  obtain ⟨A1, c1, w1, hrun, hw⟩ := crow_append_run (P := P) t o.type z bytes ht hinfo hz hs0 h hnl hn1 hB hb0 hl (c := c)
  refine wpList_plain hgd fun Kc hK => ?_
  unfold Oper.wp
  simp [execOp, ho, resolve, invoke, builtin, hs, hx, hrun, Result.andThen]
  exact hK _ _ (K A1 c1 w1 ⟨hw⟩)
theorem crow_append_step {Kc : Act → World → Prop} {sz e n cap m c : Nat} {A B : Option Addr} {cs news : List Value} (hw : Region.wanted o (yielded ops a.tmps) = true) (s x : Operand) (t : TypeId) (z : Value) (bytes : Nat)
    (ho : o.op = .call { callee := .builtin .append, args := #[s, x], argTypes := #[t, t] })
    (ht : P.underlying t = some (.slice e)) (hinfo : (P.info? e).map (fun i => (i.zero, i.size, i.bytes)) = some (some z, sz, bytes)) (hz : z.cells.size = sz) (hs0 : 0 < sz)
    (hs : a.eval s = .slice A n cap) (hx : a.eval x = .slice B m c)
    (h : Hw w0 W (crow sz e A n cap cs * F)) (hnl : news.length = m * sz) (hn1 : ∀ u ∈ news, u.oneCell' = true) (hB : 0 < m → ∃ ad, B = some ad ∧ ∀ j u, news[j]? = some u → W.cell? (ad.add j) = some u) (hb0 : 0 < bytes) (hl : (n + m) * bytes ≤ 140737488355328)
    (K : ∀ A1 c1 w1, Aside0 (Hw w0 w1 (crow sz e A1 (n + m) c1 (cs ++ news) * F)) → Kc (a.put o.dst (.slice A1 (n + m) c1)) w1) :
    if Region.wanted o (yielded ops a.tmps) = true then Oper.wp P o a W Kc Q else Kc (a.put o.dst undef) W := by
  obtain ⟨A1, c1, w1, hrun, hw1⟩ := crow_append_run (P := P) t o.type z bytes ht hinfo hz hs0 h hnl hn1 hB hb0 hl (c := c)
  rw [if_pos hw]
  unfold Oper.wp execOp
  simp only [ho, resolve, invoke, builtin, Sem.run_bind, Sem.run_pure, Result.andThen_ok, List.map_toArray, List.map_cons, List.map_nil, hs, hx, hrun]
  exact K A1 c1 w1 ⟨hw1⟩
end
theorem blk_cells {w0 w : World} {F : HP} {b : Nat} {cs : List Value} {e : TypeId} {fz : Nat × Nat} (h : Hw w0 w (blk b (.cells cs.toArray e fz) * F)) : ∀ j u, cs[j]? = some u → w.cell? ((⟨b, 0, none⟩ : Addr).add j) = some u := fun j u hu => by
  rw [Addr.add_lit, Nat.zero_add]
  exact h.cell (by simpa using hu)
theorem crow_reads {sz e n cap : Nat} {A : Option Addr} {cs : List Value} {w0 w : World} {F : HP} (h : Hw w0 w (crow sz e A n cap cs * F)) (hn : 0 < n) : ∃ ad, A = some ad ∧ ∀ j u, cs[j]? = some u → w.cell? (ad.add j) = some u := by
  obtain ⟨b, off, rfl, hc⟩ := crow_cell h hn
  exact ⟨_, rfl, fun j u hu => by rw [Addr.add_lit]; exact (hc j u hu).1⟩
end Go.Proofs.Ytckdkbjobipniaa

/- Texts as rows of numbers. -/
set_option linter.unusedVariables false
set_option linter.unusedSimpArgs false
namespace Go.Proofs.Ytckdkbjobipniaa
open Go.RowKit Go.Proofs.YtckdkbjobipniaaW.PrintWords
def bytes (xs : List Int) : Prop := ∀ x ∈ xs, 0 ≤ x ∧ x ≤ 255
theorem tx_size (xs : List Int) : (strOfNums xs).size = xs.length := strOfNums_size xs
theorem tx_ext {s t : ByteArray} (h : s.data.toList = t.data.toList) : s = t := by
  cases s with | mk a => cases t with | mk b => exact congrArg ByteArray.mk (Array.ext' h)
theorem tx_toList {s t : ByteArray} : s.toList = t.toList ↔ s = t := by
  constructor
  · intro h
    apply tx_ext
    have e : ∀ s : ByteArray, s.toList = s.data.toList := fun s => ByteArray.toList_eq s
    rw [← e, ← e, h]
  · intro h; rw [h]
theorem tx_append (xs ys : List Int) : strOfNums (xs ++ ys) = strOfNums xs ++ strOfNums ys := by
  apply tx_ext
  rw [strOfNums_data]
  simp [strOfNums]
theorem tx_mid (xs : List Int) (i j : Nat) : (strOfNums xs).extract i j = strOfNums ((xs.take j).drop i) := by
  apply tx_ext
  rw [strOfNums_data]
  simp [strOfNums, List.map_take, List.map_drop, List.drop_take]
theorem tx_to (xs : List Int) (j : Nat) : (strOfNums xs).extract 0 j = strOfNums (xs.take j) := by
  have := tx_mid xs 0 j
  rwa [List.drop_zero] at this
theorem tx_from (xs : List Int) (i : Nat) : (strOfNums xs).extract i (strOfNums xs).size = strOfNums (xs.drop i) := by
  rw [tx_mid, tx_size, List.take_length]
theorem tx_inj {xs ys : List Int} (hx : bytes xs) (hy : bytes ys) (h : strOfNums xs = strOfNums ys) : xs = ys := by
  have h1 := congrArg (fun s : ByteArray => s.data.toList) h
  simp only [strOfNums_data] at h1
  have key : ∀ (xs ys : List Int), bytes xs → bytes ys → xs.map (fun n => UInt8.ofNat n.toNat) = ys.map (fun n => UInt8.ofNat n.toNat) → xs = ys := by
    intro xs
    induction xs with
    | nil => intro ys _ _ h; cases ys with
      | nil => rfl
      | cons y ys => simp at h
    | cons x xs ih =>
      intro ys hx hy h
      cases ys with
      | nil => simp at h
      | cons y ys =>
        simp only [List.map_cons, List.cons.injEq] at h
        have h2 := ih ys (fun z hz => hx z (.tail _ hz)) (fun z hz => hy z (.tail _ hz)) h.2
        have h3 := congrArg UInt8.toNat h.1
        have bx := hx x (.head _)
        have hby := hy y (.head _)
        simp only [UInt8.toNat_ofNat'] at h3
        have : x = y := by omega
        rw [this, h2]
  exact key xs ys hx hy h1
theorem tx_at (xs : List Int) (i : Nat) (x : Int) (hi : xs[i]? = some x) (hx : 0 ≤ x ∧ x ≤ 255) (h : i < (strOfNums xs).size) : (((strOfNums xs)[i]'h).toNat : Int) = x := by
  have h1 : (strOfNums xs).data.toList[i]? = some (UInt8.ofNat x.toNat) := by rw [strOfNums_data, List.getElem?_map, hi]; rfl
  have h2 : (strOfNums xs)[i]'h = UInt8.ofNat x.toNat := by
    have : (strOfNums xs).data.toList[i]? = some ((strOfNums xs)[i]'h) := by
      rw [List.getElem?_eq_getElem (by simpa using h)]
      rfl
    rw [this] at h1
    exact Option.some.inj h1
  rw [h2, UInt8.toNat_ofNat']
  omega
theorem tx_index {P : Program} (t : TypeId) (ht : P.underlying t = some .string) (xs : List Int) (k : IntKind) (j : Int) (i : Nat) (x : Int) (hj : j = i) (hi : xs[i]? = some x) (hx : 0 ≤ x ∧ x ≤ 255) :
    ∀ W : World, (Instr.index t (.string (strOfNums xs)) (.int k j)).run P W = .ok (.int .u8 x) W := by
  intro W
  subst hj
  have hlt : i < (strOfNums xs).size := by rw [tx_size]; exact (List.getElem?_eq_some_iff.1 hi).1
  rw [run_index_string W t _ k _ ht, dif_pos ⟨by omega, by omega⟩]
  have := tx_at xs i x hi hx hlt
  simp only [Int.toNat_natCast]
  rw [this]
theorem tx_slice {P : Program} (t : TypeId) (ht : P.underlying t = some .string) (xs : List Int) (lo hi : Int) (a b : Nat) (hlo : lo = a) (hhi : hi = b) (hab : a ≤ b) (hb : b ≤ xs.length) :
    ∀ W : World, (Instr.slice t (.string (strOfNums xs)) (some (.int .i64 lo)) (some (.int .i64 hi)) none).run P W = .ok (.string (strOfNums ((xs.take b).drop a))) W := by
  intro W
  subst hlo
  subst hhi
  have hs := tx_size xs
  rw [run_slice_string W t (strOfNums xs) .i64 .i64 a b ht (by omega) (by omega) (by omega)]
  simp only [Int.toNat_natCast]
  rw [tx_mid]
theorem tx_slice_to {P : Program} (t : TypeId) (ht : P.underlying t = some .string) (xs : List Int) (hi : Int) (b : Nat) (hhi : hi = b) (hb : b ≤ xs.length) :
    ∀ W : World, (Instr.slice t (.string (strOfNums xs)) none (some (.int .i64 hi)) none).run P W = .ok (.string (strOfNums (xs.take b))) W := by
  intro W
  subst hhi
  have hs := tx_size xs
  rw [run_slice_string_to_if W t (strOfNums xs) .i64 b ht, if_pos ⟨by omega, by omega⟩]
  simp only [Int.toNat_natCast]
  rw [tx_to]
theorem tx_slice_from {P : Program} (t : TypeId) (ht : P.underlying t = some .string) (xs : List Int) (lo : Int) (a : Nat) (hlo : lo = a) (ha : a ≤ xs.length) :
    ∀ W : World, (Instr.slice t (.string (strOfNums xs)) (some (.int .i64 lo)) none none).run P W = .ok (.string (strOfNums (xs.drop a))) W := by
  intro W
  subst hlo
  have hs := tx_size xs
  rw [run_slice_string_from_if W t (strOfNums xs) .i64 a ht, if_pos ⟨by omega, by omega⟩]
  simp only [Int.toNat_natCast]
  rw [tx_from]
/-- A text as numbers. -/
def numsOf (s : ByteArray) : List Int := s.data.toList.map fun b => (b.toNat : Int)
theorem numsOf_bytes (s : ByteArray) : bytes (numsOf s) := by
  intro x hx
  obtain ⟨b, _, rfl⟩ := List.mem_map.1 hx
  have := b.toNat_lt
  omega
theorem strOf_numsOf (s : ByteArray) : strOfNums (numsOf s) = s := by
  apply tx_ext
  rw [strOfNums_data]
  unfold numsOf
  rw [List.map_map]
  have : ((fun n : Int => UInt8.ofNat n.toNat) ∘ fun b : UInt8 => (b.toNat : Int)) = id := by
    funext b
    simp
  rw [this, List.map_id]
theorem numsOf_len (s : ByteArray) : (numsOf s).length = s.size := by simp [numsOf]
end Go.Proofs.Ytckdkbjobipniaa

/- Rows that are made; a whole array stored. -/
set_option linter.unusedVariables false
set_option linter.unusedSimpArgs false
namespace Go.Proofs.Ytckdkbjobipniaa
open Go.RowKit Go.Proofs.YtckdkbjobipniaaW.PrintWords
section
variable {P : Program} {ops : Array Oper} {rest : List Oper} {o : Oper} {a : Act} {Q : Exit → Act → World → Prop} {w0 W : World} {F : HP}
theorem Hw.store_row (hgd : o.guard = none) (ty : TypeId) (x y : Operand) (ho : o.op = .store ty x y) (g : Nat) (cells : Array Value) (hx : a.eval x = .pointer (some ⟨g, 0, none⟩)) (hy : a.eval y = .agg cells)
    {e : TypeId} {old : Array Value} (h : Hw w0 W (blk g (.cells old e (0, 0)) * F)) (hi : (P.info? ty).map (·.size) = some cells.size) (hold : old.size = cells.size) (h1 : cells.all (·.oneCell') = true)
    (K : ∀ w1, Aside0 (Hw w0 w1 (blk g (.cells cells e (0, 0)) * F)) → wpList P ops Q rest (a.put o.dst undef) w1) : wpList P ops Q (o :: rest) a W := by
  have hg := h.blk_at.1
  refine wpList_store_row hgd ty x y ho g cells hx hy e old hg hi hold h1 (K _ ⟨?_⟩)
  refine h.turn rfl rfl rfl (by simp [World.setRow]) (fun i hi hne => ?_) ?_
  · simp [World.setRow, Array.getElem?_modify, Ne.symm hne]
  · simp [World.setRow, Array.getElem?_modify, hg]
theorem Hw.make_int {k : IntKind} (hgd : o.guard = none) (t e : TypeId) (x y : Operand) (ho : o.op = .makeSlice t x y) (bytes : Nat) (ht : P.underlying t = some (.slice e)) (hinfo : (P.info? e).map (fun i => (i.zero, i.size, i.bytes)) = some (some (.int k 0), 1, bytes)) (hb0 : 0 < bytes)
    (j : Int) (m : Nat) (hj : j = m) (hn : m * bytes ≤ 281474976710656) (hx : a.eval x = .int .i64 j) (hy : a.eval y = .int .i64 j) (h : Hw w0 W F)
    (K : ∀ g w1, Aside0 (Hw w0 w1 (row (Kd.int k) e (.slice (some ⟨g, 0, none⟩) m m) (List.replicate m 0) * F)) → wpList P ops Q rest (a.put o.dst (.slice (some ⟨g, 0, none⟩) m m)) w1) : wpList P ops Q (o :: rest) a W := by
  subst hj
  have hrun := print_make (P := P) t e k bytes ht hinfo hb0 m hn W
  have hm : m ≤ 9223372036854775807 := by
    have : m ≤ m * bytes := Nat.le_mul_of_pos_right _ hb0
    omega
  refine wpList_plain hgd fun Kc hK => ?_
  unfold Oper.wp
  simp [execOp, ho, hx, hy, hrun, Result.andThen]
  refine hK _ _ (K W.heap.size _ ⟨?_⟩)
  have h2 := h.alloc (.cells (madeCells #[Value.int k 0] m) e)
  rw [madeCells_int] at h2 ⊢
  exact Hw.row_of_blk (enc := Value.int k) (h1 := fun _ => rfl) (xs := List.replicate m 0) (by simp) (by simpa using hm) h2
end
end Go.Proofs.Ytckdkbjobipniaa

/- append(list, row): a row of one's own goes behind the rows of a list. -/
set_option linter.unusedVariables false
set_option linter.unusedSimpArgs false
namespace Go.Proofs.Ytckdkbjobipniaa
open Go.RowKit Go.Proofs.YtckdkbjobipniaaW.PrintWords
section
variable {P : Program} {ops : Array Oper} {rest : List Oper} {o : Oper} {a : Act} {Q : Exit → Act → World → Prop} {w0 W : World} {F : HP}
theorem Hw.append_rows {α : Type} {d : Kd α} {e2 : Nat} (hgd : o.guard = none) (s x : Operand) (t e : TypeId)
    (ho : o.op = .call { callee := .builtin .append, args := #[s, x], argTypes := #[t, t] })
    (ht : P.underlying t = some (.slice e)) (hinfo : (P.info? e).map (fun i => (i.zero, i.size, i.bytes)) = some (some (.slice none 0 0), 1, 24))
    (A1 : Option Addr) (n1 c1 : Nat) (hs : List Hdr) (xss : List (List α)) (A' : Option Addr) (n' c' : Nat) (y : List α) (hs1 : a.eval s = .slice A1 n1 c1) (hx : a.eval x = .slice (some ⟨W.heap.size, 0, none⟩) 1 1)
    (h : Hw w0 W (row KHdr e (.slice A1 n1 c1) hs * (rowsHP d e2 hs xss * (row d e2 (.slice A' n' c') y * F)))) (hl : n1 ≤ 4611686018427)
    (K : ∀ A2 c2 w1, Aside0 (Hw w0 w1 (row KHdr e (.slice A2 (n1 + 1) c2) (hs ++ [(A', n', c')]) * (rowsHP d e2 (hs ++ [(A', n', c')]) (xss ++ [y]) * F))) → wpList P ops Q rest (a.put o.dst (.slice A2 (n1 + 1) c2)) w1) :
    wpList P ops Q (o :: rest) a (W.alloc (.cells #[.slice A' n' c'] e)) := by
  have hn1 := h.row_C.1
  have hlen := rows_len hs xss (h.as (Q := rowsHP d e2 hs xss * (row KHdr e (.slice A1 n1 c1) hs * (row d e2 (.slice A' n' c') y * F))) (by ac_rfl))
  have h1 := h.alloc (.cells #[.slice A' n' c'] e)
  have hC : KHdr.C (W.alloc (.cells #[.slice A' n' c'] e)) (some ⟨W.heap.size, 0, none⟩) 1 [(A', n', c')] := C_blk (enc := hdrEnc) (h1 := fun _ => rfl) (xs := [(A', n', c')]) (by simp) h1.blk_at.1
  refine Hw.append_row hdrEnc ((none, 0, 0) : Hdr) (h1 := fun _ => rfl) hgd s x t e (.slice none 0 0) 24 ho ht hinfo rfl (by decide) (.slice A1 n1 c1) hs [(A', n', c')] _ 1 1 hs1 hx
    (h1.as (Q := row KHdr e (.slice A1 n1 c1) hs * (blk W.heap.size (.cells #[.slice A' n' c'] e) * (rowsHP d e2 hs xss * (row d e2 (.slice A' n' c') y * F)))) (by ac_rfl)) hC (by omega) (fun A2 n2 c2 w1 hn2 hw => ?_)
  have e1 : n2 = n1 + 1 := by rw [hn2.out, List.length_append, ← hn1]; rfl
  subst e1
  refine K A2 c2 w1 ⟨?_⟩
  rw [rows_snoc hs xss (A', n', c') y hlen]
  exact (hw.as (Q := blk W.heap.size (.cells #[.slice A' n' c'] e) * (row KHdr e (.slice A2 (n1 + 1) c2) (hs ++ [(A', n', c')]) * (rowsHP d e2 hs xss * row d e2 (hdrEnc (A', n', c')) y * F))) (by
    show row KHdr e (.slice A2 (n1 + 1) c2) (hs ++ [(A', n', c')]) * (blk W.heap.size (.cells #[.slice A' n' c'] e) * (rowsHP d e2 hs xss * (row d e2 (hdrEnc (A', n', c')) y * F))) = _
    ac_rfl)).right
end
section
variable {α : Type} {d : Kd α} {e2 e : Nat} {A : Option Addr} {n c : Nat} {xss : List (List α)} {w0 w : World} {F : HP}
end
end Go.Proofs.Ytckdkbjobipniaa

/- append(bytes, text...): a text's bytes go behind a row of one's own. -/
set_option linter.unusedVariables false
set_option linter.unusedSimpArgs false
namespace Go.Proofs.Ytckdkbjobipniaa
open Go.RowKit Go.Proofs.YtckdkbjobipniaaW.PrintWords
theorem strCells_nums (s : ByteArray) : Lib.strCells s = (numsOf s).map (Value.int .u8) := by
  simp [Lib.strCells, numsOf]
section
variable {P : Program} {ops : Array Oper} {rest : List Oper} {o : Oper} {a : Act} {Q : Exit → Act → World → Prop} {w0 W : World} {F : HP}
theorem append_text_block (t u ty e : TypeId) (i : TypeInfo) (ht : P.underlying t = some (.slice e)) (hu : P.underlying u = some .string) (hi : P.info? e = some i) (hz : i.zero = some (.int .u8 0)) (hsize : i.size = 1) (hby : i.bytes = 1)
    (v : Value) (n : Nat) (xs : List Value) (hown : W.ownsRow 0 e 1 v n xs) (s : ByteArray) (hb : n + s.size ≤ 140737488355328) :
    ∃ v' w', (Builtin.append_ #[t, u] ty #[v, .string s]).run P W = .ok v' w' ∧ w'.ownsRow 0 e 1 v' (n + s.size) (xs ++ Lib.strCells s) ∧ W.grownBy w' v.ownBlock ∧ (v'.ownBlock = v.ownBlock ∨ ∃ b, v'.ownBlock = some b ∧ W.heap.size ≤ b) := by
  obtain ⟨v', w', hr, h2, h3, h4⟩ := Lib.run_append_own_string (P := P) W 0 t u ty e i ht hu hi hz hsize hby v n xs hown s (by simp only [maxLen]; omega) hb (Nat.zero_le _)
  refine ⟨v', w', hr, h2, h3, ?_⟩
  have hxl : xs.length = n := by simpa using hown.1
  rcases hown.2 with ⟨rfl, rfl⟩ | ⟨g, cap, cur, rfl, hbg, hg, hnc, hcm, hcs, htake⟩
  · have hx : xs = [] := List.eq_nil_of_length_eq_zero hxl
    subst hx
    by_cases hm : s.size = 0
    · left
      rw [h4.2 ⟨rfl, hm⟩]
    · right
      have hr2 := run_append_nil_string (P := P) W t u ty e i (.int .u8 0) ht hu hi hz s (by omega) (by omega) (by rw [hby]; omega)
      rw [hr] at hr2
      injection hr2 with e1 e2
      exact ⟨W.heap.size, by rw [e1]; rfl, Nat.le_refl _⟩
  · by_cases hroom : n + s.size ≤ cap
    · have hcs' : cur.size = cap := by simpa using hcs
      have hr2 := Lib.run_append_room_string (P := P) W t u ty e i ht hu hi hsize g n cap cur hg s hroom (by omega)
      rw [hr] at hr2
      injection hr2 with e1 e2
      left
      rw [e1]; rfl
    · have holds : ∀ j u, xs[j]? = some u → W.cell? ((⟨g, 0, none⟩ : Addr).add j) = some u := hown.cells (g := g) rfl
      have hr2 := Lib.run_append_grow_string (P := P) W t u ty e i (.int .u8 0) ht hu hi hz ⟨g, 0, none⟩ n cap xs (by rw [hsize]; simpa using hxl) holds s (by omega) (by omega) (by rw [hby]; exact growslice_fits (by omega) (by omega))
      rw [hr] at hr2
      injection hr2 with e1 e2
      right
      exact ⟨W.heap.size, by rw [e1]; rfl, Nat.le_refl _⟩
theorem Hw.append_text (hgd : o.guard = none) (sl x : Operand) (t u e : TypeId) (ho : o.op = .call { callee := .builtin .append, args := #[sl, x], argTypes := #[t, u] })
    (ht : P.underlying t = some (.slice e)) (hu : P.underlying u = some .string) (hinfo : (P.info? e).map (fun i => (i.zero, i.size, i.bytes)) = some (some (.int .u8 0), 1, 1))
    (v : Value) (xs : List Int) (s : ByteArray) (hs : a.eval sl = v) (hx : a.eval x = .string s) (h : Hw w0 W (row (Kd.int .u8) e v xs * F)) (n' : Nat) (hn : xs.length + s.size = n') (hl : n' ≤ 140737488355328)
    (K : ∀ A1 c1 w1, Aside0 (Hw w0 w1 (row (Kd.int .u8) e (.slice A1 n' c1) (xs ++ numsOf s) * F)) → wpList P ops Q rest (a.put o.dst (.slice A1 n' c1)) w1) : wpList P ops Q (o :: rest) a W := by
  subst hn
  obtain ⟨i0, hi, hzz⟩ := Option.map_eq_some_iff.1 hinfo
  simp only [Prod.mk.injEq] at hzz
  obtain ⟨hz0, hz1, hz2⟩ := hzz
  obtain ⟨ok, hR, hf, hK⟩ := h.row_open
  have hown := Kd.own_of_R (enc := Value.int .u8) (h1 := fun _ => rfl) hR
  obtain ⟨v', w', hr, h2, h3, h4⟩ := append_text_block (P := P) t u o.type e i0 ht hu hi hz0 hz1 hz2 v xs.length _ hown s hl
  have hR2 : (Kd.int .u8).R e w' 0 ok v' (xs ++ numsOf s) := by
    refine Kd.R_of_own (enc := Value.int .u8) (h1 := fun _ => rfl) ?_ (fun k hk => ?_)
    · have e1 : (xs ++ numsOf s).length = xs.length + s.size := by rw [List.length_append, numsOf_len]
      have e2 : encs (Value.int .u8) (xs ++ numsOf s) = encs (Value.int .u8) xs ++ Lib.strCells s := by rw [strCells_nums]; simp [encs]
      rw [e1, e2]
      exact h2
    · rcases h4 with h4 | ⟨b, h4, hb⟩
      · exact hR.1 k (by rw [← h4]; exact hk)
      · rw [h4] at hk
        obtain rfl : b = k := by simpa using hk
        exact hf b hb
  have h5 := hK _ _ _ _ _ h3 hR2
  obtain ⟨A1, c1, rfl⟩ := h5.row_slice
  have e1 : (xs ++ numsOf s).length = xs.length + s.size := by rw [List.length_append, numsOf_len]
  rw [e1] at h5 hr
  refine wpList_plain hgd fun Kc hKc => ?_
  unfold Oper.wp execOp
  simp only [ho, resolve, invoke, builtin, Sem.run_bind, Sem.run_pure, Result.andThen_ok, List.map_toArray, List.map_cons, List.map_nil, hs, hx, hr]
  exact hKc _ _ (K A1 c1 w' ⟨h5⟩)
end
end Go.Proofs.Ytckdkbjobipniaa

/- A row of bytes, each one raised by one up to a place. -/
set_option linter.unusedVariables false
set_option linter.unusedSimpArgs false
namespace Go.Proofs.Ytckdkbjobipniaa
end Go.Proofs.Ytckdkbjobipniaa
