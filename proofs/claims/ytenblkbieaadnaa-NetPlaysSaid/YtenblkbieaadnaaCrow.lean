/- Rows of cells that lie anywhere in a block of one's own: cut at either end, appended to, written. -/
import Derived.Test.YtenblkbieaadnaaSepTwo
import Derived.ArgAppend
import Derived.Laws.IdiomCopy
set_option linter.unusedVariables false
set_option linter.unusedSimpArgs false
namespace Go.Proofs.Ytenblkbieaadnaa
open Go.RowKit Go.Proofs.YtenblkbieaadnaaW.PrintWords

/-- n elements of sz cells, room for cap; what the cells hold. -/
def crow (sz e : Nat) (A : Option Addr) (n cap : Nat) (cs : List Value) : HP := fun h =>
  cs.length = n * sz ∧ n ≤ cap ∧ cap ≤ maxLen ∧ (∀ u ∈ cs, u.oneCell' = true) ∧
  ((cap = 0 ∧ ∀ i, h i = none) ∨ ∃ b off cur, A = some ⟨b, off, none⟩ ∧ blk b (.cells cur e (0, 0)) h ∧ off + cap * sz ≤ cur.size ∧ ∀ j u, cs[j]? = some u → cur[off + j]? = some u)
section
variable {sz e n cap : Nat} {A : Option Addr} {cs : List Value} {w0 w : World} {F : HP}
theorem crow_split (h : Hw w0 w (crow sz e A n cap cs * F)) : (cs.length = n * sz ∧ n ≤ cap ∧ cap ≤ maxLen ∧ (∀ u ∈ cs, u.oneCell' = true)) ∧
    ((cap = 0 ∧ Hw w0 w F) ∨ ∃ b off cur, A = some ⟨b, off, none⟩ ∧ off + cap * sz ≤ cur.size ∧ (∀ j u, cs[j]? = some u → cur[off + j]? = some u) ∧ Hw w0 w (blk b (.cells cur e (0, 0)) * F)) := by
  have hr := h.right
  obtain ⟨hb, x, ⟨h1, h2, hd, hj, ⟨k1, k2, k3, k4, k5⟩, hq⟩, hw⟩ := h
  refine ⟨⟨k1, k2, k3, k4⟩, ?_⟩
  rcases k5 with ⟨k5, _⟩ | ⟨b, off, cur, k5, k6, k7, k8⟩
  · exact .inl ⟨k5, hr⟩
  · exact .inr ⟨b, off, cur, k5, k7, k8, hb, x, ⟨h1, h2, hd, hj, k6, hq⟩, hw⟩
theorem crow_none (hn : n = 0) (hl : cs = []) (h : Hw w0 w F) : Hw w0 w (crow sz e A n 0 cs * F) := by
  subst hn
  subst hl
  have h := h.emp_mul
  obtain ⟨hb, x, ⟨h1, h2, hd, hj, hp, hq⟩, hw⟩ := h
  exact ⟨hb, x, ⟨h1, h2, hd, hj, ⟨by simp, Nat.le_refl _, by simp [maxLen], by simp, .inl ⟨rfl, hp⟩⟩, hq⟩, hw⟩
theorem crow_some {b off : Nat} {cur : Array Value} (k1 : cs.length = n * sz) (k2 : n ≤ cap) (k3 : cap ≤ maxLen) (k4 : ∀ u ∈ cs, u.oneCell' = true) (k7 : off + cap * sz ≤ cur.size) (k8 : ∀ j u, cs[j]? = some u → cur[off + j]? = some u)
    (h : Hw w0 w (blk b (.cells cur e (0, 0)) * F)) : Hw w0 w (crow sz e (some ⟨b, off, none⟩) n cap cs * F) := by
  obtain ⟨hb, x, ⟨h1, h2, hd, hj, hp, hq⟩, hw⟩ := h
  exact ⟨hb, x, ⟨h1, h2, hd, hj, ⟨k1, k2, k3, k4, .inr ⟨b, off, cur, rfl, hp, k7, k8⟩⟩, hq⟩, hw⟩
theorem crow_len (h : Hw w0 w (crow sz e A n cap cs * F)) : cs.length = n * sz := (crow_split h).1.1
theorem crow_le (h : Hw w0 w (crow sz e A n cap cs * F)) : n ≤ cap := (crow_split h).1.2.1
/-- What lies at place j. -/
theorem crow_cell (h : Hw w0 w (crow sz e A n cap cs * F)) (hn : 0 < n) : ∃ b off, A = some ⟨b, off, none⟩ ∧ ∀ j u, cs[j]? = some u → w.cell? ⟨b, off + j, none⟩ = some u ∧ w.frozen? ⟨b, off + j, none⟩ = false := by
  obtain ⟨⟨k1, k2, k3, k4⟩, h⟩ := crow_split h
  rcases h with ⟨h, _⟩ | ⟨b, off, cur, rfl, h1, h2, h3⟩
  · omega
  · exact ⟨b, off, rfl, fun j u hu => ⟨h3.cell (h2 j u hu), h3.unfrozen _⟩⟩
theorem crow_blk {b : Nat} (hc : cs.length = n * sz) (hm : n ≤ maxLen) (h1 : ∀ u ∈ cs, u.oneCell' = true) (h : Hw w0 w (blk b (.cells cs.toArray e (0, 0)) * F)) : Hw w0 w (crow sz e (some ⟨b, 0, none⟩) n n cs * F) :=
  crow_some hc (Nat.le_refl _) hm h1 (by simp [hc]) (fun j u hu => by simpa using hu) h
/-- The first m elements, with less room. -/
theorem crow_take {m c' : Nat} (h : Hw w0 w (crow sz e A n cap cs * F)) (hm : m ≤ n) (hc : m ≤ c') (hc' : c' ≤ cap) : Hw w0 w (crow sz e A m c' (cs.take (m * sz)) * F) := by
  obtain ⟨⟨k1, k2, k3, k4⟩, h⟩ := crow_split h
  have hle : m * sz ≤ n * sz := Nat.mul_le_mul_right _ hm
  rcases h with ⟨h, h0⟩ | ⟨b, off, cur, rfl, h1, h2, h3⟩
  · have hm0 : m = 0 := by omega
    have hc0 : c' = 0 := by omega
    subst hm0
    subst hc0
    exact crow_none rfl (by simp) h0
  · have hle2 : c' * sz ≤ cap * sz := Nat.mul_le_mul_right _ hc'
    refine crow_some (by rw [List.length_take, k1]; omega) hc (by omega) (fun u hu => k4 u (List.mem_of_mem_take hu)) (by omega) (fun j u hu => ?_) h3
    rw [List.getElem?_take] at hu
    split at hu
    · exact h2 j u hu
    · cases hu
/-- The elements from k on. -/
theorem crow_drop {k : Nat} (h : Hw w0 w (crow sz e A n cap cs * F)) (hk : k ≤ n) : Hw w0 w (crow sz e (if cap = k then A else A.map (·.add (k * sz))) (n - k) (cap - k) (cs.drop (k * sz)) * F) := by
  obtain ⟨⟨k1, k2, k3, k4⟩, h⟩ := crow_split h
  have hle : k * sz ≤ n * sz := Nat.mul_le_mul_right _ hk
  by_cases hc : cap = k
  · have hn : n - k = 0 := by omega
    have hz : cap - k = 0 := by omega
    rw [hz]
    have hF : Hw w0 w F := by
      rcases h with ⟨_, h0⟩ | ⟨b, off, cur, _, _, _, h3⟩
      · exact h0
      · exact h3.right
    refine crow_none hn ?_ hF
    apply List.drop_eq_nil_of_le
    rw [k1]
    exact Nat.mul_le_mul_right _ (by omega)
  · rw [if_neg hc]
    rcases h with ⟨h, h0⟩ | ⟨b, off, cur, rfl, h1, h2, h3⟩
    · omega
    · have e1 : (some (⟨b, off, none⟩ : Addr)).map (·.add (k * sz)) = some ⟨b, off + k * sz, none⟩ := by
        simp only [Option.map_some, Option.some.injEq]
        unfold Addr.add
        by_cases h0 : k * sz = 0 <;> simp [h0]
      rw [e1]
      refine crow_some (by rw [List.length_drop, k1, Nat.sub_mul]) (by omega) (by omega) (fun u hu => k4 u (List.mem_of_mem_drop hu)) ?_ (fun j u hu => ?_) h3
      · rw [Nat.sub_mul]
        have : k * sz ≤ cap * sz := Nat.mul_le_mul_right _ (by omega)
        omega
      · rw [List.getElem?_drop] at hu
        have := h2 _ u hu
        rw [← this]
        congr 1
        omega
/-- A cell is written. -/
theorem crow_set {b off j : Nat} {u : Value} (h : Hw w0 w (crow sz e (some ⟨b, off, none⟩) n cap cs * F)) (hj : j < cs.length) (hu : u.oneCell' = true) :
    Hw w0 (w.setCell ⟨b, off + j, none⟩ u) (crow sz e (some ⟨b, off, none⟩) n cap (cs.set j u) * F) := by
  obtain ⟨⟨k1, k2, k3, k4⟩, h⟩ := crow_split h
  rcases h with ⟨h, h0⟩ | ⟨b', off', cur, e1, h1, h2, h3⟩
  · subst h
    have hn : n = 0 := by omega
    subst hn
    simp at k1
    subst k1
    simp at hj
  · injection e1 with e1
    injection e1 with e1 e2
    subst e1
    subst e2
    refine crow_some (by rw [List.length_set, k1]) k2 k3 (fun v hv => ?_) (by simpa using h1) (fun i v hv => ?_) (h3.set (off + j) u)
    · rcases List.mem_or_eq_of_mem_set hv with hv | hv
      · exact k4 v hv
      · subst hv; exact hu
    · by_cases hi : j = i
      · subst hi
        rw [List.getElem?_set_self hj] at hv
        injection hv with hv
        subst hv
        obtain ⟨v0, hv0⟩ : ∃ v0, cs[j]? = some v0 := ⟨_, List.getElem?_eq_getElem hj⟩
        have := (Array.getElem?_eq_some_iff.1 (h2 j v0 hv0)).1
        simp [this]
      · rw [List.getElem?_set_ne hi] at hv
        rw [Array.getElem?_setIfInBounds_ne (by omega)]
        exact h2 i v hv
/-- Some cells are written. -/
theorem Hw.setCells {b : Nat} : ∀ (vs : List Value) (o : Nat) (w : World) (cur : Array Value), Hw w0 w (blk b (.cells cur e (0, 0)) * F) → ∃ cur', cur'.size = cur.size ∧ (∀ i, i < o → cur'[i]? = cur[i]?) ∧ (o + vs.length ≤ cur.size → ∀ i v, vs[i]? = some v → cur'[o + i]? = some v) ∧ Hw w0 (w.setCells b o vs) (blk b (.cells cur' e (0, 0)) * F)
  | [], o, w, cur, h => ⟨cur, rfl, fun i _ => rfl, fun _ i v hv => by simp at hv, h⟩
  | v :: vs, o, w, cur, h => by
    obtain ⟨cur', h1, h2, h3, h4⟩ := Hw.setCells vs (o + 1) _ _ (h.set o v)
    refine ⟨cur', by simpa using h1, fun i hi => ?_, fun hl i u hu => ?_, h4⟩
    · rw [h2 i (by omega), Array.getElem?_setIfInBounds_ne (by omega)]
    · have hl2 : o + 1 + vs.length ≤ cur.size := by simp only [List.length_cons] at hl; omega
      cases i with
      | zero =>
        have : v = u := by simpa using hu
        subst this
        rw [Nat.add_zero, h2 o (by omega)]
        have : o < cur.size := by simp only [List.length_cons] at hl; omega
        simp [this]
      | succ i =>
        have := h3 (by simpa using hl2) i u (by simpa using hu)
        rw [← this]
        congr 1
        omega
end

section
variable {P : Program} {ops : Array Oper} {rest : List Oper} {o : Oper} {a : Act} {Q : Exit → Act → World → Prop} {w0 W : World} {F : HP}
theorem run_append_zero (t ty e : TypeId) (i : TypeInfo) (ht : P.underlying t = some (.slice e)) (hi : P.info? e = some i) (A B : Option Addr) (n cap c : Nat) (hn : n ≤ cap) (w : World) :
    (Builtin.append_ #[t, t] ty #[.slice A n cap, .slice B 0 c]).run P w = .ok (.slice A n cap) w := by
  have hf : (Builtin.firstCells i.size 0 (.slice B 0 c)).run P w = .ok #[] w := by
    cases B with
    | none => exact run_firstCells_none w i.size 0 0 c
    | some b => exact run_firstCells_some w i.size 0 b 0 c [] (by simp) (fun j v h => by simp at h)
  cases A <;> simp [Builtin.append_, run_underlying ht, sizeOf, typeInfo, hi, Builtin.lenOf, hn, hf, storeCells]
/-- append(v, ys...), as it runs. -/
theorem crow_append_run {sz e n cap m c : Nat} {A B : Option Addr} {cs news : List Value} (t ty : TypeId) (z : Value) (bytes : Nat)
    (ht : P.underlying t = some (.slice e)) (hinfo : (P.info? e).map (fun i => (i.zero, i.size, i.bytes)) = some (some z, sz, bytes)) (hz : z.cells.size = sz) (hs0 : 0 < sz)
    (h : Hw w0 W (crow sz e A n cap cs * F)) (hnl : news.length = m * sz) (hn1 : ∀ u ∈ news, u.oneCell' = true) (hB : 0 < m → ∃ ad, B = some ad ∧ ∀ j u, news[j]? = some u → W.cell? (ad.add j) = some u) (hb0 : 0 < bytes) (hl : (n + m) * bytes ≤ 140737488355328) :
    ∃ A1 c1 w1, (Builtin.append_ #[t, t] ty #[.slice A n cap, .slice B m c]).run P W = .ok (.slice A1 (n + m) c1) w1 ∧ Hw w0 w1 (crow sz e A1 (n + m) c1 (cs ++ news) * F) := by
  obtain ⟨i0, hi, hzz⟩ := Option.map_eq_some_iff.1 hinfo
  simp only [Prod.mk.injEq] at hzz
  obtain ⟨hz0, hz1, hz2⟩ := hzz
  have hh := h
  obtain ⟨⟨k1, k2, k3, k4⟩, h⟩ := crow_split h
  have hml : n + m ≤ maxLen := by
    have : n + m ≤ (n + m) * bytes := Nat.le_mul_of_pos_right _ hb0
    simp only [maxLen]
    omega
  have hfresh : ∀ v' w', w'.ownsRow W.heap.size e sz v' (n + m) (cs ++ news) → W.grownBy w' none → 0 < m → ∃ A1 c1, v' = .slice A1 (n + m) c1 ∧ Hw w0 w' (crow sz e A1 (n + m) c1 (cs ++ news) * F) := by
    intro v' w' hown hg hm
    obtain ⟨o1, o2⟩ := hown
    rcases o2 with ⟨_, o2⟩ | ⟨g, cap', cur, rfl, hgb, hgh, hc1, hc2, hc3, hc4⟩
    · omega
    · refine ⟨_, _, rfl, crow_some o1 hc1 hc2 (fun u hu => ?_) (by omega) (fun j u hu => ?_) (hh.right.add g _ hgb hg.os hg.tape hg.output hg.size (fun i hi => hg.block i hi (by simp)) hgh)⟩
      · rcases List.mem_append.1 hu with hu | hu
        · exact k4 u hu
        · exact hn1 u hu
      · rw [← hc4, List.getElem?_take] at hu
        split at hu
        · rw [Nat.zero_add, ← Array.getElem?_toList]; exact hu
        · cases hu
  by_cases hm : m = 0
  · subst hm
    obtain rfl : news = [] := List.eq_nil_of_length_eq_zero (by simpa using hnl)
    exact ⟨A, cap, W, run_append_zero (P := P) t ty e i0 ht hi A B n cap c k2 W, by simpa using hh⟩
  · obtain ⟨ad, rfl, hcells⟩ := hB (by omega)
    rcases h with ⟨hc0, h0⟩ | ⟨b, off, cur, rfl, h1, h2, h3⟩
    · subst hc0
      have hn0 : n = 0 := by omega
      subst hn0
      obtain rfl : cs = [] := List.eq_nil_of_length_eq_zero (by simpa using k1)
      cases A with
      | none =>
        obtain ⟨v', w', hrun, r1, r2, _⟩ := run_append_own (P := P) W W.heap.size t ty e i0 z sz bytes ht hi hz0 hz1 hz2 hz hs0 (.slice none 0 0) 0 [] (World.ownsRow_nil W _ e sz) ad m c news hnl hcells hn1 hml hl (Nat.le_refl _)
        obtain ⟨A1, c1, rfl, hw⟩ := hfresh v' w' r1 r2 (by omega)
        exact ⟨A1, c1, w', hrun, hw⟩
      | some b0 =>
        obtain ⟨v', w', hrun, r1, r2⟩ := run_append_arg_grows (P := P) W t ty e i0 z sz bytes ht hi hz0 hz1 hz2 hz hs0 b0 0 0 [] (by simp) (fun j u hu => by simp at hu) ad m c news hnl hcells (by omega) hml hl
        obtain ⟨A1, c1, rfl, hw⟩ := hfresh v' w' r1 r2 (by omega)
        exact ⟨A1, c1, w', hrun, hw⟩
    · by_cases hr : n + m ≤ cap
      · have hsz : (n + m) * sz ≤ cap * sz := Nat.mul_le_mul_right _ hr
        rw [Nat.add_mul] at hsz
        subst hz1
        have hrun := run_append_room_cells (P := P) W t ty e i0 ht hi b off n cap ad m c news hnl hcells hn1 hr (fun j hj => by
          have hlt : off + n * i0.size + j < cur.size := by omega
          rw [h3.cell (v := cur[off + n * i0.size + j]) (by simp [hlt])]
          rfl) (fun j hj => h3.unfrozen _)
        obtain ⟨cur', c1, c2, c3, c4⟩ := Hw.setCells news (off + n * i0.size) W cur h3
        refine ⟨_, _, _, hrun, crow_some (by rw [List.length_append, k1, hnl, Nat.add_mul]) hr k3 (fun u hu => ?_) (by omega) (fun j u hu => ?_) c4⟩
        · rcases List.mem_append.1 hu with hu | hu
          · exact k4 u hu
          · exact hn1 u hu
        · by_cases hj : j < cs.length
          · rw [List.getElem?_append_left hj] at hu
            rw [c2 _ (by omega)]
            exact h2 j u hu
          · rw [List.getElem?_append_right (by omega)] at hu
            have := c3 (by omega) _ u hu
            rw [← this]
            congr 1
            omega
      · obtain ⟨v', w', hrun, r1, r2⟩ := run_append_arg_grows (P := P) W t ty e i0 z sz bytes ht hi hz0 hz1 hz2 hz hs0 ⟨b, off, none⟩ n cap cs k1 (fun j u hj => by rw [Addr.add_lit]; exact h3.cell (h2 j u hj)) ad m c news hnl hcells (by omega) hml hl
        obtain ⟨A1, c1, rfl, hw⟩ := hfresh v' w' r1 r2 (by omega)
        exact ⟨A1, c1, w', hrun, hw⟩
/-- append(v, ys...), at the operation. -/
theorem crow_append {sz e n cap m c : Nat} {A B : Option Addr} {cs news : List Value} (hgd : o.guard = none) (s x : Operand) (t : TypeId) (z : Value) (bytes : Nat)
    (ho : o.op = .call { callee := .builtin .append, args := #[s, x], argTypes := #[t, t] })
    (ht : P.underlying t = some (.slice e)) (hinfo : (P.info? e).map (fun i => (i.zero, i.size, i.bytes)) = some (some z, sz, bytes)) (hz : z.cells.size = sz) (hs0 : 0 < sz)
    (hs : a.eval s = .slice A n cap) (hx : a.eval x = .slice B m c)
    (h : Hw w0 W (crow sz e A n cap cs * F)) (hnl : news.length = m * sz) (hn1 : ∀ u ∈ news, u.oneCell' = true) (hB : 0 < m → ∃ ad, B = some ad ∧ ∀ j u, news[j]? = some u → W.cell? (ad.add j) = some u) (hb0 : 0 < bytes) (hl : (n + m) * bytes ≤ 140737488355328)
    (K : ∀ A1 c1 w1, Aside0 (Hw w0 w1 (crow sz e A1 (n + m) c1 (cs ++ news) * F)) → wpList P ops Q rest (a.put o.dst (.slice A1 (n + m) c1)) w1) : wpList P ops Q (o :: rest) a W := by
  obtain ⟨A1, c1, w1, hrun, hw⟩ := crow_append_run (P := P) t o.type z bytes ht hinfo hz hs0 h hnl hn1 hB hb0 hl (c := c)
  refine wpList_plain hgd fun Kc hK => ?_
  unfold Oper.wp
  simp [execOp, ho, resolve, invoke, builtin, hs, hx, hrun, Result.andThen]
  exact hK _ _ (K A1 c1 w1 ⟨hw⟩)
theorem crow_append_step {Kc : Act → World → Prop} {sz e n cap m c : Nat} {A B : Option Addr} {cs news : List Value} (hw : Region.wanted o (yielded ops a.tmps) = true) (s x : Operand) (t : TypeId) (z : Value) (bytes : Nat)
    (ho : o.op = .call { callee := .builtin .append, args := #[s, x], argTypes := #[t, t] })
    (ht : P.underlying t = some (.slice e)) (hinfo : (P.info? e).map (fun i => (i.zero, i.size, i.bytes)) = some (some z, sz, bytes)) (hz : z.cells.size = sz) (hs0 : 0 < sz)
    (hs : a.eval s = .slice A n cap) (hx : a.eval x = .slice B m c)
    (h : Hw w0 W (crow sz e A n cap cs * F)) (hnl : news.length = m * sz) (hn1 : ∀ u ∈ news, u.oneCell' = true) (hB : 0 < m → ∃ ad, B = some ad ∧ ∀ j u, news[j]? = some u → W.cell? (ad.add j) = some u) (hb0 : 0 < bytes) (hl : (n + m) * bytes ≤ 140737488355328)
    (K : ∀ A1 c1 w1, Aside0 (Hw w0 w1 (crow sz e A1 (n + m) c1 (cs ++ news) * F)) → Kc (a.put o.dst (.slice A1 (n + m) c1)) w1) :
    if Region.wanted o (yielded ops a.tmps) = true then Oper.wp P o a W Kc Q else Kc (a.put o.dst undef) W := by
  obtain ⟨A1, c1, w1, hrun, hw1⟩ := crow_append_run (P := P) t o.type z bytes ht hinfo hz hs0 h hnl hn1 hB hb0 hl (c := c)
  rw [if_pos hw]
  unfold Oper.wp execOp
  simp only [ho, resolve, invoke, builtin, Sem.run_bind, Sem.run_pure, Result.andThen_ok, List.map_toArray, List.map_cons, List.map_nil, hs, hx, hrun]
  exact K A1 c1 w1 ⟨hw1⟩
end
theorem blk_cells {w0 w : World} {F : HP} {b : Nat} {cs : List Value} {e : TypeId} {fz : Nat × Nat} (h : Hw w0 w (blk b (.cells cs.toArray e fz) * F)) : ∀ j u, cs[j]? = some u → w.cell? ((⟨b, 0, none⟩ : Addr).add j) = some u := fun j u hu => by
  rw [Addr.add_lit, Nat.zero_add]
  exact h.cell (by simpa using hu)
theorem crow_reads {sz e n cap : Nat} {A : Option Addr} {cs : List Value} {w0 w : World} {F : HP} (h : Hw w0 w (crow sz e A n cap cs * F)) (hn : 0 < n) : ∃ ad, A = some ad ∧ ∀ j u, cs[j]? = some u → w.cell? (ad.add j) = some u := by
  obtain ⟨b, off, rfl, hc⟩ := crow_cell h hn
  exact ⟨_, rfl, fun j u hu => by rw [Addr.add_lit]; exact (hc j u hu).1⟩
/-- 's[:i:i]'. -/
theorem cut_max {P : Program} (t e : TypeId) {i : TypeInfo} (ht : P.underlying t = some (.slice e)) (hi : P.info? e = some i) (A : Option Addr) (n c : Nat) (j : Nat) (hj : j ≤ c) :
    ∀ W : World, (Instr.slice t (.slice A n c) none (some (.int .i64 j)) (some (.int .i64 j))).run P W = .ok (.slice A j j) W := by
  intro W
  have hel : P.elem t = e := by simp [Program.elem, ht]
  have ha : (A.map fun x => x.add 0) = A := by cases A <;> simp [Addr.add]
  have h1 : (Instr.sliceBound (.int .i64 j) c .slice3Acap).run P W = .ok j W := by simp [Instr.sliceBound, asIntOf, hj, go_sem]
  have h2 : (Instr.sliceBound (.int .i64 j) j .slice3B).run P W = .ok j W := by simp [Instr.sliceBound, asIntOf, go_sem]
  simp [Instr.slice, run_underlying ht, Instr.sliceBounds, h1, h2, sizeOf, typeInfo, hi, ha, Result.andThen]
end Go.Proofs.Ytenblkbieaadnaa
