/- append(bytes, text...): a text's bytes go behind a row of one's own. -/
import Derived.Test.YtloiclalcepbeaaText
import Derived.Lib.AppendStr
set_option linter.unusedVariables false
set_option linter.unusedSimpArgs false
namespace Go.Proofs.Ytloiclalcepbeaa
open Go.RowKit Go.Proofs.YtloiclalcepbeaaW.PrintWords
theorem strCells_nums (s : ByteArray) : Lib.strCells s = (numsOf s).map (Value.int .u8) := by
  simp [Lib.strCells, numsOf]
section
variable {P : Program} {ops : Array Oper} {rest : List Oper} {o : Oper} {a : Act} {Q : Exit → Act → World → Prop} {w0 W : World} {F : HP}
theorem append_text_block (t u ty e : TypeId) (i : TypeInfo) (ht : P.underlying t = some (.slice e)) (hu : P.underlying u = some .string) (hi : P.info? e = some i) (hz : i.zero = some (.int .u8 0)) (hsize : i.size = 1) (hby : i.bytes = 1)
    (v : Value) (n : Nat) (xs : List Value) (hown : W.ownsRow 0 e 1 v n xs) (s : ByteArray) (hb : n + s.size ≤ 140737488355328) :
    ∃ v' w', (Builtin.append_ #[t, u] ty #[v, .string s]).run P W = .ok v' w' ∧ w'.ownsRow 0 e 1 v' (n + s.size) (xs ++ Lib.strCells s) ∧ W.grownBy w' v.ownBlock ∧ (v'.ownBlock = v.ownBlock ∨ ∃ b, v'.ownBlock = some b ∧ W.heap.size ≤ b) := by
  obtain ⟨v', w', hr, h2, h3, h4⟩ := Lib.run_append_own_string (P := P) W 0 t u ty e i ht hu hi hz hsize hby v n xs hown s (by simp only [maxLen]; omega) hb (Nat.zero_le _)
  refine ⟨v', w', hr, h2, h3, ?_⟩
  have hxl : xs.length = n := by simpa using hown.1
  rcases hown.2 with ⟨rfl, rfl⟩ | ⟨g, cap, cur, rfl, hbg, hg, hnc, hcm, hcs, htake⟩
  · have hx : xs = [] := List.eq_nil_of_length_eq_zero hxl
    subst hx
    by_cases hm : s.size = 0
    · left
      rw [h4.2 ⟨rfl, hm⟩]
    · right
      have hr2 := run_append_nil_string (P := P) W t u ty e i (.int .u8 0) ht hu hi hz s (by omega) (by omega) (by rw [hby]; omega)
      rw [hr] at hr2
      injection hr2 with e1 e2
      exact ⟨W.heap.size, by rw [e1]; rfl, Nat.le_refl _⟩
  · by_cases hroom : n + s.size ≤ cap
    · have hcs' : cur.size = cap := by simpa using hcs
      have hr2 := Lib.run_append_room_string (P := P) W t u ty e i ht hu hi hsize g n cap cur hg s hroom (by omega)
      rw [hr] at hr2
      injection hr2 with e1 e2
      left
      rw [e1]; rfl
    · have holds : ∀ j u, xs[j]? = some u → W.cell? ((⟨g, 0, none⟩ : Addr).add j) = some u := hown.cells (g := g) rfl
      have hr2 := Lib.run_append_grow_string (P := P) W t u ty e i (.int .u8 0) ht hu hi hz ⟨g, 0, none⟩ n cap xs (by rw [hsize]; simpa using hxl) holds s (by omega) (by omega) (by rw [hby]; exact growslice_fits (by omega) (by omega))
      rw [hr] at hr2
      injection hr2 with e1 e2
      right
      exact ⟨W.heap.size, by rw [e1]; rfl, Nat.le_refl _⟩
theorem Hw.append_text (hgd : o.guard = none) (sl x : Operand) (t u e : TypeId) (ho : o.op = .call { callee := .builtin .append, args := #[sl, x], argTypes := #[t, u] })
    (ht : P.underlying t = some (.slice e)) (hu : P.underlying u = some .string) (hinfo : (P.info? e).map (fun i => (i.zero, i.size, i.bytes)) = some (some (.int .u8 0), 1, 1))
    (v : Value) (xs : List Int) (s : ByteArray) (hs : a.eval sl = v) (hx : a.eval x = .string s) (h : Hw w0 W (row (Kd.int .u8) e v xs * F)) (n' : Nat) (hn : xs.length + s.size = n') (hl : n' ≤ 140737488355328)
    (K : ∀ A1 c1 w1, Aside0 (Hw w0 w1 (row (Kd.int .u8) e (.slice A1 n' c1) (xs ++ numsOf s) * F)) → wpList P ops Q rest (a.put o.dst (.slice A1 n' c1)) w1) : wpList P ops Q (o :: rest) a W := by
  subst hn
  obtain ⟨i0, hi, hzz⟩ := Option.map_eq_some_iff.1 hinfo
  simp only [Prod.mk.injEq] at hzz
  obtain ⟨hz0, hz1, hz2⟩ := hzz
  obtain ⟨ok, hR, hf, hK⟩ := h.row_open
  have hown := Kd.own_of_R (enc := Value.int .u8) (h1 := fun _ => rfl) hR
  obtain ⟨v', w', hr, h2, h3, h4⟩ := append_text_block (P := P) t u o.type e i0 ht hu hi hz0 hz1 hz2 v xs.length _ hown s hl
  have hR2 : (Kd.int .u8).R e w' 0 ok v' (xs ++ numsOf s) := by
    refine Kd.R_of_own (enc := Value.int .u8) (h1 := fun _ => rfl) ?_ (fun k hk => ?_)
    · have e1 : (xs ++ numsOf s).length = xs.length + s.size := by rw [List.length_append, numsOf_len]
      have e2 : encs (Value.int .u8) (xs ++ numsOf s) = encs (Value.int .u8) xs ++ Lib.strCells s := by rw [strCells_nums]; simp [encs]
      rw [e1, e2]
      exact h2
    · rcases h4 with h4 | ⟨b, h4, hb⟩
      · exact hR.1 k (by rw [← h4]; exact hk)
      · rw [h4] at hk
        obtain rfl : b = k := by simpa using hk
        exact hf b hb
  have h5 := hK _ _ _ _ _ h3 hR2
  obtain ⟨A1, c1, rfl⟩ := h5.row_slice
  have e1 : (xs ++ numsOf s).length = xs.length + s.size := by rw [List.length_append, numsOf_len]
  rw [e1] at h5 hr
  refine wpList_plain hgd fun Kc hKc => ?_
  unfold Oper.wp execOp
  simp only [ho, resolve, invoke, builtin, Sem.run_bind, Sem.run_pure, Result.andThen_ok, List.map_toArray, List.map_cons, List.map_nil, hs, hx, hr]
  exact hKc _ _ (K A1 c1 w' ⟨h5⟩)
end
end Go.Proofs.Ytloiclalcepbeaa
