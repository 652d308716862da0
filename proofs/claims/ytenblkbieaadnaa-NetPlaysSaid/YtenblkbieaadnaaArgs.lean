/- What a statement's arguments are read as: data of a kind, and how large they are. -/
import Derived.Test.YtenblkbieaadnaaRows
import Derived.Test.YtenblkbieaadnaaWWords
import Derived.SizedLaws
import Derived.OpenShut
import Derived.ChangeArms
set_option linter.unusedVariables false
set_option linter.unusedSimpArgs false
namespace Go.Proofs.Ytenblkbieaadnaa
open Go.RowKit Go.Proofs.YtenblkbieaadnaaW.PrintWords

/-- Data of type t read as values of a kind, of a size S (by the form's reach) and a bulk. -/
def Opens {α : Type} (P : Program) (t : TypeId) (d : Kd α) (S : α → Prop) (mu : α → Nat) : Prop :=
  d.sz = P.cellsOf t ∧ ∀ (H : Type) (enc : TypeId × Value → H) (w : World) (base fuel : Nat) (spare : Nat → Bool) (held : Bool) (cs : List Value) (x : DataW H × List MemPlace),
    DataW.trod enc P w base spare held fuel t cs = some x → ∃ y : α, d.K w y cs ∧ ((∀ n ∈ x.1.weights P t, n ≤ reachBytes) → S y) ∧ mu y ≤ Rows.uptoBulk x.1

theorem bulk_one_le {H : Type} (d : DataW H) : 1 ≤ Rows.uptoBulk d := by
  cases d with
  | lit l => cases l <;> simp [Rows.uptoBulk]
  | nil => simp [Rows.uptoBulk]
  | ptr d => simp [Rows.uptoBulk]
  | slice elems spare => simp [Rows.uptoBulk]
  | agg parts => simp [Rows.uptoBulk]
  | iface t d => simp [Rows.uptoBulk]
  | map entries => simp [Rows.uptoBulk]
  | held h => simp [Rows.uptoBulk]

section
variable {P : Program} {t e : TypeId}
theorem opens_int {k : IntKind} (ht : P.underlying t = some (.int k)) (hc : P.cellsOf t = 1) : Opens P t (Kd.int k) (fun n => (Lit.int k n).wf = true) (fun _ => 1) := by
  refine ⟨hc.symm, fun H enc w base fuel spare held cs x h => ?_⟩
  obtain ⟨n, rfl, rfl, hw⟩ := DataW.trod_int ht h
  exact ⟨n, rfl, fun _ => hw, bulk_one_le _⟩
theorem opens_bool (ht : P.underlying t = some .bool) (hc : P.cellsOf t = 1) : Opens P t Kd.bool (fun _ => True) (fun _ => 1) := by
  refine ⟨hc.symm, fun H enc w base fuel spare held cs x h => ?_⟩
  obtain ⟨n, rfl, rfl⟩ := DataW.trod_bool ht h
  exact ⟨n, rfl, fun _ => trivial, bulk_one_le _⟩
theorem opens_string (ht : P.underlying t = some .string) (hc : P.cellsOf t = 1) : Opens P t Kd.string (fun s => s.size ≤ 140737488351232) (fun s => s.size + 1) := by
  refine ⟨hc.symm, fun H enc w base fuel spare held cs x h => ?_⟩
  obtain ⟨s, rfl, rfl, hs⟩ := DataW.trod_string ht h
  refine ⟨s, rfl, fun hw => ?_, ?_⟩
  · have := hw s.data.toList.length (by simp [DataW.weights])
    rw [data_length] at this
    exact this
  · simp only [Rows.uptoBulk, data_length]; exact Nat.le_refl _

theorem bulkAll_ge {H α : Type} {mu : α → Nat} : ∀ (ys : List α) (l : List (DataW H)), ys.length = l.length → (∀ (i : Nat) y e, ys[i]? = some y → l[i]? = some e → mu y ≤ Rows.uptoBulk e) → (ys.map mu).sum ≤ Rows.uptoBulkAll l
  | [], [], _, _ => by simp [Rows.uptoBulkAll]
  | [], _ :: _, h, _ => by simp at h
  | _ :: _, [], h, _ => by simp at h
  | y :: ys, e :: l, h, hh => by
    have h1 := bulkAll_ge ys l (by simpa using h) (fun i y e hy he => hh (i + 1) y e (by simpa using hy) (by simpa using he))
    have h2 := hh 0 y e rfl rfl
    simp only [Rows.uptoBulkAll, List.map_cons, List.sum_cons]
    omega
theorem weightsAll_mem {H : Type} {n : Nat} : ∀ (l : List (DataW H)) (d : DataW H), d ∈ l → n ∈ d.weights P e → n ∈ DataW.weightsAll P e l
  | [], d, h, _ => by cases h
  | x :: r, d, h, hn => by
    simp only [DataW.weightsAll, List.mem_append]
    rcases List.mem_cons.1 h with rfl | h
    · exact .inl hn
    · exact .inr (weightsAll_mem r d h hn)
theorem addr_add_add (a : Addr) (m k : Nat) : (a.add m).add k = a.add (m + k) := by
  unfold Addr.add
  by_cases h1 : m = 0 <;> by_cases h2 : k = 0 <;> simp [h1, h2, Nat.add_assoc]
theorem cells_at {w : World} {base : Nat} {a : Addr} {n : Nat} {cs : List Value} (h : w.cells? base a n = some cs) : cs.length = n ∧ ∀ i u, cs[i]? = some u → w.cell? (a.add i) = some u := by
  unfold World.cells? at h
  split at h
  · have hl := mapM_some_length h
    refine ⟨by simpa using hl, fun i u hu => ?_⟩
    have hi : i < n := by have := (List.getElem?_eq_some_iff.1 hu).1; simp at hl; omega
    have := mapM_some_get h i i (by simp [hi])
    rw [hu] at this
    exact this
  · cases h
/-- A slice. -/
theorem opens_slice {α : Type} {d : Kd α} {S : α → Prop} {mu : α → Nat} {B : Nat} (ht : P.underlying t = some (.slice e)) (hc : P.cellsOf t = 1) (hB : P.bytesOf e = B) (he : Opens P e d S mu) :
    Opens P t (Kd.slice e d) (fun xs => xs.length * B ≤ 140737488351232 ∧ ∀ x ∈ xs, S x) (fun xs => (xs.map mu).sum + 1) := by
  obtain ⟨hsz, he⟩ := he
  refine ⟨hc.symm, fun H enc w base fuel spare held cs x h => ?_⟩
  rcases DataW.trod_slice ht h with ⟨rfl, rfl⟩ | ⟨a, len, cap, elems, rest, n, rfl, rfl, rfl, hb, hl, hm, hlen, hel, _, _⟩
  · exact ⟨[], ⟨none, 0, rfl, Nat.le_refl _, Kd.C_nil d w⟩, fun _ => ⟨by simp, fun x hx => by cases hx⟩, by simp [Rows.uptoBulk]⟩
  · have hex : ∀ i : Fin len, ∃ y : α, ∃ c : List Value, ∃ z : DataW H × List MemPlace, elems[i.val]? = some z ∧ w.cells? base (a.add (i.val * P.cellsOf e)) (P.cellsOf e) = some c ∧ d.K w y c ∧ ((∀ n ∈ z.1.weights P e, n ≤ reachBytes) → S y) ∧ mu y ≤ Rows.uptoBulk z.1 := by
      intro i
      have h1 := hel i.val i.isLt
      have h2 : elems[i.val]? = some (elems[i.val]'(by rw [hlen]; exact i.isLt)) := List.getElem?_eq_getElem _
      rw [h2] at h1
      obtain ⟨c, hc1, hc2⟩ := Option.bind_eq_some_iff.1 h1
      obtain ⟨y, hy1, hy2, hy3⟩ := he H enc w base n spare held c _ hc2
      exact ⟨y, c, _, h2, hc1, hy1, hy2, hy3⟩
    obtain ⟨f, hf⟩ : ∃ f : Fin len → α, ∀ i, ∃ c : List Value, ∃ z : DataW H × List MemPlace, elems[i.val]? = some z ∧ w.cells? base (a.add (i.val * P.cellsOf e)) (P.cellsOf e) = some c ∧ d.K w (f i) c ∧ ((∀ n ∈ z.1.weights P e, n ≤ reachBytes) → S (f i)) ∧ mu (f i) ≤ Rows.uptoBulk z.1 :=
      ⟨fun i => Classical.choose (hex i), fun i => Classical.choose_spec (hex i)⟩
    have hget : ∀ (j : Nat) (p : α), (List.ofFn f)[j]? = some p → ∃ h : j < len, f ⟨j, h⟩ = p := by
      intro j p hj
      obtain ⟨h1, h2⟩ := List.getElem?_eq_some_iff.1 hj
      have h3 : j < len := by simpa using h1
      exact ⟨h3, by simpa using h2⟩
    have hll : (List.ofFn f).length = len := by simp
    refine ⟨List.ofFn f, ⟨some a, cap, by rw [hll], by rw [hll]; exact hl, rfl, by rw [hll]; unfold maxLen at hm; omega, fun _ => ⟨a, rfl, fun j p hj => ?_⟩⟩, fun hw => ⟨?_, fun x hx => ?_⟩, ?_⟩
    · obtain ⟨h3, rfl⟩ := hget j p hj
      obtain ⟨c, z, hf1, hf2, hf3, _, _⟩ := hf ⟨j, h3⟩
      obtain ⟨hcl, hcc⟩ := cells_at hf2
      refine ⟨c, by rw [hcl, hsz], hf3, fun i u hu => ?_⟩
      rw [← addr_add_add, hsz]
      exact hcc i u hu
    · have h2 := hw (((elems.map (·.1)).length + (rest.map (·.1)).length) * P.bytesOf e) (by simp [DataW.weights, ht])
      rw [hll, ← hB]
      have h3 : len * P.bytesOf e ≤ ((elems.map (·.1)).length + (rest.map (·.1)).length) * P.bytesOf e := Nat.mul_le_mul_right _ (by simp [hlen])
      exact Nat.le_trans h3 h2
    · obtain ⟨j, hj⟩ := List.getElem?_of_mem hx
      obtain ⟨h3, rfl⟩ := hget j x hj
      obtain ⟨c, z, hf1, hf2, hf3, hf4, _⟩ := hf ⟨j, h3⟩
      refine hf4 (fun m hm' => hw m ?_)
      simp only [DataW.weights, ht, List.mem_cons, List.mem_append]
      exact .inr (.inl (weightsAll_mem _ _ (List.mem_map.2 ⟨_, List.mem_of_getElem? hf1, rfl⟩) hm'))
    · have := bulkAll_ge (mu := mu) (List.ofFn f) (elems.map (·.1)) (by simp [hlen]) (fun i y e' hy he' => by
        obtain ⟨h3, rfl⟩ := hget i y hy
        obtain ⟨c, z, hf1, hf2, hf3, hf4, hf5⟩ := hf ⟨i, h3⟩
        simp only [List.getElem?_map] at he'
        rw [show elems[i]? = some z from hf1] at he'
        have h5 : z.1 = e' := by simpa using he'
        rw [← h5]
        exact hf5)
      simp only [Rows.uptoBulk]
      omega

/-- Fields of a struct, from a place on. -/
def OpensF {α : Type} (P : Program) (fs : List Field) (o n : Nat) (d : Kd α) (S : α → Prop) (mu : α → Nat) : Prop :=
  d.sz = n ∧ ∀ (H : Type) (enc : TypeId × Value → H) (w : World) (base fuel : Nat) (spare : Nat → Bool) (held : Bool) (cs : List Value) (xs : List (DataW H × List MemPlace)), xs.length = fs.length →
    (∀ (i : Nat) (f : Field), fs[i]? = some f → DataW.trod enc P w base spare held fuel f.type ((cs.drop f.offset).take (P.cellsOf f.type)) = xs[i]?) →
    ∃ y : α, d.K w y ((cs.drop o).take n) ∧ ((∀ m ∈ DataW.weightsEach P (fs.map (·.type)) (xs.map (·.1)), m ≤ reachBytes) → S y) ∧ mu y ≤ Rows.uptoBulkAll (xs.map (·.1))
theorem opensF_one {α : Type} {d : Kd α} {S : α → Prop} {mu : α → Nat} {f : Field} {o n : Nat} (ho : f.offset = o) (hn : P.cellsOf f.type = n) (h : Opens P f.type d S mu) : OpensF P [f] o n d S mu := by
  obtain ⟨hsz, h⟩ := h
  refine ⟨hsz.trans hn, fun H enc w base fuel spare held cs xs hl hx => ?_⟩
  match xs, hl with
  | [x], _ =>
    have h1 := hx 0 f rfl
    obtain ⟨y, h2, h3, h4⟩ := h H enc w base fuel spare held _ x h1
    rw [ho, hn] at h2
    refine ⟨y, h2, fun hw => h3 (fun m hm => hw m (by simp only [DataW.weightsEach, List.map_cons, List.map_nil, List.append_nil]; simpa using hm)), ?_⟩
    simp only [List.map_cons, List.map_nil, Rows.uptoBulkAll]
    omega
theorem opensF_cons {α β : Type} {d : Kd α} {d' : Kd β} {S : α → Prop} {S' : β → Prop} {mu : α → Nat} {mu' : β → Nat} {f : Field} {fs : List Field} {o n m : Nat} (ho : f.offset = o) (hn : P.cellsOf f.type = n) (h : Opens P f.type d S mu) (h' : OpensF P fs (o + n) m d' S' mu') :
    OpensF P (f :: fs) o (n + m) (Kd.pair d d') (fun y => S y.1 ∧ S' y.2) (fun y => mu y.1 + mu' y.2) := by
  obtain ⟨hsz, h⟩ := h
  obtain ⟨hsz', h'⟩ := h'
  refine ⟨by show d.sz + d'.sz = n + m; rw [hsz, hsz', hn], fun H enc w base fuel spare held cs xs hl hx => ?_⟩
  match xs, hl with
  | x :: xs, hl =>
    have h1 := hx 0 f rfl
    obtain ⟨y, h2, h3, h4⟩ := h H enc w base fuel spare held _ x h1
    obtain ⟨y', h2', h3', h4'⟩ := h' H enc w base fuel spare held cs xs (by simpa using hl) (fun i f' hf' => by simpa using hx (i + 1) f' (by simpa using hf'))
    rw [ho, hn] at h2
    refine ⟨(y, y'), ⟨_, _, ?_, h2, h2'⟩, fun hw => ⟨h3 (fun m hm => hw m ?_), h3' (fun m hm => hw m ?_)⟩, ?_⟩
    · rw [List.take_add, List.drop_drop]
    · simp only [DataW.weightsEach, List.map_cons, List.mem_append]; exact .inl hm
    · simp only [DataW.weightsEach, List.map_cons, List.mem_append]; exact .inr hm
    · simp only [List.map_cons, Rows.uptoBulkAll]
      omega
/-- A struct. -/
theorem opens_struct {α : Type} {d : Kd α} {S : α → Prop} {mu : α → Nat} {fs : Array Field} {n : Nat} (ht : P.underlying t = some (.struct fs)) (hn : P.cellsOf t = n) (h : OpensF P fs.toList 0 n d S mu) : Opens P t d S (fun y => mu y + 1) := by
  obtain ⟨hsz, h⟩ := h
  refine ⟨hsz.trans hn.symm, fun H enc w base fuel spare held cs x hx => ?_⟩
  obtain ⟨xs, m, rfl, rfl, hl, hlen, hf⟩ := DataW.trod_struct ht hx
  obtain ⟨y, h1, h2, h3⟩ := h H enc w base m spare held cs xs (by simpa using hlen) (fun i f hi => hf i f (by simpa using hi))
  rw [List.drop_zero, ← hn, ← hl, List.take_length] at h1
  refine ⟨y, h1, fun hw => h2 (fun m hm => hw m (by simpa [DataW.weights, ht] using hm)), ?_⟩
  simp only [Rows.uptoBulk]
  omega
theorem okWide_array {n : Nat} {r : Reach} {base : Nat} {w : World} {v : Value} (ht : P.underlying t = some (.array n e)) (h : Value.okWide P w r base t v) : ∃ cs, v = .agg cs := by
  simp only [Value.okWide, ht] at h
  obtain ⟨cs, h1, _⟩ := h
  exact ⟨cs, h1⟩
/-- Two numbers. -/
theorem open_int2 {k : IntKind} {r : Reach} {b0 base : Nat} {w : World} {v : Value} {H : Type} {enc : TypeId × Value → H} {sp : Nat → Bool} {held : Bool} {d : DataW H} {ps : List MemPlace} (ht : P.underlying t = some (.array 2 e)) (he : P.underlying e = some (.int k)) (hc : P.cellsOf e = 1) (hct : P.cellsOf t = 2)
    (hval : Value.okWide P w r b0 t v) (hd : DataW.Trod enc P w base sp held t v d ps) : ∃ x y, v = .agg #[.int k x, .int k y] ∧ (Lit.int k x).wf = true ∧ (Lit.int k y).wf = true := by
  obtain ⟨cs, rfl⟩ := okWide_array ht hval
  obtain ⟨f, hf⟩ := hd
  obtain ⟨xs, m, rfl, h1, hl, hlen, hx⟩ := DataW.trod_array ht hf
  rw [hct] at hl
  have hl : cs.toList.length = 2 := by simpa [Value.cells] using hl
  have h0 := hx 0 (by omega)
  have h1 := hx 1 (by omega)
  rw [hc] at h0 h1
  obtain ⟨cs⟩ := cs
  match cs, hl with
  | [c0, c1], _ =>
    match xs, hlen with
    | [x0, x1], _ =>
      simp only [Value.cells, Nat.zero_mul, List.drop_zero, Nat.one_mul, List.drop_succ_cons, List.take_succ_cons, List.take_zero] at h0 h1
      obtain ⟨n0, e0, _, w0⟩ := DataW.trod_int (x := x0) he (by simpa using h0)
      obtain ⟨n1, e1, _, w1⟩ := DataW.trod_int (x := x1) he (by simpa using h1)
      simp only [List.cons.injEq, and_true] at e0 e1
      subst e0
      subst e1
      exact ⟨n0, n1, rfl, w0, w1⟩
end
end Go.Proofs.Ytenblkbieaadnaa
