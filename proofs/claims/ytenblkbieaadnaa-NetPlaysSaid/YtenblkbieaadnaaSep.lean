/- Worlds by parts: what a walk owns (blocks of its own, each once), what a call turns of it and what it leaves; plain Lean over the model's heap. -/
import Derived.Test.YtenblkbieaadnaaWWords
set_option linter.unusedVariables false
set_option linter.unusedSimpArgs false
namespace Go.Proofs.Ytenblkbieaadnaa
open Go.RowKit Go.Proofs.YtenblkbieaadnaaW.PrintWords

/-- Some blocks of a heap. -/
abbrev Hl := Nat → Option Obj
/-- What is said of some blocks. -/
def HP := Hl → Prop
def HP.star (P Q : HP) : HP := fun h => ∃ h1 h2 : Hl, (∀ i, h1 i = none ∨ h2 i = none) ∧ (∀ i, h i = (h1 i).or (h2 i)) ∧ P h1 ∧ Q h2
instance : Mul HP := ⟨HP.star⟩
theorem HP.mul_def (P Q : HP) (h : Hl) : (P * Q) h ↔ ∃ h1 h2 : Hl, (∀ i, h1 i = none ∨ h2 i = none) ∧ (∀ i, h i = (h1 i).or (h2 i)) ∧ P h1 ∧ Q h2 := Iff.rfl
theorem HP.ext {P Q : HP} (h : ∀ x, P x ↔ Q x) : P = Q := funext fun x => propext (h x)
theorem HP.comm (P Q : HP) : P * Q = Q * P := by
  have key : ∀ (P Q : HP) (x : Hl), (P * Q) x → (Q * P) x := by
    rintro P Q x ⟨h1, h2, hd, hj, hp, hq⟩
    refine ⟨h2, h1, fun i => (hd i).symm, fun i => ?_, hq, hp⟩
    rw [hj i]
    rcases hd i with h | h <;> rw [h] <;> simp
  exact HP.ext fun x => ⟨key P Q x, key Q P x⟩
theorem or_none {α : Type _} {a b : Option α} : a.or b = none ↔ a = none ∧ b = none := by cases a <;> simp
theorem HP.assoc (P Q R : HP) : P * Q * R = P * (Q * R) := by
  apply HP.ext
  intro x
  constructor
  · rintro ⟨h12, h3, hd, hj, ⟨h1, h2, hd', hj', hp, hq⟩, hr⟩
    refine ⟨h1, fun i => (h2 i).or (h3 i), fun i => ?_, fun i => ?_, hp, h2, h3, fun i => ?_, fun i => rfl, hq, hr⟩
    · show h1 i = none ∨ (h2 i).or (h3 i) = none
      rcases hd i with a | a
      · rw [hj' i] at a
        exact .inl (or_none.1 a).1
      · rcases hd' i with b | b
        · exact .inl b
        · exact .inr (or_none.2 ⟨b, a⟩)
    · show x i = (h1 i).or ((h2 i).or (h3 i))
      rw [hj i, hj' i]; cases h1 i <;> rfl
    · rcases hd i with a | a
      · rw [hj' i] at a
        exact .inl (or_none.1 a).2
      · exact .inr a
  · rintro ⟨h1, h23, hd, hj, hp, h2, h3, hd', hj', hq, hr⟩
    refine ⟨fun i => (h1 i).or (h2 i), h3, fun i => ?_, fun i => ?_, ⟨h1, h2, fun i => ?_, fun i => rfl, hp, hq⟩, hr⟩
    · show (h1 i).or (h2 i) = none ∨ h3 i = none
      rcases hd' i with b | b
      · rcases hd i with a | a
        · exact .inl (or_none.2 ⟨a, b⟩)
        · rw [hj' i] at a
          exact .inr (or_none.1 a).2
      · exact .inr b
    · show x i = ((h1 i).or (h2 i)).or (h3 i)
      rw [hj i, hj' i]; cases h1 i <;> rfl
    · rcases hd i with a | a
      · exact .inl a
      · rw [hj' i] at a
        exact .inr (or_none.1 a).1
instance : Std.Commutative (α := HP) (· * ·) := ⟨HP.comm⟩
instance : Std.Associative (α := HP) (· * ·) := ⟨HP.assoc⟩
/-- Nothing is owned. -/
def HP.emp : HP := fun h => ∀ i, h i = none
theorem HP.mul_emp (P : HP) : P * HP.emp = P := by
  apply HP.ext
  intro x
  constructor
  · rintro ⟨h1, h2, hd, hj, hp, hq⟩
    have : x = h1 := by
      funext i; rw [hj i, hq i]; simp
    rw [this]; exact hp
  · intro hp
    exact ⟨x, fun _ => none, fun i => .inr rfl, fun i => by simp, hp, fun i => rfl⟩
/-- One block. -/
def blk (b : Nat) (o : Obj) : HP := fun h => ∀ i, h i = if i = b then some o else none
/-- Something exists. -/
def HP.ex {α : Sort _} (P : α → HP) : HP := fun h => ∃ x, P x h
theorem HP.ex_mul {α : Sort _} (P : α → HP) (Q : HP) : HP.ex P * Q = HP.ex fun x => P x * Q := by
  apply HP.ext
  intro h
  constructor
  · rintro ⟨h1, h2, hd, hj, ⟨x, hp⟩, hq⟩
    exact ⟨x, h1, h2, hd, hj, hp, hq⟩
  · rintro ⟨x, h1, h2, hd, hj, hp, hq⟩
    exact ⟨h1, h2, hd, hj, ⟨x, hp⟩, hq⟩

/-- The world w, begun at w0: old memory is as it was; of the new blocks P is said (and perhaps there are others). -/
structure Hw (w0 w : World) (P : HP) : Prop where
  below : Below w0.heap.size w0 w
  own : ∃ h : Hl, P h ∧ ∀ i o, h i = some o → w0.heap.size ≤ i ∧ w.heap[i]? = some o

section
variable {w0 w w1 : World} {P Q F : HP}
theorem Hw.start (w0 : World) : Hw w0 w0 HP.emp := ⟨Below.refl _ _, fun _ => none, fun _ => rfl, fun i o h => by cases h⟩
theorem Hw.as (h : Hw w0 w P) (e : P = Q) : Hw w0 w Q := e ▸ h
theorem Hw.left (h : Hw w0 w (P * Q)) : Hw w0 w P := by
  obtain ⟨hb, x, ⟨h1, h2, hd, hj, hp, hq⟩, hw⟩ := h
  exact ⟨hb, h1, hp, fun i o hi => hw i o (by rw [hj i, hi]; rfl)⟩
theorem Hw.right (h : Hw w0 w (P * Q)) : Hw w0 w Q := (h.as (HP.comm P Q)).left
theorem Hw.ex {α : Sort _} {P : α → HP} : Hw w0 w (HP.ex P) ↔ ∃ x, Hw w0 w (P x) := by
  constructor
  · rintro ⟨hb, h, ⟨x, hp⟩, hw⟩
    exact ⟨x, hb, h, hp, hw⟩
  · rintro ⟨x, hb, h, hp, hw⟩
    exact ⟨hb, h, ⟨x, hp⟩, hw⟩
theorem Hw.ex_mul {α : Sort _} {P : α → HP} : Hw w0 w (HP.ex P * F) ↔ ∃ x, Hw w0 w (P x * F) := by
  rw [HP.ex_mul]; exact Hw.ex
theorem Hw.emp_mul (h : Hw w0 w F) : Hw w0 w (HP.emp * F) := h.as (by rw [HP.comm, HP.mul_emp])
theorem Hw.size (h : Hw w0 w P) : w0.heap.size ≤ w.heap.size := h.below.size
/-- What is owned stays where nothing of it is turned. -/
theorem Hw.step (h : Hw w0 w P) (os : w1.os = w.os) (tape : w1.tape = w.tape) (output : w1.output = w.output) (hs : w.heap.size ≤ w1.heap.size) (hm : ∀ i, i < w.heap.size → w1.heap[i]? = w.heap[i]?) : Hw w0 w1 P := by
  obtain ⟨hb, x, hp, hw⟩ := h
  refine ⟨hb.trans ⟨os, tape, output, hs, fun i hi => hm i (Nat.lt_of_lt_of_le hi hb.size)⟩, x, hp, fun i o hi => ?_⟩
  obtain ⟨h1, h2⟩ := hw i o hi
  exact ⟨h1, (hm i (Array.getElem?_eq_some_iff.1 h2).1).trans h2⟩
theorem Hw.from_below (h : Hw w0 w P) (hb : Below w.heap.size w w1) : Hw w0 w1 P := h.step hb.os hb.tape hb.output hb.size hb.block
theorem Hw.drew (h : Hw w0 w P) : Hw w0 w.drew P := h.step rfl rfl rfl (Nat.le_refl _) (fun _ _ => rfl)
theorem Hw.drewN (h : Hw w0 w P) (n : Nat) : Hw w0 (w.drewN n) P := h.step rfl rfl rfl (Nat.le_refl _) (fun _ _ => rfl)
theorem Hw.blk_at {b : Nat} {o : Obj} (h : Hw w0 w (blk b o * F)) : w.heap[b]? = some o ∧ w0.heap.size ≤ b := by
  obtain ⟨hb, x, ⟨h1, h2, hd, hj, hp, hq⟩, hw⟩ := h
  have := hw b o (by rw [hj b, hp b]; simp)
  exact ⟨this.2, this.1⟩
theorem Hw.lt {b : Nat} {o : Obj} (h : Hw w0 w (blk b o * F)) : b < w.heap.size := (Array.getElem?_eq_some_iff.1 h.blk_at.1).1
theorem Hw.cell {b i : Nat} {c : Array Value} {e : TypeId} {fz : Nat × Nat} {v : Value} (h : Hw w0 w (blk b (.cells c e fz) * F)) (hv : c[i]? = some v) : w.cell? ⟨b, i, none⟩ = some v := by
  simp [World.cell?, h.blk_at.1, hv]
theorem Hw.unfrozen {b : Nat} {c : Array Value} {e : TypeId} (h : Hw w0 w (blk b (.cells c e (0, 0)) * F)) (i : Nat) : w.frozen? ⟨b, i, none⟩ = false := by
  simp [World.frozen?, h.blk_at.1]
/-- One's own block is another's: a new block. -/
theorem Hw.add (h : Hw w0 w F) (b : Nat) (o : Obj) (hb : w.heap.size ≤ b) (os : w1.os = w.os) (tape : w1.tape = w.tape) (output : w1.output = w.output) (hs : w.heap.size ≤ w1.heap.size) (hm : ∀ i, i < w.heap.size → w1.heap[i]? = w.heap[i]?) (hn : w1.heap[b]? = some o) :
    Hw w0 w1 (blk b o * F) := by
  have hk := h.step (w1 := w1) os tape output hs hm
  obtain ⟨hb0, x, hp, hw⟩ := h
  refine ⟨hk.below, fun i => if i = b then some o else x i, ⟨fun i => if i = b then some o else none, x, fun i => ?_, fun i => ?_, fun i => rfl, hp⟩, fun i o' hi => ?_⟩
  · by_cases hi : i = b
    · subst hi
      right
      cases hx : x i with
      | none => rfl
      | some o' =>
        have := (Array.getElem?_eq_some_iff.1 (hw i o' hx).2).1
        omega
    · left; simp [hi]
  · by_cases hi : i = b <;> simp [hi]
  · by_cases hib : i = b
    · subst hib
      simp at hi
      subst hi
      exact ⟨Nat.le_trans hb0.size hb, hn⟩
    · simp [hib] at hi
      obtain ⟨h1, h2⟩ := hw i o' hi
      exact ⟨h1, (hm i (Array.getElem?_eq_some_iff.1 h2).1).trans h2⟩
theorem Hw.alloc (h : Hw w0 w F) (o : Obj) : Hw w0 (w.alloc o) (blk w.heap.size o * F) :=
  h.add w.heap.size o (Nat.le_refl _) rfl rfl rfl (by simp) (fun i hi => Below.heap_alloc w o i hi) (heap_alloc_new w o)
/-- One's own block is turned, all else stays. -/
theorem Hw.turn {b : Nat} {o o' : Obj} (h : Hw w0 w (blk b o * F)) (os : w1.os = w.os) (tape : w1.tape = w.tape) (output : w1.output = w.output) (hs : w.heap.size ≤ w1.heap.size) (hm : ∀ i, i < w.heap.size → i ≠ b → w1.heap[i]? = w.heap[i]?) (hn : w1.heap[b]? = some o') :
    Hw w0 w1 (blk b o' * F) := by
  have hat := h.blk_at
  obtain ⟨hb0, x, ⟨h1, h2, hd, hj, hp, hq⟩, hw⟩ := h
  refine ⟨hb0.trans ⟨os, tape, output, hs, fun i hi => hm i (Nat.lt_of_lt_of_le hi hb0.size) (by omega)⟩, fun i => if i = b then some o' else h2 i, ⟨fun i => if i = b then some o' else none, h2, fun i => ?_, fun i => ?_, fun i => rfl, hq⟩, fun i o'' hi => ?_⟩
  · by_cases hi : i = b
    · subst hi
      have := hd i
      rw [hp i] at this
      simpa using this
    · left; simp [hi]
  · by_cases hi : i = b <;> simp [hi]
  · by_cases hib : i = b
    · subst hib
      simp at hi
      subst hi
      exact ⟨hat.2, hn⟩
    · simp [hib] at hi
      have hx : x i = some o'' := by rw [hj i, hp i]; simp [hib, hi]
      obtain ⟨g1, g2⟩ := hw i o'' hx
      exact ⟨g1, (hm i (Array.getElem?_eq_some_iff.1 g2).1 hib).trans g2⟩
theorem Hw.set {b : Nat} {c : Array Value} {e : TypeId} {fz : Nat × Nat} (h : Hw w0 w (blk b (.cells c e fz) * F)) (i : Nat) (v : Value) : Hw w0 (w.setCell ⟨b, i, none⟩ v) (blk b (.cells (c.setIfInBounds i v) e fz) * F) :=
  h.turn rfl rfl rfl (by simp [World.setCell]) (fun j hj hne => Below.heap_setCell w ⟨b, i, none⟩ v j hne) (by simp [World.setCell, Array.getElem?_modify, h.blk_at.1])
end

/-! ### Rows of a kind -/
/-- A row of the walk's own. -/
def row {α : Type} (d : Kd α) (e : Nat) (v : Value) (xs : List α) : HP := fun h => ∀ W : World, (∀ i o, h i = some o → W.heap[i]? = some o) → d.R e W 0 (fun k => (h k).isSome = true) v xs
section
variable {α : Type} {d : Kd α} {e : Nat} {w0 w w1 : World} {v : Value} {xs : List α} {P Q F : HP}
theorem Hw.row_nil (h : Hw w0 w F) (d : Kd α) (e : Nat) : Hw w0 w (row d e (.slice none 0 0) [] * F) := by
  obtain ⟨hb, x, hp, hw⟩ := h
  exact ⟨hb, x, ⟨fun _ => none, x, fun i => .inl rfl, fun i => by simp, fun W _ => Kd.R_nil d e W 0 _, hp⟩, hw⟩
/-- What is said of some of the owned blocks may be turned: what is then said of them, and of the new ones, takes its place. -/
theorem Hw.split (h : Hw w0 w (P * F)) : ∃ ok : Hl, P ok ∧ (∀ i o, ok i = some o → w0.heap.size ≤ i ∧ w.heap[i]? = some o) ∧
    ∀ (Q : HP) (w1 : World), w1.os = w.os → w1.tape = w.tape → w1.output = w.output → w.heap.size ≤ w1.heap.size → (∀ i, i < w.heap.size → ok i = none → w1.heap[i]? = w.heap[i]?) →
      Q (fun i => if (ok i).isSome = true ∨ w.heap.size ≤ i then w1.heap[i]? else none) → Hw w0 w1 (Q * F) := by
  obtain ⟨hb, x, ⟨h1, h2, hd, hj, hp, hq⟩, hw⟩ := h
  have hw1 : ∀ i o, h1 i = some o → w0.heap.size ≤ i ∧ w.heap[i]? = some o := fun i o hi => hw i o (by rw [hj i, hi]; rfl)
  have hw2 : ∀ i o, h2 i = some o → w0.heap.size ≤ i ∧ w.heap[i]? = some o := fun i o hi => hw i o (by
    rw [hj i]
    rcases hd i with hh | hh
    · rw [hh, hi]; rfl
    · rw [hh] at hi; cases hi)
  have hlt : ∀ (y : Hl), (∀ i o, y i = some o → w0.heap.size ≤ i ∧ w.heap[i]? = some o) → ∀ k, (y k).isSome = true → k < w.heap.size := fun y hy k hk => by
    obtain ⟨o, ho⟩ := Option.isSome_iff_exists.1 hk
    exact (Array.getElem?_eq_some_iff.1 (hy k o ho).2).1
  refine ⟨h1, hp, hw1, fun Q w1 os tape output hsz hkeep hQ => ?_⟩
  have hge1 : ∀ k, (h1 k).isSome = true → w0.heap.size ≤ k := fun k hk => by
    obtain ⟨o, ho⟩ := Option.isSome_iff_exists.1 hk
    exact (hw1 k o ho).1
  have hB := hb.size
  have hno : ∀ i, ((h1 i).isSome = true ∨ w.heap.size ≤ i) → h2 i = none := fun i hi => by
    cases hx : h2 i with
    | none => rfl
    | some o =>
      have hl := hlt h2 hw2 i (by rw [hx]; rfl)
      rcases hi with hi | hi
      · rcases hd i with hh | hh
        · rw [hh] at hi; cases hi
        · rw [hh] at hx; cases hx
      · omega
  refine ⟨hb.trans ⟨os, tape, output, hsz, fun i hi => hkeep i (by omega) ?_⟩, fun i => if (h1 i).isSome = true ∨ w.heap.size ≤ i then w1.heap[i]? else h2 i,
    ⟨fun i => if (h1 i).isSome = true ∨ w.heap.size ≤ i then w1.heap[i]? else none, h2, fun i => ?_, fun i => ?_, hQ, hq⟩, fun i o hi => ?_⟩
  · cases hx : h1 i with
    | none => rfl
    | some o => have := (hw1 i o hx).1; omega
  · by_cases hi : (h1 i).isSome = true ∨ w.heap.size ≤ i
    · exact .inr (hno i hi)
    · left; simp only [hi, if_false]
  · by_cases hi : (h1 i).isSome = true ∨ w.heap.size ≤ i
    · simp only [hi, if_true, hno i hi]; simp
    · simp only [hi, if_false]; simp
  · by_cases hi' : (h1 i).isSome = true ∨ w.heap.size ≤ i
    · simp only [hi', if_true] at hi
      refine ⟨?_, hi⟩
      rcases hi' with hi' | hi'
      · exact hge1 i hi'
      · omega
    · simp only [hi', if_false] at hi
      obtain ⟨g1, g2⟩ := hw2 i o hi
      have hl := (Array.getElem?_eq_some_iff.1 g2).1
      refine ⟨g1, (hkeep i hl ?_).trans g2⟩
      cases hx : h1 i with
      | none => rfl
      | some o => exact absurd (.inl (by rw [hx]; rfl)) hi'
theorem row_of_R {ok : Nat → Prop} [DecidablePred ok] (hr : d.R e w1 0 ok v xs) : row d e v xs (fun i => if ok i then w1.heap[i]? else none) := by
  intro W hW
  have hR := Kd.R_move (w1 := W) (Kd.R_bound hr) (fun k hk => by
    obtain ⟨h3, h4, h5, _⟩ := hk
    have e1 : w1.heap[k]? = some w1.heap[k] := Array.getElem?_eq_getElem h5
    rw [e1]
    exact hW k _ (by simp only [h3, if_true]; exact e1))
  exact Kd.R_mono hR (fun k hk => by
    obtain ⟨h3, h4, h5, _⟩ := hk
    have e1 : w1.heap[k]? = some w1.heap[k] := Array.getElem?_eq_getElem h5
    simp only [h3, if_true, e1]; rfl)
/-- What a call has made. -/
theorem Hw.fresh {base : Nat} {ok : Nat → Prop} (h : Hw w0 w F) (hb : Below w.heap.size w w1) (hr : d.R e w1 base ok v xs) (hbase : w.heap.size ≤ base) : Hw w0 w1 (row d e v xs * F) := by
  obtain ⟨ok', _, _, hK⟩ := Hw.split (P := HP.emp) h.emp_mul
  exact hK _ w1 hb.os hb.tape hb.output hb.size (fun i hi _ => hb.block i hi) (row_of_R (Kd.R_lower (Kd.R_mono (Kd.R_bound hr) (fun k hk => .inr (Nat.le_trans hbase hk.2.1))) (Nat.zero_le _)))
theorem Hw.row_R (h : Hw w0 w (row d e v xs * F)) : ∃ ok : Nat → Prop, d.R e w 0 ok v xs := by
  obtain ⟨hb, x, ⟨h1, h2, hd, hj, hp, hq⟩, hw⟩ := h
  exact ⟨_, hp w (fun i o hi => (hw i o (by rw [hj i, hi]; rfl)).2)⟩
theorem Hw.row_reads (h : Hw w0 w (row d e v xs * F)) : ∃ A c, v = .slice A xs.length c ∧ xs.length ≤ c ∧ d.C w A xs.length xs := by
  obtain ⟨ok, hr⟩ := h.row_R
  exact Kd.R_reads hr
theorem Hw.row_slice (h : Hw w0 w (row d e v xs * F)) : ∃ A c, v = .slice A xs.length c := by
  obtain ⟨A, c, hv, _⟩ := h.row_reads
  exact ⟨A, c, hv⟩
/-- A row is opened: whatever is a row then, but for whose blocks nothing has turned, takes its place. -/
theorem Hw.row_open (h : Hw w0 w (row d e v xs * F)) : ∃ ok : Nat → Prop, d.R e w 0 ok v xs ∧ (∀ k, w.heap.size ≤ k → ok k) ∧
    ∀ {β : Type} (d' : Kd β) (e' : Nat) (v' : Value) (ys : List β) (w1 : World), w.grownBy w1 v.ownBlock → d'.R e' w1 0 ok v' ys → Hw w0 w1 (row d' e' v' ys * F) := by
  obtain ⟨ok, hp, hw, hK⟩ := h.split
  have hR := hp w (fun i o hi => (hw i o hi).2)
  refine ⟨fun k => (ok k).isSome = true ∨ w.heap.size ≤ k, Kd.R_mono hR (fun k hk => .inl hk), fun k hk => .inr hk, fun d' e' v' ys w1 hg hr => ?_⟩
  refine hK _ w1 hg.os hg.tape hg.output hg.size (fun i hi hn => hg.block i hi (fun e => ?_)) (row_of_R hr)
  have h1 : (ok i).isSome = true := hR.1 i e.symm
  rw [hn] at h1
  cases h1
/-- A cut of a row is a row. -/
theorem Hw.row_take {A : Option Addr} {n c m : Nat} (h : Hw w0 w (row d e (.slice A n c) xs * F)) (hm : m ≤ xs.length) : Hw w0 w (row d e (.slice A m c) (xs.take m) * F) := by
  obtain ⟨ok, hR, hf, hK⟩ := h.row_open
  exact hK d e _ _ w (World.grownBy.refl w _) (Kd.R_take hR hm)
/-- A new block of scalars is a row. -/
theorem Hw.row_of_blk {enc : α → Value} {h1 : ∀ x, (enc x).oneCell' = true} {g n : Nat} (hn : n = xs.length) (hm : n ≤ 9223372036854775807) (h : Hw w0 w (blk g (.cells (xs.map enc).toArray e (0, 0)) * F)) : Hw w0 w (row (Kd.scalar enc h1) e (.slice (some ⟨g, 0, none⟩) n n) xs * F) := by
  obtain ⟨ok, hp, hw, hK⟩ := h.split
  subst hn
  refine hK _ w rfl rfl rfl (Nat.le_refl _) (fun _ _ _ => rfl) (row_of_R (Kd.R_of_own ?_ (fun k hk => ?_)))
  · refine ⟨by simp [encs], .inr ⟨g, xs.length, (xs.map enc).toArray, rfl, Nat.zero_le _, (h.blk_at).1, Nat.le_refl _, by simpa [maxLen] using hm, by simp, ?_⟩⟩
    simp [encs, List.take_of_length_le]
  · have : g = k := by simpa [Value.ownBlock] using hk
    subst this
    left
    rw [hp g]; simp
end

/-! ### Laws of operations, over what is owned -/
section
variable {P : Program} {ops : Array Oper} {rest : List Oper} {o : Oper} {a : Act} {Q : Exit → Act → World → Prop} {w0 W : World} {F : HP}
/-- append(v, ys...), both of scalars. -/
theorem Hw.append_row {α : Type} (enc : α → Value) (d : α) {h1 : ∀ x : α, (enc x).oneCell' = true} (hgd : o.guard = none) (s x : Operand) (t e : TypeId) (z : Value) (bytes : Nat)
    (ho : o.op = .call { callee := .builtin .append, args := #[s, x], argTypes := #[t, t] })
    (ht : P.underlying t = some (.slice e)) (hinfo : (P.info? e).map (fun i => (i.zero, i.size, i.bytes)) = some (some z, 1, bytes)) (hz : z.cells.size = 1) (hb0 : 0 < bytes)
    (v : Value) (xs ys : List α) (A : Option Addr) (m c : Nat) (hs : a.eval s = v) (hx : a.eval x = .slice A m c)
    (h : Hw w0 W (row (Kd.scalar enc h1) e v xs * F)) (HR : (Kd.scalar enc h1).C W A m ys) (hl : (xs.length + m) * bytes ≤ 140737488355328)
    (K : ∀ A1 n1 c1 w1, Aside0 (n1 = (xs ++ ys).length) → Hw w0 w1 (row (Kd.scalar enc h1) e (.slice A1 n1 c1) (xs ++ ys) * F) → wpList P ops Q rest (a.put o.dst (.slice A1 n1 c1)) w1) : wpList P ops Q (o :: rest) a W := by
  obtain ⟨ok, hR, hf, hK⟩ := h.row_open
  refine Kd.R_append_row (w0 := W) enc d 0 hgd s x t e z bytes ho ht hinfo hz hb0 v xs ys A m c ok hs hx hf hR HR (Below.refl _ _) (Nat.zero_le _) hl (fun v1 w1 hr _ hg _ => ?_)
  have h2 := hK _ _ _ _ _ hg hr
  obtain ⟨A1, c1, rfl⟩ := h2.row_slice
  exact K A1 _ c1 w1 ⟨rfl⟩ h2
end
/-- An element of a row of rows that is read. -/
theorem C_row_at {α : Type} {d : Kd α} {e : Nat} {w : World} {A : Option Addr} {n : Nat} {xs : List (List α)} (h : (Kd.slice e d).C w A n xs) (i : Nat) (hi : i < n) :
    ∃ ad A' c' x, A = some ad ∧ w.cell? (ad.add i) = some (.slice A' x.length c') ∧ x.length ≤ c' ∧ Aside0 (xs[i]? = some x) ∧ Aside0 (d.C w A' x.length x) := by
  obtain ⟨ad, e, hc⟩ := h.2.2 (by omega)
  have hl : i < xs.length := by have := h.1; omega
  obtain ⟨c, hs, ⟨A', c', rfl, hl', hC⟩, hcell⟩ := hc i _ (List.getElem?_eq_getElem hl)
  refine ⟨ad, A', c', xs[i], e, ?_, hl', ⟨List.getElem?_eq_getElem hl⟩, ⟨hC⟩⟩
  have := hcell 0 _ rfl
  simpa [Kd.slice] using this
/-! ### Literals -/
theorem C_blk {α : Type} {enc : α → Value} {h1 : ∀ x, (enc x).oneCell' = true} {w : World} {g : Nat} {E : TypeId} {fz : Nat × Nat} {xs : List α} (hm : xs.length ≤ 9223372036854775807) (h : w.heap[g]? = some (.cells (xs.map enc).toArray E fz)) :
    (Kd.scalar enc h1).C w (some ⟨g, 0, none⟩) xs.length xs := by
  refine ⟨rfl, hm, fun hn => ⟨_, rfl, fun j p hj => ⟨[enc p], rfl, rfl, fun i u hu => ?_⟩⟩⟩
  cases i with
  | succ i => simp at hu
  | zero =>
    have hu : enc p = u := by simpa using hu
    subst hu
    rw [add_plain]
    simp [World.cell?, h, Kd.scalar, hj]
theorem C_lit {α : Type} {d : Kd α} {e : Nat} {w : World} {g : Nat} {E : TypeId} {fz : Nat × Nat} {vals : List Value} {parts : List (List α)} (hm : parts.length ≤ 9223372036854775807) (h : w.heap[g]? = some (.cells vals.toArray E fz))
    (hp : ∀ (j : Nat) (p : List α), parts[j]? = some p → ∃ (A : Option Addr) (c : Nat), vals[j]? = some (Value.slice A p.length c) ∧ p.length ≤ c ∧ d.C w A p.length p) :
    (Kd.slice e d).C w (some ⟨g, 0, none⟩) parts.length parts := by
  refine ⟨rfl, hm, fun hn => ⟨_, rfl, fun j p hj => ?_⟩⟩
  obtain ⟨A, c, hv, hl, hC⟩ := hp j p hj
  refine ⟨[.slice A p.length c], rfl, ⟨A, c, rfl, hl, hC⟩, fun i u hu => ?_⟩
  cases i with
  | succ i => simp at hu
  | zero =>
    have hu : Value.slice A p.length c = u := by simpa using hu
    subst hu
    rw [add_plain]
    simp [World.cell?, h, Kd.slice, hv]
theorem C_lit1 {α : Type} {d : Kd α} {e : Nat} {w : World} {g : Nat} {E : TypeId} {fz : Nat × Nat} {A : Option Addr} {n c : Nat} {x : List α} (h : w.heap[g]? = some (.cells #[.slice A n c] E fz)) (hn : n = x.length) (hl : n ≤ c) (hC : d.C w A n x) :
    (Kd.slice e d).C w (some ⟨g, 0, none⟩) ([x] : List (List α)).length [x] := by
  subst hn
  refine C_lit (vals := [Value.slice A x.length c]) (by simp) h (fun j p hj => ?_)
  match j, hj with
  | 0, hj => obtain rfl : x = p := by simpa using hj
             exact ⟨A, c, rfl, hl, hC⟩
  | j + 1, hj => simp at hj
theorem C_lit2 {α : Type} {d : Kd α} {e : Nat} {w : World} {g : Nat} {E : TypeId} {fz : Nat × Nat} {A B : Option Addr} {n c m k : Nat} {x y : List α} (h : w.heap[g]? = some (.cells #[.slice A n c, .slice B m k] E fz)) (hn : n = x.length) (hl : n ≤ c) (hC : d.C w A n x) (hm : m = y.length) (hk : m ≤ k) (hD : d.C w B m y) :
    (Kd.slice e d).C w (some ⟨g, 0, none⟩) ([x, y] : List (List α)).length [x, y] := by
  subst hn
  subst hm
  refine C_lit (vals := [Value.slice A x.length c, .slice B y.length k]) (by simp) h (fun j p hj => ?_)
  match j, hj with
  | 0, hj => obtain rfl : x = p := by simpa using hj
             exact ⟨A, c, rfl, hl, hC⟩
  | 1, hj => obtain rfl : y = p := by simpa using hj
             exact ⟨B, k, rfl, hk, hD⟩
  | j + 2, hj => simp at hj
/-- What is read of other memory is read whatever is done to one's own, as long as F is there. -/
def Ent (w0 : World) (F : HP) (p : World → Prop) : Prop := ∀ w, Hw w0 w F → p w
theorem Hw.drawn {w0 w w' : World} {P : HP} (h : Hw w0 w P) (hd : Drawn0 w w') : Hw w0 w' P := by
  obtain ⟨n, rfl⟩ := hd
  exact h.drewN n
end Go.Proofs.Ytenblkbieaadnaa
