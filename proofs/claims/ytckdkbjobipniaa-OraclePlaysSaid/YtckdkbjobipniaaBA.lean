/- Worlds by parts: what a walk owns (blocks of its own, each once), what a call turns of it and what it leaves; plain Lean over the model's heap. -/
import Derived.Test.YtckdkbjobipniaaWWords
import Derived.Lib.SlBytesConst
import Derived.Test.YtckdkbjobipniaaRows
import Derived.SizedLaws
import Derived.OpenShut
import Derived.ChangeArms
set_option linter.unusedVariables false
set_option linter.unusedSimpArgs false
namespace Go.Proofs.Ytckdkbjobipniaa
open Go.RowKit Go.Proofs.YtckdkbjobipniaaW.PrintWords

/-- Some blocks of a heap. -/
abbrev Hl := Nat → Option Obj
/-- What is said of some blocks. -/
def HP := Hl → Prop
def HP.star (P Q : HP) : HP := fun h => ∃ h1 h2 : Hl, (∀ i, h1 i = none ∨ h2 i = none) ∧ (∀ i, h i = (h1 i).or (h2 i)) ∧ P h1 ∧ Q h2
instance : Mul HP := ⟨HP.star⟩
theorem HP.ext {P Q : HP} (h : ∀ x, P x ↔ Q x) : P = Q := funext fun x => propext (h x)
theorem HP.comm (P Q : HP) : P * Q = Q * P := by
  have key : ∀ (P Q : HP) (x : Hl), (P * Q) x → (Q * P) x := by
    rintro P Q x ⟨h1, h2, hd, hj, hp, hq⟩
    refine ⟨h2, h1, fun i => (hd i).symm, fun i => ?_, hq, hp⟩
    rw [hj i]
    rcases hd i with h | h <;> rw [h] <;> simp
  exact HP.ext fun x => ⟨key P Q x, key Q P x⟩
theorem or_none {α : Type _} {a b : Option α} : a.or b = none ↔ a = none ∧ b = none := by cases a <;> simp
theorem HP.assoc (P Q R : HP) : P * Q * R = P * (Q * R) := by
  apply HP.ext
  intro x
  constructor
  · rintro ⟨h12, h3, hd, hj, ⟨h1, h2, hd', hj', hp, hq⟩, hr⟩
    refine ⟨h1, fun i => (h2 i).or (h3 i), fun i => ?_, fun i => ?_, hp, h2, h3, fun i => ?_, fun i => rfl, hq, hr⟩
    · show h1 i = none ∨ (h2 i).or (h3 i) = none
      rcases hd i with a | a
      · rw [hj' i] at a
        exact .inl (or_none.1 a).1
      · rcases hd' i with b | b
        · exact .inl b
        · exact .inr (or_none.2 ⟨b, a⟩)
    · show x i = (h1 i).or ((h2 i).or (h3 i))
      rw [hj i, hj' i]; cases h1 i <;> rfl
    · rcases hd i with a | a
      · rw [hj' i] at a
        exact .inl (or_none.1 a).2
      · exact .inr a
  · rintro ⟨h1, h23, hd, hj, hp, h2, h3, hd', hj', hq, hr⟩
    refine ⟨fun i => (h1 i).or (h2 i), h3, fun i => ?_, fun i => ?_, ⟨h1, h2, fun i => ?_, fun i => rfl, hp, hq⟩, hr⟩
    · show (h1 i).or (h2 i) = none ∨ h3 i = none
      rcases hd' i with b | b
      · rcases hd i with a | a
        · exact .inl (or_none.2 ⟨a, b⟩)
        · rw [hj' i] at a
          exact .inr (or_none.1 a).2
      · exact .inr b
    · show x i = ((h1 i).or (h2 i)).or (h3 i)
      rw [hj i, hj' i]; cases h1 i <;> rfl
    · rcases hd i with a | a
      · exact .inl a
      · rw [hj' i] at a
        exact .inr (or_none.1 a).1
instance : Std.Commutative (α := HP) (· * ·) := ⟨HP.comm⟩
instance : Std.Associative (α := HP) (· * ·) := ⟨HP.assoc⟩
/-- Nothing is owned. -/
def HP.emp : HP := fun h => ∀ i, h i = none
theorem HP.mul_emp (P : HP) : P * HP.emp = P := by
  apply HP.ext
  intro x
  constructor
  · rintro ⟨h1, h2, hd, hj, hp, hq⟩
    have : x = h1 := by
      funext i; rw [hj i, hq i]; simp
    rw [this]; exact hp
  · intro hp
    exact ⟨x, fun _ => none, fun i => .inr rfl, fun i => by simp, hp, fun i => rfl⟩
/-- One block. -/
def blk (b : Nat) (o : Obj) : HP := fun h => ∀ i, h i = if i = b then some o else none
/-- Something exists. -/
def HP.ex {α : Sort _} (P : α → HP) : HP := fun h => ∃ x, P x h
theorem HP.ex_mul {α : Sort _} (P : α → HP) (Q : HP) : HP.ex P * Q = HP.ex fun x => P x * Q := by
  apply HP.ext
  intro h
  constructor
  · rintro ⟨h1, h2, hd, hj, ⟨x, hp⟩, hq⟩
    exact ⟨x, h1, h2, hd, hj, hp, hq⟩
  · rintro ⟨x, h1, h2, hd, hj, hp, hq⟩
    exact ⟨h1, h2, hd, hj, ⟨x, hp⟩, hq⟩

/-- The world w, begun at w0: old memory is as it was; of the new blocks P is said (and perhaps there are others). -/
structure Hw (w0 w : World) (P : HP) : Prop where
  below : Below w0.heap.size w0 w
  own : ∃ h : Hl, P h ∧ ∀ i o, h i = some o → w0.heap.size ≤ i ∧ w.heap[i]? = some o

section
variable {w0 w w1 : World} {P Q F : HP}
theorem Hw.start (w0 : World) : Hw w0 w0 HP.emp := ⟨Below.refl _ _, fun _ => none, fun _ => rfl, fun i o h => by cases h⟩
theorem Hw.as (h : Hw w0 w P) (e : P = Q) : Hw w0 w Q := e ▸ h
theorem Hw.left (h : Hw w0 w (P * Q)) : Hw w0 w P := by
  obtain ⟨hb, x, ⟨h1, h2, hd, hj, hp, hq⟩, hw⟩ := h
  exact ⟨hb, h1, hp, fun i o hi => hw i o (by rw [hj i, hi]; rfl)⟩
theorem Hw.right (h : Hw w0 w (P * Q)) : Hw w0 w Q := (h.as (HP.comm P Q)).left
theorem Hw.ex {α : Sort _} {P : α → HP} : Hw w0 w (HP.ex P) ↔ ∃ x, Hw w0 w (P x) := by
  constructor
  · rintro ⟨hb, h, ⟨x, hp⟩, hw⟩
    exact ⟨x, hb, h, hp, hw⟩
  · rintro ⟨x, hb, h, hp, hw⟩
    exact ⟨hb, h, ⟨x, hp⟩, hw⟩
theorem Hw.ex_mul {α : Sort _} {P : α → HP} : Hw w0 w (HP.ex P * F) ↔ ∃ x, Hw w0 w (P x * F) := by
  rw [HP.ex_mul]; exact Hw.ex
theorem Hw.emp_mul (h : Hw w0 w F) : Hw w0 w (HP.emp * F) := h.as (by rw [HP.comm, HP.mul_emp])
theorem Hw.size (h : Hw w0 w P) : w0.heap.size ≤ w.heap.size := h.below.size
/-- What is owned stays where nothing of it is turned. -/
theorem Hw.step (h : Hw w0 w P) (os : w1.os = w.os) (tape : w1.tape = w.tape) (output : w1.output = w.output) (hs : w.heap.size ≤ w1.heap.size) (hm : ∀ i, i < w.heap.size → w1.heap[i]? = w.heap[i]?) : Hw w0 w1 P := by
  obtain ⟨hb, x, hp, hw⟩ := h
  refine ⟨hb.trans ⟨os, tape, output, hs, fun i hi => hm i (Nat.lt_of_lt_of_le hi hb.size)⟩, x, hp, fun i o hi => ?_⟩
  obtain ⟨h1, h2⟩ := hw i o hi
  exact ⟨h1, (hm i (Array.getElem?_eq_some_iff.1 h2).1).trans h2⟩
theorem Hw.from_below (h : Hw w0 w P) (hb : Below w.heap.size w w1) : Hw w0 w1 P := h.step hb.os hb.tape hb.output hb.size hb.block
theorem Hw.drew (h : Hw w0 w P) : Hw w0 w.drew P := h.step rfl rfl rfl (Nat.le_refl _) (fun _ _ => rfl)
theorem Hw.drewN (h : Hw w0 w P) (n : Nat) : Hw w0 (w.drewN n) P := h.step rfl rfl rfl (Nat.le_refl _) (fun _ _ => rfl)
theorem Hw.blk_at {b : Nat} {o : Obj} (h : Hw w0 w (blk b o * F)) : w.heap[b]? = some o ∧ w0.heap.size ≤ b := by
  obtain ⟨hb, x, ⟨h1, h2, hd, hj, hp, hq⟩, hw⟩ := h
  have := hw b o (by rw [hj b, hp b]; simp)
  exact ⟨this.2, this.1⟩
theorem Hw.lt {b : Nat} {o : Obj} (h : Hw w0 w (blk b o * F)) : b < w.heap.size := (Array.getElem?_eq_some_iff.1 h.blk_at.1).1
theorem Hw.cell {b i : Nat} {c : Array Value} {e : TypeId} {fz : Nat × Nat} {v : Value} (h : Hw w0 w (blk b (.cells c e fz) * F)) (hv : c[i]? = some v) : w.cell? ⟨b, i, none⟩ = some v := by
  simp [World.cell?, h.blk_at.1, hv]
theorem Hw.unfrozen {b : Nat} {c : Array Value} {e : TypeId} (h : Hw w0 w (blk b (.cells c e (0, 0)) * F)) (i : Nat) : w.frozen? ⟨b, i, none⟩ = false := by
  simp [World.frozen?, h.blk_at.1]
/-- One's own block is another's: a new block. -/
theorem Hw.add (h : Hw w0 w F) (b : Nat) (o : Obj) (hb : w.heap.size ≤ b) (os : w1.os = w.os) (tape : w1.tape = w.tape) (output : w1.output = w.output) (hs : w.heap.size ≤ w1.heap.size) (hm : ∀ i, i < w.heap.size → w1.heap[i]? = w.heap[i]?) (hn : w1.heap[b]? = some o) :
    Hw w0 w1 (blk b o * F) := by
  have hk := h.step (w1 := w1) os tape output hs hm
  obtain ⟨hb0, x, hp, hw⟩ := h
  refine ⟨hk.below, fun i => if i = b then some o else x i, ⟨fun i => if i = b then some o else none, x, fun i => ?_, fun i => ?_, fun i => rfl, hp⟩, fun i o' hi => ?_⟩
  · by_cases hi : i = b
    · subst hi
      right
      cases hx : x i with
      | none => rfl
      | some o' =>
        have := (Array.getElem?_eq_some_iff.1 (hw i o' hx).2).1
        omega
    · left; simp [hi]
  · by_cases hi : i = b <;> simp [hi]
  · by_cases hib : i = b
    · subst hib
      simp at hi
      subst hi
      exact ⟨Nat.le_trans hb0.size hb, hn⟩
    · simp [hib] at hi
      obtain ⟨h1, h2⟩ := hw i o' hi
      exact ⟨h1, (hm i (Array.getElem?_eq_some_iff.1 h2).1).trans h2⟩
theorem Hw.alloc (h : Hw w0 w F) (o : Obj) : Hw w0 (w.alloc o) (blk w.heap.size o * F) :=
  h.add w.heap.size o (Nat.le_refl _) rfl rfl rfl (by simp) (fun i hi => Below.heap_alloc w o i hi) (heap_alloc_new w o)
/-- One's own block is turned, all else stays. -/
theorem Hw.turn {b : Nat} {o o' : Obj} (h : Hw w0 w (blk b o * F)) (os : w1.os = w.os) (tape : w1.tape = w.tape) (output : w1.output = w.output) (hs : w.heap.size ≤ w1.heap.size) (hm : ∀ i, i < w.heap.size → i ≠ b → w1.heap[i]? = w.heap[i]?) (hn : w1.heap[b]? = some o') :
    Hw w0 w1 (blk b o' * F) := by
  have hat := h.blk_at
  obtain ⟨hb0, x, ⟨h1, h2, hd, hj, hp, hq⟩, hw⟩ := h
  refine ⟨hb0.trans ⟨os, tape, output, hs, fun i hi => hm i (Nat.lt_of_lt_of_le hi hb0.size) (by omega)⟩, fun i => if i = b then some o' else h2 i, ⟨fun i => if i = b then some o' else none, h2, fun i => ?_, fun i => ?_, fun i => rfl, hq⟩, fun i o'' hi => ?_⟩
  · by_cases hi : i = b
    · subst hi
      have := hd i
      rw [hp i] at this
      simpa using this
    · left; simp [hi]
  · by_cases hi : i = b <;> simp [hi]
  · by_cases hib : i = b
    · subst hib
      simp at hi
      subst hi
      exact ⟨hat.2, hn⟩
    · simp [hib] at hi
      have hx : x i = some o'' := by rw [hj i, hp i]; simp [hib, hi]
      obtain ⟨g1, g2⟩ := hw i o'' hx
      exact ⟨g1, (hm i (Array.getElem?_eq_some_iff.1 g2).1 hib).trans g2⟩
theorem Hw.set {b : Nat} {c : Array Value} {e : TypeId} {fz : Nat × Nat} (h : Hw w0 w (blk b (.cells c e fz) * F)) (i : Nat) (v : Value) : Hw w0 (w.setCell ⟨b, i, none⟩ v) (blk b (.cells (c.setIfInBounds i v) e fz) * F) :=
  h.turn rfl rfl rfl (by simp [World.setCell]) (fun j hj hne => Below.heap_setCell w ⟨b, i, none⟩ v j hne) (by simp [World.setCell, Array.getElem?_modify, h.blk_at.1])
end

/-! ### Rows of a kind -/
/-- A row of the walk's own. -/
def row {α : Type} (d : Kd α) (e : Nat) (v : Value) (xs : List α) : HP := fun h => ∀ W : World, (∀ i o, h i = some o → W.heap[i]? = some o) → d.R e W 0 (fun k => (h k).isSome = true) v xs
section
variable {α : Type} {d : Kd α} {e : Nat} {w0 w w1 : World} {v : Value} {xs : List α} {P Q F : HP}
theorem Hw.row_nil (h : Hw w0 w F) (d : Kd α) (e : Nat) : Hw w0 w (row d e (.slice none 0 0) [] * F) := by
  obtain ⟨hb, x, hp, hw⟩ := h
  exact ⟨hb, x, ⟨fun _ => none, x, fun i => .inl rfl, fun i => by simp, fun W _ => Kd.R_nil d e W 0 _, hp⟩, hw⟩
/-- What is said of some of the owned blocks may be turned: what is then said of them, and of the new ones, takes its place. -/
theorem Hw.split (h : Hw w0 w (P * F)) : ∃ ok : Hl, P ok ∧ (∀ i o, ok i = some o → w0.heap.size ≤ i ∧ w.heap[i]? = some o) ∧
    ∀ (Q : HP) (w1 : World), w1.os = w.os → w1.tape = w.tape → w1.output = w.output → w.heap.size ≤ w1.heap.size → (∀ i, i < w.heap.size → ok i = none → w1.heap[i]? = w.heap[i]?) →
      Q (fun i => if (ok i).isSome = true ∨ w.heap.size ≤ i then w1.heap[i]? else none) → Hw w0 w1 (Q * F) := by
  obtain ⟨hb, x, ⟨h1, h2, hd, hj, hp, hq⟩, hw⟩ := h
  have hw1 : ∀ i o, h1 i = some o → w0.heap.size ≤ i ∧ w.heap[i]? = some o := fun i o hi => hw i o (by rw [hj i, hi]; rfl)
  have hw2 : ∀ i o, h2 i = some o → w0.heap.size ≤ i ∧ w.heap[i]? = some o := fun i o hi => hw i o (by
    rw [hj i]
    rcases hd i with hh | hh
    · rw [hh, hi]; rfl
    · rw [hh] at hi; cases hi)
  have hlt : ∀ (y : Hl), (∀ i o, y i = some o → w0.heap.size ≤ i ∧ w.heap[i]? = some o) → ∀ k, (y k).isSome = true → k < w.heap.size := fun y hy k hk => by
    obtain ⟨o, ho⟩ := Option.isSome_iff_exists.1 hk
    exact (Array.getElem?_eq_some_iff.1 (hy k o ho).2).1
  refine ⟨h1, hp, hw1, fun Q w1 os tape output hsz hkeep hQ => ?_⟩
  have hge1 : ∀ k, (h1 k).isSome = true → w0.heap.size ≤ k := fun k hk => by
    obtain ⟨o, ho⟩ := Option.isSome_iff_exists.1 hk
    exact (hw1 k o ho).1
  have hB := hb.size
  have hno : ∀ i, ((h1 i).isSome = true ∨ w.heap.size ≤ i) → h2 i = none := fun i hi => by
    cases hx : h2 i with
    | none => rfl
    | some o =>
      have hl := hlt h2 hw2 i (by rw [hx]; rfl)
      rcases hi with hi | hi
      · rcases hd i with hh | hh
        · rw [hh] at hi; cases hi
        · rw [hh] at hx; cases hx
      · omega
  refine ⟨hb.trans ⟨os, tape, output, hsz, fun i hi => hkeep i (by omega) ?_⟩, fun i => if (h1 i).isSome = true ∨ w.heap.size ≤ i then w1.heap[i]? else h2 i,
    ⟨fun i => if (h1 i).isSome = true ∨ w.heap.size ≤ i then w1.heap[i]? else none, h2, fun i => ?_, fun i => ?_, hQ, hq⟩, fun i o hi => ?_⟩
  · cases hx : h1 i with
    | none => rfl
    | some o => have := (hw1 i o hx).1; omega
  · by_cases hi : (h1 i).isSome = true ∨ w.heap.size ≤ i
    · exact .inr (hno i hi)
    · left; simp only [hi, if_false]
  · by_cases hi : (h1 i).isSome = true ∨ w.heap.size ≤ i
    · simp only [hi, if_true, hno i hi]; simp
    · simp only [hi, if_false]; simp
  · by_cases hi' : (h1 i).isSome = true ∨ w.heap.size ≤ i
    · simp only [hi', if_true] at hi
      refine ⟨?_, hi⟩
      rcases hi' with hi' | hi'
      · exact hge1 i hi'
      · omega
    · simp only [hi', if_false] at hi
      obtain ⟨g1, g2⟩ := hw2 i o hi
      have hl := (Array.getElem?_eq_some_iff.1 g2).1
      refine ⟨g1, (hkeep i hl ?_).trans g2⟩
      cases hx : h1 i with
      | none => rfl
      | some o => exact absurd (.inl (by rw [hx]; rfl)) hi'
theorem row_of_R {ok : Nat → Prop} [DecidablePred ok] (hr : d.R e w1 0 ok v xs) : row d e v xs (fun i => if ok i then w1.heap[i]? else none) := by
  intro W hW
  have hR := Kd.R_move (w1 := W) (Kd.R_bound hr) (fun k hk => by
    obtain ⟨h3, h4, h5, _⟩ := hk
    have e1 : w1.heap[k]? = some w1.heap[k] := Array.getElem?_eq_getElem h5
    rw [e1]
    exact hW k _ (by simp only [h3, if_true]; exact e1))
  exact Kd.R_mono hR (fun k hk => by
    obtain ⟨h3, h4, h5, _⟩ := hk
    have e1 : w1.heap[k]? = some w1.heap[k] := Array.getElem?_eq_getElem h5
    simp only [h3, if_true, e1]; rfl)
theorem Hw.row_R (h : Hw w0 w (row d e v xs * F)) : ∃ ok : Nat → Prop, d.R e w 0 ok v xs := by
  obtain ⟨hb, x, ⟨h1, h2, hd, hj, hp, hq⟩, hw⟩ := h
  exact ⟨_, hp w (fun i o hi => (hw i o (by rw [hj i, hi]; rfl)).2)⟩
theorem Hw.row_reads (h : Hw w0 w (row d e v xs * F)) : ∃ A c, v = .slice A xs.length c ∧ xs.length ≤ c ∧ d.C w A xs.length xs := by
  obtain ⟨ok, hr⟩ := h.row_R
  exact Kd.R_reads hr
theorem Hw.row_slice (h : Hw w0 w (row d e v xs * F)) : ∃ A c, v = .slice A xs.length c := by
  obtain ⟨A, c, hv, _⟩ := h.row_reads
  exact ⟨A, c, hv⟩
/-- A row is opened: whatever is a row then, but for whose blocks nothing has turned, takes its place. -/
theorem Hw.row_open (h : Hw w0 w (row d e v xs * F)) : ∃ ok : Nat → Prop, d.R e w 0 ok v xs ∧ (∀ k, w.heap.size ≤ k → ok k) ∧
    ∀ {β : Type} (d' : Kd β) (e' : Nat) (v' : Value) (ys : List β) (w1 : World), w.grownBy w1 v.ownBlock → d'.R e' w1 0 ok v' ys → Hw w0 w1 (row d' e' v' ys * F) := by
  obtain ⟨ok, hp, hw, hK⟩ := h.split
  have hR := hp w (fun i o hi => (hw i o hi).2)
  refine ⟨fun k => (ok k).isSome = true ∨ w.heap.size ≤ k, Kd.R_mono hR (fun k hk => .inl hk), fun k hk => .inr hk, fun d' e' v' ys w1 hg hr => ?_⟩
  refine hK _ w1 hg.os hg.tape hg.output hg.size (fun i hi hn => hg.block i hi (fun e => ?_)) (row_of_R hr)
  have h1 : (ok i).isSome = true := hR.1 i e.symm
  rw [hn] at h1
  cases h1
/-- A cut of a row is a row. -/
theorem Hw.row_take {A : Option Addr} {n c m : Nat} (h : Hw w0 w (row d e (.slice A n c) xs * F)) (hm : m ≤ xs.length) : Hw w0 w (row d e (.slice A m c) (xs.take m) * F) := by
  obtain ⟨ok, hR, hf, hK⟩ := h.row_open
  exact hK d e _ _ w (World.grownBy.refl w _) (Kd.R_take hR hm)
/-- A new block of scalars is a row. -/
theorem Hw.row_of_blk {enc : α → Value} {h1 : ∀ x, (enc x).oneCell' = true} {g n : Nat} (hn : n = xs.length) (hm : n ≤ 9223372036854775807) (h : Hw w0 w (blk g (.cells (xs.map enc).toArray e (0, 0)) * F)) : Hw w0 w (row (Kd.scalar enc h1) e (.slice (some ⟨g, 0, none⟩) n n) xs * F) := by
  obtain ⟨ok, hp, hw, hK⟩ := h.split
  subst hn
  refine hK _ w rfl rfl rfl (Nat.le_refl _) (fun _ _ _ => rfl) (row_of_R (Kd.R_of_own ?_ (fun k hk => ?_)))
  · refine ⟨by simp [encs], .inr ⟨g, xs.length, (xs.map enc).toArray, rfl, Nat.zero_le _, (h.blk_at).1, Nat.le_refl _, by simpa [maxLen] using hm, by simp, ?_⟩⟩
    simp [encs, List.take_of_length_le]
  · have : g = k := by simpa [Value.ownBlock] using hk
    subst this
    left
    rw [hp g]; simp
end

/-! ### Laws of operations, over what is owned -/
section
variable {P : Program} {ops : Array Oper} {rest : List Oper} {o : Oper} {a : Act} {Q : Exit → Act → World → Prop} {w0 W : World} {F : HP}
/-- append(v, ys...), both of scalars. -/
theorem Hw.append_row {α : Type} (enc : α → Value) (d : α) {h1 : ∀ x : α, (enc x).oneCell' = true} (hgd : o.guard = none) (s x : Operand) (t e : TypeId) (z : Value) (bytes : Nat)
    (ho : o.op = .call { callee := .builtin .append, args := #[s, x], argTypes := #[t, t] })
    (ht : P.underlying t = some (.slice e)) (hinfo : (P.info? e).map (fun i => (i.zero, i.size, i.bytes)) = some (some z, 1, bytes)) (hz : z.cells.size = 1) (hb0 : 0 < bytes)
    (v : Value) (xs ys : List α) (A : Option Addr) (m c : Nat) (hs : a.eval s = v) (hx : a.eval x = .slice A m c)
    (h : Hw w0 W (row (Kd.scalar enc h1) e v xs * F)) (HR : (Kd.scalar enc h1).C W A m ys) (hl : (xs.length + m) * bytes ≤ 140737488355328)
    (K : ∀ A1 n1 c1 w1, Aside0 (n1 = (xs ++ ys).length) → Hw w0 w1 (row (Kd.scalar enc h1) e (.slice A1 n1 c1) (xs ++ ys) * F) → wpList P ops Q rest (a.put o.dst (.slice A1 n1 c1)) w1) : wpList P ops Q (o :: rest) a W := by
  obtain ⟨ok, hR, hf, hK⟩ := h.row_open
  refine Kd.R_append_row (w0 := W) enc d 0 hgd s x t e z bytes ho ht hinfo hz hb0 v xs ys A m c ok hs hx hf hR HR (Below.refl _ _) (Nat.zero_le _) hl (fun v1 w1 hr _ hg _ => ?_)
  have h2 := hK _ _ _ _ _ hg hr
  obtain ⟨A1, c1, rfl⟩ := h2.row_slice
  exact K A1 _ c1 w1 ⟨rfl⟩ h2
end
/-- An element of a row of rows that is read. -/
theorem C_row_at {α : Type} {d : Kd α} {e : Nat} {w : World} {A : Option Addr} {n : Nat} {xs : List (List α)} (h : (Kd.slice e d).C w A n xs) (i : Nat) (hi : i < n) :
    ∃ ad A' c' x, A = some ad ∧ w.cell? (ad.add i) = some (.slice A' x.length c') ∧ x.length ≤ c' ∧ Aside0 (xs[i]? = some x) ∧ Aside0 (d.C w A' x.length x) := by
  obtain ⟨ad, e, hc⟩ := h.2.2 (by omega)
  have hl : i < xs.length := by have := h.1; omega
  obtain ⟨c, hs, ⟨A', c', rfl, hl', hC⟩, hcell⟩ := hc i _ (List.getElem?_eq_getElem hl)
  refine ⟨ad, A', c', xs[i], e, ?_, hl', ⟨List.getElem?_eq_getElem hl⟩, ⟨hC⟩⟩
  have := hcell 0 _ rfl
  simpa [Kd.slice] using this
/-! ### Literals -/
theorem C_blk {α : Type} {enc : α → Value} {h1 : ∀ x, (enc x).oneCell' = true} {w : World} {g : Nat} {E : TypeId} {fz : Nat × Nat} {xs : List α} (hm : xs.length ≤ 9223372036854775807) (h : w.heap[g]? = some (.cells (xs.map enc).toArray E fz)) :
    (Kd.scalar enc h1).C w (some ⟨g, 0, none⟩) xs.length xs := by
  refine ⟨rfl, hm, fun hn => ⟨_, rfl, fun j p hj => ⟨[enc p], rfl, rfl, fun i u hu => ?_⟩⟩⟩
  cases i with
  | succ i => simp at hu
  | zero =>
    have hu : enc p = u := by simpa using hu
    subst hu
    rw [add_plain]
    simp [World.cell?, h, Kd.scalar, hj]
theorem C_lit {α : Type} {d : Kd α} {e : Nat} {w : World} {g : Nat} {E : TypeId} {fz : Nat × Nat} {vals : List Value} {parts : List (List α)} (hm : parts.length ≤ 9223372036854775807) (h : w.heap[g]? = some (.cells vals.toArray E fz))
    (hp : ∀ (j : Nat) (p : List α), parts[j]? = some p → ∃ (A : Option Addr) (c : Nat), vals[j]? = some (Value.slice A p.length c) ∧ p.length ≤ c ∧ d.C w A p.length p) :
    (Kd.slice e d).C w (some ⟨g, 0, none⟩) parts.length parts := by
  refine ⟨rfl, hm, fun hn => ⟨_, rfl, fun j p hj => ?_⟩⟩
  obtain ⟨A, c, hv, hl, hC⟩ := hp j p hj
  refine ⟨[.slice A p.length c], rfl, ⟨A, c, rfl, hl, hC⟩, fun i u hu => ?_⟩
  cases i with
  | succ i => simp at hu
  | zero =>
    have hu : Value.slice A p.length c = u := by simpa using hu
    subst hu
    rw [add_plain]
    simp [World.cell?, h, Kd.slice, hv]
theorem C_lit1 {α : Type} {d : Kd α} {e : Nat} {w : World} {g : Nat} {E : TypeId} {fz : Nat × Nat} {A : Option Addr} {n c : Nat} {x : List α} (h : w.heap[g]? = some (.cells #[.slice A n c] E fz)) (hn : n = x.length) (hl : n ≤ c) (hC : d.C w A n x) :
    (Kd.slice e d).C w (some ⟨g, 0, none⟩) ([x] : List (List α)).length [x] := by
  subst hn
  refine C_lit (vals := [Value.slice A x.length c]) (by simp) h (fun j p hj => ?_)
  match j, hj with
  | 0, hj => obtain rfl : x = p := by simpa using hj
             exact ⟨A, c, rfl, hl, hC⟩
  | j + 1, hj => simp at hj
theorem C_lit2 {α : Type} {d : Kd α} {e : Nat} {w : World} {g : Nat} {E : TypeId} {fz : Nat × Nat} {A B : Option Addr} {n c m k : Nat} {x y : List α} (h : w.heap[g]? = some (.cells #[.slice A n c, .slice B m k] E fz)) (hn : n = x.length) (hl : n ≤ c) (hC : d.C w A n x) (hm : m = y.length) (hk : m ≤ k) (hD : d.C w B m y) :
    (Kd.slice e d).C w (some ⟨g, 0, none⟩) ([x, y] : List (List α)).length [x, y] := by
  subst hn
  subst hm
  refine C_lit (vals := [Value.slice A x.length c, .slice B y.length k]) (by simp) h (fun j p hj => ?_)
  match j, hj with
  | 0, hj => obtain rfl : x = p := by simpa using hj
             exact ⟨A, c, rfl, hl, hC⟩
  | 1, hj => obtain rfl : y = p := by simpa using hj
             exact ⟨B, k, rfl, hk, hD⟩
  | j + 2, hj => simp at hj
/-- What is read of other memory is read whatever is done to one's own, as long as F is there. -/
def Ent (w0 : World) (F : HP) (p : World → Prop) : Prop := ∀ w, Hw w0 w F → p w
theorem Hw.drawn {w0 w w' : World} {P : HP} (h : Hw w0 w P) (hd : Drawn0 w w') : Hw w0 w' P := by
  obtain ⟨n, rfl⟩ := hd
  exact h.drewN n
end Go.Proofs.Ytckdkbjobipniaa

/- Worlds by parts, more: conversions, made rows. -/
set_option linter.unusedVariables false
set_option linter.unusedSimpArgs false
namespace Go.Proofs.Ytckdkbjobipniaa
open Go.RowKit Go.Proofs.YtckdkbjobipniaaW.PrintWords
theorem madeCells_int (k : IntKind) (m : Nat) : madeCells #[Value.int k 0] m = ((List.replicate m (0 : Int)).map (Value.int k)).toArray := by
  apply Array.ext'
  apply List.ext_getElem
  · simp [madeCells]
  · intro i h1 h2
    simp [madeCells, Nat.mod_one]
/-- A row of bytes as a string. -/
theorem Hw.row_string {P : Program} {w0 w : World} {F : HP} {src dst e e' : TypeId} {A : Option Addr} {n c : Nat} {xs : List Int} (h : Hw w0 w (row (Kd.int .u8) e' (.slice A n c) xs * F))
    (hs : P.underlying src = some (.slice e)) (he : P.underlying e = some (.int .u8)) (hd : P.underlying dst = some .string) : (convert src dst (.slice A n c)).run P w = .ok (.string (strOfNums xs)) w := by
  obtain ⟨A', c', e1, _, hC⟩ := h.row_reads
  injection e1 with e1 e2 e3
  subst e1
  subst e2
  exact Kd.C_string hs he hd hC
theorem mx2_int (k k' : IntKind) (x y : Int) : Builtin.max2 (.int k x) (.int k' y) = pure (.int k (if x < y then y else x)) := by simp only [Builtin.max2, gt_iff_lt]
theorem mn2_int (k k' : IntKind) (x y : Int) : Builtin.min2 (.int k x) (.int k' y) = pure (.int k (if y < x then y else x)) := by simp only [Builtin.min2]
theorem mx_two (ats : Array TypeId) (ty : TypeId) (a b : Value) : Builtin.max_ ats ty #[a, b] = (Builtin.max2 a b >>= fun s => pure s) := by simp only [Builtin.max_, List.foldlM_cons, List.foldlM_nil]
theorem mn_two (ats : Array TypeId) (ty : TypeId) (a b : Value) : Builtin.min_ ats ty #[a, b] = (Builtin.min2 a b >>= fun s => pure s) := by simp only [Builtin.min_, List.foldlM_cons, List.foldlM_nil]
end Go.Proofs.Ytckdkbjobipniaa

/- Rows of rows whose rows are each one's own; a store into a row. -/
set_option linter.unusedVariables false
set_option linter.unusedSimpArgs false
namespace Go.Proofs.Ytckdkbjobipniaa
open Go.RowKit Go.Proofs.YtckdkbjobipniaaW.PrintWords

/-- A slice's head. -/
abbrev Hdr := Option Addr × Nat × Nat
def hdrEnc (s : Hdr) : Value := .slice s.1 s.2.1 s.2.2
abbrev KHdr : Kd Hdr := Kd.scalar hdrEnc (fun _ => rfl)
/-- What is never so. -/
def HP.no : HP := fun _ => False
def rowsHP {α : Type} (d : Kd α) (e : Nat) : List Hdr → List (List α) → HP
  | [], [] => HP.emp
  | s :: ss, x :: xs => row d e (hdrEnc s) x * rowsHP d e ss xs
  | _, _ => HP.no
section
variable {α : Type} {d : Kd α} {e : Nat}
theorem HP.false_mul (P : HP) : HP.no * P = HP.no := by
  apply HP.ext
  intro x
  constructor
  · rintro ⟨_, _, _, _, h, _⟩; exact h
  · exact fun h => False.elim h
theorem rows_snoc : ∀ (ss : List Hdr) (xs : List (List α)) (s : Hdr) (x : List α), ss.length = xs.length → rowsHP d e (ss ++ [s]) (xs ++ [x]) = rowsHP d e ss xs * row d e (hdrEnc s) x
  | [], [], s, x, _ => by
    show row d e (hdrEnc s) x * HP.emp = HP.emp * row d e (hdrEnc s) x
    exact HP.comm _ _
  | s' :: ss, x' :: xs, s, x, h => by
    show row d e (hdrEnc s') x' * rowsHP d e (ss ++ [s]) (xs ++ [x]) = row d e (hdrEnc s') x' * rowsHP d e ss xs * row d e (hdrEnc s) x
    rw [rows_snoc ss xs s x (by simpa using h), HP.assoc]
  | [], _ :: _, _, _, h => by simp at h
  | _ :: _, [], _, _, h => by simp at h
/-- One row is taken out, and may be turned. -/
theorem rows_focus : ∀ (ss : List Hdr) (xs : List (List α)) (i : Nat) (s : Hdr) (x : List α), ss[i]? = some s → xs[i]? = some x → ∃ R : HP, rowsHP d e ss xs = row d e (hdrEnc s) x * R ∧ ∀ y, rowsHP d e ss (xs.set i y) = row d e (hdrEnc s) y * R
  | [], _, i, s, x, h, _ => by simp at h
  | _ :: _, [], i, s, x, _, h => by simp at h
  | s' :: ss, x' :: xs, 0, s, x, hs, hx => by
    obtain rfl : s' = s := by simpa using hs
    obtain rfl : x' = x := by simpa using hx
    exact ⟨rowsHP d e ss xs, rfl, fun y => rfl⟩
  | s' :: ss, x' :: xs, i + 1, s, x, hs, hx => by
    obtain ⟨R, h1, h2⟩ := rows_focus ss xs i s x (by simpa using hs) (by simpa using hx)
    refine ⟨row d e (hdrEnc s') x' * R, ?_, fun y => ?_⟩
    · show row d e (hdrEnc s') x' * rowsHP d e ss xs = _
      rw [h1]; ac_rfl
    · show row d e (hdrEnc s') x' * rowsHP d e ss (xs.set i y) = _
      rw [h2 y]; ac_rfl
variable {w0 w : World} {F : HP}
theorem Hw.not_false (h : Hw w0 w (HP.no * F)) : False := by
  rw [HP.false_mul] at h
  obtain ⟨_, _, h, _⟩ := h
  exact h
theorem rows_len : ∀ (ss : List Hdr) (xs : List (List α)) {F : HP}, Hw w0 w (rowsHP d e ss xs * F) → ss.length = xs.length
  | [], [], _, _ => rfl
  | s :: ss, x :: xs, F, h => by
    have := rows_len ss xs (h.as (Q := rowsHP d e ss xs * (row d e (hdrEnc s) x * F)) (by show row d e (hdrEnc s) x * rowsHP d e ss xs * F = _; ac_rfl))
    simp [this]
  | [], _ :: _, _, h => (Hw.not_false h).elim
  | _ :: _, [], _, h => (Hw.not_false h).elim
theorem rows_C {e2 : Nat} {v : Value} {ss : List Hdr} {xs : List (List α)} (h : Hw w0 w (row KHdr e2 v ss * (rowsHP d e ss xs * F))) :
    ∃ A c, v = .slice A xs.length c ∧ xs.length ≤ c ∧ (Kd.slice e d).C w A xs.length xs := by
  have hl := rows_len ss xs (h.as (Q := rowsHP d e ss xs * (row KHdr e2 v ss * F)) (by ac_rfl))
  obtain ⟨A, c, rfl, hc, hC⟩ := h.row_reads
  rw [hl] at hc hC ⊢
  refine ⟨A, c, rfl, hc, rfl, hC.2.1, fun hn => ?_⟩
  obtain ⟨ad, e1, hcell⟩ := hC.2.2 hn
  refine ⟨ad, e1, fun j p hj => ?_⟩
  have hjl := (List.getElem?_eq_some_iff.1 hj).1
  obtain ⟨s, hs⟩ : ∃ s, ss[j]? = some s := ⟨_, List.getElem?_eq_getElem (by omega)⟩
  obtain ⟨cc, hcl, hK, hcc⟩ := hcell j _ hs
  have hK : cc = [hdrEnc s] := hK
  subst hK
  obtain ⟨R, hR, _⟩ := rows_focus (d := d) (e := e) ss xs j _ p hs hj
  have h2 := (h.as (Q := row d e (hdrEnc s) p * (R * (row KHdr e2 (.slice A ss.length c) ss * F))) (by rw [hR]; ac_rfl)).row_reads
  obtain ⟨A', c', e2, hl', hC'⟩ := h2
  refine ⟨[hdrEnc s], rfl, ⟨A', c', by rw [e2], hl', hC'⟩, ?_⟩
  intro i u hu
  exact hcc i u hu
end

/-- A store into a row of scalars. -/
theorem Hw.row_put {α : Type} {enc : α → Value} {h1 : ∀ x, (enc x).oneCell' = true} {w0 w : World} {F : HP} {e g c : Nat} {xs : List α} (h : Hw w0 w (row (Kd.scalar enc h1) e (.slice (some ⟨g, 0, none⟩) xs.length c) xs * F)) (i : Nat) (x : α) :
    Hw w0 (w.setCell ⟨g, i, none⟩ (enc x)) (row (Kd.scalar enc h1) e (.slice (some ⟨g, 0, none⟩) xs.length c) (xs.set i x) * F) := by
  obtain ⟨ok, hR, hf, hK⟩ := h.row_open
  obtain ⟨h2, h3⟩ := Kd.R_put hR (i : Int) x
  simp only [Int.toNat_natCast] at h2 h3
  exact hK _ _ _ _ _ (by simpa [Value.ownBlock] using h3) h2
theorem Hw.row_cell {α : Type} {enc : α → Value} {h1 : ∀ x, (enc x).oneCell' = true} {w0 w : World} {F : HP} {e g c : Nat} {xs : List α} (h : Hw w0 w (row (Kd.scalar enc h1) e (.slice (some ⟨g, 0, none⟩) xs.length c) xs * F)) (i : Nat) (x : α) (hx : xs[i]? = some x) :
    w.cell? ⟨g, i, none⟩ = some (enc x) ∧ w.frozen? ⟨g, i, none⟩ = false := by
  obtain ⟨ok, hR⟩ := h.row_R
  have hl := (List.getElem?_eq_some_iff.1 hx).1
  have := Kd.R_cell x hR (i : Int) (by omega) (by omega)
  simp only [Int.toNat_natCast] at this
  obtain ⟨h2, h3⟩ := this
  refine ⟨?_, h3⟩
  rw [h2]
  simp [rdOf, List.getD_eq_getElem?_getD, hx]
theorem Hw.row_form {α : Type} {d : Kd α} {w0 w : World} {F : HP} {e : Nat} {v : Value} {xs : List α} (h : Hw w0 w (row d e v xs * F)) (hp : 0 < xs.length) : ∃ g c, v = .slice (some ⟨g, 0, none⟩) xs.length c := by
  obtain ⟨ok, hR⟩ := h.row_R
  obtain ⟨g, c, hv, _⟩ := Kd.R_form hR hp
  exact ⟨g, c, hv⟩
/-- A number of a row of numbers, read and written. -/
theorem row_at {α : Type} {enc : α → Value} {h1 : ∀ x, (enc x).oneCell' = true} {w0 w : World} {F : HP} {e c m : Nat} {A : Option Addr} {xs : List α} (h : Hw w0 w (row (Kd.scalar enc h1) e (.slice A m c) xs * F)) (k : Nat) (x : α) (hx : xs[k]? = some x) :
    ∃ ad, A = some ad ∧ w.cell? (ad.add k) = some (enc x) ∧ w.frozen? (ad.add k) = false ∧ Aside0 (∀ y, Hw w0 (w.setCell (ad.add k) (enc y)) (row (Kd.scalar enc h1) e (.slice A m c) (xs.set k y) * F)) := by
  have hk := (List.getElem?_eq_some_iff.1 hx).1
  obtain ⟨g, c', e1⟩ := h.row_form (by omega)
  injection e1 with e1 e2' e3
  subst e1 e2' e3
  obtain ⟨hc, hf⟩ := Hw.row_cell h k x hx
  refine ⟨⟨g, 0, none⟩, rfl, ?_, ?_, ⟨fun y => ?_⟩⟩
  · rw [add_plain]; exact hc
  · rw [add_plain]; exact hf
  · rw [add_plain]; exact h.row_put k y
/-- An element of a row of scalars that is read. -/
theorem C_scalar_at {α : Type} {enc : α → Value} {h1 : ∀ x, (enc x).oneCell' = true} {w : World} {A : Option Addr} {n : Nat} {xs : List α} (h : (Kd.scalar enc h1).C w A n xs) (i : Nat) (hi : i < n) :
    ∃ ad x, A = some ad ∧ w.cell? (ad.add i) = some (enc x) ∧ Aside0 (xs[i]? = some x) := by
  obtain ⟨ad, e, hc⟩ := h.2.2 (by omega)
  have hl : i < xs.length := by have := h.1; omega
  obtain ⟨c, hs, hK, hcell⟩ := hc i _ (List.getElem?_eq_getElem hl)
  have hK : c = [enc xs[i]] := hK
  subst hK
  refine ⟨ad, xs[i], e, ?_, ⟨List.getElem?_eq_getElem hl⟩⟩
  have := hcell 0 _ rfl
  simpa [Kd.scalar] using this
end Go.Proofs.Ytckdkbjobipniaa

/- What is owned, by its name: a part is found in the whole wherever it stands. -/
set_option linter.unusedVariables false
set_option linter.unusedSimpArgs false
namespace Go.Proofs.Ytckdkbjobipniaa
open Go.RowKit Go.Proofs.YtckdkbjobipniaaW.PrintWords

theorem HP.left_comm (P Q R : HP) : P * (Q * R) = Q * (P * R) := by ac_rfl
/-- Q is P, and R beside it. -/
class Has (P Q : HP) (R : outParam HP) : Prop where
  eq : Q = P * R
instance (priority := low) Has.left {P Q Q' R : HP} [h : Has P Q Q'] : Has P (Q * R) (Q' * R) := ⟨by rw [h.eq, HP.assoc]⟩
instance Has.there {P Q R R' : HP} [h : Has P R R'] : Has P (Q * R) (Q * R') := ⟨by rw [h.eq, HP.left_comm]⟩
instance Has.self {P : HP} : Has P P HP.emp := ⟨(HP.mul_emp P).symm⟩
instance Has.here {P R : HP} : Has P (P * R) R := ⟨rfl⟩
/-- Q is block b, and R beside it. -/
class HasBlk (b : Nat) (Q : HP) (o : outParam Obj) (R : outParam HP) : Prop where
  eq : Q = blk b o * R
instance (priority := low) HasBlk.left {b : Nat} {Q Q' R : HP} {o : Obj} [h : HasBlk b Q o Q'] : HasBlk b (Q * R) o (Q' * R) := ⟨by rw [h.eq, HP.assoc]⟩
instance HasBlk.there {b : Nat} {Q R R' : HP} {o : Obj} [h : HasBlk b R o R'] : HasBlk b (Q * R) o (Q * R') := ⟨by rw [h.eq, HP.left_comm]⟩
instance HasBlk.self {b : Nat} {o : Obj} : HasBlk b (blk b o) o HP.emp := ⟨(HP.mul_emp _).symm⟩
instance HasBlk.here {b : Nat} {o : Obj} {R : HP} : HasBlk b (blk b o * R) o R := ⟨rfl⟩
/-- Q is a row with the head v, and R beside it. -/
class HasRow {α : Type} (d : Kd α) (e : Nat) (v : Value) (Q : HP) (xs : outParam (List α)) (R : outParam HP) : Prop where
  eq : Q = row d e v xs * R
instance (priority := low) HasRow.left {α : Type} {d : Kd α} {e : Nat} {v : Value} {xs : List α} {Q Q' R : HP} [h : HasRow d e v Q xs Q'] : HasRow d e v (Q * R) xs (Q' * R) := ⟨by rw [h.eq, HP.assoc]⟩
instance HasRow.there {α : Type} {d : Kd α} {e : Nat} {v : Value} {xs : List α} {Q R R' : HP} [h : HasRow d e v R xs R'] : HasRow d e v (Q * R) xs (Q * R') := ⟨by rw [h.eq, HP.left_comm]⟩
instance HasRow.self {α : Type} {d : Kd α} {e : Nat} {v : Value} {xs : List α} : HasRow d e v (row d e v xs) xs HP.emp := ⟨(HP.mul_emp _).symm⟩
instance HasRow.here {α : Type} {d : Kd α} {e : Nat} {v : Value} {xs : List α} {R : HP} : HasRow d e v (row d e v xs * R) xs R := ⟨rfl⟩

/-- The cell i of a block. -/
def cellOf (o : Obj) (i : Nat) : Option Value := match o with
  | .cells c _ _ => c[i]?
  | _ => none
section
variable {w0 w : World} {Q R : HP}
theorem Hw.at (h : Hw w0 w Q) (P : HP) {R : HP} [i : Has P Q R] : Hw w0 w (P * R) := h.as i.eq
theorem Hw.drop (h : Hw w0 w Q) (P : HP) {R : HP} [i : Has P Q R] : Hw w0 w R := (h.as i.eq).right
theorem Hw.only (h : Hw w0 w Q) (P : HP) {R : HP} [i : Has P Q R] : Hw w0 w P := (h.as i.eq).left
theorem Hw.atB (h : Hw w0 w Q) (b : Nat) {o : Obj} {R : HP} [i : HasBlk b Q o R] : Hw w0 w (blk b o * R) := h.as i.eq
theorem Hw.dropB (h : Hw w0 w Q) (b : Nat) {o : Obj} {R : HP} [i : HasBlk b Q o R] : Hw w0 w R := (h.as i.eq).right
theorem Hw.atR {α : Type} (h : Hw w0 w Q) (d : Kd α) (e : Nat) (v : Value) {xs : List α} {R : HP} [i : HasRow d e v Q xs R] : Hw w0 w (row d e v xs * R) := h.as i.eq
theorem Hw.dropR {α : Type} (h : Hw w0 w Q) (d : Kd α) (e : Nat) (v : Value) {xs : List α} {R : HP} [i : HasRow d e v Q xs R] : Hw w0 w R := (h.as i.eq).right
theorem Hw.cellAt (h : Hw w0 w Q) (b i : Nat) {o : Obj} {R : HP} [hb : HasBlk b Q o R] {v : Value} (hv : cellOf o i = some v) : w.cell? ⟨b, i, none⟩ = some v := by
  have h1 := (h.as hb.eq).blk_at.1
  cases o <;> simp [cellOf] at hv
  simp [World.cell?, h1, hv]
theorem Hw.freeAt (h : Hw w0 w Q) (b : Nat) {c : Array Value} {e : TypeId} {R : HP} [hb : HasBlk b Q (.cells c e (0, 0)) R] : ∀ i, w.frozen? ⟨b, i, none⟩ = false := fun i => (h.as hb.eq).unfrozen i
theorem Hw.setAt (h : Hw w0 w Q) (b i : Nat) (v : Value) {c : Array Value} {e : TypeId} {fz : Nat × Nat} {R : HP} [hb : HasBlk b Q (.cells c e fz) R] : Hw w0 (w.setCell ⟨b, i, none⟩ v) (blk b (.cells (c.setIfInBounds i v) e fz) * R) := (h.as hb.eq).set i v
theorem Hw.ltB (h : Hw w0 w Q) (b : Nat) {o : Obj} {R : HP} [hb : HasBlk b Q o R] : b < w.heap.size := (h.as hb.eq).lt
theorem Hw.readsR {α : Type} (h : Hw w0 w Q) (d : Kd α) (e : Nat) (v : Value) {xs : List α} {R : HP} [i : HasRow d e v Q xs R] : ∃ A c, v = .slice A xs.length c ∧ xs.length ≤ c ∧ d.C w A xs.length xs := (h.as i.eq).row_reads
end
theorem Ent.of_row {α : Type} {d : Kd α} {e : Nat} {w0 : World} {F R : HP} {A : Option Addr} {n c : Nat} {xs : List α} [i : HasRow d e (.slice A n c) F xs R] : Ent w0 F (fun w => d.C w A n xs) := fun w hw => by
  obtain ⟨A', c', e1, _, hC⟩ := hw.readsR d e (.slice A n c)
  injection e1 with e1 e2 e3
  subst e1
  rw [e2]
  exact hC
theorem Ent.use {w0 w : World} {F : HP} {p : World → Prop} (h : Ent w0 F p) (hw : Hw w0 w F) : p w := h w hw
theorem C_len {α : Type} {d : Kd α} {w : World} {A : Option Addr} {n : Nat} {xs : List α} (h : d.C w A n xs) : n = xs.length := h.1.symm
theorem Ent.mul {w0 : World} {P F : HP} {p : World → Prop} (h : Ent w0 F p) : Ent w0 (P * F) p := fun w hw => h w hw.right
theorem Hw.row_C {α : Type} {d : Kd α} {e : Nat} {w0 w : World} {F : HP} {A : Option Addr} {n c : Nat} {xs : List α} (h : Hw w0 w (row d e (.slice A n c) xs * F)) : n = xs.length ∧ n ≤ c ∧ d.C w A n xs := by
  obtain ⟨A', c', e1, h2, h3⟩ := h.row_reads
  injection e1 with e1 e2 e3
  subst e1
  subst e3
  rw [e2]
  exact ⟨rfl, h2, h3⟩
/-! ### Slices that are cut -/
section
variable {α : Type} {P : Program}
theorem sl_take (d : Kd α) (t e : TypeId) {i : TypeInfo} (ht : P.underlying t = some (.slice e)) (hi : P.info? e = some i) (A : Option Addr) (n c : Nat) (j : Int) (m : Nat) (hm : j = m) (hj : m ≤ n) (hc : n ≤ c) :
    (∀ W : World, (Instr.slice t (.slice A n c) none (some (.int .i64 j)) none).run P W = .ok (.slice A m c) W) ∧ ∀ (w : World) (xs : List α), d.C w A n xs → d.C w A m (xs.take m) := by
  subst hm
  refine ⟨fun W => ?_, fun w xs h => ?_⟩
  · have := cut_to (P := P) t e .i64 ht hi A n c (m : Int) (by omega) (by omega) hc W
    simpa using this
  · have hl : xs.length = n := h.1
    subst hl
    have := Kd.C_take h hj
    rwa [show (xs.take m).length = m by rw [List.length_take]; omega] at this
theorem sl_drop (d : Kd α) (t e : TypeId) {i : TypeInfo} (ht : P.underlying t = some (.slice e)) (hi : P.info? e = some i) (hs : i.size = d.sz) (A : Option Addr) (n c : Nat) (j : Int) (m : Nat) (hm : j = m) (hj : m ≤ n) (hc : n ≤ c) :
    ∃ A', (∀ W : World, (Instr.slice t (.slice A n c) (some (.int .i64 j)) none none).run P W = .ok (.slice A' (n - m) (c - m)) W) ∧ ∀ (w : World) (xs : List α), d.C w A n xs → d.C w A' (n - m) (xs.drop m) := by
  subst hm
  refine ⟨if c = m then A else A.map (·.add (m * d.sz)), fun W => ?_, fun w xs h => ?_⟩
  · have := cut_from (P := P) t e .i64 ht hi d.sz hs A n c (m : Int) (by omega) (by omega) W
    simpa using this
  · have hl : xs.length = n := h.1
    subst hl
    have := Kd.C_drop (c := c) h hj hc
    rwa [show (xs.drop m).length = xs.length - m from List.length_drop] at this
theorem sl_mid (d : Kd α) (t e : TypeId) {i : TypeInfo} (ht : P.underlying t = some (.slice e)) (hi : P.info? e = some i) (hs : i.size = d.sz) (A : Option Addr) (n c : Nat) (lo hi' : Int) (a b : Nat) (hlo : lo = a) (hhi : hi' = b) (hab : a ≤ b) (hj : b ≤ n) (hc : n ≤ c) :
    ∃ A', (∀ W : World, (Instr.slice t (.slice A n c) (some (.int .i64 lo)) (some (.int .i64 hi')) none).run P W = .ok (.slice A' (b - a) (c - a)) W) ∧ ∀ (w : World) (xs : List α), d.C w A n xs → d.C w A' (b - a) ((xs.take b).drop a) := by
  subst hlo
  subst hhi
  refine ⟨if c = a then A else A.map (·.add (a * d.sz)), fun W => ?_, fun w xs h => ?_⟩
  · have := cut_mid (P := P) t e .i64 .i64 ht hi d.sz hs A n c (a : Int) (b : Int) (by omega) (by omega) (by omega) hc W
    simpa using this
  · have hl : xs.length = n := h.1
    subst hl
    have := Kd.C_mid (c := c) h hab hj hc
    rwa [show ((xs.take b).drop a).length = b - a by rw [List.length_drop, List.length_take]; omega] at this
end
/-! ### append of numbers, an empty literal -/
theorem Hw.row_empty {w0 w : World} {F : HP} {g : Nat} {e : TypeId} {k : IntKind} (h : Hw w0 w (blk g (.cells #[] e (0, 0)) * F)) : Hw w0 w (row (Kd.int k) e (.slice (some ⟨g, 0, none⟩) 0 0) [] * F) :=
  Hw.row_of_blk (xs := []) (enc := Value.int k) (h1 := fun _ => rfl) rfl (by decide) h
section
variable {P : Program} {ops : Array Oper} {rest : List Oper} {o : Oper} {a : Act} {Q : Exit → Act → World → Prop} {w0 W : World} {F : HP}
theorem Hw.append_int {k : IntKind} (hgd : o.guard = none) (s x : Operand) (t e : TypeId) (bytes : Nat)
    (ho : o.op = .call { callee := .builtin .append, args := #[s, x], argTypes := #[t, t] })
    (ht : P.underlying t = some (.slice e)) (hinfo : (P.info? e).map (fun i => (i.zero, i.size, i.bytes)) = some (some (.int k 0), 1, bytes)) (hb0 : 0 < bytes)
    (v : Value) (xs ys : List Int) (A : Option Addr) (m c : Nat) (hs : a.eval s = v) (hx : a.eval x = .slice A m c)
    (h : Hw w0 W (row (Kd.int k) e v xs * F)) (HR : (Kd.int k).C W A m ys) (hl : (xs.length + m) * bytes ≤ 140737488355328) (zs : List Int) (hz : xs ++ ys = zs) (n' : Nat) (hn : zs.length = n')
    (K : ∀ A1 c1 w1, Aside0 (Hw w0 w1 (row (Kd.int k) e (.slice A1 n' c1) zs * F)) → wpList P ops Q rest (a.put o.dst (.slice A1 n' c1)) w1) : wpList P ops Q (o :: rest) a W :=
  Hw.append_row (Value.int k) (0 : Int) (h1 := fun _ => rfl) hgd s x t e (.int k 0) bytes ho ht hinfo rfl hb0 v xs ys A m c hs hx h HR hl (fun A1 n1 c1 w1 hn1 hw1 => by
    have h1 : n1 = n' := by rw [hn1.out, hz]; exact hn
    subst h1
    rw [hz] at hw1
    exact K A1 c1 w1 ⟨hw1⟩)
end
/-- A number of a row that is read and written. -/
theorem Hw.row_int_at {k : IntKind} {w0 w : World} {F : HP} {e c m : Nat} {A : Option Addr} {xs : List Int} (h : Hw w0 w (row (Kd.int k) e (.slice A m c) xs * F)) (i : Nat) (x : Int) (hx : xs[i]? = some x) :
    ∃ ad, A = some ad ∧ w.cell? (ad.add i) = some (.int k x) ∧ w.frozen? (ad.add i) = false ∧ Aside0 (∀ y ys, xs.set i y = ys → Hw w0 (w.setCell (ad.add i) (.int k y)) (row (Kd.int k) e (.slice A m c) ys * F)) := by
  obtain ⟨ad, e1, h2, h3, h4⟩ := row_at (enc := Value.int k) (h1 := fun _ => rfl) h i x hx
  exact ⟨ad, e1, h2, h3, ⟨fun y ys hy => by subst hy; exact h4.out y⟩⟩
/-! ### Lists -/
theorem take_snoc_of {α : Type _} {l : List α} {k : Nat} {x : α} (h : l[k]? = some x) : l.take (k + 1) = l.take k ++ [x] := by
  rw [List.take_add_one, h]; rfl
theorem flat_snoc_of {α : Type _} {l : List (List α)} {k : Nat} {x : List α} (h : l[k]? = some x) : (l.take (k + 1)).flatten = (l.take k).flatten ++ x := by
  rw [take_snoc_of h]
  simp
end Go.Proofs.Ytckdkbjobipniaa

/- What a call owns beside what was owned ahead of it. -/
set_option linter.unusedVariables false
namespace Go.Proofs.Ytckdkbjobipniaa
open Go.RowKit Go.Proofs.YtckdkbjobipniaaW.PrintWords
theorem Hw.trans {w0 w1 w2 : World} {P Q : HP} (h : Hw w0 w1 P) (g : Hw w1 w2 Q) : Hw w0 w2 (Q * P) := by
  obtain ⟨hb, x, hp, hw⟩ := h.from_below g.below
  obtain ⟨hb0, x0, hp0, hw0⟩ := h
  obtain ⟨gb, y, hq, gw⟩ := g
  have hlt : ∀ i o, x0 i = some o → i < w1.heap.size := fun i o hi => (Array.getElem?_eq_some_iff.1 (hw0 i o hi).2).1
  refine ⟨hb, fun i => (y i).or (x0 i), ⟨y, x0, fun i => ?_, fun i => rfl, hq, hp0⟩, fun i o hi => ?_⟩
  · cases hy : y i with
    | none => exact .inl rfl
    | some o =>
      cases hx : x0 i with
      | none => exact .inr rfl
      | some o' =>
        have h1 := hlt i o' hx
        have h2 := (gw i o hy).1
        omega
  · simp only at hi
    cases hy : y i with
    | none =>
      rw [hy, Option.none_or] at hi
      have h1 := hlt i o hi
      exact ⟨(hw0 i o hi).1, (gb.block i h1).trans (hw0 i o hi).2⟩
    | some o' =>
      rw [hy, Option.some_or] at hi
      injection hi with hi
      subst hi
      exact ⟨Nat.le_trans hb0.size (gw i _ hy).1, (gw i _ hy).2⟩
end Go.Proofs.Ytckdkbjobipniaa

/- What a statement's arguments are read as: data of a kind, and how large they are. -/
set_option linter.unusedVariables false
set_option linter.unusedSimpArgs false
namespace Go.Proofs.Ytckdkbjobipniaa
open Go.RowKit Go.Proofs.YtckdkbjobipniaaW.PrintWords

/-- Data of type t read as values of a kind, of a size S (by the form's reach) and a bulk. -/
def Opens {α : Type} (P : Program) (t : TypeId) (d : Kd α) (S : α → Prop) (mu : α → Nat) : Prop :=
  d.sz = P.cellsOf t ∧ ∀ (H : Type) (enc : TypeId × Value → H) (w : World) (base fuel : Nat) (spare : Nat → Bool) (held : Bool) (cs : List Value) (x : DataW H × List MemPlace),
    DataW.trod enc P w base spare held fuel t cs = some x → ∃ y : α, d.K w y cs ∧ ((∀ n ∈ x.1.weights P t, n ≤ reachBytes) → S y) ∧ mu y ≤ Rows.uptoBulk x.1

theorem bulk_one_le {H : Type} (d : DataW H) : 1 ≤ Rows.uptoBulk d := by
  cases d with
  | lit l => cases l <;> simp [Rows.uptoBulk]
  | nil => simp [Rows.uptoBulk]
  | ptr d => simp [Rows.uptoBulk]
  | slice elems spare => simp [Rows.uptoBulk]
  | agg parts => simp [Rows.uptoBulk]
  | iface t d => simp [Rows.uptoBulk]
  | map entries => simp [Rows.uptoBulk]
  | held h => simp [Rows.uptoBulk]

section
variable {P : Program} {t e : TypeId}
theorem opens_int {k : IntKind} (ht : P.underlying t = some (.int k)) (hc : P.cellsOf t = 1) : Opens P t (Kd.int k) (fun n => (Lit.int k n).wf = true) (fun _ => 1) := by
  refine ⟨hc.symm, fun H enc w base fuel spare held cs x h => ?_⟩
  obtain ⟨n, rfl, rfl, hw⟩ := DataW.trod_int ht h
  exact ⟨n, rfl, fun _ => hw, bulk_one_le _⟩
theorem opens_bool (ht : P.underlying t = some .bool) (hc : P.cellsOf t = 1) : Opens P t Kd.bool (fun _ => True) (fun _ => 1) := by
  refine ⟨hc.symm, fun H enc w base fuel spare held cs x h => ?_⟩
  obtain ⟨n, rfl, rfl⟩ := DataW.trod_bool ht h
  exact ⟨n, rfl, fun _ => trivial, bulk_one_le _⟩
theorem opens_string (ht : P.underlying t = some .string) (hc : P.cellsOf t = 1) : Opens P t Kd.string (fun s => s.size ≤ 140737488351232) (fun s => s.size + 1) := by
  refine ⟨hc.symm, fun H enc w base fuel spare held cs x h => ?_⟩
  obtain ⟨s, rfl, rfl, hs⟩ := DataW.trod_string ht h
  refine ⟨s, rfl, fun hw => ?_, ?_⟩
  · have := hw s.data.toList.length (by simp [DataW.weights])
    rw [data_length] at this
    exact this
  · simp only [Rows.uptoBulk, data_length]; exact Nat.le_refl _

theorem bulkAll_ge {H α : Type} {mu : α → Nat} : ∀ (ys : List α) (l : List (DataW H)), ys.length = l.length → (∀ (i : Nat) y e, ys[i]? = some y → l[i]? = some e → mu y ≤ Rows.uptoBulk e) → (ys.map mu).sum ≤ Rows.uptoBulkAll l
  | [], [], _, _ => by simp [Rows.uptoBulkAll]
  | [], _ :: _, h, _ => by simp at h
  | _ :: _, [], h, _ => by simp at h
  | y :: ys, e :: l, h, hh => by
    have h1 := bulkAll_ge ys l (by simpa using h) (fun i y e hy he => hh (i + 1) y e (by simpa using hy) (by simpa using he))
    have h2 := hh 0 y e rfl rfl
    simp only [Rows.uptoBulkAll, List.map_cons, List.sum_cons]
    omega
theorem weightsAll_mem {H : Type} {n : Nat} : ∀ (l : List (DataW H)) (d : DataW H), d ∈ l → n ∈ d.weights P e → n ∈ DataW.weightsAll P e l
  | [], d, h, _ => by cases h
  | x :: r, d, h, hn => by
    simp only [DataW.weightsAll, List.mem_append]
    rcases List.mem_cons.1 h with rfl | h
    · exact .inl hn
    · exact .inr (weightsAll_mem r d h hn)
theorem addr_add_add (a : Addr) (m k : Nat) : (a.add m).add k = a.add (m + k) := by
  unfold Addr.add
  by_cases h1 : m = 0 <;> by_cases h2 : k = 0 <;> simp [h1, h2, Nat.add_assoc]
theorem cells_at {w : World} {base : Nat} {a : Addr} {n : Nat} {cs : List Value} (h : w.cells? base a n = some cs) : cs.length = n ∧ ∀ i u, cs[i]? = some u → w.cell? (a.add i) = some u := by
  unfold World.cells? at h
  split at h
  · have hl := mapM_some_length h
    refine ⟨by simpa using hl, fun i u hu => ?_⟩
    have hi : i < n := by have := (List.getElem?_eq_some_iff.1 hu).1; simp at hl; omega
    have := mapM_some_get h i i (by simp [hi])
    rw [hu] at this
    exact this
  · cases h
/-- A slice. -/
theorem opens_slice {α : Type} {d : Kd α} {S : α → Prop} {mu : α → Nat} {B : Nat} (ht : P.underlying t = some (.slice e)) (hc : P.cellsOf t = 1) (hB : P.bytesOf e = B) (he : Opens P e d S mu) :
    Opens P t (Kd.slice e d) (fun xs => xs.length * B ≤ 140737488351232 ∧ ∀ x ∈ xs, S x) (fun xs => (xs.map mu).sum + 1) := by
  obtain ⟨hsz, he⟩ := he
  refine ⟨hc.symm, fun H enc w base fuel spare held cs x h => ?_⟩
  rcases DataW.trod_slice ht h with ⟨rfl, rfl⟩ | ⟨a, len, cap, elems, rest, n, rfl, rfl, rfl, hb, hl, hm, hlen, hel, _, _⟩
  · exact ⟨[], ⟨none, 0, rfl, Nat.le_refl _, Kd.C_nil d w⟩, fun _ => ⟨by simp, fun x hx => by cases hx⟩, by simp [Rows.uptoBulk]⟩
  · have hex : ∀ i : Fin len, ∃ y : α, ∃ c : List Value, ∃ z : DataW H × List MemPlace, elems[i.val]? = some z ∧ w.cells? base (a.add (i.val * P.cellsOf e)) (P.cellsOf e) = some c ∧ d.K w y c ∧ ((∀ n ∈ z.1.weights P e, n ≤ reachBytes) → S y) ∧ mu y ≤ Rows.uptoBulk z.1 := by
      intro i
      have h1 := hel i.val i.isLt
      have h2 : elems[i.val]? = some (elems[i.val]'(by rw [hlen]; exact i.isLt)) := List.getElem?_eq_getElem _
      rw [h2] at h1
      obtain ⟨c, hc1, hc2⟩ := Option.bind_eq_some_iff.1 h1
      obtain ⟨y, hy1, hy2, hy3⟩ := he H enc w base n spare held c _ hc2
      exact ⟨y, c, _, h2, hc1, hy1, hy2, hy3⟩
    obtain ⟨f, hf⟩ : ∃ f : Fin len → α, ∀ i, ∃ c : List Value, ∃ z : DataW H × List MemPlace, elems[i.val]? = some z ∧ w.cells? base (a.add (i.val * P.cellsOf e)) (P.cellsOf e) = some c ∧ d.K w (f i) c ∧ ((∀ n ∈ z.1.weights P e, n ≤ reachBytes) → S (f i)) ∧ mu (f i) ≤ Rows.uptoBulk z.1 :=
      ⟨fun i => Classical.choose (hex i), fun i => Classical.choose_spec (hex i)⟩
    have hget : ∀ (j : Nat) (p : α), (List.ofFn f)[j]? = some p → ∃ h : j < len, f ⟨j, h⟩ = p := by
      intro j p hj
      obtain ⟨h1, h2⟩ := List.getElem?_eq_some_iff.1 hj
      have h3 : j < len := by simpa using h1
      exact ⟨h3, by simpa using h2⟩
    have hll : (List.ofFn f).length = len := by simp
    refine ⟨List.ofFn f, ⟨some a, cap, by rw [hll], by rw [hll]; exact hl, rfl, by rw [hll]; unfold maxLen at hm; omega, fun _ => ⟨a, rfl, fun j p hj => ?_⟩⟩, fun hw => ⟨?_, fun x hx => ?_⟩, ?_⟩
    · obtain ⟨h3, rfl⟩ := hget j p hj
      obtain ⟨c, z, hf1, hf2, hf3, _, _⟩ := hf ⟨j, h3⟩
      obtain ⟨hcl, hcc⟩ := cells_at hf2
      refine ⟨c, by rw [hcl, hsz], hf3, fun i u hu => ?_⟩
      rw [← addr_add_add, hsz]
      exact hcc i u hu
    · have h2 := hw (((elems.map (·.1)).length + (rest.map (·.1)).length) * P.bytesOf e) (by simp [DataW.weights, ht])
      rw [hll, ← hB]
      have h3 : len * P.bytesOf e ≤ ((elems.map (·.1)).length + (rest.map (·.1)).length) * P.bytesOf e := Nat.mul_le_mul_right _ (by simp [hlen])
      exact Nat.le_trans h3 h2
    · obtain ⟨j, hj⟩ := List.getElem?_of_mem hx
      obtain ⟨h3, rfl⟩ := hget j x hj
      obtain ⟨c, z, hf1, hf2, hf3, hf4, _⟩ := hf ⟨j, h3⟩
      refine hf4 (fun m hm' => hw m ?_)
      simp only [DataW.weights, ht, List.mem_cons, List.mem_append]
      exact .inr (.inl (weightsAll_mem _ _ (List.mem_map.2 ⟨_, List.mem_of_getElem? hf1, rfl⟩) hm'))
    · have := bulkAll_ge (mu := mu) (List.ofFn f) (elems.map (·.1)) (by simp [hlen]) (fun i y e' hy he' => by
        obtain ⟨h3, rfl⟩ := hget i y hy
        obtain ⟨c, z, hf1, hf2, hf3, hf4, hf5⟩ := hf ⟨i, h3⟩
        simp only [List.getElem?_map] at he'
        rw [show elems[i]? = some z from hf1] at he'
        have h5 : z.1 = e' := by simpa using he'
        rw [← h5]
        exact hf5)
      simp only [Rows.uptoBulk]
      omega

/-- Fields of a struct, from a place on. -/
def OpensF {α : Type} (P : Program) (fs : List Field) (o n : Nat) (d : Kd α) (S : α → Prop) (mu : α → Nat) : Prop :=
  d.sz = n ∧ ∀ (H : Type) (enc : TypeId × Value → H) (w : World) (base fuel : Nat) (spare : Nat → Bool) (held : Bool) (cs : List Value) (xs : List (DataW H × List MemPlace)), xs.length = fs.length →
    (∀ (i : Nat) (f : Field), fs[i]? = some f → DataW.trod enc P w base spare held fuel f.type ((cs.drop f.offset).take (P.cellsOf f.type)) = xs[i]?) →
    ∃ y : α, d.K w y ((cs.drop o).take n) ∧ ((∀ m ∈ DataW.weightsEach P (fs.map (·.type)) (xs.map (·.1)), m ≤ reachBytes) → S y) ∧ mu y ≤ Rows.uptoBulkAll (xs.map (·.1))
theorem opensF_one {α : Type} {d : Kd α} {S : α → Prop} {mu : α → Nat} {f : Field} {o n : Nat} (ho : f.offset = o) (hn : P.cellsOf f.type = n) (h : Opens P f.type d S mu) : OpensF P [f] o n d S mu := by
  obtain ⟨hsz, h⟩ := h
  refine ⟨hsz.trans hn, fun H enc w base fuel spare held cs xs hl hx => ?_⟩
  match xs, hl with
  | [x], _ =>
    have h1 := hx 0 f rfl
    obtain ⟨y, h2, h3, h4⟩ := h H enc w base fuel spare held _ x h1
    rw [ho, hn] at h2
    refine ⟨y, h2, fun hw => h3 (fun m hm => hw m (by simp only [DataW.weightsEach, List.map_cons, List.map_nil, List.append_nil]; simpa using hm)), ?_⟩
    simp only [List.map_cons, List.map_nil, Rows.uptoBulkAll]
    omega
theorem opensF_cons {α β : Type} {d : Kd α} {d' : Kd β} {S : α → Prop} {S' : β → Prop} {mu : α → Nat} {mu' : β → Nat} {f : Field} {fs : List Field} {o n m : Nat} (ho : f.offset = o) (hn : P.cellsOf f.type = n) (h : Opens P f.type d S mu) (h' : OpensF P fs (o + n) m d' S' mu') :
    OpensF P (f :: fs) o (n + m) (Kd.pair d d') (fun y => S y.1 ∧ S' y.2) (fun y => mu y.1 + mu' y.2) := by
  obtain ⟨hsz, h⟩ := h
  obtain ⟨hsz', h'⟩ := h'
  refine ⟨by show d.sz + d'.sz = n + m; rw [hsz, hsz', hn], fun H enc w base fuel spare held cs xs hl hx => ?_⟩
  match xs, hl with
  | x :: xs, hl =>
    have h1 := hx 0 f rfl
    obtain ⟨y, h2, h3, h4⟩ := h H enc w base fuel spare held _ x h1
    obtain ⟨y', h2', h3', h4'⟩ := h' H enc w base fuel spare held cs xs (by simpa using hl) (fun i f' hf' => by simpa using hx (i + 1) f' (by simpa using hf'))
    rw [ho, hn] at h2
    refine ⟨(y, y'), ⟨_, _, ?_, h2, h2'⟩, fun hw => ⟨h3 (fun m hm => hw m ?_), h3' (fun m hm => hw m ?_)⟩, ?_⟩
    · rw [List.take_add, List.drop_drop]
    · simp only [DataW.weightsEach, List.map_cons, List.mem_append]; exact .inl hm
    · simp only [DataW.weightsEach, List.map_cons, List.mem_append]; exact .inr hm
    · simp only [List.map_cons, Rows.uptoBulkAll]
      omega
/-- A struct. -/
theorem opens_struct {α : Type} {d : Kd α} {S : α → Prop} {mu : α → Nat} {fs : Array Field} {n : Nat} (ht : P.underlying t = some (.struct fs)) (hn : P.cellsOf t = n) (h : OpensF P fs.toList 0 n d S mu) : Opens P t d S (fun y => mu y + 1) := by
  obtain ⟨hsz, h⟩ := h
  refine ⟨hsz.trans hn.symm, fun H enc w base fuel spare held cs x hx => ?_⟩
  obtain ⟨xs, m, rfl, rfl, hl, hlen, hf⟩ := DataW.trod_struct ht hx
  obtain ⟨y, h1, h2, h3⟩ := h H enc w base m spare held cs xs (by simpa using hlen) (fun i f hi => hf i f (by simpa using hi))
  rw [List.drop_zero, ← hn, ← hl, List.take_length] at h1
  refine ⟨y, h1, fun hw => h2 (fun m hm => hw m (by simpa [DataW.weights, ht] using hm)), ?_⟩
  simp only [Rows.uptoBulk]
  omega
end
end Go.Proofs.Ytckdkbjobipniaa
