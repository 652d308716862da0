/- What an oracle knows: plain. -/
import Derived.Test.YtckdkbjobipniaaLogN
set_option linter.unusedVariables false
namespace Go.Proofs.Ytckdkbjobipniaa
/-- A revision that was given out: who asked, for which transaction, which. -/
structure Iss where
  src : Int
  id : Int
  rev : Int
structure Orc where
  iss : List Iss
  done : List Int
def orev (o : Orc) (id : Int) : Int := ((o.iss.find? (fun x => x.id == id)).map (·.rev)).getD 0
def olast (o : Orc) : Int := (o.iss.getLast?.map (·.rev)).getD 0
def opend (o : Orc) : List Iss := o.iss.filter (fun x => !o.done.contains x.id)
def oclosed (o : Orc) : Int := match opend o with
  | [] => olast o
  | x :: _ => x.rev - 1
def oreplay (o : Orc) (m : Msg) : Orc :=
  if m.kind = 1 ∧ olast o < m.rev ∧ orev o m.id = 0 then ⟨o.iss ++ [⟨m.src, m.id, m.rev⟩], o.done⟩
  else if m.kind = 2 ∧ orev o m.id ≠ 0 ∧ m.id ∉ o.done then ⟨o.iss, o.done ++ [m.id]⟩ else o
def oopen (l : List Msg) : Orc := l.foldl oreplay ⟨[], []⟩
/-- What always holds of an oracle. -/
structure OrcOk (o : Orc) : Prop where
  pos : ∀ x ∈ o.iss, 0 < x.rev
  rise : o.iss.Pairwise fun x y => x.rev < y.rev
  ids : (o.iss.map (·.id)).Nodup
  done : ∀ d ∈ o.done, ∃ x ∈ o.iss, x.id = d
theorem orc_empty : OrcOk ⟨[], []⟩ := ⟨by simp, by simp, by simp, by simp⟩
theorem find_none {l : List Iss} {id : Int} : l.find? (fun x => x.id == id) = none ↔ ∀ x ∈ l, x.id ≠ id := by
  rw [List.find?_eq_none]
  simp
theorem orev_zero {o : Orc} (h : OrcOk o) {id : Int} : orev o id = 0 ↔ ∀ x ∈ o.iss, x.id ≠ id := by
  unfold orev
  cases hf : o.iss.find? (fun x => x.id == id) with
  | none => exact ⟨fun _ => find_none.1 hf, fun _ => rfl⟩
  | some y =>
    have hy := List.mem_of_find?_eq_some hf
    have hid : y.id = id := by simpa using List.find?_some hf
    refine ⟨fun h0 => ?_, fun h0 => absurd hid (h0 y hy)⟩
    have := h.pos y hy
    simp at h0
    omega
theorem id_uniq : ∀ {l : List Iss}, (l.map (·.id)).Nodup → ∀ {x y : Iss}, x ∈ l → y ∈ l → x.id = y.id → x = y
  | [], _, x, _, hx, _, _ => by simp at hx
  | z :: l, hn, x, y, hx, hy, e => by
    rw [List.map_cons, List.nodup_cons] at hn
    rcases List.mem_cons.1 hx with h1 | h1 <;> rcases List.mem_cons.1 hy with h2 | h2
    · rw [h1, h2]
    · exact (hn.1 (List.mem_map.2 ⟨y, h2, by rw [← e, h1]⟩)).elim
    · exact (hn.1 (List.mem_map.2 ⟨x, h1, by rw [e, h2]⟩)).elim
    · exact id_uniq hn.2 h1 h2 e
theorem orev_mem {o : Orc} (h : OrcOk o) {x : Iss} (hx : x ∈ o.iss) : orev o x.id = x.rev := by
  unfold orev
  cases hf : o.iss.find? (fun y => y.id == x.id) with
  | none => exact absurd rfl (find_none.1 hf x hx)
  | some y =>
    have hy := List.mem_of_find?_eq_some hf
    have hid : y.id = x.id := by simpa using List.find?_some hf
    have := id_uniq h.ids hy hx hid
    rw [this]; rfl
theorem olast_ge {o : Orc} (h : OrcOk o) : ∀ x ∈ o.iss, x.rev ≤ olast o := by
  obtain ⟨l, d⟩ := o
  intro x hx
  unfold olast
  rcases List.eq_nil_or_concat l with rfl | ⟨l', y, rfl⟩
  · simp at hx
  · have hr := h.rise
    simp only [List.concat_eq_append] at hx hr ⊢
    rw [List.getLast?_append, List.getLast?_singleton]
    simp only [Option.some_or, Option.map_some, Option.getD_some]
    rcases List.mem_append.1 hx with h1 | h1
    · have := (List.pairwise_append.1 hr).2.2 x h1 y (by simp)
      omega
    · obtain rfl : x = y := by simpa using h1
      exact Int.le_refl _
theorem olast_nonneg {o : Orc} (h : OrcOk o) : 0 ≤ olast o := by
  unfold olast
  cases hl : o.iss.getLast? with
  | none => simp
  | some y => have := h.pos y (List.mem_of_getLast? hl); simp; omega
theorem oreplay_ok {o : Orc} (h : OrcOk o) (m : Msg) : OrcOk (oreplay o m) := by
  unfold oreplay
  split
  · rename_i hc
    obtain ⟨_, h1, h2⟩ := hc
    have h0 := olast_nonneg h
    have hn := (orev_zero h).1 h2
    refine ⟨fun x hx => ?_, ?_, ?_, fun d hd => ?_⟩
    · rcases List.mem_append.1 hx with hx | hx
      · exact h.pos x hx
      · obtain rfl : x = ⟨m.src, m.id, m.rev⟩ := by simpa using hx
        show 0 < m.rev
        omega
    · refine List.pairwise_append.2 ⟨h.rise, by simp, fun x hx y hy => ?_⟩
      obtain rfl : y = ⟨m.src, m.id, m.rev⟩ := by simpa using hy
      have := olast_ge h x hx
      show x.rev < m.rev
      omega
    · rw [List.map_append]
      refine List.nodup_append.2 ⟨h.ids, by simp, fun a ha b hb => ?_⟩
      obtain ⟨x, hx, rfl⟩ := List.mem_map.1 ha
      obtain rfl : b = m.id := by simpa using hb
      exact hn x hx
    · obtain ⟨x, hx, e⟩ := h.done d hd
      exact ⟨x, List.mem_append_left _ hx, e⟩
  · split
    · rename_i hc
      refine ⟨h.pos, h.rise, h.ids, fun d hd => ?_⟩
      rcases List.mem_append.1 hd with hd | hd
      · exact h.done d hd
      · obtain rfl : d = m.id := by simpa using hd
        have := hc.2.1
        exact Classical.byContradiction fun hh => this ((orev_zero h).2 fun x hx e => hh ⟨x, hx, e⟩)
    · exact h
end Go.Proofs.Ytckdkbjobipniaa
