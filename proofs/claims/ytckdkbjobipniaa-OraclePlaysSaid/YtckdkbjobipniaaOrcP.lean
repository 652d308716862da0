/- What an oracle's calls answer: plain. -/
import Derived.Test.YtckdkbjobipniaaOrcN
import Derived.Test.YtckdkbjobipniaaLogW
set_option linter.unusedVariables false
namespace Go.Proofs.Ytckdkbjobipniaa
def newM (id src rev : Int) : Msg := ⟨1, src, 0, id, rev, 0, 0, false, [], [], [], []⟩
def resM (id : Int) : Msg := ⟨2, 0, 0, id, 0, 0, 0, false, [], [], [], []⟩
theorem oopen_snoc (ms : List Msg) (m : Msg) : oopen (ms ++ [m]) = oreplay (oopen ms) m := by
  unfold oopen; rw [List.foldl_append]; rfl
theorem oopen_ok (ms : List Msg) : OrcOk (oopen ms) := by
  have : ∀ (l : List Msg) (s : Orc), OrcOk s → OrcOk (l.foldl oreplay s) := by
    intro l
    induction l with
    | nil => exact fun s h => h
    | cons m l ih => exact fun s h => ih _ (oreplay_ok h m)
  exact this ms _ orc_empty
theorem oreplay_len (s : Orc) (m : Msg) : (oreplay s m).iss.length ≤ s.iss.length + 1 := by
  unfold oreplay
  split
  · simp
  · split <;> simp
theorem oopen_len (ms : List Msg) : (oopen ms).iss.length ≤ ms.length := by
  have : ∀ (l : List Msg) (s : Orc), (l.foldl oreplay s).iss.length ≤ s.iss.length + l.length := by
    intro l
    induction l with
    | nil => exact fun s => by simp
    | cons m l ih => exact fun s => by have h1 := ih (oreplay s m); have h2 := oreplay_len s m; simp only [List.foldl_cons, List.length_cons]; omega
  have := this ms ⟨[], []⟩
  simpa [oopen] using this
theorem opend_len (s : Orc) : (opend s).length ≤ s.iss.length := List.length_filter_le _ _
theorem oreplay_two {s : Orc} (hok : OrcOk s) {m : Msg} (hk : m.kind = 2) : (oreplay s m).iss = s.iss ∧ opend (oreplay s m) = (opend s).filter (fun x => x.id != m.id) := by
  have h1 : ¬ (m.kind = 1 ∧ olast s < m.rev ∧ orev s m.id = 0) := fun h => by rw [hk] at h; exact absurd h.1 (by decide)
  unfold oreplay
  rw [if_neg h1]
  by_cases h2 : m.kind = 2 ∧ orev s m.id ≠ 0 ∧ m.id ∉ s.done
  · rw [if_pos h2]
    refine ⟨rfl, ?_⟩
    unfold opend
    simp only
    rw [List.filter_filter]
    refine List.filter_congr (fun x _ => ?_)
    simp only [List.contains_eq_mem, List.mem_append, List.mem_singleton]
    by_cases ha : x.id ∈ s.done <;> by_cases hb : x.id = m.id <;> simp [ha, hb]
  · rw [if_neg h2]
    refine ⟨rfl, (List.filter_eq_self.2 fun x hx => ?_).symm⟩
    have hxi := (List.mem_filter.1 hx).1
    have hxd := (List.mem_filter.1 hx).2
    simp only [bne_iff_ne, ne_eq]
    intro e
    refine h2 ⟨hk, ?_, ?_⟩
    · rw [← e, orev_mem hok hxi]
      have := hok.pos x hxi
      omega
    · rw [← e]
      simpa using hxd
theorem oreplay_else {s : Orc} {m : Msg} (h1 : m.kind ≠ 1) (h2 : m.kind ≠ 2) : oreplay s m = s := by
  unfold oreplay
  rw [if_neg (fun h => h1 h.1), if_neg (fun h => h2 h.1)]
/-- A transaction is open: it was issued and isn't resolved. -/
theorem opend_has {s : Orc} (hok : OrcOk s) {id : Int} : (∃ x ∈ opend s, x.id = id) ↔ orev s id ≠ 0 ∧ id ∉ s.done := by
  constructor
  · rintro ⟨x, hx, rfl⟩
    have hxi := (List.mem_filter.1 hx).1
    have hxd := (List.mem_filter.1 hx).2
    refine ⟨?_, by simpa using hxd⟩
    rw [orev_mem hok hxi]
    have := hok.pos x hxi
    omega
  · rintro ⟨h1, h2⟩
    have hh : ∃ x ∈ s.iss, x.id = id := Classical.byContradiction fun hh => h1 ((orev_zero hok).2 fun x hx e => hh ⟨x, hx, e⟩)
    obtain ⟨x, hx, rfl⟩ := hh
    exact ⟨x, List.mem_filter.2 ⟨hx, by simpa using h2⟩, rfl⟩
theorem bareM_len (a b c d e f g : Int) (ha : i64r a) (hb : i64r b) (hc : i64r c) (hd : i64r d) (he : i64r e) (hf : i64r f) (hg : i64r g) : (encMsg ⟨a, b, c, d, e, f, g, false, [], [], [], []⟩).length ≤ 100 := by
  unfold encMsg Msg.ints enc1 enc2 enc4
  have h1 := (encI_len a ha).2
  have h2 := (encI_len b hb).2
  have h3 := (encI_len c hc).2
  have h4 := (encI_len d hd).2
  have h5 := (encI_len e he).2
  have h6 := (encI_len f hf).2
  have h7 := (encI_len g hg).2
  simp [encI_zero, bitN]
  omega
theorem bareM_good (a b c d e f g : Int) (ha : i64r a) (hb : i64r b) (hc : i64r c) (hd : i64r d) (he : i64r e) (hf : i64r f) (hg : i64r g) : GoodM ⟨a, b, c, d, e, f, g, false, [], [], [], []⟩ :=
  ⟨⟨fun n hn => by
    simp only [Msg.ints, List.mem_cons, List.not_mem_nil, or_false] at hn
    rcases hn with rfl | rfl | rfl | rfl | rfl | rfl | rfl
    all_goals assumption, fun n hn => by simp at hn, fun n hn => by simp at hn⟩,
   ⟨by simp, ⟨by simp, fun x hx => by simp at hx⟩, ⟨by simp, fun x hx => by simp at hx⟩, ⟨by simp, fun x hx => by simp at hx⟩⟩,
   by have := bareM_len a b c d e f g ha hb hc hd he hf hg; omega⟩
theorem newM_good {id src rev : Int} (h1 : i64r id) (h2 : i64r src) (h3 : i64r rev) : GoodM (newM id src rev) := bareM_good 1 src 0 id rev 0 0 (by unfold i64r; omega) h2 (by unfold i64r; omega) h1 h3 (by unfold i64r; omega) (by unfold i64r; omega)
theorem resM_good {id : Int} (h1 : i64r id) : GoodM (resM id) := bareM_good 2 0 0 id 0 0 0 (by unfold i64r; omega) (by unfold i64r; omega) (by unfold i64r; omega) h1 (by unfold i64r; omega) (by unfold i64r; omega) (by unfold i64r; omega)
/-- Issue: the records behind it, the revision, the error's number. -/
noncomputable def oask (ms : List Msg) (room id src : Int) : List Msg × Int × Int :=
  if orev (oopen ms) id ≠ 0 then (ms, orev (oopen ms) id, 0)
  else if 1125899906842624 ≤ olast (oopen ms) then (ms, 0, 1)
  else if addErr (newM id src (olast (oopen ms) + 1)) (logB ms).length room = 0 then (ms ++ [newM id src (olast (oopen ms) + 1)], olast (oopen ms) + 1, 0)
  else (ms, 0, addErr (newM id src (olast (oopen ms) + 1)) (logB ms).length room)
noncomputable def osettle (ms : List Msg) (room id : Int) : List Msg × Int :=
  if orev (oopen ms) id = 0 then (ms, 4)
  else if id ∈ (oopen ms).done then (ms, 0)
  else if addErr (resM id) (logB ms).length room = 0 then (ms ++ [resM id], 0)
  else (ms, addErr (resM id) (logB ms).length room)
theorem logB_cnt : ∀ (ms : List Msg), ms.length * 8 ≤ (logB ms).length
  | [] => by simp [logB]
  | m :: ms => by
    rw [logB_cons, List.length_append, recOf_len, List.length_cons]
    have := logB_cnt ms
    omega
/-- The records of a disk that are whole. -/
structure OrcMs (ms : List Msg) (room : Int) : Prop where
  good : ∀ m ∈ ms, GoodM m
  len : ((logB ms).length : Int) ≤ room
  r0 : 0 ≤ room
  r1 : room ≤ 1048576
theorem OrcMs.cnt {ms : List Msg} {room : Int} (h : OrcMs ms room) : ms.length ≤ 131072 := by
  have h1 := logB_cnt ms
  have h2 := h.len
  have h3 := h.r1
  omega
theorem OrcMs.nil {room : Int} (h0 : 0 ≤ room) (h1 : room ≤ 1048576) : OrcMs [] room := ⟨fun m hm => by simp at hm, by simpa [logB] using h0, h0, h1⟩
theorem OrcMs.snoc {ms : List Msg} {m : Msg} {room : Int} (h : OrcMs ms room) (hm : MsgOk m) (hz : addErr m (logB ms).length room = 0) : OrcMs (ms ++ [m]) room := by
  obtain ⟨g1, _, _, _, g5⟩ := write_step hm hz 0 0
  exact ⟨fun z hz => (List.mem_append.1 hz).elim (h.good z) (fun hz => by rw [List.mem_singleton] at hz; subst hz; exact g1), g5, h.r0, h.r1⟩
theorem oopen_from (ms : List Msg) : ∀ x ∈ (oopen ms).iss, ∃ m ∈ ms, x = ⟨m.src, m.id, m.rev⟩ := by
  have : ∀ (l : List Msg) (s : Orc), ∀ x ∈ (l.foldl oreplay s).iss, x ∈ s.iss ∨ ∃ m ∈ l, x = ⟨m.src, m.id, m.rev⟩ := by
    intro l
    induction l with
    | nil => exact fun s x hx => .inl hx
    | cons m l ih =>
      intro s x hx
      rcases ih (oreplay s m) x hx with h | ⟨m', h1, h2⟩
      · unfold oreplay at h
        split at h
        · rcases List.mem_append.1 h with h | h
          · exact .inl h
          · exact .inr ⟨m, by simp, by simpa using h⟩
        · split at h
          · exact .inl h
          · exact .inl h
      · exact .inr ⟨m', by simp [h1], h2⟩
  intro x hx
  rcases this ms ⟨[], []⟩ x hx with h | h
  · simp at h
  · exact h
theorem msg_src {m : Msg} (h : MsgOk m) : i64r m.src ∧ i64r m.id ∧ i64r m.rev := ⟨h.ints _ (by simp [Msg.ints]), h.ints _ (by simp [Msg.ints]), h.ints _ (by simp [Msg.ints])⟩
theorem OrcMs.iss {ms : List Msg} {room : Int} (h : OrcMs ms room) : ∀ x ∈ (oopen ms).iss, i64r x.src ∧ i64r x.id ∧ i64r x.rev := by
  intro x hx
  obtain ⟨m, hm, rfl⟩ := oopen_from ms x hx
  exact msg_src (h.good m hm).ok
theorem OrcMs.last {ms : List Msg} {room : Int} (h : OrcMs ms room) : 0 ≤ olast (oopen ms) ∧ olast (oopen ms) ≤ 9223372036854775807 := by
  refine ⟨olast_nonneg (oopen_ok ms), ?_⟩
  unfold olast
  cases hl : (oopen ms).iss.getLast? with
  | none => simp
  | some y =>
    have := (h.iss y (List.mem_of_getLast? hl)).2.2
    unfold i64r at this
    simp
    omega
end Go.Proofs.Ytckdkbjobipniaa
