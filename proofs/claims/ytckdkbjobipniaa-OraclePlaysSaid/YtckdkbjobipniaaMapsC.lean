/- 'm[k], x = v, y': the entry made first, its value stored later; a key that is not there yet. -/
import Derived.Test.YtckdkbjobipniaaMaps
import Derived.WideKeyEntry
set_option linter.unusedVariables false
set_option linter.unusedSimpArgs false
namespace Go.Proofs.Ytckdkbjobipniaa
open Go.RowKit Go.Maps Go.ChangeMaps Go.MapKept Go.Proofs.YtckdkbjobipniaaW.PrintWords
open Go.WideElems (Fit rd rg pl rd_val elemAt findIdx_born findIdx_arr modify_last)
section
variable {P : Program} {k t e : TypeId} {b n : Nat} {g : Lit → Option Value} {w w0 : World} {F : HP}
theorem set_turn {w0 w : World} {F : HP} {b : Nat} {o o' : Obj} (h : Hw w0 w (blk b o * F)) : Hw w0 (setBlock w b o') (blk b o' * F) := by
  have hb := h.blk_at.1
  have hl := (Array.getElem?_eq_some_iff.1 hb).1
  refine h.turn rfl rfl rfl (by simp [setBlock]) (fun i hi hne => ?_) ?_
  · simp [setBlock, Array.getElem?_setIfInBounds, Ne.symm hne]
  · simp [setBlock, Array.getElem?_setIfInBounds, hl]
theorem map_entry (h : Hw w0 w (mapHP P k b g n * F)) (K : Keyed P k) (ht : P.underlying t = some (.map k e)) {z : Value} (hz : ∀ u : World, (zeroValue e).run P u = .ok z u) (hn : n < maxLen) {key : Value} {kl : Lit} (hkey : keyOf P k key = some kl) (hno : g kl = none) :
    ∃ (st : Int) (w1 : World) (o1 : Obj), (Instr.mapEntry t (.map (some b)) key).run P w = .ok (.tuple #[z, .int .i64 st]) w1 ∧ Hw w0 w1 (blk b o1 * F) ∧
      ∀ (w2 : World) (F2 : HP) (val : Value), Hw w0 w2 (blk b o1 * F2) → ∃ w3, (Instr.entryStore t (.map (some b)) (.int .i64 st) val).run P w2 = .ok () w3 ∧ Hw w0 w3 (mapHP P k b (putF g kl val) (n + 1) * F2) := by
  have hlk := map_look_ok h K ht (hz w) hkey
  rw [hno] at hlk
  obtain ⟨es, clock, hb, hF⟩ : ∃ es clock, Hw w0 w (blk b (.map es clock) * F) ∧ Fit P k valR es clock := by
    obtain ⟨hb0, x, ⟨h1, h2, hd, hj, ⟨es, clock, hbb, hF, hV⟩, hq⟩, hw⟩ := h
    exact ⟨es, clock, ⟨hb0, x, ⟨h1, h2, hd, hj, hbb, hq⟩, hw⟩, hF⟩
  have hbk := hb.blk_at.1
  obtain ⟨s1, s2, _⟩ := hF.stamped
  rcases K.find w hkey es.toList hF.keys with ⟨h1, h2⟩ | ⟨j, e0, h1, h2, h3⟩
  · refine ⟨clock, setBlock w b (.map (es.push ⟨key, z, clock⟩) (clock + 1)), .map (es.push ⟨key, z, clock⟩) (clock + 1), ?_, set_turn hb, fun w2 F2 val hw2 => ?_⟩
    · simp [Instr.mapEntry, run_underlying ht, MapKept.run_getObj_map hbk, K.check w false hkey, h1, hz, MapKept.run_setObj_map _ hbk, Result.andThen, setBlock, goInt]
    · have hb2 := hw2.blk_at.1
      have hidx : (es.push ⟨key, z, clock⟩).findIdx? (fun e => ((e.born : Nat) : Int) == ((clock : Nat) : Int)) = some es.size := by
        rw [findIdx_arr]
        refine findIdx_born (l := (es.push ⟨key, z, clock⟩).toList) (j := es.size) (e0 := ⟨key, z, clock⟩) ?_ (by simp)
        rw [Array.toList_push, List.map_append]
        refine List.nodup_append.2 ⟨s2, by simp, fun a ha c hc e1 => ?_⟩
        obtain ⟨x, hx, rfl⟩ := List.mem_map.1 ha
        have h9 := s1 x hx
        simp at hc
        omega
      have hmod : (es.push ⟨key, z, clock⟩).modify es.size (fun e => { e with val := val }) = es.push ⟨key, val, clock⟩ := by
        apply Array.ext'
        rw [Array.toList_modify, Array.toList_push, Array.toList_push, ← Array.length_toList, modify_last]
      obtain ⟨w4, hrun, h4⟩ := map_put h K ht hn val hkey
      rw [hno] at h4
      have hup : (Instr.mapUpdate t (.map (some b)) key val).run P w = .ok () (setBlock w b (.map (es.push ⟨key, val, clock⟩) (clock + 1))) := by
        simp [Instr.mapUpdate, run_underlying ht, MapKept.run_getObj_map hbk, K.check w false hkey, h1, MapKept.run_setObj_map _ hbk, Result.andThen, setBlock]
      rw [hup] at hrun
      injection hrun with _ hw4
      subst hw4
      refine ⟨setBlock w2 b (.map (es.push ⟨key, val, clock⟩) (clock + 1)), ?_, ?_⟩
      · simp [Instr.entryStore, MapKept.run_getObj_map hb2, asInt, asIntOf, goInt, hidx, hmod, MapKept.run_setObj_map _ hb2, Result.andThen, setBlock]
      · obtain ⟨gb, x, ⟨x1, x2, xd, xj, ⟨es', clock', hbb, hF', hV'⟩, hq⟩, hw⟩ := h4
        have hx : x b = some (.map es' clock') := by
          have := hbb b
          rw [if_pos rfl] at this
          rw [xj b, this]; rfl
        have hl := (Array.getElem?_eq_some_iff.1 hbk).1
        have h8 := (hw b _ hx).2
        simp only [setBlock, Array.getElem?_setIfInBounds, hl, if_true] at h8
        injection h8 with h8
        injection h8 with e1 e2
        subst e1
        subst e2
        have h7 := set_turn (o' := .map (es.push ⟨key, val, clock⟩) (clock + 1)) hw2
        obtain ⟨gb2, y, ⟨y1, y2, yd, yj, hyb, hyq⟩, hyw⟩ := h7
        exact ⟨gb2, y, ⟨y1, y2, yd, yj, ⟨_, _, hyb, hF', by simpa using hV'⟩, hyq⟩, hyw⟩
  · exfalso
    have hj : es[j]? = some e0 := by simpa using h2
    simp [Instr.lookup, run_underlying ht, MapKept.run_getObj_map hbk, K.check w es.isEmpty hkey, h1, hz, Result.andThen] at hlk
end
end Go.Proofs.Ytckdkbjobipniaa
