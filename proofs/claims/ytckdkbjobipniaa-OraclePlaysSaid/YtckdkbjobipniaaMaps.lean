/- A map of one's own, as a function from keys to values. -/
import Derived.Test.YtckdkbjobipniaaBA
import Derived.Maps.OwnSet
set_option linter.unusedVariables false
set_option linter.unusedSimpArgs false
namespace Go.Proofs.Ytckdkbjobipniaa
open Go.RowKit Go.Maps Go.ChangeMaps Go.MapKept Go.Proofs.YtckdkbjobipniaaW.PrintWords
open Go.WideElems (Fit rd rg pl rd_val elemAt)
open Classical in
noncomputable def putF (g : Lit → Option Value) (kl : Lit) (v : Value) : Lit → Option Value := fun x => if x = kl then some v else g x
open Classical in
theorem putF_same (g : Lit → Option Value) (kl : Lit) (v : Value) : putF g kl v kl = some v := by simp [putF]
theorem putF_other (g : Lit → Option Value) (kl x : Lit) (v : Value) (h : x ≠ kl) : putF g kl v x = g x := by simp [putF, h]
def noF : Lit → Option Value := fun _ => none

/-- An element read as itself. -/
def valR : Value → Option (DataW Value × List MemPlace) := fun v => some (.held v, [])
/-- A datum seen as a function, with how many keys there are. -/
def View (D : DataW Value) (g : Lit → Option Value) (n : Nat) : Prop := Maps.size D = n ∧ ∀ kl, Maps.has D kl = (g kl).isSome ∧ ∀ z, D.atKey kl z = ((g kl).map DataW.held).getD z
theorem View.empty : View (.map []) noF 0 := ⟨rfl, fun kl => ⟨rfl, fun z => rfl⟩⟩
theorem View.put {D : DataW Value} {g : Lit → Option Value} {n : Nat} (h : View D g n) (ht : Tidy D) {kl : Lit} (hk : WideAt.IsKeyLit kl) (v : Value) : View (D.put kl (.held v)) (putF g kl v) (if (g kl).isSome then n else n + 1) := by
  obtain ⟨h1, h2⟩ := h
  refine ⟨?_, fun x => ?_⟩
  · rw [size_put ht, (h2 kl).1, h1]
  · by_cases e : x = kl
    · subst e
      rw [putF_same, has_put_same ht.isMap hk]
      exact ⟨rfl, fun z => by rw [atKey_put_same ht.isMap hk]; rfl⟩
    · rw [putF_other _ _ _ _ e, has_put_other e]
      exact ⟨(h2 x).1, fun z => by rw [atKey_put_other e]; exact (h2 x).2 z⟩
/-- Block b is a map that holds just what g says, at n keys. -/
def mapHP (P : Program) (k : TypeId) (b : Nat) (g : Lit → Option Value) (n : Nat) : HP := fun h => ∃ es clock, blk b (.map es clock) h ∧ Fit P k valR es clock ∧ View (.map ((es.toList.map (rg P k valR)).foldr DataW.insert [])) g n
section
variable {P : Program} {k t e : TypeId} {b n : Nat} {g : Lit → Option Value} {w w0 : World} {F : HP}
theorem map_own (h : Hw w0 w (mapHP P k b g n * F)) : ∃ D, w.ownsMap P k valR b n D ∧ View D g n := by
  obtain ⟨hb0, x, ⟨h1, h2, hd, hj, ⟨es, clock, hb, hF, hV⟩, hq⟩, hw⟩ := h
  have hbk : (x b) = some (.map es clock) := by
    have h1b := hb b
    simp only [if_true] at h1b
    rw [hj b, h1b]; rfl
  refine ⟨_, ⟨es, clock, (hw b _ hbk).2, hF, ?_, rfl⟩, hV⟩
  have := hV.1
  rw [size_eq, length_read] at this
  omega
theorem map_blk (h : Hw w0 w (mapHP P k b g n * F)) : ∃ es clock, Hw w0 w (blk b (.map es clock) * F) := by
  obtain ⟨hb0, x, ⟨h1, h2, hd, hj, ⟨es, clock, hb, hF, hV⟩, hq⟩, hw⟩ := h
  exact ⟨es, clock, hb0, x, ⟨h1, h2, hd, hj, hb, hq⟩, hw⟩
theorem map_back (h : Hw w0 w (mapHP P k b g n * F)) {w' : World} (hg : w.grownBy w' (some b)) {m : Nat} {D' : DataW Value} {g' : Lit → Option Value} {n' : Nat} (ho : w'.ownsMap P k valR b m D') (hv : View D' g' n') : Hw w0 w' (mapHP P k b g' n' * F) := by
  obtain ⟨es, clock, hb⟩ := map_blk h
  obtain ⟨es', clock', hb', hF, _, rfl⟩ := ho
  have h2 := hb.turn (o' := .map es' clock') hg.os hg.tape hg.output hg.size (fun i hi hne => hg.block i hi (by simpa using hne)) hb'
  obtain ⟨hb0, x, ⟨h1, h2, hd, hj, hp, hq⟩, hw⟩ := h2
  exact ⟨hb0, x, ⟨h1, h2, hd, hj, ⟨es', clock', hp, hF, hv⟩, hq⟩, hw⟩
theorem map_made (h : Hw w0 w F) : Hw w0 (w.alloc (.map #[] 0)) (mapHP P k w.heap.size noF 0 * F) := by
  obtain ⟨hb0, x, ⟨h1, h2, hd, hj, hp, hq⟩, hw⟩ := h.alloc (.map #[] 0)
  exact ⟨hb0, x, ⟨h1, h2, hd, hj, ⟨#[], 0, hp, ⟨by simp, stamped_empty 0, by simp⟩, View.empty⟩, hq⟩, hw⟩
/-- 'm[k]'. -/
theorem map_look (h : Hw w0 w (mapHP P k b g n * F)) (K : Keyed P k) (ht : P.underlying t = some (.map k e)) {z : Value} (hz : (zeroValue e).run P w = .ok z w) {key : Value} {kl : Lit} (hkey : keyOf P k key = some kl) :
    (Instr.lookup t (.map (some b)) key false).run P w = .ok ((g kl).getD z) w := by
  obtain ⟨D, ho, hv⟩ := map_own h
  obtain ⟨v, ps, hrun, hR⟩ := ho.lookup K ht hz (zd := .held z) (zp := []) rfl hkey
  rw [hrun]
  simp only [valR, Option.some.injEq, Prod.mk.injEq] at hR
  rw [(hv.2 kl).2] at hR
  have h1 := hR.1
  cases hg : g kl with
  | none => rw [hg] at h1; simp only [Option.map_none, Option.getD_none, DataW.held.injEq] at h1; subst h1; rfl
  | some y => rw [hg] at h1; simp only [Option.map_some, Option.getD_some, DataW.held.injEq] at h1; subst h1; rfl
/-- 'v, ok := m[k]'. -/
theorem map_look_ok (h : Hw w0 w (mapHP P k b g n * F)) (K : Keyed P k) (ht : P.underlying t = some (.map k e)) {z : Value} (hz : (zeroValue e).run P w = .ok z w) {key : Value} {kl : Lit} (hkey : keyOf P k key = some kl) :
    (Instr.lookup t (.map (some b)) key true).run P w = .ok (.tuple #[(g kl).getD z, .bool (g kl).isSome]) w := by
  obtain ⟨D, ho, hv⟩ := map_own h
  obtain ⟨v, ps, hrun, hR⟩ := ho.look_ok K ht hz (zd := .held z) (zp := []) rfl hkey
  rw [hrun, (hv.2 kl).1]
  simp only [valR, Option.some.injEq, Prod.mk.injEq] at hR
  rw [(hv.2 kl).2] at hR
  have h1 := hR.1
  cases hg : g kl with
  | none => rw [hg] at h1; simp only [Option.map_none, Option.getD_none, DataW.held.injEq] at h1; subst h1; rfl
  | some y => rw [hg] at h1; simp only [Option.map_some, Option.getD_some, DataW.held.injEq] at h1; subst h1; rfl
/-- 'm[k] = v'. -/
theorem map_put (h : Hw w0 w (mapHP P k b g n * F)) (K : Keyed P k) (ht : P.underlying t = some (.map k e)) (hn : n < maxLen) {key : Value} (val : Value) {kl : Lit} (hkey : keyOf P k key = some kl) :
    ∃ w', (Instr.mapUpdate t (.map (some b)) key val).run P w = .ok () w' ∧ Hw w0 w' (mapHP P k b (putF g kl val) (if (g kl).isSome then n else n + 1) * F) := by
  obtain ⟨D, ho, hv⟩ := map_own h
  obtain ⟨w', hrun, ho', hg⟩ := ho.update K ht hn hkey (val := val) (d := .held val) (ps := []) rfl
  exact ⟨w', hrun, map_back h hg ho' (hv.put (ho.tidy K) (K.key hkey) val)⟩
end
end Go.Proofs.Ytckdkbjobipniaa
