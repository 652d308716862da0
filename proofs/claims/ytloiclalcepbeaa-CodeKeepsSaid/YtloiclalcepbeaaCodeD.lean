/- What Decode gives, as a message's lists. -/
import Derived.Test.YtloiclalcepbeaaCodeZ
set_option linter.unusedVariables false
namespace Go.Proofs.Ytloiclalcepbeaa
open Go.RowKit Go.Proofs.YtloiclalcepbeaaW.PrintWords
theorem msgC_of {w0 w : World} {F : HP} {m : Msg} {t1 t2 t3 t4 : Hdr} (hh : HdrsOf m t1 t2 t3 t4) (h : Hw w0 w (listsP m.nodes m.muts m.pre m.rows t1 t2 t3 t4 * F)) : MsgC w m t1 t2 t3 t4 := by
  have l1 := hh.l1
  have l2 := hh.l2
  have l3 := hh.l3
  have l4 := hh.l4
  unfold listsP at h
  refine ⟨?_, ?_, ?_, ?_⟩
  · exact crow_C (d := Kd.int .i64) intC (fun _ _ => rfl) (by decide) (h.as (by ac_rfl : _ = crow 1 3 t1.1 t1.2.1 t1.2.2 (m.nodes.flatMap intC) * (crow 4 83 t2.1 t2.2.1 t2.2.2 (m.muts.flatMap mutC) * (crow 4 91 t3.1 t3.2.1 t3.2.2 (m.pre.flatMap mutC) * (crow 5 93 t4.1 t4.2.1 t4.2.2 (m.rows.flatMap rowC) * F))))) l1.1.symm (by omega)
  · exact crow_C (d := KMut) mutC KMut_mk (by decide) (h.as (by ac_rfl : _ = crow 4 83 t2.1 t2.2.1 t2.2.2 (m.muts.flatMap mutC) * (crow 1 3 t1.1 t1.2.1 t1.2.2 (m.nodes.flatMap intC) * (crow 4 91 t3.1 t3.2.1 t3.2.2 (m.pre.flatMap mutC) * (crow 5 93 t4.1 t4.2.1 t4.2.2 (m.rows.flatMap rowC) * F))))) l2.1.symm (by omega)
  · exact crow_C (d := KMut) mutC KMut_mk (by decide) (h.as (by ac_rfl : _ = crow 4 91 t3.1 t3.2.1 t3.2.2 (m.pre.flatMap mutC) * (crow 1 3 t1.1 t1.2.1 t1.2.2 (m.nodes.flatMap intC) * (crow 4 83 t2.1 t2.2.1 t2.2.2 (m.muts.flatMap mutC) * (crow 5 93 t4.1 t4.2.1 t4.2.2 (m.rows.flatMap rowC) * F))))) l3.1.symm (by omega)
  · exact crow_C (d := KRow) rowC KRow_mk (by decide) (h.as (by ac_rfl : _ = crow 5 93 t4.1 t4.2.1 t4.2.2 (m.rows.flatMap rowC) * (crow 1 3 t1.1 t1.2.1 t1.2.2 (m.nodes.flatMap intC) * (crow 4 83 t2.1 t2.2.1 t2.2.2 (m.muts.flatMap mutC) * (crow 4 91 t3.1 t3.2.1 t3.2.2 (m.pre.flatMap mutC) * F))))) l4.1.symm (by omega)
end Go.Proofs.Ytloiclalcepbeaa
