/- The small bench of the network's statements answers true. -/
import Derived.Test.YtenblkbieaadnaaNetC
set_option linter.unusedVariables false
set_option linter.unusedSimpArgs false
namespace Go.Proofs.Ytenblkbieaadnaa
open Go.RowKit Go.Proofs.YtenblkbieaadnaaW.PrintWords
set_option maxHeartbeats 1600000 in
set_option maxRecDepth 100000 in
theorem nawake_ok {w0 w : World} {F : HP} (h : Hw w0 w F) :
    Calls Try.prog 18 #[] w fun e w' => e = .returned (.bool true) ∧ Hw w0 w' F := by
  have kc := conv_const (P := Try.prog) 56 5 Try.underlying56 Try.underlying5
  go_enter Try.func18, Try.ntmps18
  go_wp2_with fail
  refine (nnew_ok 2 (by omega) (by omega) h).mono ?_
  rintro e w1 ⟨p, rfl, h1⟩
  have H1 := Aside0.mk h1
  clear h h1
  go_wp2_with fail
  have hA := H1.out.alloc (.cells #[.int .u8 97] 5 (1, 2))
  refine (nsend_ok p 2 [] 0 1 _ 1 1 [97] (by omega) (by omega) (by omega) (by omega) (by decide) (by omega) (by omega) (hA.as (Q := net p 2 [] * (blk w1.heap.size (.cells #[.int .u8 97] 5 (1, 2)) * F)) (by ac_rfl)) (C_blk (enc := Value.int .u8) (xs := [97]) (by decide) hA.blk_at.1)).mono ?_
  rintro e w2 ⟨rfl, h2⟩
  have H2 := Aside0.mk (h2.as (Q := net p 2 [(0, 1, [97])] * F * blk w1.heap.size (.cells #[.int .u8 97] 5 (1, 2))) (by
    show net p 2 [(0, 1, [97])] * _ = _
    ac_rfl)).left
  clear h2 H1 hA
  go_wp2_with fail
  have hA := H2.out.alloc (.cells #[.int .u8 98] 5 (1, 2))
  refine (nsend_ok p 2 [(0, 1, [97])] 1 0 _ 1 1 [98] (by omega) (by omega) (by omega) (by omega) (by decide) (by omega) (by omega) (hA.as (Q := net p 2 [(0, 1, [97])] * (blk w2.heap.size (.cells #[.int .u8 98] 5 (1, 2)) * F)) (by ac_rfl)) (C_blk (enc := Value.int .u8) (xs := [98]) (by decide) hA.blk_at.1)).mono ?_
  rintro e w3 ⟨rfl, h3⟩
  have H3 := Aside0.mk (h3.as (Q := net p 2 [(0, 1, [97]), (1, 0, [98])] * F * blk w2.heap.size (.cells #[.int .u8 98] 5 (1, 2))) (by
    show net p 2 [(0, 1, [97]), (1, 0, [98])] * _ = _
    ac_rfl)).left
  clear h3 H2 hA
  go_wp2_with fail
  refine (ndeliver_ok p 2 [(0, 1, [97]), (1, 0, [98])] 1 (by decide) (by decide) H3.out).mono ?_
  rintro e w4 ⟨f, t, A, n, c, xs, rfl, hp, hn, hc, h4⟩
  have hq := hp.out
  simp only [List.getElem?_cons_succ, List.getElem?_cons_zero, Option.some.injEq, Prod.mk.injEq] at hq
  obtain ⟨rfl, rfl, rfl⟩ := hq
  have hn : n = 1 := hn
  subst hn
  have H4 := Aside0.mk (h4.alloc (.cells #[.int .i64 1, .int .i64 0, .slice A 1 c] 58))
  have hs := (H4.out.right).row_string Try.underlying56 Try.underlying5 Try.underlying9
  have hs' : strOfNums [98] = ⟨#[98]⟩ := rfl
  rw [hs'] at hs
  clear hs'
  have H5 := Aside0.mk H4.out.right.right
  clear h4 H3 hp kc hc hn
  go_wp2_with fail
  refine (nlen_ok p 2 [(0, 1, [97])] 1 rfl H5.out).mono ?_
  rintro e w5 ⟨rfl, rfl⟩
  go_wp2_with fail
  go_ret
  exact ⟨rfl, H5.out.right⟩
end Go.Proofs.Ytenblkbieaadnaa
