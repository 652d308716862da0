/- FrameAffine's walk. -/
import Derived.Test.YtehbchggekbkkaaFrameAwake
import Derived.Test.YtehbchggekbkkaaRefFrame
import Derived.Test.YtehbchggekbkkaaWFour
set_option linter.unusedVariables false
set_option linter.unusedSimpArgs false
namespace Go.Proofs.Ytehbchggekbkkaa
open Go.RowKit Go.Proofs.YtehbchggekbkkaaW.PrintWords Go.Proofs.YtehbchggekbkkaaW.PrintLast
theorem mn_three (ats : Array TypeId) (ty : TypeId) (a b c : Value) : Builtin.min_ ats ty #[a, b, c] = (Builtin.min2 a b >>= fun s => Builtin.min2 s c >>= fun t => pure t) := by simp only [Builtin.min_, List.foldlM_cons, List.foldlM_nil]
theorem xor3_eq (a b c : Int) (ha : 0 ≤ a ∧ a ≤ 255) (hb : 0 ≤ b ∧ b ≤ 255) (hc : 0 ≤ c ∧ c ≤ 255) : Go.bits .xor .u8 (Go.bits .xor .u8 a b) c = xor3 a b c := by
  have key : ∀ x y : BitVec 8, Go.bits .xor .u8 (x.toNat : Int) (y.toNat : Int) = ((x ^^^ y).toNat : Int) := by
    intro x y
    simp only [Go.bits, BitVec.ofInt_natCast]
    have e : ∀ x : BitVec 8, BitVec.ofNat IntKind.u8.bits x.toNat = x := fun x => BitVec.ofNat_toNat (m := 8) x
    rw [e x, e y, IntKind.wrap_u8]
    show ((x ^^^ y : BitVec 8).toNat : Int) % 256 = ((x ^^^ y : BitVec 8).toNat : Int)
    have := (x ^^^ y : BitVec 8).isLt
    omega
  have cast : ∀ x : Int, 0 ≤ x ∧ x ≤ 255 → x = ((BitVec.ofInt 8 x).toNat : Int) := by
    intro x hx
    rw [BitVec.toNat_ofInt]
    omega
  unfold xor3
  rw [← key, ← key, ← cast a ha, ← cast b hb, ← cast c hc]
theorem xor3_range (a b c : Int) : 0 ≤ xor3 a b c ∧ xor3 a b c ≤ 255 := by
  unfold xor3
  have := (BitVec.ofInt 8 a ^^^ BitVec.ofInt 8 b ^^^ BitVec.ofInt 8 c).isLt
  omega
theorem zip3_at (l bs cs : List Int) (i : Nat) (a b c : Int) (ha : l[i]? = some a) (hb : bs[i]? = some b) (hc : cs[i]? = some c) : (zip3 l bs cs)[i]? = some (xor3 a b c) := by
  induction l generalizing bs cs i with
  | nil => simp at ha
  | cons a' l ih =>
    cases bs with
    | nil => simp at hb
    | cons b' bs =>
      cases cs with
      | nil => simp at hc
      | cons c' cs =>
        cases i with
        | zero =>
          simp only [List.getElem?_cons_zero, Option.some.injEq] at ha hb hc
          subst ha; subst hb; subst hc; rfl
        | succ i =>
          simp only [List.getElem?_cons_succ] at ha hb hc
          simp only [zip3, List.getElem?_cons_succ]
          exact ih bs cs i ha hb hc
theorem zip3_len (l bs cs : List Int) : (zip3 l bs cs).length = min l.length (min bs.length cs.length) := by
  induction l generalizing bs cs with
  | nil => simp [zip3]
  | cons a l ih =>
    cases bs with
    | nil => simp [zip3]
    | cons b bs =>
      cases cs with
      | nil => simp [zip3]
      | cons c cs => simp [zip3, ih]
/-- One slice, in a list of its own. -/
def OneC (w : World) (g : Nat) (xs : List Int) : Prop := (Kd.slice 5 (Kd.int .u8)).C w (some ⟨g, 0, none⟩) 1 [xs]
theorem oneC_alloc {w : World} {g : Nat} {xs : List Int} (h : OneC w g xs) (o : Obj) : OneC (w.alloc o) g xs := Kd.C_below h ((Below.refl _ _).alloc (Nat.le_refl _) _)
theorem oneC_new {w : World} {A : Option Addr} {n c : Nat} {xs : List Int} (h : (Kd.int .u8).C w A n xs) (hc : n ≤ c) : OneC (w.alloc (.cells #[.slice A n c] 31)) w.heap.size xs :=
  C_lit1 (d := Kd.int .u8) (e := 5) (x := xs) (heap_alloc_new w _) h.1.symm hc (Kd.C_below h ((Below.refl _ _).alloc (Nat.le_refl _) _))
theorem oneC_sum {w : World} {g : Nat} {xs : List Int} (h : OneC w g xs) : Calls Try.prog 25 #[.slice (some ⟨g, 0, none⟩) 1 1] w fun e w' => e = .returned (.int .u32 ((crc xs).toNat : Int)) ∧ w' = w := by
  have := fsum_ok w _ 1 1 [xs] h
  rwa [show ([xs] : List (List Int)).flatten = xs by simp] at this
set_option maxHeartbeats 6400000 in
set_option maxRecDepth 100000 in
theorem frameAffine_ok (A B D : Option Addr) (na nb nc ca cb cc : Nat) (xs ys zs : List Int) (w : World) (hA : (Kd.int .u8).C w A na xs) (hB : (Kd.int .u8).C w B nb ys) (hD : (Kd.int .u8).C w D nc zs) (hca : na ≤ ca) (hcb : nb ≤ cb) (hcc : nc ≤ cc)
    (hn : na ≤ 140737488355328 ∧ nb ≤ 140737488355328 ∧ nc ≤ 140737488355328) (hxs : isB xs) (hys : isB ys) (hzs : isB zs) :
    Calls Try.prog 8 #[.slice A na ca, .slice B nb cb, .slice D nc cc] w fun e w' => e = .returned (.bool true) ∧ Below w.heap.size w w' := by
  obtain ⟨n, hmin, hn1, hn2, hn3⟩ : ∃ n : Nat, (∀ (ats : Array TypeId) (ty : TypeId), Builtin.min_ ats ty #[.int .i64 na, .int .i64 nb, .int .i64 nc] = pure (.int .i64 (n : Nat))) ∧ n ≤ na ∧ n ≤ nb ∧ n ≤ nc := by
    refine ⟨min (min na nb) nc, fun ats ty => ?_, by omega, by omega, by omega⟩
    rw [mn_three, mn2_int]
    have e : (if ((nb : Nat) : Int) < na then ((nb : Nat) : Int) else (na : Int)) = ((min na nb : Nat) : Int) := by split <;> omega
    rw [e, pure_bind, mn2_int]
    have e : (if ((nc : Nat) : Int) < ((min na nb : Nat) : Int) then ((nc : Nat) : Int) else ((min na nb : Nat) : Int)) = ((min (min na nb) nc : Nat) : Int) := by split <;> omega
    rw [e, pure_bind]
  obtain ⟨hna, hnb, hnc⟩ := hn
  have XA := Aside0.mk hA
  have XB := Aside0.mk hB
  have XD := Aside0.mk hD
  have BX := Aside0.mk hxs
  have BY := Aside0.mk hys
  have BZ := Aside0.mk hzs
  clear hA hB hD hxs hys hzs
  go_enter Try.func8, Try.ntmps8
  go_wp2_with fail
  refine (fawake_ok (Hw.start w)).mono ?_
  rintro e w1 ⟨rfl, h1⟩
  have H1 := Aside0.mk h1
  clear h1
  go_wp2_with (refine Hw.make_int (k := .u8) rfl 31 5 _ _ rfl 1 Try.underlying31 Try.finfoU8 (by decide) n n rfl (by omega) rfl rfl H1.out ?_; intro g w2 H2)
  clear hmin H1
  go_loopw [23] (fun i wr => ∃ k : Nat, k ≤ n ∧ i = .int .i64 k ∧ Aside0 (Hw w wr (row (Kd.int .u8) 5 (.slice (some ⟨g, 0, none⟩) n n) (fillTo k ((zip3 xs ys zs).take n) (List.replicate n 0)) * HP.emp))) (fun i _ => n - (intOf i).toNat)
  case atStart => exact ⟨0, Nat.zero_le _, rfl, ⟨by rw [fillTo_zero]; exact H2.out⟩⟩
  case round =>
    obtain ⟨k, hk, rfl, HW⟩ := hrel
    clear H2
    have ZL := Aside0.mk (show ((zip3 xs ys zs).take n).length = n by rw [List.length_take, zip3_len, XA.out.1, XB.out.1, XD.out.1]; omega)
    by_cases hlt : k < n
    · obtain ⟨ad, x, rfl, hcx, hx⟩ := C_scalar_at (enc := Value.int .u8) (h1 := fun _ => rfl) (Kd.C_below XA.out HW.out.below) k (by omega)
      obtain ⟨bd, y, rfl, hcy, hy⟩ := C_scalar_at (enc := Value.int .u8) (h1 := fun _ => rfl) (Kd.C_below XB.out HW.out.below) k (by omega)
      obtain ⟨dd, z, rfl, hcz, hz⟩ := C_scalar_at (enc := Value.int .u8) (h1 := fun _ => rfl) (Kd.C_below XD.out HW.out.below) k (by omega)
      have bx := BX.out x (List.mem_of_getElem? hx.out)
      have hby := BY.out y (List.mem_of_getElem? hy.out)
      have bz := BZ.out z (List.mem_of_getElem? hz.out)
      have h3 := xor3_eq x y z bx hby bz
      obtain ⟨t, ht⟩ : ∃ t, t = xor3 x y z := ⟨_, rfl⟩
      rw [← ht] at h3
      have hzat : ((zip3 xs ys zs).take n)[k]? = some t := by
        rw [List.getElem?_take_of_lt hlt, ht]
        exact zip3_at xs ys zs k x y z hx.out hy.out hz.out
      obtain ⟨v, hv⟩ := fillTo_at k ((zip3 xs ys zs).take n) (List.replicate n 0) (by rw [ZL.out]; simp) (by simpa using hlt)
      obtain ⟨ad2, e1, hcd, hfd, hput⟩ := HW.out.row_int_at k v hv
      injection e1 with e1
      subst e1
      rw [add_plain] at hcd hfd
      have hput2 := hput.out t _ (fillTo_set k ((zip3 xs ys zs).take n) (List.replicate n 0) t (by rw [ZL.out]; simp) hzat)
      rw [add_plain] at hput2
      have HP2 := Aside0.mk hput2
      clear hput hput2 HW hv hzat ht bx hby bz hx hy hz
      have b1 : (k : Int) < na := by omega
      have b2 : (k : Int) < nb := by omega
      have b3 : (k : Int) < nc := by omega
      have b4 : (k : Int) < n := by omega
      go_wp2_with fail
      refine start_ (n := 18) (S := fun w' => w'.cell? (ad.add k) = some (.int .u8 x) ∧ w'.cell? (bd.add k) = some (.int .u8 y) ∧ w'.cell? (dd.add k) = some (.int .u8 z)) (ds := [17]) #[false, false, false, false, false, false, false, false, false, false, false, false, false, false, false, false, false, false] (by kernel_rfl) rfl rfl ⟨hcx, hcy, hcz⟩ (fun hHeld => ?_)
      refine pure_ (i := 0) (N := some 26) (v := ?_) (a' := ?_) #[true, false, false, false, false, false, false, false, false, false, false, false, false, false, false, false, false, false] rfl rfl (by kernel_rfl) (fun _ _ _ h => h) (Or.inl ⟨by rfl, ?_⟩) ?_ ?_
      rotate_left
      · intro w'
        go_simp
        with_reducible rfl
      rotate_left
      · simp only [Act.put, List.setIfInBounds_toArray, List.set_cons_zero, List.set_cons_succ, i64_w, i32_w]
        rfl
      refine pure_ (i := 1) (N := some 27) (v := ?_) (a' := ?_) #[true, true, false, false, false, false, false, false, false, false, false, false, false, false, false, false, false, false] rfl rfl (by kernel_rfl) (fun _ _ _ h => h) (Or.inl ⟨by rfl, ?_⟩) ?_ ?_
      rotate_left
      · intro w'
        go_simp
        with_reducible rfl
      rotate_left
      · simp only [Act.put, List.setIfInBounds_toArray, List.set_cons_zero, List.set_cons_succ, i64_w, i32_w]
        rfl
      refine pure_ (i := 2) (N := some 28) (v := ?_) (a' := ?_) #[true, true, true, false, false, false, false, false, false, false, false, false, false, false, false, false, false, false] rfl rfl (by kernel_rfl) (fun _ _ _ h => h) (Or.inl ⟨by rfl, ?_⟩) ?_ ?_
      rotate_left
      · intro w'
        go_simp
        with_reducible rfl
      rotate_left
      · simp only [Act.put, List.setIfInBounds_toArray, List.set_cons_zero, List.set_cons_succ, i64_w, i32_w]
        rfl
      refine pure_ (i := 3) (N := some 29) (v := ?_) (a' := ?_) #[true, true, true, true, false, false, false, false, false, false, false, false, false, false, false, false, false, false] rfl rfl (by kernel_rfl) (fun _ _ _ h => h) (Or.inl ⟨by rfl, ?_⟩) ?_ ?_
      rotate_left
      · intro w'
        go_simp
        with_reducible rfl
      rotate_left
      · simp only [Act.put, List.setIfInBounds_toArray, List.set_cons_zero, List.set_cons_succ, i64_w, i32_w]
        rfl
      refine pure_ (i := 4) (N := some 30) (v := ?_) (a' := ?_) #[true, true, true, true, true, false, false, false, false, false, false, false, false, false, false, false, false, false] rfl rfl (by kernel_rfl) (fun _ _ _ h => h) (Or.inl ⟨by rfl, ?_⟩) ?_ ?_
      rotate_left
      · intro w'
        go_simp
        with_reducible rfl
      rotate_left
      · simp only [Act.put, List.setIfInBounds_toArray, List.set_cons_zero, List.set_cons_succ, i64_w, i32_w]
        rfl
      refine pure_ (i := 6) (N := some 32) (v := ?_) (a' := ?_) #[true, true, true, true, true, false, true, false, false, false, false, false, false, false, false, false, false, false] rfl rfl (by kernel_rfl) (fun _ _ _ h => h) (Or.inl ⟨by rfl, ?_⟩) ?_ ?_
      rotate_left
      · intro w'
        go_simp
        with_reducible rfl
      rotate_left
      · simp only [Act.put, List.setIfInBounds_toArray, List.set_cons_zero, List.set_cons_succ, i64_w, i32_w]
        rfl
      refine pure_ (i := 7) (N := some 33) (v := ?_) (a' := ?_) #[true, true, true, true, true, false, true, true, false, false, false, false, false, false, false, false, false, false] rfl rfl (by kernel_rfl) (fun _ _ _ h => h) (Or.inl ⟨by rfl, ?_⟩) ?_ ?_
      rotate_left
      · intro w'
        go_simp
        with_reducible rfl
      rotate_left
      · simp only [Act.put, List.setIfInBounds_toArray, List.set_cons_zero, List.set_cons_succ, i64_w, i32_w]
        rfl
      refine pure_ (i := 8) (N := some 34) (v := ?_) (a' := ?_) #[true, true, true, true, true, false, true, true, true, false, false, false, false, false, false, false, false, false] rfl rfl (by kernel_rfl) (fun _ _ _ h => h) (Or.inl ⟨by rfl, ?_⟩) ?_ ?_
      rotate_left
      · intro w'
        go_simp
        with_reducible rfl
      rotate_left
      · simp only [Act.put, List.setIfInBounds_toArray, List.set_cons_zero, List.set_cons_succ, i64_w, i32_w]
        rfl
      refine pure_ (i := 11) (N := some 37) (v := ?_) (a' := ?_) #[true, true, true, true, true, false, true, true, true, false, false, true, false, false, false, false, false, false] rfl rfl (by kernel_rfl) (fun _ _ _ h => h) (Or.inl ⟨by rfl, ?_⟩) ?_ ?_
      rotate_left
      · intro w'
        go_simp
        with_reducible rfl
      rotate_left
      · simp only [Act.put, List.setIfInBounds_toArray, List.set_cons_zero, List.set_cons_succ, i64_w, i32_w]
        rfl
      refine pure_ (i := 12) (N := some 38) (v := ?_) (a' := ?_) #[true, true, true, true, true, false, true, true, true, false, false, true, true, false, false, false, false, false] rfl rfl (by kernel_rfl) (fun _ _ _ h => h) (Or.inl ⟨by rfl, ?_⟩) ?_ ?_
      rotate_left
      · intro w'
        go_simp
        with_reducible rfl
      rotate_left
      · simp only [Act.put, List.setIfInBounds_toArray, List.set_cons_zero, List.set_cons_succ, i64_w, i32_w]
        rfl
      refine pure_ (i := 13) (N := some 39) (v := ?_) (a' := ?_) #[true, true, true, true, true, false, true, true, true, false, false, true, true, true, false, false, false, false] rfl rfl (by kernel_rfl) (fun _ _ _ h => h) (Or.inl ⟨by rfl, ?_⟩) ?_ ?_
      rotate_left
      · intro w'
        go_simp
        with_reducible rfl
      rotate_left
      · simp only [Act.put, List.setIfInBounds_toArray, List.set_cons_zero, List.set_cons_succ, i64_w, i32_w]
        rfl
      refine take_ (i := 5) (N := some 31) (v := ?_) (a' := ?_) #[true, true, true, true, true, true, true, true, true, false, false, true, true, true, false, false, false, false] rfl rfl (by kernel_rfl) (fun _ _ _ h => h) (Or.inl ⟨by rfl, ?_⟩) hHeld ?_ ?_
      rotate_left
      · rintro w' ⟨s0, s1, s2⟩
        go_simp
        with_reducible rfl
      rotate_left
      · simp only [Act.put, List.setIfInBounds_toArray, List.set_cons_zero, List.set_cons_succ, i64_w, i32_w]
        rfl
      refine take_ (i := 9) (N := some 35) (v := ?_) (a' := ?_) #[true, true, true, true, true, true, true, true, true, true, false, true, true, true, false, false, false, false] rfl rfl (by kernel_rfl) (fun _ _ _ h => h) (Or.inl ⟨by rfl, ?_⟩) hHeld ?_ ?_
      rotate_left
      · rintro w' ⟨s0, s1, s2⟩
        go_simp
        with_reducible rfl
      rotate_left
      · simp only [Act.put, List.setIfInBounds_toArray, List.set_cons_zero, List.set_cons_succ, i64_w, i32_w]
        rfl
      refine pure_ (i := 10) (N := some 36) (v := ?_) (a' := ?_) #[true, true, true, true, true, true, true, true, true, true, true, true, true, true, false, false, false, false] rfl rfl (by kernel_rfl) (fun _ _ _ h => h) (Or.inl ⟨by rfl, ?_⟩) ?_ ?_
      rotate_left
      · intro w'
        go_simp
        with_reducible rfl
      rotate_left
      · simp only [Act.put, List.setIfInBounds_toArray, List.set_cons_zero, List.set_cons_succ, i64_w, i32_w]
        rfl
      refine take_ (i := 14) (N := some 40) (v := ?_) (a' := ?_) #[true, true, true, true, true, true, true, true, true, true, true, true, true, true, true, false, false, false] rfl rfl (by kernel_rfl) (fun _ _ _ h => h) (Or.inl ⟨by rfl, ?_⟩) hHeld ?_ ?_
      rotate_left
      · rintro w' ⟨s0, s1, s2⟩
        go_simp
        with_reducible rfl
      rotate_left
      · simp only [Act.put, List.setIfInBounds_toArray, List.set_cons_zero, List.set_cons_succ, i64_w, i32_w]
        rfl
      refine pure_ (i := 15) (N := some 41) (v := ?_) (a' := ?_) #[true, true, true, true, true, true, true, true, true, true, true, true, true, true, true, true, false, false] rfl rfl (by kernel_rfl) (fun _ _ _ h => h) (Or.inl ⟨by rfl, ?_⟩) ?_ ?_
      rotate_left
      · intro w'
        go_simp
        with_reducible rfl
      rotate_left
      · simp only [Act.put, List.setIfInBounds_toArray, List.set_cons_zero, List.set_cons_succ, i64_w, i32_w]
        rfl
      refine pure_ (i := 16) (N := some 42) (v := ?_) (a' := ?_) #[true, true, true, true, true, true, true, true, true, true, true, true, true, true, true, true, true, false] rfl rfl (by kernel_rfl) (fun _ _ _ h => h) (Or.inl ⟨by rfl, ?_⟩) ?_ ?_
      rotate_left
      · intro w'
        go_simp
        with_reducible rfl
      rotate_left
      · simp only [Act.put, List.setIfInBounds_toArray, List.set_cons_zero, List.set_cons_succ, i64_w, i32_w]
        rfl
      refine last_ (i := 17) (N := none) #[true, true, true, true, true, true, true, true, true, true, true, true, true, true, true, true, true, true] rfl rfl (by kernel_rfl) (by decide) (fun K hK => ?_)
      refine skip_ (w1 := ?_) (by rfl) rfl ?_ ?_
      rotate_left
      · go_simp
        rfl
      refine hK.out _ _ ?_
      clear hK K
      refine done_ (by kernel_rfl) ?_
      clear hHeld hcx hcy hcz hcd hfd h3
      go_wp2_with fail
      clear b1 b2 b3 b4
      go_roundw
      case rel => exact ⟨k + 1, by omega, by go_num, ⟨HP2.out.drew⟩⟩
      case measure => simp [intOf]; omega
    · have hk2 : k = n := by omega
      subst hk2
      rw [fillTo_all _ _ k ZL.out (by simp)] at HW
      clear hlt hk
      obtain ⟨inf, hinf, hiz0, hiz1, hiz2⟩ := info_parts Try.finfoU8
      obtain ⟨cut0, hC0⟩ := sl_take (Kd.int .u8) 31 5 Try.underlying31 hinf A na ca (k : Int) k rfl hn1 hca
      obtain ⟨cut1, hC1⟩ := sl_take (Kd.int .u8) 31 5 Try.underlying31 hinf B nb cb (k : Int) k rfl hn2 hcb
      obtain ⟨cut2, hC2⟩ := sl_take (Kd.int .u8) 31 5 Try.underlying31 hinf D nc cc (k : Int) k rfl hn3 hcc
      have hbel := HW.out.below
      obtain ⟨x0, hx0⟩ : ∃ x0, x0 = xs.take k := ⟨_, rfl⟩
      obtain ⟨x1, hx1⟩ : ∃ x1, x1 = ys.take k := ⟨_, rfl⟩
      obtain ⟨x2, hx2⟩ : ∃ x2, x2 = zs.take k := ⟨_, rfl⟩
      obtain ⟨x3, hx3⟩ : ∃ x3, x3 = (zip3 xs ys zs).take k := ⟨_, rfl⟩
      obtain ⟨W0, hW0⟩ : ∃ W0, W0 = wr := ⟨_, rfl⟩
      have PX0 := Aside0.mk (show ∀ w', Below W0.heap.size W0 w' → (Kd.int .u8).C w' A k x0 from fun w' hb => by rw [hW0] at hb; rw [hx0]; exact hC0 _ _ (Kd.C_below XA.out (hbel.trans (hb.mono hbel.size))))
      have PX1 := Aside0.mk (show ∀ w', Below W0.heap.size W0 w' → (Kd.int .u8).C w' B k x1 from fun w' hb => by rw [hW0] at hb; rw [hx1]; exact hC1 _ _ (Kd.C_below XB.out (hbel.trans (hb.mono hbel.size))))
      have PX2 := Aside0.mk (show ∀ w', Below W0.heap.size W0 w' → (Kd.int .u8).C w' D k x2 from fun w' hb => by rw [hW0] at hb; rw [hx2]; exact hC2 _ _ (Kd.C_below XD.out (hbel.trans (hb.mono hbel.size))))
      have PX3 := Aside0.mk (show ∀ w', Below W0.heap.size W0 w' → (Kd.int .u8).C w' (some ⟨g, 0, none⟩) k x3 from fun w' hb => by rw [hW0] at hb; rw [hx3]; exact Kd.C_below HW.out.row_C.2.2 hb)
      have hlaw := crc_xor3 x0 x1 x2 (by rw [hx0, hx1, List.length_take, List.length_take, XA.out.1, XB.out.1]; omega) (by rw [hx0, hx2, List.length_take, List.length_take, XA.out.1, XD.out.1]; omega)
        (by rw [hx0]; exact fun v hv => BX.out v (List.mem_of_mem_take hv)) (by rw [hx1]; exact fun v hv => BY.out v (List.mem_of_mem_take hv)) (by rw [hx2]; exact fun v hv => BZ.out v (List.mem_of_mem_take hv))
      rw [hx0, hx1, hx2, zip3_take, ← hx0, ← hx1, ← hx2, ← hx3] at hlaw
      obtain ⟨k0, hk0⟩ : ∃ k0 : Int, k0 = ((crc x0).toNat : Int) := ⟨_, rfl⟩
      obtain ⟨k1, hk1⟩ : ∃ k1 : Int, k1 = ((crc x1).toNat : Int) := ⟨_, rfl⟩
      obtain ⟨k2, hk2⟩ : ∃ k2 : Int, k2 = ((crc x2).toNat : Int) := ⟨_, rfl⟩
      obtain ⟨k3, hk3⟩ : ∃ k3 : Int, k3 = ((crc x3).toNat : Int) := ⟨_, rfl⟩
      have q : (Go.bits .xor .u32 (Go.bits .xor .u32 k0 k1) k2 == k3) = true := by
        rw [hk0, hk1, hk2, hk3, bxor32, bxor32, hlaw]; simp
      have SU0 := Aside0.mk (fun (w' : World) (g : Nat) (h : OneC w' g x0) => oneC_sum h)
      have SU1 := Aside0.mk (fun (w' : World) (g : Nat) (h : OneC w' g x1) => oneC_sum h)
      have SU2 := Aside0.mk (fun (w' : World) (g : Nat) (h : OneC w' g x2) => oneC_sum h)
      have SU3 := Aside0.mk (fun (w' : World) (g : Nat) (h : OneC w' g x3) => oneC_sum h)
      rw [← hk0] at SU0
      rw [← hk1] at SU1
      rw [← hk2] at SU2
      rw [← hk3] at SU3
      have hl0 : k ≤ ca := by omega
      have hl1 : k ≤ cb := by omega
      have hl2 : k ≤ cc := by omega
      have hl3 : k ≤ k := by omega
      have HF := Aside0.mk hbel
      clear hC0 hC1 hC2 hinf hiz0 hiz1 hiz2 hx0 hx1 hx2 hx3 hk0 hk1 hk2 hk3 hlaw hbel HW XA XB XD BX BY BZ ZL
      rw [hW0] at *
      clear hW0
      have hB : Below wr.heap.size wr wr.drew := (Below.refl _ _).drew
      go_wp2_with fail
      refine start_ (n := 22) (S := fun w' => True) (ds := []) #[false, false, false, false, false, false, false, false, false, false, false, false, false, false, false, false, false, false, false, false, false, false] (by kernel_rfl) rfl rfl trivial (fun hHeld => ?_)
      refine pure_ (i := 0) (N := some 44) (v := ?_) (a' := ?_) #[true, false, false, false, false, false, false, false, false, false, false, false, false, false, false, false, false, false, false, false, false, false] rfl rfl (by kernel_rfl) (fun _ _ _ h => h) (Or.inl ⟨by rfl, ?_⟩) ?_ ?_
      rotate_left
      · intro w'
        go_simp
        with_reducible rfl
      rotate_left
      · simp only [Act.put, List.setIfInBounds_toArray, List.set_cons_zero, List.set_cons_succ, i64_w, i32_w]
        rfl
      refine pure_ (i := 1) (N := some 45) (v := ?_) (a' := ?_) #[true, true, false, false, false, false, false, false, false, false, false, false, false, false, false, false, false, false, false, false, false, false] rfl rfl (by kernel_rfl) (fun _ _ _ h => h) (Or.inl ⟨by rfl, ?_⟩) ?_ ?_
      rotate_left
      · intro w'
        go_simp
        with_reducible rfl
      rotate_left
      · simp only [Act.put, List.setIfInBounds_toArray, List.set_cons_zero, List.set_cons_succ, i64_w, i32_w]
        rfl
      refine pure_ (i := 2) (N := some 46) (v := ?_) (a' := ?_) #[true, true, true, false, false, false, false, false, false, false, false, false, false, false, false, false, false, false, false, false, false, false] rfl rfl (by kernel_rfl) (fun _ _ _ h => h) (Or.inl ⟨by rfl, ?_⟩) ?_ ?_
      rotate_left
      · intro w'
        go_simp
        with_reducible rfl
      rotate_left
      · simp only [Act.put, List.setIfInBounds_toArray, List.set_cons_zero, List.set_cons_succ, i64_w, i32_w]
        rfl
      refine pure_ (i := 5) (N := some 49) (v := ?_) (a' := ?_) #[true, true, true, false, false, true, false, false, false, false, false, false, false, false, false, false, false, false, false, false, false, false] rfl rfl (by kernel_rfl) (fun _ _ _ h => h) (Or.inl ⟨by rfl, ?_⟩) ?_ ?_
      rotate_left
      · intro w'
        go_simp
        with_reducible rfl
      rotate_left
      · simp only [Act.put, List.setIfInBounds_toArray, List.set_cons_zero, List.set_cons_succ, i64_w, i32_w]
        rfl
      refine pure_ (i := 6) (N := some 50) (v := ?_) (a' := ?_) #[true, true, true, false, false, true, true, false, false, false, false, false, false, false, false, false, false, false, false, false, false, false] rfl rfl (by kernel_rfl) (fun _ _ _ h => h) (Or.inl ⟨by rfl, ?_⟩) ?_ ?_
      rotate_left
      · intro w'
        go_simp
        with_reducible rfl
      rotate_left
      · simp only [Act.put, List.setIfInBounds_toArray, List.set_cons_zero, List.set_cons_succ, i64_w, i32_w]
        rfl
      refine pure_ (i := 7) (N := some 51) (v := ?_) (a' := ?_) #[true, true, true, false, false, true, true, true, false, false, false, false, false, false, false, false, false, false, false, false, false, false] rfl rfl (by kernel_rfl) (fun _ _ _ h => h) (Or.inl ⟨by rfl, ?_⟩) ?_ ?_
      rotate_left
      · intro w'
        go_simp
        with_reducible rfl
      rotate_left
      · simp only [Act.put, List.setIfInBounds_toArray, List.set_cons_zero, List.set_cons_succ, i64_w, i32_w]
        rfl
      refine pure_ (i := 11) (N := some 55) (v := ?_) (a' := ?_) #[true, true, true, false, false, true, true, true, false, false, false, true, false, false, false, false, false, false, false, false, false, false] rfl rfl (by kernel_rfl) (fun _ _ _ h => h) (Or.inl ⟨by rfl, ?_⟩) ?_ ?_
      rotate_left
      · intro w'
        go_simp
        with_reducible rfl
      rotate_left
      · simp only [Act.put, List.setIfInBounds_toArray, List.set_cons_zero, List.set_cons_succ, i64_w, i32_w]
        rfl
      refine pure_ (i := 12) (N := some 56) (v := ?_) (a' := ?_) #[true, true, true, false, false, true, true, true, false, false, false, true, true, false, false, false, false, false, false, false, false, false] rfl rfl (by kernel_rfl) (fun _ _ _ h => h) (Or.inl ⟨by rfl, ?_⟩) ?_ ?_
      rotate_left
      · intro w'
        go_simp
        with_reducible rfl
      rotate_left
      · simp only [Act.put, List.setIfInBounds_toArray, List.set_cons_zero, List.set_cons_succ, i64_w, i32_w]
        rfl
      refine pure_ (i := 13) (N := some 57) (v := ?_) (a' := ?_) #[true, true, true, false, false, true, true, true, false, false, false, true, true, true, false, false, false, false, false, false, false, false] rfl rfl (by kernel_rfl) (fun _ _ _ h => h) (Or.inl ⟨by rfl, ?_⟩) ?_ ?_
      rotate_left
      · intro w'
        go_simp
        with_reducible rfl
      rotate_left
      · simp only [Act.put, List.setIfInBounds_toArray, List.set_cons_zero, List.set_cons_succ, i64_w, i32_w]
        rfl
      refine pure_ (i := 17) (N := some 61) (v := ?_) (a' := ?_) #[true, true, true, false, false, true, true, true, false, false, false, true, true, true, false, false, false, true, false, false, false, false] rfl rfl (by kernel_rfl) (fun _ _ _ h => h) (Or.inl ⟨by rfl, ?_⟩) ?_ ?_
      rotate_left
      · intro w'
        go_simp
        with_reducible rfl
      rotate_left
      · simp only [Act.put, List.setIfInBounds_toArray, List.set_cons_zero, List.set_cons_succ, i64_w, i32_w]
        rfl
      refine join_ (σ := Nat × Nat × Nat × Nat) 2 #[true, true, true, true, true, true, true, true, true, true, true, true, true, true, true, true, true, true, true, true, false, false] (fun s_ => [(47, .slice (some ⟨s_.1, 0, none⟩) 1 1), (52, .slice (some ⟨s_.2.1, 0, none⟩) 1 1), (58, .slice (some ⟨s_.2.2.1, 0, none⟩) 1 1), (62, .slice (some ⟨s_.2.2.2, 0, none⟩) 1 1), (48, .int .u32 k0), (53, .int .u32 k1), (59, .int .u32 k2), (63, .int .u32 k3), (54, .int .u32 (Go.bits .xor .u32 k0 k1)), (60, .int .u32 (Go.bits .xor .u32 (Go.bits .xor .u32 k0 k1) k2))]) (fun s_ w' => Below wr.heap.size wr w') ?_ ?_
      rotate_left
      · intro hJ3_4_8_9_14_15_18_19
        refine join_ (σ := Nat × Nat × Nat × Nat) 3 #[true, true, true, true, true, true, true, true, true, true, true, true, true, true, true, true, true, true, true, false, false, false] (fun s_ => [(47, .slice (some ⟨s_.1, 0, none⟩) 1 1), (52, .slice (some ⟨s_.2.1, 0, none⟩) 1 1), (58, .slice (some ⟨s_.2.2.1, 0, none⟩) 1 1), (62, .slice (some ⟨s_.2.2.2, 0, none⟩) 1 1), (48, .int .u32 k0), (53, .int .u32 k1), (59, .int .u32 k2), (54, .int .u32 (Go.bits .xor .u32 k0 k1)), (60, .int .u32 (Go.bits .xor .u32 (Go.bits .xor .u32 k0 k1) k2))]) (fun s_ w' => Below wr.heap.size wr w' ∧ OneC w' (s_.2.2.2) x3) ?_ ?_
        rotate_left
        · intro hJ3_4_8_9_14_15_18
          refine join_ (σ := Nat × Nat × Nat) 4 #[true, true, true, true, true, true, true, true, true, true, true, true, true, true, true, true, true, true, false, false, false, false] (fun s_ => [(47, .slice (some ⟨s_.1, 0, none⟩) 1 1), (52, .slice (some ⟨s_.2.1, 0, none⟩) 1 1), (58, .slice (some ⟨s_.2.2, 0, none⟩) 1 1), (48, .int .u32 k0), (53, .int .u32 k1), (59, .int .u32 k2), (54, .int .u32 (Go.bits .xor .u32 k0 k1)), (60, .int .u32 (Go.bits .xor .u32 (Go.bits .xor .u32 k0 k1) k2))]) (fun s_ w' => Below wr.heap.size wr w') ?_ ?_
          rotate_left
          · intro hJ3_4_8_9_14_15
            refine join_ (σ := Nat × Nat × Nat × Nat) 5 #[true, true, true, true, true, true, true, true, true, true, true, true, true, true, true, false, false, true, true, false, false, false] (fun s_ => [(47, .slice (some ⟨s_.1, 0, none⟩) 1 1), (52, .slice (some ⟨s_.2.1, 0, none⟩) 1 1), (58, .slice (some ⟨s_.2.2.1, 0, none⟩) 1 1), (62, .slice (some ⟨s_.2.2.2, 0, none⟩) 1 1), (48, .int .u32 k0), (53, .int .u32 k1), (54, .int .u32 (Go.bits .xor .u32 k0 k1))]) (fun s_ w' => Below wr.heap.size wr w' ∧ OneC w' (s_.2.2.1) x2 ∧ OneC w' (s_.2.2.2) x3) ?_ ?_
            rotate_left
            · intro hJ3_4_8_9_14_18
              refine join_ (σ := Nat × Nat × Nat) 6 #[true, true, true, true, true, true, true, true, true, true, true, true, true, true, true, false, false, true, false, false, false, false] (fun s_ => [(47, .slice (some ⟨s_.1, 0, none⟩) 1 1), (52, .slice (some ⟨s_.2.1, 0, none⟩) 1 1), (58, .slice (some ⟨s_.2.2, 0, none⟩) 1 1), (48, .int .u32 k0), (53, .int .u32 k1), (54, .int .u32 (Go.bits .xor .u32 k0 k1))]) (fun s_ w' => Below wr.heap.size wr w' ∧ OneC w' (s_.2.2) x2) ?_ ?_
              rotate_left
              · intro hJ3_4_8_9_14
                refine join_ (σ := Nat × Nat × Nat) 6 #[true, true, true, true, true, true, true, true, true, true, true, true, true, true, false, false, false, true, true, false, false, false] (fun s_ => [(47, .slice (some ⟨s_.1, 0, none⟩) 1 1), (52, .slice (some ⟨s_.2.1, 0, none⟩) 1 1), (62, .slice (some ⟨s_.2.2, 0, none⟩) 1 1), (48, .int .u32 k0), (53, .int .u32 k1), (54, .int .u32 (Go.bits .xor .u32 k0 k1))]) (fun s_ w' => Below wr.heap.size wr w' ∧ OneC w' (s_.2.2) x3) ?_ ?_
                rotate_left
                · intro hJ3_4_8_9_18
                  refine join_ (σ := Nat × Nat × Nat × Nat) 7 #[true, true, true, true, true, true, true, true, true, false, false, true, true, true, true, false, false, true, true, false, false, false] (fun s_ => [(47, .slice (some ⟨s_.1, 0, none⟩) 1 1), (52, .slice (some ⟨s_.2.1, 0, none⟩) 1 1), (58, .slice (some ⟨s_.2.2.1, 0, none⟩) 1 1), (62, .slice (some ⟨s_.2.2.2, 0, none⟩) 1 1), (48, .int .u32 k0)]) (fun s_ w' => Below wr.heap.size wr w' ∧ OneC w' (s_.2.1) x1 ∧ OneC w' (s_.2.2.1) x2 ∧ OneC w' (s_.2.2.2) x3) ?_ ?_
                  rotate_left
                  · intro hJ3_4_8_14_18
                    refine join_ (σ := Nat × Nat) 7 #[true, true, true, true, true, true, true, true, true, true, true, true, true, true, false, false, false, true, false, false, false, false] (fun s_ => [(47, .slice (some ⟨s_.1, 0, none⟩) 1 1), (52, .slice (some ⟨s_.2, 0, none⟩) 1 1), (48, .int .u32 k0), (53, .int .u32 k1), (54, .int .u32 (Go.bits .xor .u32 k0 k1))]) (fun s_ w' => Below wr.heap.size wr w') ?_ ?_
                    rotate_left
                    · intro hJ3_4_8_9
                      refine join_ (σ := Nat × Nat × Nat) 8 #[true, true, true, true, true, true, true, true, true, false, false, true, true, true, true, false, false, true, false, false, false, false] (fun s_ => [(47, .slice (some ⟨s_.1, 0, none⟩) 1 1), (52, .slice (some ⟨s_.2.1, 0, none⟩) 1 1), (58, .slice (some ⟨s_.2.2, 0, none⟩) 1 1), (48, .int .u32 k0)]) (fun s_ w' => Below wr.heap.size wr w' ∧ OneC w' (s_.2.1) x1 ∧ OneC w' (s_.2.2) x2) ?_ ?_
                      rotate_left
                      · intro hJ3_4_8_14
                        refine join_ (σ := Nat × Nat × Nat) 8 #[true, true, true, true, true, true, true, true, true, false, false, true, true, true, false, false, false, true, true, false, false, false] (fun s_ => [(47, .slice (some ⟨s_.1, 0, none⟩) 1 1), (52, .slice (some ⟨s_.2.1, 0, none⟩) 1 1), (62, .slice (some ⟨s_.2.2, 0, none⟩) 1 1), (48, .int .u32 k0)]) (fun s_ w' => Below wr.heap.size wr w' ∧ OneC w' (s_.2.1) x1 ∧ OneC w' (s_.2.2) x3) ?_ ?_
                        rotate_left
                        · intro hJ3_4_8_18
                          refine join_ (σ := Nat × Nat × Nat) 8 #[true, true, true, true, true, true, true, true, false, false, false, true, true, true, true, false, false, true, true, false, false, false] (fun s_ => [(47, .slice (some ⟨s_.1, 0, none⟩) 1 1), (58, .slice (some ⟨s_.2.1, 0, none⟩) 1 1), (62, .slice (some ⟨s_.2.2, 0, none⟩) 1 1), (48, .int .u32 k0)]) (fun s_ w' => Below wr.heap.size wr w' ∧ OneC w' (s_.2.1) x2 ∧ OneC w' (s_.2.2) x3) ?_ ?_
                          rotate_left
                          · intro hJ3_4_14_18
                            refine join_ (σ := Nat × Nat × Nat × Nat) 8 #[true, true, true, true, false, true, true, true, true, false, false, true, true, true, true, false, false, true, true, false, false, false] (fun s_ => [(47, .slice (some ⟨s_.1, 0, none⟩) 1 1), (52, .slice (some ⟨s_.2.1, 0, none⟩) 1 1), (58, .slice (some ⟨s_.2.2.1, 0, none⟩) 1 1), (62, .slice (some ⟨s_.2.2.2, 0, none⟩) 1 1)]) (fun s_ w' => Below wr.heap.size wr w' ∧ OneC w' (s_.1) x0 ∧ OneC w' (s_.2.1) x1 ∧ OneC w' (s_.2.2.1) x2 ∧ OneC w' (s_.2.2.2) x3) ?_ ?_
                            rotate_left
                            · intro hJ3_8_14_18
                              refine join_ (σ := Nat × Nat) 9 #[true, true, true, true, true, true, true, true, true, false, false, true, true, true, false, false, false, true, false, false, false, false] (fun s_ => [(47, .slice (some ⟨s_.1, 0, none⟩) 1 1), (52, .slice (some ⟨s_.2, 0, none⟩) 1 1), (48, .int .u32 k0)]) (fun s_ w' => Below wr.heap.size wr w' ∧ OneC w' (s_.2) x1) ?_ ?_
                              rotate_left
                              · intro hJ3_4_8
                                refine join_ (σ := Nat × Nat) 9 #[true, true, true, true, true, true, true, true, false, false, false, true, true, true, true, false, false, true, false, false, false, false] (fun s_ => [(47, .slice (some ⟨s_.1, 0, none⟩) 1 1), (58, .slice (some ⟨s_.2, 0, none⟩) 1 1), (48, .int .u32 k0)]) (fun s_ w' => Below wr.heap.size wr w' ∧ OneC w' (s_.2) x2) ?_ ?_
                                rotate_left
                                · intro hJ3_4_14
                                  refine join_ (σ := Nat × Nat) 9 #[true, true, true, true, true, true, true, true, false, false, false, true, true, true, false, false, false, true, true, false, false, false] (fun s_ => [(47, .slice (some ⟨s_.1, 0, none⟩) 1 1), (62, .slice (some ⟨s_.2, 0, none⟩) 1 1), (48, .int .u32 k0)]) (fun s_ w' => Below wr.heap.size wr w' ∧ OneC w' (s_.2) x3) ?_ ?_
                                  rotate_left
                                  · intro hJ3_4_18
                                    refine join_ (σ := Nat × Nat × Nat) 9 #[true, true, true, true, false, true, true, true, true, false, false, true, true, true, true, false, false, true, false, false, false, false] (fun s_ => [(47, .slice (some ⟨s_.1, 0, none⟩) 1 1), (52, .slice (some ⟨s_.2.1, 0, none⟩) 1 1), (58, .slice (some ⟨s_.2.2, 0, none⟩) 1 1)]) (fun s_ w' => Below wr.heap.size wr w' ∧ OneC w' (s_.1) x0 ∧ OneC w' (s_.2.1) x1 ∧ OneC w' (s_.2.2) x2) ?_ ?_
                                    rotate_left
                                    · intro hJ3_8_14
                                      refine join_ (σ := Nat × Nat × Nat) 9 #[true, true, true, true, false, true, true, true, true, false, false, true, true, true, false, false, false, true, true, false, false, false] (fun s_ => [(47, .slice (some ⟨s_.1, 0, none⟩) 1 1), (52, .slice (some ⟨s_.2.1, 0, none⟩) 1 1), (62, .slice (some ⟨s_.2.2, 0, none⟩) 1 1)]) (fun s_ w' => Below wr.heap.size wr w' ∧ OneC w' (s_.1) x0 ∧ OneC w' (s_.2.1) x1 ∧ OneC w' (s_.2.2) x3) ?_ ?_
                                      rotate_left
                                      · intro hJ3_8_18
                                        refine join_ (σ := Nat × Nat × Nat) 9 #[true, true, true, true, false, true, true, true, false, false, false, true, true, true, true, false, false, true, true, false, false, false] (fun s_ => [(47, .slice (some ⟨s_.1, 0, none⟩) 1 1), (58, .slice (some ⟨s_.2.1, 0, none⟩) 1 1), (62, .slice (some ⟨s_.2.2, 0, none⟩) 1 1)]) (fun s_ w' => Below wr.heap.size wr w' ∧ OneC w' (s_.1) x0 ∧ OneC w' (s_.2.1) x2 ∧ OneC w' (s_.2.2) x3) ?_ ?_
                                        rotate_left
                                        · intro hJ3_14_18
                                          refine join_ (σ := Nat × Nat × Nat) 9 #[true, true, true, false, false, true, true, true, true, false, false, true, true, true, true, false, false, true, true, false, false, false] (fun s_ => [(52, .slice (some ⟨s_.1, 0, none⟩) 1 1), (58, .slice (some ⟨s_.2.1, 0, none⟩) 1 1), (62, .slice (some ⟨s_.2.2, 0, none⟩) 1 1)]) (fun s_ w' => Below wr.heap.size wr w' ∧ OneC w' (s_.1) x1 ∧ OneC w' (s_.2.1) x2 ∧ OneC w' (s_.2.2) x3) ?_ ?_
                                          rotate_left
                                          · intro hJ8_14_18
                                            refine join_ (σ := Nat) 10 #[true, true, true, true, true, true, true, true, false, false, false, true, true, true, false, false, false, true, false, false, false, false] (fun s_ => [(47, .slice (some ⟨s_, 0, none⟩) 1 1), (48, .int .u32 k0)]) (fun s_ w' => Below wr.heap.size wr w') ?_ ?_
                                            rotate_left
                                            · intro hJ3_4
                                              refine join_ (σ := Nat × Nat) 10 #[true, true, true, true, false, true, true, true, true, false, false, true, true, true, false, false, false, true, false, false, false, false] (fun s_ => [(47, .slice (some ⟨s_.1, 0, none⟩) 1 1), (52, .slice (some ⟨s_.2, 0, none⟩) 1 1)]) (fun s_ w' => Below wr.heap.size wr w' ∧ OneC w' (s_.1) x0 ∧ OneC w' (s_.2) x1) ?_ ?_
                                              rotate_left
                                              · intro hJ3_8
                                                refine join_ (σ := Nat × Nat) 10 #[true, true, true, true, false, true, true, true, false, false, false, true, true, true, true, false, false, true, false, false, false, false] (fun s_ => [(47, .slice (some ⟨s_.1, 0, none⟩) 1 1), (58, .slice (some ⟨s_.2, 0, none⟩) 1 1)]) (fun s_ w' => Below wr.heap.size wr w' ∧ OneC w' (s_.1) x0 ∧ OneC w' (s_.2) x2) ?_ ?_
                                                rotate_left
                                                · intro hJ3_14
                                                  refine join_ (σ := Nat × Nat) 10 #[true, true, true, true, false, true, true, true, false, false, false, true, true, true, false, false, false, true, true, false, false, false] (fun s_ => [(47, .slice (some ⟨s_.1, 0, none⟩) 1 1), (62, .slice (some ⟨s_.2, 0, none⟩) 1 1)]) (fun s_ w' => Below wr.heap.size wr w' ∧ OneC w' (s_.1) x0 ∧ OneC w' (s_.2) x3) ?_ ?_
                                                  rotate_left
                                                  · intro hJ3_18
                                                    refine join_ (σ := Nat × Nat) 10 #[true, true, true, false, false, true, true, true, true, false, false, true, true, true, true, false, false, true, false, false, false, false] (fun s_ => [(52, .slice (some ⟨s_.1, 0, none⟩) 1 1), (58, .slice (some ⟨s_.2, 0, none⟩) 1 1)]) (fun s_ w' => Below wr.heap.size wr w' ∧ OneC w' (s_.1) x1 ∧ OneC w' (s_.2) x2) ?_ ?_
                                                    rotate_left
                                                    · intro hJ8_14
                                                      refine join_ (σ := Nat × Nat) 10 #[true, true, true, false, false, true, true, true, true, false, false, true, true, true, false, false, false, true, true, false, false, false] (fun s_ => [(52, .slice (some ⟨s_.1, 0, none⟩) 1 1), (62, .slice (some ⟨s_.2, 0, none⟩) 1 1)]) (fun s_ w' => Below wr.heap.size wr w' ∧ OneC w' (s_.1) x1 ∧ OneC w' (s_.2) x3) ?_ ?_
                                                      rotate_left
                                                      · intro hJ8_18
                                                        refine join_ (σ := Nat × Nat) 10 #[true, true, true, false, false, true, true, true, false, false, false, true, true, true, true, false, false, true, true, false, false, false] (fun s_ => [(58, .slice (some ⟨s_.1, 0, none⟩) 1 1), (62, .slice (some ⟨s_.2, 0, none⟩) 1 1)]) (fun s_ w' => Below wr.heap.size wr w' ∧ OneC w' (s_.1) x2 ∧ OneC w' (s_.2) x3) ?_ ?_
                                                        rotate_left
                                                        · intro hJ14_18
                                                          refine join_ (σ := Nat) 11 #[true, true, true, true, false, true, true, true, false, false, false, true, true, true, false, false, false, true, false, false, false, false] (fun s_ => [(47, .slice (some ⟨s_, 0, none⟩) 1 1)]) (fun s_ w' => Below wr.heap.size wr w' ∧ OneC w' (s_) x0) ?_ ?_
                                                          rotate_left
                                                          · intro hJ3
                                                            refine join_ (σ := Nat) 11 #[true, true, true, false, false, true, true, true, true, false, false, true, true, true, false, false, false, true, false, false, false, false] (fun s_ => [(52, .slice (some ⟨s_, 0, none⟩) 1 1)]) (fun s_ w' => Below wr.heap.size wr w' ∧ OneC w' (s_) x1) ?_ ?_
                                                            rotate_left
                                                            · intro hJ8
                                                              refine join_ (σ := Nat) 11 #[true, true, true, false, false, true, true, true, false, false, false, true, true, true, true, false, false, true, false, false, false, false] (fun s_ => [(58, .slice (some ⟨s_, 0, none⟩) 1 1)]) (fun s_ w' => Below wr.heap.size wr w' ∧ OneC w' (s_) x2) ?_ ?_
                                                              rotate_left
                                                              · intro hJ14
                                                                refine join_ (σ := Nat) 11 #[true, true, true, false, false, true, true, true, false, false, false, true, true, true, false, false, false, true, true, false, false, false] (fun s_ => [(62, .slice (some ⟨s_, 0, none⟩) 1 1)]) (fun s_ w' => Below wr.heap.size wr w' ∧ OneC w' (s_) x3) ?_ ?_
                                                                rotate_left
                                                                · intro hJ18
                                                                  refine four_ (i := 3) (j := 8) (k := 14) (m := 18) (Ni := some 47) (Nj := some 52) (Nk := some 58) (Nm := some 62) #[true, true, true, true, false, true, true, true, false, false, false, true, true, true, false, false, false, true, false, false, false, false] #[true, true, true, false, false, true, true, true, true, false, false, true, true, true, false, false, false, true, false, false, false, false] #[true, true, true, false, false, true, true, true, false, false, false, true, true, true, true, false, false, true, false, false, false, false] #[true, true, true, false, false, true, true, true, false, false, false, true, true, true, false, false, false, true, true, false, false, false] rfl rfl rfl rfl rfl rfl rfl rfl (by kernel_rfl) (by decide) (by decide) (by decide) (by decide) (fun K hK => ?_) (fun K hK => ?_) (fun K hK => ?_) (fun K hK => ?_)
                                                                  · skip
                                                                    refine value_ (w1 := ?_) (v := ?_) (by rfl) rfl ?_ ?_
                                                                    rotate_left 2
                                                                    · go_simp
                                                                      constructor
                                                                      · rfl
                                                                      · rfl
                                                                    refine hK.out _ _ trivial (fun hHeld => ?_)
                                                                    clear hK K
                                                                    refine norm_ (a' := ?_) ?_ ?_
                                                                    rotate_left
                                                                    · show Act.put _ (some 47) _ = _
                                                                      simp only [Act.put, List.setIfInBounds_toArray, List.set_cons_zero, List.set_cons_succ, i64_w, i32_w]
                                                                      rfl
                                                                    exact norm_ (by first | (simp only [putAll, Act.put, List.setIfInBounds_toArray, List.set_cons_zero, List.set_cons_succ]; done) | (simp only [putAll, Act.put, List.setIfInBounds_toArray, List.set_cons_zero, List.set_cons_succ]; rfl)) (hJ3 _ _ ⟨hB.alloc hB.size _, oneC_new (w := wr.drew) (PX0.out _ hB) hl0⟩)
                                                                  · skip
                                                                    refine value_ (w1 := ?_) (v := ?_) (by rfl) rfl ?_ ?_
                                                                    rotate_left 2
                                                                    · go_simp
                                                                      constructor
                                                                      · rfl
                                                                      · rfl
                                                                    refine hK.out _ _ trivial (fun hHeld => ?_)
                                                                    clear hK K
                                                                    refine norm_ (a' := ?_) ?_ ?_
                                                                    rotate_left
                                                                    · show Act.put _ (some 52) _ = _
                                                                      simp only [Act.put, List.setIfInBounds_toArray, List.set_cons_zero, List.set_cons_succ, i64_w, i32_w]
                                                                      rfl
                                                                    exact norm_ (by first | (simp only [putAll, Act.put, List.setIfInBounds_toArray, List.set_cons_zero, List.set_cons_succ]; done) | (simp only [putAll, Act.put, List.setIfInBounds_toArray, List.set_cons_zero, List.set_cons_succ]; rfl)) (hJ8 _ _ ⟨hB.alloc hB.size _, oneC_new (w := wr.drew) (PX1.out _ hB) hl1⟩)
                                                                  · skip
                                                                    refine value_ (w1 := ?_) (v := ?_) (by rfl) rfl ?_ ?_
                                                                    rotate_left 2
                                                                    · go_simp
                                                                      constructor
                                                                      · rfl
                                                                      · rfl
                                                                    refine hK.out _ _ trivial (fun hHeld => ?_)
                                                                    clear hK K
                                                                    refine norm_ (a' := ?_) ?_ ?_
                                                                    rotate_left
                                                                    · show Act.put _ (some 58) _ = _
                                                                      simp only [Act.put, List.setIfInBounds_toArray, List.set_cons_zero, List.set_cons_succ, i64_w, i32_w]
                                                                      rfl
                                                                    exact norm_ (by first | (simp only [putAll, Act.put, List.setIfInBounds_toArray, List.set_cons_zero, List.set_cons_succ]; done) | (simp only [putAll, Act.put, List.setIfInBounds_toArray, List.set_cons_zero, List.set_cons_succ]; rfl)) (hJ14 _ _ ⟨hB.alloc hB.size _, oneC_new (w := wr.drew) (PX2.out _ hB) hl2⟩)
                                                                  · skip
                                                                    refine value_ (w1 := ?_) (v := ?_) (by rfl) rfl ?_ ?_
                                                                    rotate_left 2
                                                                    · go_simp
                                                                      constructor
                                                                      · rfl
                                                                      · rfl
                                                                    refine hK.out _ _ trivial (fun hHeld => ?_)
                                                                    clear hK K
                                                                    refine norm_ (a' := ?_) ?_ ?_
                                                                    rotate_left
                                                                    · show Act.put _ (some 62) _ = _
                                                                      simp only [Act.put, List.setIfInBounds_toArray, List.set_cons_zero, List.set_cons_succ, i64_w, i32_w]
                                                                      rfl
                                                                    exact norm_ (by first | (simp only [putAll, Act.put, List.setIfInBounds_toArray, List.set_cons_zero, List.set_cons_succ]; done) | (simp only [putAll, Act.put, List.setIfInBounds_toArray, List.set_cons_zero, List.set_cons_succ]; rfl)) (hJ18 _ _ ⟨hB.alloc hB.size _, oneC_new (w := wr.drew) (PX3.out _ hB) hl3⟩)
                                                                · skip
                                                                  rintro g3 wd ⟨hB, o3⟩
                                                                  have hHeld := trivial
                                                                  refine norm_ (a' := ?_) ?_ ?_
                                                                  rotate_left
                                                                  · simp only [putAll, Act.put, List.setIfInBounds_toArray, List.set_cons_zero, List.set_cons_succ]
                                                                    rfl
                                                                  refine three_ (i := 3) (j := 8) (k := 14) (Ni := some 47) (Nj := some 52) (Nk := some 58) #[true, true, true, true, false, true, true, true, false, false, false, true, true, true, false, false, false, true, true, false, false, false] #[true, true, true, false, false, true, true, true, true, false, false, true, true, true, false, false, false, true, true, false, false, false] #[true, true, true, false, false, true, true, true, false, false, false, true, true, true, true, false, false, true, true, false, false, false] rfl rfl rfl rfl rfl rfl (by kernel_rfl) (by decide) (by decide) (by decide) (fun K hK => ?_) (fun K hK => ?_) (fun K hK => ?_)
                                                                  · skip
                                                                    refine value_ (w1 := ?_) (v := ?_) (by rfl) rfl ?_ ?_
                                                                    rotate_left 2
                                                                    · go_simp
                                                                      constructor
                                                                      · rfl
                                                                      · rfl
                                                                    refine hK.out _ _ trivial (fun hHeld => ?_)
                                                                    clear hK K
                                                                    refine norm_ (a' := ?_) ?_ ?_
                                                                    rotate_left
                                                                    · show Act.put _ (some 47) _ = _
                                                                      simp only [Act.put, List.setIfInBounds_toArray, List.set_cons_zero, List.set_cons_succ, i64_w, i32_w]
                                                                      rfl
                                                                    exact norm_ (by first | (simp only [putAll, Act.put, List.setIfInBounds_toArray, List.set_cons_zero, List.set_cons_succ]; done) | (simp only [putAll, Act.put, List.setIfInBounds_toArray, List.set_cons_zero, List.set_cons_succ]; rfl)) (hJ3_18 (_, g3) _ ⟨hB.alloc hB.size _, oneC_new (w := wd) (PX0.out _ hB) hl0, oneC_alloc o3 _⟩)
                                                                  · skip
                                                                    refine value_ (w1 := ?_) (v := ?_) (by rfl) rfl ?_ ?_
                                                                    rotate_left 2
                                                                    · go_simp
                                                                      constructor
                                                                      · rfl
                                                                      · rfl
                                                                    refine hK.out _ _ trivial (fun hHeld => ?_)
                                                                    clear hK K
                                                                    refine norm_ (a' := ?_) ?_ ?_
                                                                    rotate_left
                                                                    · show Act.put _ (some 52) _ = _
                                                                      simp only [Act.put, List.setIfInBounds_toArray, List.set_cons_zero, List.set_cons_succ, i64_w, i32_w]
                                                                      rfl
                                                                    exact norm_ (by first | (simp only [putAll, Act.put, List.setIfInBounds_toArray, List.set_cons_zero, List.set_cons_succ]; done) | (simp only [putAll, Act.put, List.setIfInBounds_toArray, List.set_cons_zero, List.set_cons_succ]; rfl)) (hJ8_18 (_, g3) _ ⟨hB.alloc hB.size _, oneC_new (w := wd) (PX1.out _ hB) hl1, oneC_alloc o3 _⟩)
                                                                  · skip
                                                                    refine value_ (w1 := ?_) (v := ?_) (by rfl) rfl ?_ ?_
                                                                    rotate_left 2
                                                                    · go_simp
                                                                      constructor
                                                                      · rfl
                                                                      · rfl
                                                                    refine hK.out _ _ trivial (fun hHeld => ?_)
                                                                    clear hK K
                                                                    refine norm_ (a' := ?_) ?_ ?_
                                                                    rotate_left
                                                                    · show Act.put _ (some 58) _ = _
                                                                      simp only [Act.put, List.setIfInBounds_toArray, List.set_cons_zero, List.set_cons_succ, i64_w, i32_w]
                                                                      rfl
                                                                    exact norm_ (by first | (simp only [putAll, Act.put, List.setIfInBounds_toArray, List.set_cons_zero, List.set_cons_succ]; done) | (simp only [putAll, Act.put, List.setIfInBounds_toArray, List.set_cons_zero, List.set_cons_succ]; rfl)) (hJ14_18 (_, g3) _ ⟨hB.alloc hB.size _, oneC_new (w := wd) (PX2.out _ hB) hl2, oneC_alloc o3 _⟩)
                                                              · skip
                                                                rintro g2 wd ⟨hB, o2⟩
                                                                have hHeld := trivial
                                                                refine norm_ (a' := ?_) ?_ ?_
                                                                rotate_left
                                                                · simp only [putAll, Act.put, List.setIfInBounds_toArray, List.set_cons_zero, List.set_cons_succ]
                                                                  rfl
                                                                refine three_ (i := 3) (j := 8) (k := 18) (Ni := some 47) (Nj := some 52) (Nk := some 62) #[true, true, true, true, false, true, true, true, false, false, false, true, true, true, true, false, false, true, false, false, false, false] #[true, true, true, false, false, true, true, true, true, false, false, true, true, true, true, false, false, true, false, false, false, false] #[true, true, true, false, false, true, true, true, false, false, false, true, true, true, true, false, false, true, true, false, false, false] rfl rfl rfl rfl rfl rfl (by kernel_rfl) (by decide) (by decide) (by decide) (fun K hK => ?_) (fun K hK => ?_) (fun K hK => ?_)
                                                                · skip
                                                                  refine value_ (w1 := ?_) (v := ?_) (by rfl) rfl ?_ ?_
                                                                  rotate_left 2
                                                                  · go_simp
                                                                    constructor
                                                                    · rfl
                                                                    · rfl
                                                                  refine hK.out _ _ trivial (fun hHeld => ?_)
                                                                  clear hK K
                                                                  refine norm_ (a' := ?_) ?_ ?_
                                                                  rotate_left
                                                                  · show Act.put _ (some 47) _ = _
                                                                    simp only [Act.put, List.setIfInBounds_toArray, List.set_cons_zero, List.set_cons_succ, i64_w, i32_w]
                                                                    rfl
                                                                  exact norm_ (by first | (simp only [putAll, Act.put, List.setIfInBounds_toArray, List.set_cons_zero, List.set_cons_succ]; done) | (simp only [putAll, Act.put, List.setIfInBounds_toArray, List.set_cons_zero, List.set_cons_succ]; rfl)) (hJ3_14 (_, g2) _ ⟨hB.alloc hB.size _, oneC_new (w := wd) (PX0.out _ hB) hl0, oneC_alloc o2 _⟩)
                                                                · skip
                                                                  refine value_ (w1 := ?_) (v := ?_) (by rfl) rfl ?_ ?_
                                                                  rotate_left 2
                                                                  · go_simp
                                                                    constructor
                                                                    · rfl
                                                                    · rfl
                                                                  refine hK.out _ _ trivial (fun hHeld => ?_)
                                                                  clear hK K
                                                                  refine norm_ (a' := ?_) ?_ ?_
                                                                  rotate_left
                                                                  · show Act.put _ (some 52) _ = _
                                                                    simp only [Act.put, List.setIfInBounds_toArray, List.set_cons_zero, List.set_cons_succ, i64_w, i32_w]
                                                                    rfl
                                                                  exact norm_ (by first | (simp only [putAll, Act.put, List.setIfInBounds_toArray, List.set_cons_zero, List.set_cons_succ]; done) | (simp only [putAll, Act.put, List.setIfInBounds_toArray, List.set_cons_zero, List.set_cons_succ]; rfl)) (hJ8_14 (_, g2) _ ⟨hB.alloc hB.size _, oneC_new (w := wd) (PX1.out _ hB) hl1, oneC_alloc o2 _⟩)
                                                                · skip
                                                                  refine value_ (w1 := ?_) (v := ?_) (by rfl) rfl ?_ ?_
                                                                  rotate_left 2
                                                                  · go_simp
                                                                    constructor
                                                                    · rfl
                                                                    · rfl
                                                                  refine hK.out _ _ trivial (fun hHeld => ?_)
                                                                  clear hK K
                                                                  refine norm_ (a' := ?_) ?_ ?_
                                                                  rotate_left
                                                                  · show Act.put _ (some 62) _ = _
                                                                    simp only [Act.put, List.setIfInBounds_toArray, List.set_cons_zero, List.set_cons_succ, i64_w, i32_w]
                                                                    rfl
                                                                  exact norm_ (by first | (simp only [putAll, Act.put, List.setIfInBounds_toArray, List.set_cons_zero, List.set_cons_succ]; done) | (simp only [putAll, Act.put, List.setIfInBounds_toArray, List.set_cons_zero, List.set_cons_succ]; rfl)) (hJ14_18 (g2, _) _ ⟨hB.alloc hB.size _, oneC_alloc o2 _, oneC_new (w := wd) (PX3.out _ hB) hl3⟩)
                                                            · skip
                                                              rintro g1 wd ⟨hB, o1⟩
                                                              have hHeld := trivial
                                                              refine norm_ (a' := ?_) ?_ ?_
                                                              rotate_left
                                                              · simp only [putAll, Act.put, List.setIfInBounds_toArray, List.set_cons_zero, List.set_cons_succ]
                                                                rfl
                                                              refine three_ (i := 3) (j := 14) (k := 18) (Ni := some 47) (Nj := some 58) (Nk := some 62) #[true, true, true, true, false, true, true, true, true, false, false, true, true, true, false, false, false, true, false, false, false, false] #[true, true, true, false, false, true, true, true, true, false, false, true, true, true, true, false, false, true, false, false, false, false] #[true, true, true, false, false, true, true, true, true, false, false, true, true, true, false, false, false, true, true, false, false, false] rfl rfl rfl rfl rfl rfl (by kernel_rfl) (by decide) (by decide) (by decide) (fun K hK => ?_) (fun K hK => ?_) (fun K hK => ?_)
                                                              · skip
                                                                refine value_ (w1 := ?_) (v := ?_) (by rfl) rfl ?_ ?_
                                                                rotate_left 2
                                                                · go_simp
                                                                  constructor
                                                                  · rfl
                                                                  · rfl
                                                                refine hK.out _ _ trivial (fun hHeld => ?_)
                                                                clear hK K
                                                                refine norm_ (a' := ?_) ?_ ?_
                                                                rotate_left
                                                                · show Act.put _ (some 47) _ = _
                                                                  simp only [Act.put, List.setIfInBounds_toArray, List.set_cons_zero, List.set_cons_succ, i64_w, i32_w]
                                                                  rfl
                                                                exact norm_ (by first | (simp only [putAll, Act.put, List.setIfInBounds_toArray, List.set_cons_zero, List.set_cons_succ]; done) | (simp only [putAll, Act.put, List.setIfInBounds_toArray, List.set_cons_zero, List.set_cons_succ]; rfl)) (hJ3_8 (_, g1) _ ⟨hB.alloc hB.size _, oneC_new (w := wd) (PX0.out _ hB) hl0, oneC_alloc o1 _⟩)
                                                              · skip
                                                                refine value_ (w1 := ?_) (v := ?_) (by rfl) rfl ?_ ?_
                                                                rotate_left 2
                                                                · go_simp
                                                                  constructor
                                                                  · rfl
                                                                  · rfl
                                                                refine hK.out _ _ trivial (fun hHeld => ?_)
                                                                clear hK K
                                                                refine norm_ (a' := ?_) ?_ ?_
                                                                rotate_left
                                                                · show Act.put _ (some 58) _ = _
                                                                  simp only [Act.put, List.setIfInBounds_toArray, List.set_cons_zero, List.set_cons_succ, i64_w, i32_w]
                                                                  rfl
                                                                exact norm_ (by first | (simp only [putAll, Act.put, List.setIfInBounds_toArray, List.set_cons_zero, List.set_cons_succ]; done) | (simp only [putAll, Act.put, List.setIfInBounds_toArray, List.set_cons_zero, List.set_cons_succ]; rfl)) (hJ8_14 (g1, _) _ ⟨hB.alloc hB.size _, oneC_alloc o1 _, oneC_new (w := wd) (PX2.out _ hB) hl2⟩)
                                                              · skip
                                                                refine value_ (w1 := ?_) (v := ?_) (by rfl) rfl ?_ ?_
                                                                rotate_left 2
                                                                · go_simp
                                                                  constructor
                                                                  · rfl
                                                                  · rfl
                                                                refine hK.out _ _ trivial (fun hHeld => ?_)
                                                                clear hK K
                                                                refine norm_ (a' := ?_) ?_ ?_
                                                                rotate_left
                                                                · show Act.put _ (some 62) _ = _
                                                                  simp only [Act.put, List.setIfInBounds_toArray, List.set_cons_zero, List.set_cons_succ, i64_w, i32_w]
                                                                  rfl
                                                                exact norm_ (by first | (simp only [putAll, Act.put, List.setIfInBounds_toArray, List.set_cons_zero, List.set_cons_succ]; done) | (simp only [putAll, Act.put, List.setIfInBounds_toArray, List.set_cons_zero, List.set_cons_succ]; rfl)) (hJ8_18 (g1, _) _ ⟨hB.alloc hB.size _, oneC_alloc o1 _, oneC_new (w := wd) (PX3.out _ hB) hl3⟩)
                                                          · skip
                                                            rintro g0 wd ⟨hB, o0⟩
                                                            have hHeld := trivial
                                                            refine norm_ (a' := ?_) ?_ ?_
                                                            rotate_left
                                                            · simp only [putAll, Act.put, List.setIfInBounds_toArray, List.set_cons_zero, List.set_cons_succ]
                                                              rfl
                                                            refine four_ (i := 4) (j := 8) (k := 14) (m := 18) (Ni := some 48) (Nj := some 52) (Nk := some 58) (Nm := some 62) #[true, true, true, true, true, true, true, true, false, false, false, true, true, true, false, false, false, true, false, false, false, false] #[true, true, true, true, false, true, true, true, true, false, false, true, true, true, false, false, false, true, false, false, false, false] #[true, true, true, true, false, true, true, true, false, false, false, true, true, true, true, false, false, true, false, false, false, false] #[true, true, true, true, false, true, true, true, false, false, false, true, true, true, false, false, false, true, true, false, false, false] rfl rfl rfl rfl rfl rfl rfl rfl (by kernel_rfl) (by decide) (by decide) (by decide) (by decide) (fun K hK => ?_) (fun K hK => ?_) (fun K hK => ?_) (fun K hK => ?_)
                                                            · skip
                                                              refine goes_ Try.func25 (by kernel_rfl) rfl #[.slice (some ⟨g0, 0, none⟩) 1 1] (by rfl) rfl rfl (by simp only [List.map_toArray, List.map_cons, List.map_nil]; rfl) ?_
                                                              with_reducible refine (SU0.out _ _ o0).mono ?_
                                                              rintro e w2 ⟨rfl, rfl⟩
                                                              refine ⟨_, rfl, ?_⟩
                                                              refine hK.out _ _ trivial (fun hHeld => ?_)
                                                              clear hK K
                                                              refine norm_ (a' := ?_) ?_ ?_
                                                              rotate_left
                                                              · show Act.put _ (some 48) _ = _
                                                                simp only [Act.put, List.setIfInBounds_toArray, List.set_cons_zero, List.set_cons_succ, i64_w, i32_w]
                                                                rfl
                                                              exact norm_ (by first | (simp only [putAll, Act.put, List.setIfInBounds_toArray, List.set_cons_zero, List.set_cons_succ]; done) | (simp only [putAll, Act.put, List.setIfInBounds_toArray, List.set_cons_zero, List.set_cons_succ]; rfl)) (hJ3_4 g0 _ (hB))
                                                            · skip
                                                              refine value_ (w1 := ?_) (v := ?_) (by rfl) rfl ?_ ?_
                                                              rotate_left 2
                                                              · go_simp
                                                                constructor
                                                                · rfl
                                                                · rfl
                                                              refine hK.out _ _ trivial (fun hHeld => ?_)
                                                              clear hK K
                                                              refine norm_ (a' := ?_) ?_ ?_
                                                              rotate_left
                                                              · show Act.put _ (some 52) _ = _
                                                                simp only [Act.put, List.setIfInBounds_toArray, List.set_cons_zero, List.set_cons_succ, i64_w, i32_w]
                                                                rfl
                                                              exact norm_ (by first | (simp only [putAll, Act.put, List.setIfInBounds_toArray, List.set_cons_zero, List.set_cons_succ]; done) | (simp only [putAll, Act.put, List.setIfInBounds_toArray, List.set_cons_zero, List.set_cons_succ]; rfl)) (hJ3_8 (g0, _) _ ⟨hB.alloc hB.size _, oneC_alloc o0 _, oneC_new (w := wd) (PX1.out _ hB) hl1⟩)
                                                            · skip
                                                              refine value_ (w1 := ?_) (v := ?_) (by rfl) rfl ?_ ?_
                                                              rotate_left 2
                                                              · go_simp
                                                                constructor
                                                                · rfl
                                                                · rfl
                                                              refine hK.out _ _ trivial (fun hHeld => ?_)
                                                              clear hK K
                                                              refine norm_ (a' := ?_) ?_ ?_
                                                              rotate_left
                                                              · show Act.put _ (some 58) _ = _
                                                                simp only [Act.put, List.setIfInBounds_toArray, List.set_cons_zero, List.set_cons_succ, i64_w, i32_w]
                                                                rfl
                                                              exact norm_ (by first | (simp only [putAll, Act.put, List.setIfInBounds_toArray, List.set_cons_zero, List.set_cons_succ]; done) | (simp only [putAll, Act.put, List.setIfInBounds_toArray, List.set_cons_zero, List.set_cons_succ]; rfl)) (hJ3_14 (g0, _) _ ⟨hB.alloc hB.size _, oneC_alloc o0 _, oneC_new (w := wd) (PX2.out _ hB) hl2⟩)
                                                            · skip
                                                              refine value_ (w1 := ?_) (v := ?_) (by rfl) rfl ?_ ?_
                                                              rotate_left 2
                                                              · go_simp
                                                                constructor
                                                                · rfl
                                                                · rfl
                                                              refine hK.out _ _ trivial (fun hHeld => ?_)
                                                              clear hK K
                                                              refine norm_ (a' := ?_) ?_ ?_
                                                              rotate_left
                                                              · show Act.put _ (some 62) _ = _
                                                                simp only [Act.put, List.setIfInBounds_toArray, List.set_cons_zero, List.set_cons_succ, i64_w, i32_w]
                                                                rfl
                                                              exact norm_ (by first | (simp only [putAll, Act.put, List.setIfInBounds_toArray, List.set_cons_zero, List.set_cons_succ]; done) | (simp only [putAll, Act.put, List.setIfInBounds_toArray, List.set_cons_zero, List.set_cons_succ]; rfl)) (hJ3_18 (g0, _) _ ⟨hB.alloc hB.size _, oneC_alloc o0 _, oneC_new (w := wd) (PX3.out _ hB) hl3⟩)
                                                        · skip
                                                          rintro ⟨g2, g3⟩ wd ⟨hB, o2, o3⟩
                                                          have hHeld := trivial
                                                          refine norm_ (a' := ?_) ?_ ?_
                                                          rotate_left
                                                          · simp only [putAll, Act.put, List.setIfInBounds_toArray, List.set_cons_zero, List.set_cons_succ]
                                                            rfl
                                                          refine two_ (i := 3) (j := 8) (Ni := some 47) (Nj := some 52) #[true, true, true, true, false, true, true, true, false, false, false, true, true, true, true, false, false, true, true, false, false, false] #[true, true, true, false, false, true, true, true, true, false, false, true, true, true, true, false, false, true, true, false, false, false] rfl rfl rfl rfl (by kernel_rfl) (by decide) (by decide) (fun K hK => ?_) (fun K hK => ?_)
                                                          · skip
                                                            refine value_ (w1 := ?_) (v := ?_) (by rfl) rfl ?_ ?_
                                                            rotate_left 2
                                                            · go_simp
                                                              constructor
                                                              · rfl
                                                              · rfl
                                                            refine hK.out _ _ trivial (fun hHeld => ?_)
                                                            clear hK K
                                                            refine norm_ (a' := ?_) ?_ ?_
                                                            rotate_left
                                                            · show Act.put _ (some 47) _ = _
                                                              simp only [Act.put, List.setIfInBounds_toArray, List.set_cons_zero, List.set_cons_succ, i64_w, i32_w]
                                                              rfl
                                                            exact norm_ (by first | (simp only [putAll, Act.put, List.setIfInBounds_toArray, List.set_cons_zero, List.set_cons_succ]; done) | (simp only [putAll, Act.put, List.setIfInBounds_toArray, List.set_cons_zero, List.set_cons_succ]; rfl)) (hJ3_14_18 (_, g2, g3) _ ⟨hB.alloc hB.size _, oneC_new (w := wd) (PX0.out _ hB) hl0, oneC_alloc o2 _, oneC_alloc o3 _⟩)
                                                          · skip
                                                            refine value_ (w1 := ?_) (v := ?_) (by rfl) rfl ?_ ?_
                                                            rotate_left 2
                                                            · go_simp
                                                              constructor
                                                              · rfl
                                                              · rfl
                                                            refine hK.out _ _ trivial (fun hHeld => ?_)
                                                            clear hK K
                                                            refine norm_ (a' := ?_) ?_ ?_
                                                            rotate_left
                                                            · show Act.put _ (some 52) _ = _
                                                              simp only [Act.put, List.setIfInBounds_toArray, List.set_cons_zero, List.set_cons_succ, i64_w, i32_w]
                                                              rfl
                                                            exact norm_ (by first | (simp only [putAll, Act.put, List.setIfInBounds_toArray, List.set_cons_zero, List.set_cons_succ]; done) | (simp only [putAll, Act.put, List.setIfInBounds_toArray, List.set_cons_zero, List.set_cons_succ]; rfl)) (hJ8_14_18 (_, g2, g3) _ ⟨hB.alloc hB.size _, oneC_new (w := wd) (PX1.out _ hB) hl1, oneC_alloc o2 _, oneC_alloc o3 _⟩)
                                                      · skip
                                                        rintro ⟨g1, g3⟩ wd ⟨hB, o1, o3⟩
                                                        have hHeld := trivial
                                                        refine norm_ (a' := ?_) ?_ ?_
                                                        rotate_left
                                                        · simp only [putAll, Act.put, List.setIfInBounds_toArray, List.set_cons_zero, List.set_cons_succ]
                                                          rfl
                                                        refine two_ (i := 3) (j := 14) (Ni := some 47) (Nj := some 58) #[true, true, true, true, false, true, true, true, true, false, false, true, true, true, false, false, false, true, true, false, false, false] #[true, true, true, false, false, true, true, true, true, false, false, true, true, true, true, false, false, true, true, false, false, false] rfl rfl rfl rfl (by kernel_rfl) (by decide) (by decide) (fun K hK => ?_) (fun K hK => ?_)
                                                        · skip
                                                          refine value_ (w1 := ?_) (v := ?_) (by rfl) rfl ?_ ?_
                                                          rotate_left 2
                                                          · go_simp
                                                            constructor
                                                            · rfl
                                                            · rfl
                                                          refine hK.out _ _ trivial (fun hHeld => ?_)
                                                          clear hK K
                                                          refine norm_ (a' := ?_) ?_ ?_
                                                          rotate_left
                                                          · show Act.put _ (some 47) _ = _
                                                            simp only [Act.put, List.setIfInBounds_toArray, List.set_cons_zero, List.set_cons_succ, i64_w, i32_w]
                                                            rfl
                                                          exact norm_ (by first | (simp only [putAll, Act.put, List.setIfInBounds_toArray, List.set_cons_zero, List.set_cons_succ]; done) | (simp only [putAll, Act.put, List.setIfInBounds_toArray, List.set_cons_zero, List.set_cons_succ]; rfl)) (hJ3_8_18 (_, g1, g3) _ ⟨hB.alloc hB.size _, oneC_new (w := wd) (PX0.out _ hB) hl0, oneC_alloc o1 _, oneC_alloc o3 _⟩)
                                                        · skip
                                                          refine value_ (w1 := ?_) (v := ?_) (by rfl) rfl ?_ ?_
                                                          rotate_left 2
                                                          · go_simp
                                                            constructor
                                                            · rfl
                                                            · rfl
                                                          refine hK.out _ _ trivial (fun hHeld => ?_)
                                                          clear hK K
                                                          refine norm_ (a' := ?_) ?_ ?_
                                                          rotate_left
                                                          · show Act.put _ (some 58) _ = _
                                                            simp only [Act.put, List.setIfInBounds_toArray, List.set_cons_zero, List.set_cons_succ, i64_w, i32_w]
                                                            rfl
                                                          exact norm_ (by first | (simp only [putAll, Act.put, List.setIfInBounds_toArray, List.set_cons_zero, List.set_cons_succ]; done) | (simp only [putAll, Act.put, List.setIfInBounds_toArray, List.set_cons_zero, List.set_cons_succ]; rfl)) (hJ8_14_18 (g1, _, g3) _ ⟨hB.alloc hB.size _, oneC_alloc o1 _, oneC_new (w := wd) (PX2.out _ hB) hl2, oneC_alloc o3 _⟩)
                                                    · skip
                                                      rintro ⟨g1, g2⟩ wd ⟨hB, o1, o2⟩
                                                      have hHeld := trivial
                                                      refine norm_ (a' := ?_) ?_ ?_
                                                      rotate_left
                                                      · simp only [putAll, Act.put, List.setIfInBounds_toArray, List.set_cons_zero, List.set_cons_succ]
                                                        rfl
                                                      refine two_ (i := 3) (j := 18) (Ni := some 47) (Nj := some 62) #[true, true, true, true, false, true, true, true, true, false, false, true, true, true, true, false, false, true, false, false, false, false] #[true, true, true, false, false, true, true, true, true, false, false, true, true, true, true, false, false, true, true, false, false, false] rfl rfl rfl rfl (by kernel_rfl) (by decide) (by decide) (fun K hK => ?_) (fun K hK => ?_)
                                                      · skip
                                                        refine value_ (w1 := ?_) (v := ?_) (by rfl) rfl ?_ ?_
                                                        rotate_left 2
                                                        · go_simp
                                                          constructor
                                                          · rfl
                                                          · rfl
                                                        refine hK.out _ _ trivial (fun hHeld => ?_)
                                                        clear hK K
                                                        refine norm_ (a' := ?_) ?_ ?_
                                                        rotate_left
                                                        · show Act.put _ (some 47) _ = _
                                                          simp only [Act.put, List.setIfInBounds_toArray, List.set_cons_zero, List.set_cons_succ, i64_w, i32_w]
                                                          rfl
                                                        exact norm_ (by first | (simp only [putAll, Act.put, List.setIfInBounds_toArray, List.set_cons_zero, List.set_cons_succ]; done) | (simp only [putAll, Act.put, List.setIfInBounds_toArray, List.set_cons_zero, List.set_cons_succ]; rfl)) (hJ3_8_14 (_, g1, g2) _ ⟨hB.alloc hB.size _, oneC_new (w := wd) (PX0.out _ hB) hl0, oneC_alloc o1 _, oneC_alloc o2 _⟩)
                                                      · skip
                                                        refine value_ (w1 := ?_) (v := ?_) (by rfl) rfl ?_ ?_
                                                        rotate_left 2
                                                        · go_simp
                                                          constructor
                                                          · rfl
                                                          · rfl
                                                        refine hK.out _ _ trivial (fun hHeld => ?_)
                                                        clear hK K
                                                        refine norm_ (a' := ?_) ?_ ?_
                                                        rotate_left
                                                        · show Act.put _ (some 62) _ = _
                                                          simp only [Act.put, List.setIfInBounds_toArray, List.set_cons_zero, List.set_cons_succ, i64_w, i32_w]
                                                          rfl
                                                        exact norm_ (by first | (simp only [putAll, Act.put, List.setIfInBounds_toArray, List.set_cons_zero, List.set_cons_succ]; done) | (simp only [putAll, Act.put, List.setIfInBounds_toArray, List.set_cons_zero, List.set_cons_succ]; rfl)) (hJ8_14_18 (g1, g2, _) _ ⟨hB.alloc hB.size _, oneC_alloc o1 _, oneC_alloc o2 _, oneC_new (w := wd) (PX3.out _ hB) hl3⟩)
                                                  · skip
                                                    rintro ⟨g0, g3⟩ wd ⟨hB, o0, o3⟩
                                                    have hHeld := trivial
                                                    refine norm_ (a' := ?_) ?_ ?_
                                                    rotate_left
                                                    · simp only [putAll, Act.put, List.setIfInBounds_toArray, List.set_cons_zero, List.set_cons_succ]
                                                      rfl
                                                    refine three_ (i := 4) (j := 8) (k := 14) (Ni := some 48) (Nj := some 52) (Nk := some 58) #[true, true, true, true, true, true, true, true, false, false, false, true, true, true, false, false, false, true, true, false, false, false] #[true, true, true, true, false, true, true, true, true, false, false, true, true, true, false, false, false, true, true, false, false, false] #[true, true, true, true, false, true, true, true, false, false, false, true, true, true, true, false, false, true, true, false, false, false] rfl rfl rfl rfl rfl rfl (by kernel_rfl) (by decide) (by decide) (by decide) (fun K hK => ?_) (fun K hK => ?_) (fun K hK => ?_)
                                                    · skip
                                                      refine goes_ Try.func25 (by kernel_rfl) rfl #[.slice (some ⟨g0, 0, none⟩) 1 1] (by rfl) rfl rfl (by simp only [List.map_toArray, List.map_cons, List.map_nil]; rfl) ?_
                                                      with_reducible refine (SU0.out _ _ o0).mono ?_
                                                      rintro e w2 ⟨rfl, rfl⟩
                                                      refine ⟨_, rfl, ?_⟩
                                                      refine hK.out _ _ trivial (fun hHeld => ?_)
                                                      clear hK K
                                                      refine norm_ (a' := ?_) ?_ ?_
                                                      rotate_left
                                                      · show Act.put _ (some 48) _ = _
                                                        simp only [Act.put, List.setIfInBounds_toArray, List.set_cons_zero, List.set_cons_succ, i64_w, i32_w]
                                                        rfl
                                                      exact norm_ (by first | (simp only [putAll, Act.put, List.setIfInBounds_toArray, List.set_cons_zero, List.set_cons_succ]; done) | (simp only [putAll, Act.put, List.setIfInBounds_toArray, List.set_cons_zero, List.set_cons_succ]; rfl)) (hJ3_4_18 (g0, g3) _ ⟨hB, o3⟩)
                                                    · skip
                                                      refine value_ (w1 := ?_) (v := ?_) (by rfl) rfl ?_ ?_
                                                      rotate_left 2
                                                      · go_simp
                                                        constructor
                                                        · rfl
                                                        · rfl
                                                      refine hK.out _ _ trivial (fun hHeld => ?_)
                                                      clear hK K
                                                      refine norm_ (a' := ?_) ?_ ?_
                                                      rotate_left
                                                      · show Act.put _ (some 52) _ = _
                                                        simp only [Act.put, List.setIfInBounds_toArray, List.set_cons_zero, List.set_cons_succ, i64_w, i32_w]
                                                        rfl
                                                      exact norm_ (by first | (simp only [putAll, Act.put, List.setIfInBounds_toArray, List.set_cons_zero, List.set_cons_succ]; done) | (simp only [putAll, Act.put, List.setIfInBounds_toArray, List.set_cons_zero, List.set_cons_succ]; rfl)) (hJ3_8_18 (g0, _, g3) _ ⟨hB.alloc hB.size _, oneC_alloc o0 _, oneC_new (w := wd) (PX1.out _ hB) hl1, oneC_alloc o3 _⟩)
                                                    · skip
                                                      refine value_ (w1 := ?_) (v := ?_) (by rfl) rfl ?_ ?_
                                                      rotate_left 2
                                                      · go_simp
                                                        constructor
                                                        · rfl
                                                        · rfl
                                                      refine hK.out _ _ trivial (fun hHeld => ?_)
                                                      clear hK K
                                                      refine norm_ (a' := ?_) ?_ ?_
                                                      rotate_left
                                                      · show Act.put _ (some 58) _ = _
                                                        simp only [Act.put, List.setIfInBounds_toArray, List.set_cons_zero, List.set_cons_succ, i64_w, i32_w]
                                                        rfl
                                                      exact norm_ (by first | (simp only [putAll, Act.put, List.setIfInBounds_toArray, List.set_cons_zero, List.set_cons_succ]; done) | (simp only [putAll, Act.put, List.setIfInBounds_toArray, List.set_cons_zero, List.set_cons_succ]; rfl)) (hJ3_14_18 (g0, _, g3) _ ⟨hB.alloc hB.size _, oneC_alloc o0 _, oneC_new (w := wd) (PX2.out _ hB) hl2, oneC_alloc o3 _⟩)
                                                · skip
                                                  rintro ⟨g0, g2⟩ wd ⟨hB, o0, o2⟩
                                                  have hHeld := trivial
                                                  refine norm_ (a' := ?_) ?_ ?_
                                                  rotate_left
                                                  · simp only [putAll, Act.put, List.setIfInBounds_toArray, List.set_cons_zero, List.set_cons_succ]
                                                    rfl
                                                  refine three_ (i := 4) (j := 8) (k := 18) (Ni := some 48) (Nj := some 52) (Nk := some 62) #[true, true, true, true, true, true, true, true, false, false, false, true, true, true, true, false, false, true, false, false, false, false] #[true, true, true, true, false, true, true, true, true, false, false, true, true, true, true, false, false, true, false, false, false, false] #[true, true, true, true, false, true, true, true, false, false, false, true, true, true, true, false, false, true, true, false, false, false] rfl rfl rfl rfl rfl rfl (by kernel_rfl) (by decide) (by decide) (by decide) (fun K hK => ?_) (fun K hK => ?_) (fun K hK => ?_)
                                                  · skip
                                                    refine goes_ Try.func25 (by kernel_rfl) rfl #[.slice (some ⟨g0, 0, none⟩) 1 1] (by rfl) rfl rfl (by simp only [List.map_toArray, List.map_cons, List.map_nil]; rfl) ?_
                                                    with_reducible refine (SU0.out _ _ o0).mono ?_
                                                    rintro e w2 ⟨rfl, rfl⟩
                                                    refine ⟨_, rfl, ?_⟩
                                                    refine hK.out _ _ trivial (fun hHeld => ?_)
                                                    clear hK K
                                                    refine norm_ (a' := ?_) ?_ ?_
                                                    rotate_left
                                                    · show Act.put _ (some 48) _ = _
                                                      simp only [Act.put, List.setIfInBounds_toArray, List.set_cons_zero, List.set_cons_succ, i64_w, i32_w]
                                                      rfl
                                                    exact norm_ (by first | (simp only [putAll, Act.put, List.setIfInBounds_toArray, List.set_cons_zero, List.set_cons_succ]; done) | (simp only [putAll, Act.put, List.setIfInBounds_toArray, List.set_cons_zero, List.set_cons_succ]; rfl)) (hJ3_4_14 (g0, g2) _ ⟨hB, o2⟩)
                                                  · skip
                                                    refine value_ (w1 := ?_) (v := ?_) (by rfl) rfl ?_ ?_
                                                    rotate_left 2
                                                    · go_simp
                                                      constructor
                                                      · rfl
                                                      · rfl
                                                    refine hK.out _ _ trivial (fun hHeld => ?_)
                                                    clear hK K
                                                    refine norm_ (a' := ?_) ?_ ?_
                                                    rotate_left
                                                    · show Act.put _ (some 52) _ = _
                                                      simp only [Act.put, List.setIfInBounds_toArray, List.set_cons_zero, List.set_cons_succ, i64_w, i32_w]
                                                      rfl
                                                    exact norm_ (by first | (simp only [putAll, Act.put, List.setIfInBounds_toArray, List.set_cons_zero, List.set_cons_succ]; done) | (simp only [putAll, Act.put, List.setIfInBounds_toArray, List.set_cons_zero, List.set_cons_succ]; rfl)) (hJ3_8_14 (g0, _, g2) _ ⟨hB.alloc hB.size _, oneC_alloc o0 _, oneC_new (w := wd) (PX1.out _ hB) hl1, oneC_alloc o2 _⟩)
                                                  · skip
                                                    refine value_ (w1 := ?_) (v := ?_) (by rfl) rfl ?_ ?_
                                                    rotate_left 2
                                                    · go_simp
                                                      constructor
                                                      · rfl
                                                      · rfl
                                                    refine hK.out _ _ trivial (fun hHeld => ?_)
                                                    clear hK K
                                                    refine norm_ (a' := ?_) ?_ ?_
                                                    rotate_left
                                                    · show Act.put _ (some 62) _ = _
                                                      simp only [Act.put, List.setIfInBounds_toArray, List.set_cons_zero, List.set_cons_succ, i64_w, i32_w]
                                                      rfl
                                                    exact norm_ (by first | (simp only [putAll, Act.put, List.setIfInBounds_toArray, List.set_cons_zero, List.set_cons_succ]; done) | (simp only [putAll, Act.put, List.setIfInBounds_toArray, List.set_cons_zero, List.set_cons_succ]; rfl)) (hJ3_14_18 (g0, g2, _) _ ⟨hB.alloc hB.size _, oneC_alloc o0 _, oneC_alloc o2 _, oneC_new (w := wd) (PX3.out _ hB) hl3⟩)
                                              · skip
                                                rintro ⟨g0, g1⟩ wd ⟨hB, o0, o1⟩
                                                have hHeld := trivial
                                                refine norm_ (a' := ?_) ?_ ?_
                                                rotate_left
                                                · simp only [putAll, Act.put, List.setIfInBounds_toArray, List.set_cons_zero, List.set_cons_succ]
                                                  rfl
                                                refine three_ (i := 4) (j := 14) (k := 18) (Ni := some 48) (Nj := some 58) (Nk := some 62) #[true, true, true, true, true, true, true, true, true, false, false, true, true, true, false, false, false, true, false, false, false, false] #[true, true, true, true, false, true, true, true, true, false, false, true, true, true, true, false, false, true, false, false, false, false] #[true, true, true, true, false, true, true, true, true, false, false, true, true, true, false, false, false, true, true, false, false, false] rfl rfl rfl rfl rfl rfl (by kernel_rfl) (by decide) (by decide) (by decide) (fun K hK => ?_) (fun K hK => ?_) (fun K hK => ?_)
                                                · skip
                                                  refine goes_ Try.func25 (by kernel_rfl) rfl #[.slice (some ⟨g0, 0, none⟩) 1 1] (by rfl) rfl rfl (by simp only [List.map_toArray, List.map_cons, List.map_nil]; rfl) ?_
                                                  with_reducible refine (SU0.out _ _ o0).mono ?_
                                                  rintro e w2 ⟨rfl, rfl⟩
                                                  refine ⟨_, rfl, ?_⟩
                                                  refine hK.out _ _ trivial (fun hHeld => ?_)
                                                  clear hK K
                                                  refine norm_ (a' := ?_) ?_ ?_
                                                  rotate_left
                                                  · show Act.put _ (some 48) _ = _
                                                    simp only [Act.put, List.setIfInBounds_toArray, List.set_cons_zero, List.set_cons_succ, i64_w, i32_w]
                                                    rfl
                                                  exact norm_ (by first | (simp only [putAll, Act.put, List.setIfInBounds_toArray, List.set_cons_zero, List.set_cons_succ]; done) | (simp only [putAll, Act.put, List.setIfInBounds_toArray, List.set_cons_zero, List.set_cons_succ]; rfl)) (hJ3_4_8 (g0, g1) _ ⟨hB, o1⟩)
                                                · skip
                                                  refine value_ (w1 := ?_) (v := ?_) (by rfl) rfl ?_ ?_
                                                  rotate_left 2
                                                  · go_simp
                                                    constructor
                                                    · rfl
                                                    · rfl
                                                  refine hK.out _ _ trivial (fun hHeld => ?_)
                                                  clear hK K
                                                  refine norm_ (a' := ?_) ?_ ?_
                                                  rotate_left
                                                  · show Act.put _ (some 58) _ = _
                                                    simp only [Act.put, List.setIfInBounds_toArray, List.set_cons_zero, List.set_cons_succ, i64_w, i32_w]
                                                    rfl
                                                  exact norm_ (by first | (simp only [putAll, Act.put, List.setIfInBounds_toArray, List.set_cons_zero, List.set_cons_succ]; done) | (simp only [putAll, Act.put, List.setIfInBounds_toArray, List.set_cons_zero, List.set_cons_succ]; rfl)) (hJ3_8_14 (g0, g1, _) _ ⟨hB.alloc hB.size _, oneC_alloc o0 _, oneC_alloc o1 _, oneC_new (w := wd) (PX2.out _ hB) hl2⟩)
                                                · skip
                                                  refine value_ (w1 := ?_) (v := ?_) (by rfl) rfl ?_ ?_
                                                  rotate_left 2
                                                  · go_simp
                                                    constructor
                                                    · rfl
                                                    · rfl
                                                  refine hK.out _ _ trivial (fun hHeld => ?_)
                                                  clear hK K
                                                  refine norm_ (a' := ?_) ?_ ?_
                                                  rotate_left
                                                  · show Act.put _ (some 62) _ = _
                                                    simp only [Act.put, List.setIfInBounds_toArray, List.set_cons_zero, List.set_cons_succ, i64_w, i32_w]
                                                    rfl
                                                  exact norm_ (by first | (simp only [putAll, Act.put, List.setIfInBounds_toArray, List.set_cons_zero, List.set_cons_succ]; done) | (simp only [putAll, Act.put, List.setIfInBounds_toArray, List.set_cons_zero, List.set_cons_succ]; rfl)) (hJ3_8_18 (g0, g1, _) _ ⟨hB.alloc hB.size _, oneC_alloc o0 _, oneC_alloc o1 _, oneC_new (w := wd) (PX3.out _ hB) hl3⟩)
                                            · skip
                                              rintro g0 wd hB
                                              have hHeld := trivial
                                              refine norm_ (a' := ?_) ?_ ?_
                                              rotate_left
                                              · simp only [putAll, Act.put, List.setIfInBounds_toArray, List.set_cons_zero, List.set_cons_succ]
                                                rfl
                                              refine three_ (i := 8) (j := 14) (k := 18) (Ni := some 52) (Nj := some 58) (Nk := some 62) #[true, true, true, true, true, true, true, true, true, false, false, true, true, true, false, false, false, true, false, false, false, false] #[true, true, true, true, true, true, true, true, false, false, false, true, true, true, true, false, false, true, false, false, false, false] #[true, true, true, true, true, true, true, true, false, false, false, true, true, true, false, false, false, true, true, false, false, false] rfl rfl rfl rfl rfl rfl (by kernel_rfl) (by decide) (by decide) (by decide) (fun K hK => ?_) (fun K hK => ?_) (fun K hK => ?_)
                                              · skip
                                                refine value_ (w1 := ?_) (v := ?_) (by rfl) rfl ?_ ?_
                                                rotate_left 2
                                                · go_simp
                                                  constructor
                                                  · rfl
                                                  · rfl
                                                refine hK.out _ _ trivial (fun hHeld => ?_)
                                                clear hK K
                                                refine norm_ (a' := ?_) ?_ ?_
                                                rotate_left
                                                · show Act.put _ (some 52) _ = _
                                                  simp only [Act.put, List.setIfInBounds_toArray, List.set_cons_zero, List.set_cons_succ, i64_w, i32_w]
                                                  rfl
                                                exact norm_ (by first | (simp only [putAll, Act.put, List.setIfInBounds_toArray, List.set_cons_zero, List.set_cons_succ]; done) | (simp only [putAll, Act.put, List.setIfInBounds_toArray, List.set_cons_zero, List.set_cons_succ]; rfl)) (hJ3_4_8 (g0, _) _ ⟨hB.alloc hB.size _, oneC_new (w := wd) (PX1.out _ hB) hl1⟩)
                                              · skip
                                                refine value_ (w1 := ?_) (v := ?_) (by rfl) rfl ?_ ?_
                                                rotate_left 2
                                                · go_simp
                                                  constructor
                                                  · rfl
                                                  · rfl
                                                refine hK.out _ _ trivial (fun hHeld => ?_)
                                                clear hK K
                                                refine norm_ (a' := ?_) ?_ ?_
                                                rotate_left
                                                · show Act.put _ (some 58) _ = _
                                                  simp only [Act.put, List.setIfInBounds_toArray, List.set_cons_zero, List.set_cons_succ, i64_w, i32_w]
                                                  rfl
                                                exact norm_ (by first | (simp only [putAll, Act.put, List.setIfInBounds_toArray, List.set_cons_zero, List.set_cons_succ]; done) | (simp only [putAll, Act.put, List.setIfInBounds_toArray, List.set_cons_zero, List.set_cons_succ]; rfl)) (hJ3_4_14 (g0, _) _ ⟨hB.alloc hB.size _, oneC_new (w := wd) (PX2.out _ hB) hl2⟩)
                                              · skip
                                                refine value_ (w1 := ?_) (v := ?_) (by rfl) rfl ?_ ?_
                                                rotate_left 2
                                                · go_simp
                                                  constructor
                                                  · rfl
                                                  · rfl
                                                refine hK.out _ _ trivial (fun hHeld => ?_)
                                                clear hK K
                                                refine norm_ (a' := ?_) ?_ ?_
                                                rotate_left
                                                · show Act.put _ (some 62) _ = _
                                                  simp only [Act.put, List.setIfInBounds_toArray, List.set_cons_zero, List.set_cons_succ, i64_w, i32_w]
                                                  rfl
                                                exact norm_ (by first | (simp only [putAll, Act.put, List.setIfInBounds_toArray, List.set_cons_zero, List.set_cons_succ]; done) | (simp only [putAll, Act.put, List.setIfInBounds_toArray, List.set_cons_zero, List.set_cons_succ]; rfl)) (hJ3_4_18 (g0, _) _ ⟨hB.alloc hB.size _, oneC_new (w := wd) (PX3.out _ hB) hl3⟩)
                                          · skip
                                            rintro ⟨g1, g2, g3⟩ wd ⟨hB, o1, o2, o3⟩
                                            have hHeld := trivial
                                            refine norm_ (a' := ?_) ?_ ?_
                                            rotate_left
                                            · simp only [putAll, Act.put, List.setIfInBounds_toArray, List.set_cons_zero, List.set_cons_succ]
                                              rfl
                                            refine one_ (i := 3) (N := some 47) #[true, true, true, true, false, true, true, true, true, false, false, true, true, true, true, false, false, true, true, false, false, false] rfl rfl (by kernel_rfl) (by decide) (fun K hK => ?_)
                                            refine value_ (w1 := ?_) (v := ?_) (by rfl) rfl ?_ ?_
                                            rotate_left 2
                                            · go_simp
                                              constructor
                                              · rfl
                                              · rfl
                                            refine hK.out _ _ trivial (fun hHeld => ?_)
                                            clear hK K
                                            refine norm_ (a' := ?_) ?_ ?_
                                            rotate_left
                                            · show Act.put _ (some 47) _ = _
                                              simp only [Act.put, List.setIfInBounds_toArray, List.set_cons_zero, List.set_cons_succ, i64_w, i32_w]
                                              rfl
                                            exact norm_ (by first | (simp only [putAll, Act.put, List.setIfInBounds_toArray, List.set_cons_zero, List.set_cons_succ]; done) | (simp only [putAll, Act.put, List.setIfInBounds_toArray, List.set_cons_zero, List.set_cons_succ]; rfl)) (hJ3_8_14_18 (_, g1, g2, g3) _ ⟨hB.alloc hB.size _, oneC_new (w := wd) (PX0.out _ hB) hl0, oneC_alloc o1 _, oneC_alloc o2 _, oneC_alloc o3 _⟩)
                                        · skip
                                          rintro ⟨g0, g2, g3⟩ wd ⟨hB, o0, o2, o3⟩
                                          have hHeld := trivial
                                          refine norm_ (a' := ?_) ?_ ?_
                                          rotate_left
                                          · simp only [putAll, Act.put, List.setIfInBounds_toArray, List.set_cons_zero, List.set_cons_succ]
                                            rfl
                                          refine two_ (i := 4) (j := 8) (Ni := some 48) (Nj := some 52) #[true, true, true, true, true, true, true, true, false, false, false, true, true, true, true, false, false, true, true, false, false, false] #[true, true, true, true, false, true, true, true, true, false, false, true, true, true, true, false, false, true, true, false, false, false] rfl rfl rfl rfl (by kernel_rfl) (by decide) (by decide) (fun K hK => ?_) (fun K hK => ?_)
                                          · skip
                                            refine goes_ Try.func25 (by kernel_rfl) rfl #[.slice (some ⟨g0, 0, none⟩) 1 1] (by rfl) rfl rfl (by simp only [List.map_toArray, List.map_cons, List.map_nil]; rfl) ?_
                                            with_reducible refine (SU0.out _ _ o0).mono ?_
                                            rintro e w2 ⟨rfl, rfl⟩
                                            refine ⟨_, rfl, ?_⟩
                                            refine hK.out _ _ trivial (fun hHeld => ?_)
                                            clear hK K
                                            refine norm_ (a' := ?_) ?_ ?_
                                            rotate_left
                                            · show Act.put _ (some 48) _ = _
                                              simp only [Act.put, List.setIfInBounds_toArray, List.set_cons_zero, List.set_cons_succ, i64_w, i32_w]
                                              rfl
                                            exact norm_ (by first | (simp only [putAll, Act.put, List.setIfInBounds_toArray, List.set_cons_zero, List.set_cons_succ]; done) | (simp only [putAll, Act.put, List.setIfInBounds_toArray, List.set_cons_zero, List.set_cons_succ]; rfl)) (hJ3_4_14_18 (g0, g2, g3) _ ⟨hB, o2, o3⟩)
                                          · skip
                                            refine value_ (w1 := ?_) (v := ?_) (by rfl) rfl ?_ ?_
                                            rotate_left 2
                                            · go_simp
                                              constructor
                                              · rfl
                                              · rfl
                                            refine hK.out _ _ trivial (fun hHeld => ?_)
                                            clear hK K
                                            refine norm_ (a' := ?_) ?_ ?_
                                            rotate_left
                                            · show Act.put _ (some 52) _ = _
                                              simp only [Act.put, List.setIfInBounds_toArray, List.set_cons_zero, List.set_cons_succ, i64_w, i32_w]
                                              rfl
                                            exact norm_ (by first | (simp only [putAll, Act.put, List.setIfInBounds_toArray, List.set_cons_zero, List.set_cons_succ]; done) | (simp only [putAll, Act.put, List.setIfInBounds_toArray, List.set_cons_zero, List.set_cons_succ]; rfl)) (hJ3_8_14_18 (g0, _, g2, g3) _ ⟨hB.alloc hB.size _, oneC_alloc o0 _, oneC_new (w := wd) (PX1.out _ hB) hl1, oneC_alloc o2 _, oneC_alloc o3 _⟩)
                                      · skip
                                        rintro ⟨g0, g1, g3⟩ wd ⟨hB, o0, o1, o3⟩
                                        have hHeld := trivial
                                        refine norm_ (a' := ?_) ?_ ?_
                                        rotate_left
                                        · simp only [putAll, Act.put, List.setIfInBounds_toArray, List.set_cons_zero, List.set_cons_succ]
                                          rfl
                                        refine two_ (i := 4) (j := 14) (Ni := some 48) (Nj := some 58) #[true, true, true, true, true, true, true, true, true, false, false, true, true, true, false, false, false, true, true, false, false, false] #[true, true, true, true, false, true, true, true, true, false, false, true, true, true, true, false, false, true, true, false, false, false] rfl rfl rfl rfl (by kernel_rfl) (by decide) (by decide) (fun K hK => ?_) (fun K hK => ?_)
                                        · skip
                                          refine goes_ Try.func25 (by kernel_rfl) rfl #[.slice (some ⟨g0, 0, none⟩) 1 1] (by rfl) rfl rfl (by simp only [List.map_toArray, List.map_cons, List.map_nil]; rfl) ?_
                                          with_reducible refine (SU0.out _ _ o0).mono ?_
                                          rintro e w2 ⟨rfl, rfl⟩
                                          refine ⟨_, rfl, ?_⟩
                                          refine hK.out _ _ trivial (fun hHeld => ?_)
                                          clear hK K
                                          refine norm_ (a' := ?_) ?_ ?_
                                          rotate_left
                                          · show Act.put _ (some 48) _ = _
                                            simp only [Act.put, List.setIfInBounds_toArray, List.set_cons_zero, List.set_cons_succ, i64_w, i32_w]
                                            rfl
                                          exact norm_ (by first | (simp only [putAll, Act.put, List.setIfInBounds_toArray, List.set_cons_zero, List.set_cons_succ]; done) | (simp only [putAll, Act.put, List.setIfInBounds_toArray, List.set_cons_zero, List.set_cons_succ]; rfl)) (hJ3_4_8_18 (g0, g1, g3) _ ⟨hB, o1, o3⟩)
                                        · skip
                                          refine value_ (w1 := ?_) (v := ?_) (by rfl) rfl ?_ ?_
                                          rotate_left 2
                                          · go_simp
                                            constructor
                                            · rfl
                                            · rfl
                                          refine hK.out _ _ trivial (fun hHeld => ?_)
                                          clear hK K
                                          refine norm_ (a' := ?_) ?_ ?_
                                          rotate_left
                                          · show Act.put _ (some 58) _ = _
                                            simp only [Act.put, List.setIfInBounds_toArray, List.set_cons_zero, List.set_cons_succ, i64_w, i32_w]
                                            rfl
                                          exact norm_ (by first | (simp only [putAll, Act.put, List.setIfInBounds_toArray, List.set_cons_zero, List.set_cons_succ]; done) | (simp only [putAll, Act.put, List.setIfInBounds_toArray, List.set_cons_zero, List.set_cons_succ]; rfl)) (hJ3_8_14_18 (g0, g1, _, g3) _ ⟨hB.alloc hB.size _, oneC_alloc o0 _, oneC_alloc o1 _, oneC_new (w := wd) (PX2.out _ hB) hl2, oneC_alloc o3 _⟩)
                                    · skip
                                      rintro ⟨g0, g1, g2⟩ wd ⟨hB, o0, o1, o2⟩
                                      have hHeld := trivial
                                      refine norm_ (a' := ?_) ?_ ?_
                                      rotate_left
                                      · simp only [putAll, Act.put, List.setIfInBounds_toArray, List.set_cons_zero, List.set_cons_succ]
                                        rfl
                                      refine two_ (i := 4) (j := 18) (Ni := some 48) (Nj := some 62) #[true, true, true, true, true, true, true, true, true, false, false, true, true, true, true, false, false, true, false, false, false, false] #[true, true, true, true, false, true, true, true, true, false, false, true, true, true, true, false, false, true, true, false, false, false] rfl rfl rfl rfl (by kernel_rfl) (by decide) (by decide) (fun K hK => ?_) (fun K hK => ?_)
                                      · skip
                                        refine goes_ Try.func25 (by kernel_rfl) rfl #[.slice (some ⟨g0, 0, none⟩) 1 1] (by rfl) rfl rfl (by simp only [List.map_toArray, List.map_cons, List.map_nil]; rfl) ?_
                                        with_reducible refine (SU0.out _ _ o0).mono ?_
                                        rintro e w2 ⟨rfl, rfl⟩
                                        refine ⟨_, rfl, ?_⟩
                                        refine hK.out _ _ trivial (fun hHeld => ?_)
                                        clear hK K
                                        refine norm_ (a' := ?_) ?_ ?_
                                        rotate_left
                                        · show Act.put _ (some 48) _ = _
                                          simp only [Act.put, List.setIfInBounds_toArray, List.set_cons_zero, List.set_cons_succ, i64_w, i32_w]
                                          rfl
                                        exact norm_ (by first | (simp only [putAll, Act.put, List.setIfInBounds_toArray, List.set_cons_zero, List.set_cons_succ]; done) | (simp only [putAll, Act.put, List.setIfInBounds_toArray, List.set_cons_zero, List.set_cons_succ]; rfl)) (hJ3_4_8_14 (g0, g1, g2) _ ⟨hB, o1, o2⟩)
                                      · skip
                                        refine value_ (w1 := ?_) (v := ?_) (by rfl) rfl ?_ ?_
                                        rotate_left 2
                                        · go_simp
                                          constructor
                                          · rfl
                                          · rfl
                                        refine hK.out _ _ trivial (fun hHeld => ?_)
                                        clear hK K
                                        refine norm_ (a' := ?_) ?_ ?_
                                        rotate_left
                                        · show Act.put _ (some 62) _ = _
                                          simp only [Act.put, List.setIfInBounds_toArray, List.set_cons_zero, List.set_cons_succ, i64_w, i32_w]
                                          rfl
                                        exact norm_ (by first | (simp only [putAll, Act.put, List.setIfInBounds_toArray, List.set_cons_zero, List.set_cons_succ]; done) | (simp only [putAll, Act.put, List.setIfInBounds_toArray, List.set_cons_zero, List.set_cons_succ]; rfl)) (hJ3_8_14_18 (g0, g1, g2, _) _ ⟨hB.alloc hB.size _, oneC_alloc o0 _, oneC_alloc o1 _, oneC_alloc o2 _, oneC_new (w := wd) (PX3.out _ hB) hl3⟩)
                                  · skip
                                    rintro ⟨g0, g3⟩ wd ⟨hB, o3⟩
                                    have hHeld := trivial
                                    refine norm_ (a' := ?_) ?_ ?_
                                    rotate_left
                                    · simp only [putAll, Act.put, List.setIfInBounds_toArray, List.set_cons_zero, List.set_cons_succ]
                                      rfl
                                    refine two_ (i := 8) (j := 14) (Ni := some 52) (Nj := some 58) #[true, true, true, true, true, true, true, true, true, false, false, true, true, true, false, false, false, true, true, false, false, false] #[true, true, true, true, true, true, true, true, false, false, false, true, true, true, true, false, false, true, true, false, false, false] rfl rfl rfl rfl (by kernel_rfl) (by decide) (by decide) (fun K hK => ?_) (fun K hK => ?_)
                                    · skip
                                      refine value_ (w1 := ?_) (v := ?_) (by rfl) rfl ?_ ?_
                                      rotate_left 2
                                      · go_simp
                                        constructor
                                        · rfl
                                        · rfl
                                      refine hK.out _ _ trivial (fun hHeld => ?_)
                                      clear hK K
                                      refine norm_ (a' := ?_) ?_ ?_
                                      rotate_left
                                      · show Act.put _ (some 52) _ = _
                                        simp only [Act.put, List.setIfInBounds_toArray, List.set_cons_zero, List.set_cons_succ, i64_w, i32_w]
                                        rfl
                                      exact norm_ (by first | (simp only [putAll, Act.put, List.setIfInBounds_toArray, List.set_cons_zero, List.set_cons_succ]; done) | (simp only [putAll, Act.put, List.setIfInBounds_toArray, List.set_cons_zero, List.set_cons_succ]; rfl)) (hJ3_4_8_18 (g0, _, g3) _ ⟨hB.alloc hB.size _, oneC_new (w := wd) (PX1.out _ hB) hl1, oneC_alloc o3 _⟩)
                                    · skip
                                      refine value_ (w1 := ?_) (v := ?_) (by rfl) rfl ?_ ?_
                                      rotate_left 2
                                      · go_simp
                                        constructor
                                        · rfl
                                        · rfl
                                      refine hK.out _ _ trivial (fun hHeld => ?_)
                                      clear hK K
                                      refine norm_ (a' := ?_) ?_ ?_
                                      rotate_left
                                      · show Act.put _ (some 58) _ = _
                                        simp only [Act.put, List.setIfInBounds_toArray, List.set_cons_zero, List.set_cons_succ, i64_w, i32_w]
                                        rfl
                                      exact norm_ (by first | (simp only [putAll, Act.put, List.setIfInBounds_toArray, List.set_cons_zero, List.set_cons_succ]; done) | (simp only [putAll, Act.put, List.setIfInBounds_toArray, List.set_cons_zero, List.set_cons_succ]; rfl)) (hJ3_4_14_18 (g0, _, g3) _ ⟨hB.alloc hB.size _, oneC_new (w := wd) (PX2.out _ hB) hl2, oneC_alloc o3 _⟩)
                                · skip
                                  rintro ⟨g0, g2⟩ wd ⟨hB, o2⟩
                                  have hHeld := trivial
                                  refine norm_ (a' := ?_) ?_ ?_
                                  rotate_left
                                  · simp only [putAll, Act.put, List.setIfInBounds_toArray, List.set_cons_zero, List.set_cons_succ]
                                    rfl
                                  refine two_ (i := 8) (j := 18) (Ni := some 52) (Nj := some 62) #[true, true, true, true, true, true, true, true, true, false, false, true, true, true, true, false, false, true, false, false, false, false] #[true, true, true, true, true, true, true, true, false, false, false, true, true, true, true, false, false, true, true, false, false, false] rfl rfl rfl rfl (by kernel_rfl) (by decide) (by decide) (fun K hK => ?_) (fun K hK => ?_)
                                  · skip
                                    refine value_ (w1 := ?_) (v := ?_) (by rfl) rfl ?_ ?_
                                    rotate_left 2
                                    · go_simp
                                      constructor
                                      · rfl
                                      · rfl
                                    refine hK.out _ _ trivial (fun hHeld => ?_)
                                    clear hK K
                                    refine norm_ (a' := ?_) ?_ ?_
                                    rotate_left
                                    · show Act.put _ (some 52) _ = _
                                      simp only [Act.put, List.setIfInBounds_toArray, List.set_cons_zero, List.set_cons_succ, i64_w, i32_w]
                                      rfl
                                    exact norm_ (by first | (simp only [putAll, Act.put, List.setIfInBounds_toArray, List.set_cons_zero, List.set_cons_succ]; done) | (simp only [putAll, Act.put, List.setIfInBounds_toArray, List.set_cons_zero, List.set_cons_succ]; rfl)) (hJ3_4_8_14 (g0, _, g2) _ ⟨hB.alloc hB.size _, oneC_new (w := wd) (PX1.out _ hB) hl1, oneC_alloc o2 _⟩)
                                  · skip
                                    refine value_ (w1 := ?_) (v := ?_) (by rfl) rfl ?_ ?_
                                    rotate_left 2
                                    · go_simp
                                      constructor
                                      · rfl
                                      · rfl
                                    refine hK.out _ _ trivial (fun hHeld => ?_)
                                    clear hK K
                                    refine norm_ (a' := ?_) ?_ ?_
                                    rotate_left
                                    · show Act.put _ (some 62) _ = _
                                      simp only [Act.put, List.setIfInBounds_toArray, List.set_cons_zero, List.set_cons_succ, i64_w, i32_w]
                                      rfl
                                    exact norm_ (by first | (simp only [putAll, Act.put, List.setIfInBounds_toArray, List.set_cons_zero, List.set_cons_succ]; done) | (simp only [putAll, Act.put, List.setIfInBounds_toArray, List.set_cons_zero, List.set_cons_succ]; rfl)) (hJ3_4_14_18 (g0, g2, _) _ ⟨hB.alloc hB.size _, oneC_alloc o2 _, oneC_new (w := wd) (PX3.out _ hB) hl3⟩)
                              · skip
                                rintro ⟨g0, g1⟩ wd ⟨hB, o1⟩
                                have hHeld := trivial
                                refine norm_ (a' := ?_) ?_ ?_
                                rotate_left
                                · simp only [putAll, Act.put, List.setIfInBounds_toArray, List.set_cons_zero, List.set_cons_succ]
                                  rfl
                                refine three_ (i := 9) (j := 14) (k := 18) (Ni := some 53) (Nj := some 58) (Nk := some 62) #[true, true, true, true, true, true, true, true, true, true, false, true, true, true, false, false, false, true, false, false, false, false] #[true, true, true, true, true, true, true, true, true, false, false, true, true, true, true, false, false, true, false, false, false, false] #[true, true, true, true, true, true, true, true, true, false, false, true, true, true, false, false, false, true, true, false, false, false] rfl rfl rfl rfl rfl rfl (by kernel_rfl) (by decide) (by decide) (by decide) (fun K hK => ?_) (fun K hK => ?_) (fun K hK => ?_)
                                · skip
                                  refine goes_ Try.func25 (by kernel_rfl) rfl #[.slice (some ⟨g1, 0, none⟩) 1 1] (by rfl) rfl rfl (by simp only [List.map_toArray, List.map_cons, List.map_nil]; rfl) ?_
                                  with_reducible refine (SU1.out _ _ o1).mono ?_
                                  rintro e w2 ⟨rfl, rfl⟩
                                  refine ⟨_, rfl, ?_⟩
                                  refine hK.out _ _ trivial (fun hHeld => ?_)
                                  clear hK K
                                  refine norm_ (a' := ?_) ?_ ?_
                                  rotate_left
                                  · show Act.put _ (some 53) _ = _
                                    simp only [Act.put, List.setIfInBounds_toArray, List.set_cons_zero, List.set_cons_succ, i64_w, i32_w]
                                    rfl
                                  refine pure_ (i := 10) (N := some 54) (v := ?_) (a' := ?_) #[true, true, true, true, true, true, true, true, true, true, true, true, true, true, false, false, false, true, false, false, false, false] rfl rfl (by kernel_rfl) (fun _ _ _ h => h) (Or.inl ⟨by rfl, ?_⟩) ?_ ?_
                                  rotate_left
                                  · intro w'
                                    go_simp
                                    with_reducible rfl
                                  rotate_left
                                  · simp only [Act.put, List.setIfInBounds_toArray, List.set_cons_zero, List.set_cons_succ, i64_w, i32_w]
                                    rfl
                                  exact norm_ (by first | (simp only [putAll, Act.put, List.setIfInBounds_toArray, List.set_cons_zero, List.set_cons_succ]; done) | (simp only [putAll, Act.put, List.setIfInBounds_toArray, List.set_cons_zero, List.set_cons_succ]; rfl)) (hJ3_4_8_9 (g0, g1) _ (hB))
                                · skip
                                  refine value_ (w1 := ?_) (v := ?_) (by rfl) rfl ?_ ?_
                                  rotate_left 2
                                  · go_simp
                                    constructor
                                    · rfl
                                    · rfl
                                  refine hK.out _ _ trivial (fun hHeld => ?_)
                                  clear hK K
                                  refine norm_ (a' := ?_) ?_ ?_
                                  rotate_left
                                  · show Act.put _ (some 58) _ = _
                                    simp only [Act.put, List.setIfInBounds_toArray, List.set_cons_zero, List.set_cons_succ, i64_w, i32_w]
                                    rfl
                                  exact norm_ (by first | (simp only [putAll, Act.put, List.setIfInBounds_toArray, List.set_cons_zero, List.set_cons_succ]; done) | (simp only [putAll, Act.put, List.setIfInBounds_toArray, List.set_cons_zero, List.set_cons_succ]; rfl)) (hJ3_4_8_14 (g0, g1, _) _ ⟨hB.alloc hB.size _, oneC_alloc o1 _, oneC_new (w := wd) (PX2.out _ hB) hl2⟩)
                                · skip
                                  refine value_ (w1 := ?_) (v := ?_) (by rfl) rfl ?_ ?_
                                  rotate_left 2
                                  · go_simp
                                    constructor
                                    · rfl
                                    · rfl
                                  refine hK.out _ _ trivial (fun hHeld => ?_)
                                  clear hK K
                                  refine norm_ (a' := ?_) ?_ ?_
                                  rotate_left
                                  · show Act.put _ (some 62) _ = _
                                    simp only [Act.put, List.setIfInBounds_toArray, List.set_cons_zero, List.set_cons_succ, i64_w, i32_w]
                                    rfl
                                  exact norm_ (by first | (simp only [putAll, Act.put, List.setIfInBounds_toArray, List.set_cons_zero, List.set_cons_succ]; done) | (simp only [putAll, Act.put, List.setIfInBounds_toArray, List.set_cons_zero, List.set_cons_succ]; rfl)) (hJ3_4_8_18 (g0, g1, _) _ ⟨hB.alloc hB.size _, oneC_alloc o1 _, oneC_new (w := wd) (PX3.out _ hB) hl3⟩)
                            · skip
                              rintro ⟨g0, g1, g2, g3⟩ wd ⟨hB, o0, o1, o2, o3⟩
                              have hHeld := trivial
                              refine norm_ (a' := ?_) ?_ ?_
                              rotate_left
                              · simp only [putAll, Act.put, List.setIfInBounds_toArray, List.set_cons_zero, List.set_cons_succ]
                                rfl
                              refine one_ (i := 4) (N := some 48) #[true, true, true, true, true, true, true, true, true, false, false, true, true, true, true, false, false, true, true, false, false, false] rfl rfl (by kernel_rfl) (by decide) (fun K hK => ?_)
                              refine goes_ Try.func25 (by kernel_rfl) rfl #[.slice (some ⟨g0, 0, none⟩) 1 1] (by rfl) rfl rfl (by simp only [List.map_toArray, List.map_cons, List.map_nil]; rfl) ?_
                              with_reducible refine (SU0.out _ _ o0).mono ?_
                              rintro e w2 ⟨rfl, rfl⟩
                              refine ⟨_, rfl, ?_⟩
                              refine hK.out _ _ trivial (fun hHeld => ?_)
                              clear hK K
                              refine norm_ (a' := ?_) ?_ ?_
                              rotate_left
                              · show Act.put _ (some 48) _ = _
                                simp only [Act.put, List.setIfInBounds_toArray, List.set_cons_zero, List.set_cons_succ, i64_w, i32_w]
                                rfl
                              exact norm_ (by first | (simp only [putAll, Act.put, List.setIfInBounds_toArray, List.set_cons_zero, List.set_cons_succ]; done) | (simp only [putAll, Act.put, List.setIfInBounds_toArray, List.set_cons_zero, List.set_cons_succ]; rfl)) (hJ3_4_8_14_18 (g0, g1, g2, g3) _ ⟨hB, o1, o2, o3⟩)
                          · skip
                            rintro ⟨g0, g2, g3⟩ wd ⟨hB, o2, o3⟩
                            have hHeld := trivial
                            refine norm_ (a' := ?_) ?_ ?_
                            rotate_left
                            · simp only [putAll, Act.put, List.setIfInBounds_toArray, List.set_cons_zero, List.set_cons_succ]
                              rfl
                            refine one_ (i := 8) (N := some 52) #[true, true, true, true, true, true, true, true, true, false, false, true, true, true, true, false, false, true, true, false, false, false] rfl rfl (by kernel_rfl) (by decide) (fun K hK => ?_)
                            refine value_ (w1 := ?_) (v := ?_) (by rfl) rfl ?_ ?_
                            rotate_left 2
                            · go_simp
                              constructor
                              · rfl
                              · rfl
                            refine hK.out _ _ trivial (fun hHeld => ?_)
                            clear hK K
                            refine norm_ (a' := ?_) ?_ ?_
                            rotate_left
                            · show Act.put _ (some 52) _ = _
                              simp only [Act.put, List.setIfInBounds_toArray, List.set_cons_zero, List.set_cons_succ, i64_w, i32_w]
                              rfl
                            exact norm_ (by first | (simp only [putAll, Act.put, List.setIfInBounds_toArray, List.set_cons_zero, List.set_cons_succ]; done) | (simp only [putAll, Act.put, List.setIfInBounds_toArray, List.set_cons_zero, List.set_cons_succ]; rfl)) (hJ3_4_8_14_18 (g0, _, g2, g3) _ ⟨hB.alloc hB.size _, oneC_new (w := wd) (PX1.out _ hB) hl1, oneC_alloc o2 _, oneC_alloc o3 _⟩)
                        · skip
                          rintro ⟨g0, g1, g3⟩ wd ⟨hB, o1, o3⟩
                          have hHeld := trivial
                          refine norm_ (a' := ?_) ?_ ?_
                          rotate_left
                          · simp only [putAll, Act.put, List.setIfInBounds_toArray, List.set_cons_zero, List.set_cons_succ]
                            rfl
                          refine two_ (i := 9) (j := 14) (Ni := some 53) (Nj := some 58) #[true, true, true, true, true, true, true, true, true, true, false, true, true, true, false, false, false, true, true, false, false, false] #[true, true, true, true, true, true, true, true, true, false, false, true, true, true, true, false, false, true, true, false, false, false] rfl rfl rfl rfl (by kernel_rfl) (by decide) (by decide) (fun K hK => ?_) (fun K hK => ?_)
                          · skip
                            refine goes_ Try.func25 (by kernel_rfl) rfl #[.slice (some ⟨g1, 0, none⟩) 1 1] (by rfl) rfl rfl (by simp only [List.map_toArray, List.map_cons, List.map_nil]; rfl) ?_
                            with_reducible refine (SU1.out _ _ o1).mono ?_
                            rintro e w2 ⟨rfl, rfl⟩
                            refine ⟨_, rfl, ?_⟩
                            refine hK.out _ _ trivial (fun hHeld => ?_)
                            clear hK K
                            refine norm_ (a' := ?_) ?_ ?_
                            rotate_left
                            · show Act.put _ (some 53) _ = _
                              simp only [Act.put, List.setIfInBounds_toArray, List.set_cons_zero, List.set_cons_succ, i64_w, i32_w]
                              rfl
                            refine pure_ (i := 10) (N := some 54) (v := ?_) (a' := ?_) #[true, true, true, true, true, true, true, true, true, true, true, true, true, true, false, false, false, true, true, false, false, false] rfl rfl (by kernel_rfl) (fun _ _ _ h => h) (Or.inl ⟨by rfl, ?_⟩) ?_ ?_
                            rotate_left
                            · intro w'
                              go_simp
                              with_reducible rfl
                            rotate_left
                            · simp only [Act.put, List.setIfInBounds_toArray, List.set_cons_zero, List.set_cons_succ, i64_w, i32_w]
                              rfl
                            exact norm_ (by first | (simp only [putAll, Act.put, List.setIfInBounds_toArray, List.set_cons_zero, List.set_cons_succ]; done) | (simp only [putAll, Act.put, List.setIfInBounds_toArray, List.set_cons_zero, List.set_cons_succ]; rfl)) (hJ3_4_8_9_18 (g0, g1, g3) _ ⟨hB, o3⟩)
                          · skip
                            refine value_ (w1 := ?_) (v := ?_) (by rfl) rfl ?_ ?_
                            rotate_left 2
                            · go_simp
                              constructor
                              · rfl
                              · rfl
                            refine hK.out _ _ trivial (fun hHeld => ?_)
                            clear hK K
                            refine norm_ (a' := ?_) ?_ ?_
                            rotate_left
                            · show Act.put _ (some 58) _ = _
                              simp only [Act.put, List.setIfInBounds_toArray, List.set_cons_zero, List.set_cons_succ, i64_w, i32_w]
                              rfl
                            exact norm_ (by first | (simp only [putAll, Act.put, List.setIfInBounds_toArray, List.set_cons_zero, List.set_cons_succ]; done) | (simp only [putAll, Act.put, List.setIfInBounds_toArray, List.set_cons_zero, List.set_cons_succ]; rfl)) (hJ3_4_8_14_18 (g0, g1, _, g3) _ ⟨hB.alloc hB.size _, oneC_alloc o1 _, oneC_new (w := wd) (PX2.out _ hB) hl2, oneC_alloc o3 _⟩)
                      · skip
                        rintro ⟨g0, g1, g2⟩ wd ⟨hB, o1, o2⟩
                        have hHeld := trivial
                        refine norm_ (a' := ?_) ?_ ?_
                        rotate_left
                        · simp only [putAll, Act.put, List.setIfInBounds_toArray, List.set_cons_zero, List.set_cons_succ]
                          rfl
                        refine two_ (i := 9) (j := 18) (Ni := some 53) (Nj := some 62) #[true, true, true, true, true, true, true, true, true, true, false, true, true, true, true, false, false, true, false, false, false, false] #[true, true, true, true, true, true, true, true, true, false, false, true, true, true, true, false, false, true, true, false, false, false] rfl rfl rfl rfl (by kernel_rfl) (by decide) (by decide) (fun K hK => ?_) (fun K hK => ?_)
                        · skip
                          refine goes_ Try.func25 (by kernel_rfl) rfl #[.slice (some ⟨g1, 0, none⟩) 1 1] (by rfl) rfl rfl (by simp only [List.map_toArray, List.map_cons, List.map_nil]; rfl) ?_
                          with_reducible refine (SU1.out _ _ o1).mono ?_
                          rintro e w2 ⟨rfl, rfl⟩
                          refine ⟨_, rfl, ?_⟩
                          refine hK.out _ _ trivial (fun hHeld => ?_)
                          clear hK K
                          refine norm_ (a' := ?_) ?_ ?_
                          rotate_left
                          · show Act.put _ (some 53) _ = _
                            simp only [Act.put, List.setIfInBounds_toArray, List.set_cons_zero, List.set_cons_succ, i64_w, i32_w]
                            rfl
                          refine pure_ (i := 10) (N := some 54) (v := ?_) (a' := ?_) #[true, true, true, true, true, true, true, true, true, true, true, true, true, true, true, false, false, true, false, false, false, false] rfl rfl (by kernel_rfl) (fun _ _ _ h => h) (Or.inl ⟨by rfl, ?_⟩) ?_ ?_
                          rotate_left
                          · intro w'
                            go_simp
                            with_reducible rfl
                          rotate_left
                          · simp only [Act.put, List.setIfInBounds_toArray, List.set_cons_zero, List.set_cons_succ, i64_w, i32_w]
                            rfl
                          exact norm_ (by first | (simp only [putAll, Act.put, List.setIfInBounds_toArray, List.set_cons_zero, List.set_cons_succ]; done) | (simp only [putAll, Act.put, List.setIfInBounds_toArray, List.set_cons_zero, List.set_cons_succ]; rfl)) (hJ3_4_8_9_14 (g0, g1, g2) _ ⟨hB, o2⟩)
                        · skip
                          refine value_ (w1 := ?_) (v := ?_) (by rfl) rfl ?_ ?_
                          rotate_left 2
                          · go_simp
                            constructor
                            · rfl
                            · rfl
                          refine hK.out _ _ trivial (fun hHeld => ?_)
                          clear hK K
                          refine norm_ (a' := ?_) ?_ ?_
                          rotate_left
                          · show Act.put _ (some 62) _ = _
                            simp only [Act.put, List.setIfInBounds_toArray, List.set_cons_zero, List.set_cons_succ, i64_w, i32_w]
                            rfl
                          exact norm_ (by first | (simp only [putAll, Act.put, List.setIfInBounds_toArray, List.set_cons_zero, List.set_cons_succ]; done) | (simp only [putAll, Act.put, List.setIfInBounds_toArray, List.set_cons_zero, List.set_cons_succ]; rfl)) (hJ3_4_8_14_18 (g0, g1, g2, _) _ ⟨hB.alloc hB.size _, oneC_alloc o1 _, oneC_alloc o2 _, oneC_new (w := wd) (PX3.out _ hB) hl3⟩)
                    · skip
                      rintro ⟨g0, g1⟩ wd hB
                      have hHeld := trivial
                      refine norm_ (a' := ?_) ?_ ?_
                      rotate_left
                      · simp only [putAll, Act.put, List.setIfInBounds_toArray, List.set_cons_zero, List.set_cons_succ]
                        rfl
                      refine two_ (i := 14) (j := 18) (Ni := some 58) (Nj := some 62) #[true, true, true, true, true, true, true, true, true, true, true, true, true, true, true, false, false, true, false, false, false, false] #[true, true, true, true, true, true, true, true, true, true, true, true, true, true, false, false, false, true, true, false, false, false] rfl rfl rfl rfl (by kernel_rfl) (by decide) (by decide) (fun K hK => ?_) (fun K hK => ?_)
                      · skip
                        refine value_ (w1 := ?_) (v := ?_) (by rfl) rfl ?_ ?_
                        rotate_left 2
                        · go_simp
                          constructor
                          · rfl
                          · rfl
                        refine hK.out _ _ trivial (fun hHeld => ?_)
                        clear hK K
                        refine norm_ (a' := ?_) ?_ ?_
                        rotate_left
                        · show Act.put _ (some 58) _ = _
                          simp only [Act.put, List.setIfInBounds_toArray, List.set_cons_zero, List.set_cons_succ, i64_w, i32_w]
                          rfl
                        exact norm_ (by first | (simp only [putAll, Act.put, List.setIfInBounds_toArray, List.set_cons_zero, List.set_cons_succ]; done) | (simp only [putAll, Act.put, List.setIfInBounds_toArray, List.set_cons_zero, List.set_cons_succ]; rfl)) (hJ3_4_8_9_14 (g0, g1, _) _ ⟨hB.alloc hB.size _, oneC_new (w := wd) (PX2.out _ hB) hl2⟩)
                      · skip
                        refine value_ (w1 := ?_) (v := ?_) (by rfl) rfl ?_ ?_
                        rotate_left 2
                        · go_simp
                          constructor
                          · rfl
                          · rfl
                        refine hK.out _ _ trivial (fun hHeld => ?_)
                        clear hK K
                        refine norm_ (a' := ?_) ?_ ?_
                        rotate_left
                        · show Act.put _ (some 62) _ = _
                          simp only [Act.put, List.setIfInBounds_toArray, List.set_cons_zero, List.set_cons_succ, i64_w, i32_w]
                          rfl
                        exact norm_ (by first | (simp only [putAll, Act.put, List.setIfInBounds_toArray, List.set_cons_zero, List.set_cons_succ]; done) | (simp only [putAll, Act.put, List.setIfInBounds_toArray, List.set_cons_zero, List.set_cons_succ]; rfl)) (hJ3_4_8_9_18 (g0, g1, _) _ ⟨hB.alloc hB.size _, oneC_new (w := wd) (PX3.out _ hB) hl3⟩)
                  · skip
                    rintro ⟨g0, g1, g2, g3⟩ wd ⟨hB, o1, o2, o3⟩
                    have hHeld := trivial
                    refine norm_ (a' := ?_) ?_ ?_
                    rotate_left
                    · simp only [putAll, Act.put, List.setIfInBounds_toArray, List.set_cons_zero, List.set_cons_succ]
                      rfl
                    refine one_ (i := 9) (N := some 53) #[true, true, true, true, true, true, true, true, true, true, false, true, true, true, true, false, false, true, true, false, false, false] rfl rfl (by kernel_rfl) (by decide) (fun K hK => ?_)
                    refine goes_ Try.func25 (by kernel_rfl) rfl #[.slice (some ⟨g1, 0, none⟩) 1 1] (by rfl) rfl rfl (by simp only [List.map_toArray, List.map_cons, List.map_nil]; rfl) ?_
                    with_reducible refine (SU1.out _ _ o1).mono ?_
                    rintro e w2 ⟨rfl, rfl⟩
                    refine ⟨_, rfl, ?_⟩
                    refine hK.out _ _ trivial (fun hHeld => ?_)
                    clear hK K
                    refine norm_ (a' := ?_) ?_ ?_
                    rotate_left
                    · show Act.put _ (some 53) _ = _
                      simp only [Act.put, List.setIfInBounds_toArray, List.set_cons_zero, List.set_cons_succ, i64_w, i32_w]
                      rfl
                    refine pure_ (i := 10) (N := some 54) (v := ?_) (a' := ?_) #[true, true, true, true, true, true, true, true, true, true, true, true, true, true, true, false, false, true, true, false, false, false] rfl rfl (by kernel_rfl) (fun _ _ _ h => h) (Or.inl ⟨by rfl, ?_⟩) ?_ ?_
                    rotate_left
                    · intro w'
                      go_simp
                      with_reducible rfl
                    rotate_left
                    · simp only [Act.put, List.setIfInBounds_toArray, List.set_cons_zero, List.set_cons_succ, i64_w, i32_w]
                      rfl
                    exact norm_ (by first | (simp only [putAll, Act.put, List.setIfInBounds_toArray, List.set_cons_zero, List.set_cons_succ]; done) | (simp only [putAll, Act.put, List.setIfInBounds_toArray, List.set_cons_zero, List.set_cons_succ]; rfl)) (hJ3_4_8_9_14_18 (g0, g1, g2, g3) _ ⟨hB, o2, o3⟩)
                · skip
                  rintro ⟨g0, g1, g3⟩ wd ⟨hB, o3⟩
                  have hHeld := trivial
                  refine norm_ (a' := ?_) ?_ ?_
                  rotate_left
                  · simp only [putAll, Act.put, List.setIfInBounds_toArray, List.set_cons_zero, List.set_cons_succ]
                    rfl
                  refine one_ (i := 14) (N := some 58) #[true, true, true, true, true, true, true, true, true, true, true, true, true, true, true, false, false, true, true, false, false, false] rfl rfl (by kernel_rfl) (by decide) (fun K hK => ?_)
                  refine value_ (w1 := ?_) (v := ?_) (by rfl) rfl ?_ ?_
                  rotate_left 2
                  · go_simp
                    constructor
                    · rfl
                    · rfl
                  refine hK.out _ _ trivial (fun hHeld => ?_)
                  clear hK K
                  refine norm_ (a' := ?_) ?_ ?_
                  rotate_left
                  · show Act.put _ (some 58) _ = _
                    simp only [Act.put, List.setIfInBounds_toArray, List.set_cons_zero, List.set_cons_succ, i64_w, i32_w]
                    rfl
                  exact norm_ (by first | (simp only [putAll, Act.put, List.setIfInBounds_toArray, List.set_cons_zero, List.set_cons_succ]; done) | (simp only [putAll, Act.put, List.setIfInBounds_toArray, List.set_cons_zero, List.set_cons_succ]; rfl)) (hJ3_4_8_9_14_18 (g0, g1, _, g3) _ ⟨hB.alloc hB.size _, oneC_new (w := wd) (PX2.out _ hB) hl2, oneC_alloc o3 _⟩)
              · skip
                rintro ⟨g0, g1, g2⟩ wd ⟨hB, o2⟩
                have hHeld := trivial
                refine norm_ (a' := ?_) ?_ ?_
                rotate_left
                · simp only [putAll, Act.put, List.setIfInBounds_toArray, List.set_cons_zero, List.set_cons_succ]
                  rfl
                refine two_ (i := 15) (j := 18) (Ni := some 59) (Nj := some 62) #[true, true, true, true, true, true, true, true, true, true, true, true, true, true, true, true, false, true, false, false, false, false] #[true, true, true, true, true, true, true, true, true, true, true, true, true, true, true, false, false, true, true, false, false, false] rfl rfl rfl rfl (by kernel_rfl) (by decide) (by decide) (fun K hK => ?_) (fun K hK => ?_)
                · skip
                  refine goes_ Try.func25 (by kernel_rfl) rfl #[.slice (some ⟨g2, 0, none⟩) 1 1] (by rfl) rfl rfl (by simp only [List.map_toArray, List.map_cons, List.map_nil]; rfl) ?_
                  with_reducible refine (SU2.out _ _ o2).mono ?_
                  rintro e w2 ⟨rfl, rfl⟩
                  refine ⟨_, rfl, ?_⟩
                  refine hK.out _ _ trivial (fun hHeld => ?_)
                  clear hK K
                  refine norm_ (a' := ?_) ?_ ?_
                  rotate_left
                  · show Act.put _ (some 59) _ = _
                    simp only [Act.put, List.setIfInBounds_toArray, List.set_cons_zero, List.set_cons_succ, i64_w, i32_w]
                    rfl
                  refine pure_ (i := 16) (N := some 60) (v := ?_) (a' := ?_) #[true, true, true, true, true, true, true, true, true, true, true, true, true, true, true, true, true, true, false, false, false, false] rfl rfl (by kernel_rfl) (fun _ _ _ h => h) (Or.inl ⟨by rfl, ?_⟩) ?_ ?_
                  rotate_left
                  · intro w'
                    go_simp
                    with_reducible rfl
                  rotate_left
                  · simp only [Act.put, List.setIfInBounds_toArray, List.set_cons_zero, List.set_cons_succ, i64_w, i32_w]
                    rfl
                  exact norm_ (by first | (simp only [putAll, Act.put, List.setIfInBounds_toArray, List.set_cons_zero, List.set_cons_succ]; done) | (simp only [putAll, Act.put, List.setIfInBounds_toArray, List.set_cons_zero, List.set_cons_succ]; rfl)) (hJ3_4_8_9_14_15 (g0, g1, g2) _ (hB))
                · skip
                  refine value_ (w1 := ?_) (v := ?_) (by rfl) rfl ?_ ?_
                  rotate_left 2
                  · go_simp
                    constructor
                    · rfl
                    · rfl
                  refine hK.out _ _ trivial (fun hHeld => ?_)
                  clear hK K
                  refine norm_ (a' := ?_) ?_ ?_
                  rotate_left
                  · show Act.put _ (some 62) _ = _
                    simp only [Act.put, List.setIfInBounds_toArray, List.set_cons_zero, List.set_cons_succ, i64_w, i32_w]
                    rfl
                  exact norm_ (by first | (simp only [putAll, Act.put, List.setIfInBounds_toArray, List.set_cons_zero, List.set_cons_succ]; done) | (simp only [putAll, Act.put, List.setIfInBounds_toArray, List.set_cons_zero, List.set_cons_succ]; rfl)) (hJ3_4_8_9_14_18 (g0, g1, g2, _) _ ⟨hB.alloc hB.size _, oneC_alloc o2 _, oneC_new (w := wd) (PX3.out _ hB) hl3⟩)
            · skip
              rintro ⟨g0, g1, g2, g3⟩ wd ⟨hB, o2, o3⟩
              have hHeld := trivial
              refine norm_ (a' := ?_) ?_ ?_
              rotate_left
              · simp only [putAll, Act.put, List.setIfInBounds_toArray, List.set_cons_zero, List.set_cons_succ]
                rfl
              refine one_ (i := 15) (N := some 59) #[true, true, true, true, true, true, true, true, true, true, true, true, true, true, true, true, false, true, true, false, false, false] rfl rfl (by kernel_rfl) (by decide) (fun K hK => ?_)
              refine goes_ Try.func25 (by kernel_rfl) rfl #[.slice (some ⟨g2, 0, none⟩) 1 1] (by rfl) rfl rfl (by simp only [List.map_toArray, List.map_cons, List.map_nil]; rfl) ?_
              with_reducible refine (SU2.out _ _ o2).mono ?_
              rintro e w2 ⟨rfl, rfl⟩
              refine ⟨_, rfl, ?_⟩
              refine hK.out _ _ trivial (fun hHeld => ?_)
              clear hK K
              refine norm_ (a' := ?_) ?_ ?_
              rotate_left
              · show Act.put _ (some 59) _ = _
                simp only [Act.put, List.setIfInBounds_toArray, List.set_cons_zero, List.set_cons_succ, i64_w, i32_w]
                rfl
              refine pure_ (i := 16) (N := some 60) (v := ?_) (a' := ?_) #[true, true, true, true, true, true, true, true, true, true, true, true, true, true, true, true, true, true, true, false, false, false] rfl rfl (by kernel_rfl) (fun _ _ _ h => h) (Or.inl ⟨by rfl, ?_⟩) ?_ ?_
              rotate_left
              · intro w'
                go_simp
                with_reducible rfl
              rotate_left
              · simp only [Act.put, List.setIfInBounds_toArray, List.set_cons_zero, List.set_cons_succ, i64_w, i32_w]
                rfl
              exact norm_ (by first | (simp only [putAll, Act.put, List.setIfInBounds_toArray, List.set_cons_zero, List.set_cons_succ]; done) | (simp only [putAll, Act.put, List.setIfInBounds_toArray, List.set_cons_zero, List.set_cons_succ]; rfl)) (hJ3_4_8_9_14_15_18 (g0, g1, g2, g3) _ ⟨hB, o3⟩)
          · skip
            rintro ⟨g0, g1, g2⟩ wd hB
            have hHeld := trivial
            refine norm_ (a' := ?_) ?_ ?_
            rotate_left
            · simp only [putAll, Act.put, List.setIfInBounds_toArray, List.set_cons_zero, List.set_cons_succ]
              rfl
            refine one_ (i := 18) (N := some 62) #[true, true, true, true, true, true, true, true, true, true, true, true, true, true, true, true, true, true, true, false, false, false] rfl rfl (by kernel_rfl) (by decide) (fun K hK => ?_)
            refine value_ (w1 := ?_) (v := ?_) (by rfl) rfl ?_ ?_
            rotate_left 2
            · go_simp
              constructor
              · rfl
              · rfl
            refine hK.out _ _ trivial (fun hHeld => ?_)
            clear hK K
            refine norm_ (a' := ?_) ?_ ?_
            rotate_left
            · show Act.put _ (some 62) _ = _
              simp only [Act.put, List.setIfInBounds_toArray, List.set_cons_zero, List.set_cons_succ, i64_w, i32_w]
              rfl
            exact norm_ (by first | (simp only [putAll, Act.put, List.setIfInBounds_toArray, List.set_cons_zero, List.set_cons_succ]; done) | (simp only [putAll, Act.put, List.setIfInBounds_toArray, List.set_cons_zero, List.set_cons_succ]; rfl)) (hJ3_4_8_9_14_15_18 (g0, g1, g2, _) _ ⟨hB.alloc hB.size _, oneC_new (w := wd) (PX3.out _ hB) hl3⟩)
        · skip
          rintro ⟨g0, g1, g2, g3⟩ wd ⟨hB, o3⟩
          have hHeld := trivial
          refine norm_ (a' := ?_) ?_ ?_
          rotate_left
          · simp only [putAll, Act.put, List.setIfInBounds_toArray, List.set_cons_zero, List.set_cons_succ]
            rfl
          refine one_ (i := 19) (N := some 63) #[true, true, true, true, true, true, true, true, true, true, true, true, true, true, true, true, true, true, true, true, false, false] rfl rfl (by kernel_rfl) (by decide) (fun K hK => ?_)
          refine goes_ Try.func25 (by kernel_rfl) rfl #[.slice (some ⟨g3, 0, none⟩) 1 1] (by rfl) rfl rfl (by simp only [List.map_toArray, List.map_cons, List.map_nil]; rfl) ?_
          with_reducible refine (SU3.out _ _ o3).mono ?_
          rintro e w2 ⟨rfl, rfl⟩
          refine ⟨_, rfl, ?_⟩
          refine hK.out _ _ trivial (fun hHeld => ?_)
          clear hK K
          refine norm_ (a' := ?_) ?_ ?_
          rotate_left
          · show Act.put _ (some 63) _ = _
            simp only [Act.put, List.setIfInBounds_toArray, List.set_cons_zero, List.set_cons_succ, i64_w, i32_w]
            rfl
          exact norm_ (by first | (simp only [putAll, Act.put, List.setIfInBounds_toArray, List.set_cons_zero, List.set_cons_succ]; done) | (simp only [putAll, Act.put, List.setIfInBounds_toArray, List.set_cons_zero, List.set_cons_succ]; rfl)) (hJ3_4_8_9_14_15_18_19 (g0, g1, g2, g3) _ (hB))
      rintro ⟨g0, g1, g2, g3⟩ wd hB
      have hHeld := trivial
      refine norm_ (a' := ?_) ?_ ?_
      rotate_left
      · simp only [putAll, Act.put, List.setIfInBounds_toArray, List.set_cons_zero, List.set_cons_succ]
        rfl
      refine pure_ (i := 20) (N := some 64) (v := ?_) (a' := ?_) #[true, true, true, true, true, true, true, true, true, true, true, true, true, true, true, true, true, true, true, true, true, false] rfl rfl (by kernel_rfl) (fun _ _ _ h => h) (Or.inl ⟨by rfl, ?_⟩) ?_ ?_
      rotate_left
      · intro w'
        go_simp
        with_reducible rfl
      rotate_left
      · simp only [Act.put, List.setIfInBounds_toArray, List.set_cons_zero, List.set_cons_succ, i64_w, i32_w]
        rfl
      refine pure_ (i := 21) (N := some 6) (v := ?_) (a' := ?_) #[true, true, true, true, true, true, true, true, true, true, true, true, true, true, true, true, true, true, true, true, true, true] rfl rfl (by kernel_rfl) (fun _ _ _ h => h) (Or.inl ⟨by rfl, ?_⟩) ?_ ?_
      rotate_left
      · intro w'
        go_simp
        with_reducible rfl
      rotate_left
      · simp only [Act.put, List.setIfInBounds_toArray, List.set_cons_zero, List.set_cons_succ, i64_w, i32_w]
        rfl
      refine done_ (by kernel_rfl) ?_
      clear hHeld
      go_wp2_with fail
      go_ret
      exact ⟨rfl, HF.out.trans (hB.mono HF.out.size)⟩
theorem frameAffine_walk (A : Option Addr) (ca : Nat) (xs : List Int) (B : Option Addr) (cb : Nat) (ys : List Int) (D : Option Addr) (cc : Nat) (zs : List Int) (w : World)
    (hA : (Kd.int .u8).C w A xs.length xs) (hca : xs.length ≤ ca) (hn : xs.length * 1 ≤ 140737488351232 ∧ ∀ x ∈ xs, (Lit.int .u8 x).wf = true)
    (hB : (Kd.int .u8).C w B ys.length ys) (hcb : ys.length ≤ cb) (hn2 : ys.length * 1 ≤ 140737488351232 ∧ ∀ x ∈ ys, (Lit.int .u8 x).wf = true)
    (hD : (Kd.int .u8).C w D zs.length zs) (hcc : zs.length ≤ cc) (hn3 : zs.length * 1 ≤ 140737488351232 ∧ ∀ x ∈ zs, (Lit.int .u8 x).wf = true) :
    Calls Try.prog 8 #[.slice A xs.length ca, .slice B ys.length cb, .slice D zs.length cc] w fun e w' => e = .returned (.bool true) ∧ Below w.heap.size w w' := by
  have key : ∀ l : List Int, (∀ x ∈ l, (Lit.int .u8 x).wf = true) → isB l := fun l h x hx => by
    have h2 := h x hx
    simp only [Lit.wf, Bool.and_eq_true, decide_eq_true_eq] at h2
    exact h2
  exact frameAffine_ok A B D xs.length ys.length zs.length ca cb cc xs ys zs w hA hB hD hca hcb hcc ⟨by omega, by omega, by omega⟩ (key xs hn.2) (key ys hn2.2) (key zs hn3.2)
end Go.Proofs.Ytehbchggekbkkaa
