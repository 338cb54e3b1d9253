/- The contracts of money.Scale and of package charges up to Share. -/
import Derived.Test.YtgjkhifhiggflaaK1
import Derived.Test.YtgjkhifhiggflaaPTopBetweenx2
import Derived.WalkMore
import Derived.Deep.LoopGhost
import Derived.BigQuiet
import Derived.Test.YtgjkhifhiggflaaK2
namespace Go.Proofs.Ytgjkhifhiggflaa.Own
open Go.RowKit Go.Lib Go.Proofs.YtgjkhifhiggflaaW.PrintWords Go.Proofs.YtgjkhifhiggflaaW.PrintLast Go.Proofs.YtgjkhifhiggflaaW.PrintMore Go.Proofs.Ytgjkhifhiggflaa.PTopBetween
section
-- The contracts of rational's common and Valid, of money's Scale and of charges' right.
attribute [local go_sem] max2_int min2_int
set_option linter.unusedVariables false
set_option linter.unusedSimpArgs false
set_option maxHeartbeats 4000000 in
theorem common_calls (a b : Nat) (ha : a < 18446744073709551616) (hb : b < 18446744073709551616) (w : World) :
  Calls Try.prog 54 #[.int .u64 a, .int .u64 b] w fun e w' => e = .returned (.int .u64 (Nat.gcd a b : Nat)) ∧ ∃ m, w' = w.drewN m := by
 have HG := Aside0.mk (show Nat.gcd a b = Nat.gcd a b from rfl)
 obtain ⟨r, hr⟩ : ∃ r, Nat.gcd a b = r := ⟨_, rfl⟩
 rw [hr]
 go_enter Try.func54, Try.ntmps54
 go_wp2
 go_step3
 go_wp2
 go_step3
 go_wp2
 go_loopg [0, 1, 5, 6, 7, 8, 9, 10] b (fun gg s0 s1 s5 s6 s7 s8 s9 s10 wr => ∃ x y : Nat, y ≤ gg ∧ x < 18446744073709551616 ∧ y < 18446744073709551616 ∧ s0 = .int .u64 x ∧ s1 = .int .u64 y ∧ Nat.gcd x y = r ∧ ∃ m, wr = w.drewN m)
 case atStart => exact ⟨a, b, Nat.le_refl _, ha, hb, rfl, rfl, hr, 0, rfl⟩
 case round =>
  obtain ⟨x, y, hgg, hx, hy, rfl, rfl, hg, m, rfl⟩ := hrel
  by_cases hy0 : y = 0
  ·subst hy0
   rw [Nat.gcd_zero_right] at hg
   subst hg
   go_wp2
   rw [Exit.noGoto_ret]
   go_ret
   exact ⟨rfl, m, rfl⟩
  ·have e1 : ((y : Int) == 0) = false := by simpa using hy0
   have e2 : ¬ (y : Int) = 0 := by omega
   go_wp2_with fail
   go_quiet (fail)
   go_wp2
   have hlt : x % y < y := Nat.mod_lt _ (by omega)
   go_roundg (x % y)
   case measure => omega
   case rel => exact ⟨y, x % y, Nat.le_refl _, hy, by omega, rfl, by first | rfl | (congr 1), by rw [Nat.gcd_comm, ← Nat.gcd_rec, Nat.gcd_comm]; exact hg, m + nq, by simp [World.drewN, Nat.add_assoc]⟩
/-! ### Valid -/
def validB (n d : Int) : Bool := (decide (1 ≤ d) && decide (d ≤ 1000000000)) && (decide (-1000000000 ≤ n) && decide (n ≤ 1000000000)) && (Nat.gcd n.natAbs d.natAbs == 1)
theorem size_eq (n : Int) (h0 : -1000000000 ≤ n) (h1 : n ≤ 1000000000) : rational_size.f n = some (n.natAbs : Int) := by
 unfold rational_size.f
 split
 ·congr 1
  simp only [IntKind.wrap, show IntKind.u64.bits = 64 from rfl, show IntKind.u64.signed = false from rfl, Bool.false_and, Bool.false_eq_true, if_false]
  omega
 ·congr 1
  simp only [IntKind.wrap, show IntKind.u64.bits = 64 from rfl, show IntKind.u64.signed = false from rfl, Bool.false_and, Bool.false_eq_true, if_false]
  omega
theorem size_calls (n : Int) (h0 : -1000000000 ≤ n) (h1 : n ≤ 1000000000) (w : World) : Calls Try.prog 55 #[.int .i64 n] w fun e w' => e = .returned (.int .u64 (n.natAbs : Nat)) ∧ ∃ m, w' = w.drewN m := by
 refine (rational_size.calls n _ w (size_eq n h0 h1)).mono ?_
 rintro e w' ⟨rfl, hd⟩
 exact ⟨rfl, hd.out⟩
set_option maxHeartbeats 4000000 in
theorem valid_calls (n d : Int) (w : World) : Calls Try.prog 53 #[.agg #[.int .i64 n, .int .i64 d]] w fun e w' => e = .returned (.bool (validB n d)) ∧ Below w.heap.size w w' := by
 have HV := Aside0.mk (show validB n d = ((decide (1 ≤ d) && decide (d ≤ 1000000000)) && (decide (-1000000000 ≤ n) && decide (n ≤ 1000000000)) && (Nat.gcd n.natAbs d.natAbs == 1)) from rfl)
 generalize validB n d = vb at HV
 have HBB := Aside0.mk (fun m => pw_below_drewN ((Below.refl _ w).alloc (Nat.le_refl _) (.cells #[.int .i64 n, .int .i64 d] 109)) m)
 have hcase : decide (1 ≤ d) = false ∨ (decide (1 ≤ d) = true ∧ decide (d ≤ 1000000000) = false) ∨ (decide (1 ≤ d) = true ∧ decide (d ≤ 1000000000) = true ∧ decide (-1000000000 ≤ n) = false) ∨ (decide (1 ≤ d) = true ∧ decide (d ≤ 1000000000) = true ∧ decide (-1000000000 ≤ n) = true ∧ decide (n ≤ 1000000000) = false) ∨ (decide (1 ≤ d) = true ∧ decide (d ≤ 1000000000) = true ∧ decide (-1000000000 ≤ n) = true ∧ decide (n ≤ 1000000000) = true) := by
  generalize decide (1 ≤ d) = b1
  generalize decide (d ≤ 1000000000) = b2
  generalize decide (-1000000000 ≤ n) = b3
  generalize decide (n ≤ 1000000000) = b4
  revert b1 b2 b3 b4
  decide
 rcases hcase with c1 | ⟨c1, c2⟩ | ⟨c1, c2, c3⟩ | ⟨c1, c2, c3, c4⟩ | ⟨c1, c2, c3, c4⟩
 case inr.inr.inr.inr =>
  have HD := Aside0.mk (of_decide_eq_true c1)
  have HD2 := Aside0.mk (of_decide_eq_true c2)
  have HN := Aside0.mk (of_decide_eq_true c3)
  have HN2 := Aside0.mk (of_decide_eq_true c4)
  have HSN := Aside0.mk (fun W => size_calls n HN.out HN2.out W)
  have HSD := Aside0.mk (fun W => size_calls d (by have := HD.out; omega) HD2.out W)
  have HCM := Aside0.mk (fun W => common_calls n.natAbs d.natAbs (by have := HN.out; have := HN2.out; omega) (by have := HD.out; have := HD2.out; omega) W)
  have c1' : decide (d ≥ 1) = true := c1
  have c3' : decide (n ≥ -1000000000) = true := c3
  rw [c1, c2, c3, c4] at HV
  obtain ⟨q, hq⟩ : ∃ q, Nat.gcd n.natAbs d.natAbs = q := ⟨_, rfl⟩
  rw [hq] at HCM HV
  clear hq
  obtain ⟨sn, hsn⟩ : ∃ sn, n.natAbs = sn := ⟨_, rfl⟩
  obtain ⟨sd, hsd⟩ : ∃ sd, d.natAbs = sd := ⟨_, rfl⟩
  rw [hsn] at HSN HCM
  rw [hsd] at HSD HCM
  clear hsn hsd
  go_enter Try.func53, Try.ntmps53
  go_wp2_with fail
  go_quiet ((first | (go_at_call 55; first | exact Calls.quiet_of (HSN.out _) | exact Calls.quiet_of (HSD.out _)) | (go_at_call 54; exact Calls.quiet_of (HCM.out _))))
  go_wp2
  go_ret
  have hqq : ((q : Int) == 1) = (q == 1) := by rw [Bool.eq_iff_iff]; simp; omega
  exact ⟨by rw [HV.out]; show Ending.returned (.bool ((q : Int) == 1)) = .returned (.bool (true && true && (true && true) && (q == 1))); rw [hqq]; rfl, HBB.out _⟩
 all_goals
  try (have c1' : decide (d ≥ 1) = true := c1)
  try (have c1' : decide (d ≥ 1) = false := c1)
  try (have c3' : decide (n ≥ -1000000000) = true := c3)
  try (have c3' : decide (n ≥ -1000000000) = false := c3)
  go_enter Try.func53, Try.ntmps53
  go_wp2_with fail
  go_quiet (fail)
  go_wp2
  go_ret
  exact ⟨by rw [HV.out]; simp [*], HBB.out _⟩
end
section
-- The contracts of money's Scale and of charges' right.
attribute [local go_sem] max2_int min2_int
set_option linter.unusedVariables false
set_option linter.unusedSimpArgs false
def amtB (a : Int) : Bool := decide (-1000000000 ≤ a) && decide (a ≤ 1000000000)
theorem amt_calls (a : Int) (w : World) : Calls Try.prog 52 #[.int .i64 a] w fun e w' => e = .returned (.bool (amtB a)) ∧ ∃ m, w' = w.drewN m := by
 refine (money_amount_valid.calls a (amtB a) w ?_).mono ?_
 ·unfold money_amount_valid.f amtB
  by_cases h : -1000000000 ≤ a <;> simp [h]
 ·rintro e w' ⟨rfl, hd⟩
  exact ⟨rfl, hd.out⟩
/-- Half of a denominator, with the sign of what is rounded. -/
def scaleQ (c n d : Int) : Int := wrap64 (Int.tdiv (wrap64 (wrap64 (2 * wrap64 (c * n)) + (if wrap64 (c * n) < 0 then wrap64 (-d) else d))) (wrap64 (2 * d)))
def scaleV (c n d : Int) : Int × Int := if amtB c = true ∧ validB n d = true then (if amtB (scaleQ c n d) = true then (scaleQ c n d, 0) else (0, 3)) else (0, 1)
set_option maxHeartbeats 4000000 in
theorem scale_calls (c n d : Int) (w : World) : Calls Try.prog 51 #[.int .i64 c, .agg #[.int .i64 n, .int .i64 d]] w fun e w' => e = .returned (.tuple #[.int .i64 (scaleV c n d).1, .int .i64 (scaleV c n d).2]) ∧ Below w.heap.size w w' := by
 have HV := Aside0.mk (show scaleV c n d = if amtB c = true ∧ validB n d = true then (if amtB (scaleQ c n d) = true then (scaleQ c n d, 0) else (0, 3)) else (0, 1) from rfl)
 generalize scaleV c n d = sv at HV
 have HQ := Aside0.mk (show scaleQ c n d = wrap64 (Int.tdiv (wrap64 (wrap64 (2 * wrap64 (c * n)) + (if wrap64 (c * n) < 0 then wrap64 (-d) else d))) (wrap64 (2 * d))) from rfl)
 generalize scaleQ c n d = q at HV HQ
 have HA := Aside0.mk (fun W => amt_calls c W)
 obtain ⟨ac, hac⟩ : ∃ ac, amtB c = ac := ⟨_, rfl⟩
 have HVC := Aside0.mk (fun W => valid_calls n d W)
 have HVB := Aside0.mk (show validB n d = true → 1 ≤ d ∧ d ≤ 1000000000 from fun h => by simp [validB] at h; omega)
 obtain ⟨vb, hvb⟩ : ∃ vb, validB n d = vb := ⟨_, rfl⟩
 rw [hac] at HA HV
 rw [hvb] at HVC HV HVB
 clear hac hvb
 cases ac with
 | false =>
  go_enter Try.func51, Try.ntmps51
  go_wp2_with fail
  refine (HA.out _).mono ?_
  rintro e w' ⟨rfl, m, rfl⟩
  rw [if_neg (by simp)] at HV
  go_wp2
  rw [HV.out]
  exact bodyPost_ret (v := .tuple #[.int .i64 0, .int .i64 1]) (by simp [results, Try.results51, go_sem]) rfl ⟨rfl, pw_below_drewN ((Below.refl _ w).alloc (Nat.le_refl _) _) m⟩
 | true =>
  go_enter Try.func51, Try.ntmps51
  go_wp2_with fail
  refine (HA.out _).mono ?_
  rintro e w' ⟨rfl, m, rfl⟩
  have HX := Aside0.mk (show ((w.alloc (.cells #[.int .i64 n, .int .i64 d] 109)).drewN m).heap[w.heap.size]? = some (.cells #[.int .i64 n, .int .i64 d] 109) from heap_alloc_new w _)
  have HB := Aside0.mk (pw_below_drewN ((Below.refl _ w).alloc (Nat.le_refl _) (.cells #[.int .i64 n, .int .i64 d] 109)) m)
  generalize (w.alloc (.cells #[.int .i64 n, .int .i64 d] 109)).drewN m = w1 at HX HB ⊢
  have hc0 := (blk_cell HX.out 0).trans rfl
  have hc1 := (blk_cell HX.out 1).trans rfl
  go_wp2_with fail
  refine (HVC.out _).mono ?_
  rintro e w2 ⟨rfl, hb⟩
  replace HX := Aside0.mk ((hb.block _ (blk_lt HX.out)).trans HX.out)
  replace HB := Aside0.mk (HB.out.trans (hb.mono HB.out.size))
  clear hb hc0 hc1
  cases vb with
  | false =>
   rw [if_neg (by simp)] at HV
   go_wp2
   rw [HV.out]
   exact bodyPost_ret (v := .tuple #[.int .i64 0, .int .i64 1]) (by simp [results, Try.results51, go_sem]) rfl ⟨rfl, HB.out⟩
  | true =>
   rw [if_pos (by simp)] at HV
   have hd := HVB.out rfl
   have hc0 := (blk_cell HX.out 0).trans rfl
   have hc1 := (blk_cell HX.out 1).trans rfl
   have hw2 : wrap64 (2 * d) = 2 * d := by unfold wrap64; omega
   have hne : ¬ 2 * d = 0 := by omega
   have hne2 : (2 * d == 0) = false := by simpa using hne
   have hw3 : wrap64 (-d) = -d := by unfold wrap64; omega
   rw [hw2, hw3] at HQ
   go_wp2_with fail
   go_quiet (fail)
   obtain ⟨cn, hcn⟩ : ∃ cn, wrap64 (c * n) = cn := ⟨_, rfl⟩
   rw [hcn] at HQ ⊢
   clear hcn
   have HB2 := Aside0.mk (pw_below_drewN HB.out nq)
   have HAQ := Aside0.mk (fun W => amt_calls q W)
   obtain ⟨aq, haq⟩ : ∃ aq, amtB q = aq := ⟨_, rfl⟩
   rw [haq] at HAQ HV
   clear haq
   by_cases hneg : cn < 0
   all_goals
    first | rw [if_pos hneg] at HQ | rw [if_neg hneg] at HQ
    have hqq := HQ.out.symm
    have hdd : decide (cn < 0) = decide (cn < 0) := rfl
    go_wp2_with fail
    try rw [hqq]
    clear hqq
    refine (HAQ.out _).mono ?_
    rintro e w' ⟨rfl, m2, rfl⟩
    have HB3 := Aside0.mk (pw_below_drewN HB2.out m2)
    cases aq with
    | true =>
     rw [if_pos rfl] at HV
     go_wp2
     rw [HV.out]
     exact bodyPost_ret (v := .tuple #[.int .i64 q, .int .i64 0]) (by simp [results, Try.results51, go_sem]) rfl ⟨rfl, pw_below_drewN HB.out (nq + m2)⟩
    | false =>
     rw [if_neg (by simp)] at HV
     go_wp2
     rw [HV.out]
     exact bodyPost_ret (v := .tuple #[.int .i64 0, .int .i64 3]) (by simp [results, Try.results51, go_sem]) rfl ⟨rfl, pw_below_drewN HB.out (nq + m2)⟩
/-! ### right -/
def rightV (c t v : Int) : Int := (scaleV c (v / (Nat.gcd v.toNat t.toNat : Nat)) (t / (Nat.gcd v.toNat t.toNat : Nat))).1
set_option maxHeartbeats 4000000 in
theorem right_calls (c t v : Int) (ht0 : 1 ≤ t) (ht1 : t ≤ 1000000000) (hv0 : 0 ≤ v) (hv1 : v ≤ 1000000000) (w : World) : Calls Try.prog 47 #[.int .i64 c, .int .i64 t, .int .i64 v] w fun e w' => e = .returned (.int .i64 (rightV c t v)) ∧ Below w.heap.size w w' := by
 obtain ⟨tn, rfl⟩ := Int.eq_ofNat_of_zero_le (show 0 ≤ t by omega)
 obtain ⟨vn, rfl⟩ := Int.eq_ofNat_of_zero_le hv0
 have HRV := Aside0.mk (show rightV c tn vn = (scaleV c ((vn : Int) / (Nat.gcd vn tn : Nat)) ((tn : Int) / (Nat.gcd vn tn : Nat))).1 from rfl)
 generalize rightV c tn vn = rv at HRV
 obtain ⟨r, hr⟩ : ∃ r, Nat.gcd vn tn = r := ⟨_, rfl⟩
 have hr0 : 0 < r := by rw [← hr]; exact Nat.gcd_pos_of_pos_right _ (by omega)
 have hrt : r ≤ tn := by rw [← hr]; exact Nat.le_of_dvd (by omega) (Nat.gcd_dvd_right _ _)
 rw [hr] at HRV
 go_enter Try.func47, Try.ntmps47
 go_wp2
 go_loopg [7, 8, 13, 14, 15, 16, 17, 18] tn (fun gg s7 s8 s13 s14 s15 s16 s17 s18 wr => ∃ x y : Nat, y ≤ gg ∧ x ≤ 1000000000 ∧ y ≤ 1000000000 ∧ s7 = .int .i64 x ∧ s8 = .int .i64 y ∧ Nat.gcd x y = r ∧ Aside0 (Below w.heap.size w wr))
 case atStart => exact ⟨vn, tn, Nat.le_refl _, by omega, by omega, rfl, rfl, hr, ⟨Below.refl _ _⟩⟩
 case round =>
  obtain ⟨x, y, hgg, hx, hy, rfl, rfl, hg, HB⟩ := hrel
  by_cases hy0 : y = 0
  ·subst hy0
   rw [Nat.gcd_zero_right] at hg
   subst hg
   go_wp2_with fail
   have hxn : ¬ x = 0 := by omega
   have hq1 : IntKind.i64.wrap ((vn : Int) / (x : Int)) = (vn : Int) / (x : Int) := IntWalk.i64_in _ (by
    have := Int.ediv_le_self (x : Int) (show 0 ≤ (vn : Int) by omega)
    have := Int.ediv_nonneg (show 0 ≤ (vn : Int) by omega) (show 0 ≤ (x : Int) by omega)
    omega)
   have hq2 : IntKind.i64.wrap ((tn : Int) / (x : Int)) = (tn : Int) / (x : Int) := IntWalk.i64_in _ (by
    have := Int.ediv_le_self (x : Int) (show 0 ≤ (tn : Int) by omega)
    have := Int.ediv_nonneg (show 0 ≤ (tn : Int) by omega) (show 0 ≤ (x : Int) by omega)
    omega)
   have HSC := Aside0.mk (fun W => scale_calls c ((vn : Int) / (x : Int)) ((tn : Int) / (x : Int)) W)
   obtain ⟨sv, hsv⟩ : ∃ sv, scaleV c ((vn : Int) / (x : Int)) ((tn : Int) / (x : Int)) = sv := ⟨_, rfl⟩
   rw [hsv] at HSC HRV
   clear hsv
   refine start_ (n := 14) (S := fun W => Below w.heap.size w W) (ds := [13]) #[false, false, false, false, false, false, false, false, false, false, false, false, false, false] (by kernel_rfl) rfl (by rfl) (HB.out.drew) (fun hHeld => ?_)
   have HB4 := Aside0.mk HB.out.drew
   generalize wr.drew = wa at HB4 hHeld ⊢
   refine pure_ (i := 0) (N := some 20) (v := ?_) (a' := ?_) #[true, false, false, false, false, false, false, false, false, false, false, false, false, false] rfl rfl (by kernel_rfl) (fun _ _ _ h => h) (Or.inl ⟨by rfl, ?_⟩) ?_ ?_
   rotate_left
   ·intro w'
    go_simp
    with_reducible rfl
   rotate_left
   ·simp only [Act.put, sA, sZ, sS, i64_w, i32_w]
    rfl
   refine pure_ (i := 1) (N := some 21) (v := ?_) (a' := ?_) #[true, true, false, false, false, false, false, false, false, false, false, false, false, false] rfl rfl (by kernel_rfl) (fun _ _ _ h => h) (Or.inl ⟨by rfl, ?_⟩) ?_ ?_
   rotate_left
   ·intro w'
    go_simp
    with_reducible rfl
   rotate_left
   ·simp only [Act.put, sA, sZ, sS, i64_w, i32_w]
    rfl
   refine pure_ (i := 2) (N := some 22) (v := ?_) (a' := ?_) #[true, true, true, false, false, false, false, false, false, false, false, false, false, false] rfl rfl (by kernel_rfl) (fun _ _ _ h => h) (Or.inl ⟨by rfl, ?_⟩) ?_ ?_
   rotate_left
   ·intro w'
    go_simp
    with_reducible rfl
   rotate_left
   ·simp only [Act.put, sA, sZ, sS, i64_w, i32_w]
    rfl
   refine pure_ (i := 3) (N := some 23) (v := ?_) (a' := ?_) #[true, true, true, true, false, false, false, false, false, false, false, false, false, false] rfl rfl (by kernel_rfl) (fun _ _ _ h => h) (Or.inl ⟨by rfl, ?_⟩) ?_ ?_
   rotate_left
   ·intro w'
    go_simp
    with_reducible rfl
   rotate_left
   ·simp only [Act.put, sA, sZ, sS, i64_w, i32_w]
    rfl
   refine pure_ (i := 4) (N := some 24) (v := ?_) (a' := ?_) #[true, true, true, true, true, false, false, false, false, false, false, false, false, false] rfl rfl (by kernel_rfl) (fun _ _ _ h => h) (Or.inl ⟨by rfl, ?_⟩) ?_ ?_
   rotate_left
   ·intro w'
    go_simp
    with_reducible rfl
   rotate_left
   ·simp only [Act.put, sA, sZ, sS, i64_w, i32_w]
    rfl
   refine pure_ (i := 5) (N := some 25) (v := ?_) (a' := ?_) #[true, true, true, true, true, true, false, false, false, false, false, false, false, false] rfl rfl (by kernel_rfl) (fun _ _ _ h => h) (Or.inl ⟨by rfl, ?_⟩) ?_ ?_
   rotate_left
   ·intro w'
    go_simp
    with_reducible rfl
   rotate_left
   ·simp only [Act.put, sA, sZ, sS, i64_w, i32_w]
    rfl
   refine pure_ (i := 6) (N := some 26) (v := ?_) (a' := ?_) #[true, true, true, true, true, true, true, false, false, false, false, false, false, false] rfl rfl (by kernel_rfl) (fun _ _ _ h => h) (Or.inl ⟨by rfl, ?_⟩) ?_ ?_
   rotate_left
   ·intro w'
    go_simp
    with_reducible rfl
   rotate_left
   ·simp only [Act.put, sA, sZ, sS, i64_w, i32_w]
    rfl
   refine pure_ (i := 7) (N := some 27) (v := ?_) (a' := ?_) #[true, true, true, true, true, true, true, true, false, false, false, false, false, false] rfl rfl (by kernel_rfl) (fun _ _ _ h => h) (Or.inl ⟨by rfl, ?_⟩) ?_ ?_
   rotate_left
   ·intro w'
    go_simp
    with_reducible rfl
   rotate_left
   ·simp only [Act.put, sA, sZ, sS, i64_w, i32_w]
    rfl
   refine one_ (i := 8) (N := some 28) #[true, true, true, true, true, true, true, true, true, false, false, false, false, false] rfl rfl (by kernel_rfl) (by decide) (fun K hK => ?_)
   refine goes_ Try.func51 (by kernel_rfl) rfl #[.int .i64 c, .agg #[.int .i64 ((vn : Int) / (x : Int)), .int .i64 ((tn : Int) / (x : Int))]] (by rfl) rfl rfl (by simp [Act.eval]; done) ?_
   refine (HSC.out _).mono ?_
   rintro e w4 ⟨rfl, hb⟩
   refine ⟨_, rfl, hK.out _ _ (HB4.out.trans (hb.mono HB4.out.size)) (fun hHeld => ?_)⟩
   replace HB4 := Aside0.mk (HB4.out.trans (hb.mono HB4.out.size))
   clear hb hK K
   refine norm_ (a' := ?_) ?_ ?_
   rotate_left
   ·show Act.put _ (some 28) _ = _
    simp only [Act.put, sA, sZ, sS, i64_w, i32_w]
    rfl
   refine pure_ (i := 9) (N := some 19) (v := ?_) (a' := ?_) #[true, true, true, true, true, true, true, true, true, true, false, false, false, false] rfl rfl (by kernel_rfl) (fun _ _ _ h => h) (Or.inl ⟨by rfl, ?_⟩) ?_ ?_
   rotate_left
   ·intro w'
    go_simp
    with_reducible rfl
   rotate_left
   ·simp only [Act.put, sA, sZ, sS, i64_w, i32_w]
    rfl
   refine pure_ (i := 10) (N := some 29) (v := ?_) (a' := ?_) #[true, true, true, true, true, true, true, true, true, true, true, false, false, false] rfl rfl (by kernel_rfl) (fun _ _ _ h => h) (Or.inl ⟨by rfl, ?_⟩) ?_ ?_
   rotate_left
   ·intro w'
    go_simp
    with_reducible rfl
   rotate_left
   ·simp only [Act.put, sA, sZ, sS, i64_w, i32_w]
    rfl
   refine pure_ (i := 11) (N := some 30) (v := ?_) (a' := ?_) #[true, true, true, true, true, true, true, true, true, true, true, true, false, false] rfl rfl (by kernel_rfl) (fun _ _ _ h => h) (Or.inl ⟨by rfl, ?_⟩) ?_ ?_
   rotate_left
   ·intro w'
    go_simp
    with_reducible rfl
   rotate_left
   ·simp only [Act.put, sA, sZ, sS, i64_w, i32_w]
    rfl
   refine pure_ (i := 12) (N := some 9) (v := ?_) (a' := ?_) #[true, true, true, true, true, true, true, true, true, true, true, true, true, false] rfl rfl (by kernel_rfl) (fun _ _ _ h => h) (Or.inl ⟨by rfl, ?_⟩) ?_ ?_
   rotate_left
   ·intro w'
    go_simp
    with_reducible rfl
   rotate_left
   ·simp only [Act.put, sA, sZ, sS, i64_w, i32_w]
    rfl
   refine pure_ (i := 13) (N := some 10) (v := ?_) (a' := ?_) #[true, true, true, true, true, true, true, true, true, true, true, true, true, true] rfl rfl (by kernel_rfl) (fun _ _ _ h => h) (Or.inl ⟨by rfl, ?_⟩) ?_ ?_
   rotate_left
   ·intro w'
    go_simp
    with_reducible rfl
   rotate_left
   ·simp only [Act.put, sA, sZ, sS, i64_w, i32_w]
    rfl
   refine done_ (by kernel_rfl) ?_
   go_wp2
   go_ret
   exact ⟨by rw [HRV.out]; rfl, HB4.out⟩
  ·have e2 : ¬ (y : Int) = 0 := by omega
   have e3 : (0 : Int) < (y : Int) := by omega
   have hlt : x % y < y := Nat.mod_lt _ (by omega)
   go_wp2_with fail
   go_quiet (fail)
   go_wp2
   have HB5 := Aside0.mk (pw_below_drewN HB.out nq)
   go_roundg (x % y)
   case measure => omega
   case rel => exact ⟨y, x % y, Nat.le_refl _, hy, by omega, rfl, by first | rfl | (congr 1), by rw [Nat.gcd_comm, ← Nat.gcd_rec, Nat.gcd_comm]; exact hg, HB5⟩
end
section
-- The contract of charges' Bounds.
attribute [local go_sem] max2_int min2_int
set_option linter.unusedVariables false
set_option linter.unusedSimpArgs false
def rightR (c t : Int) (x : S35) : S35 := ⟨rightV c t x.f0, rightV c t x.f1⟩
def chargesOk (c t : Int) (l : List S35) : Prop := 0 ≤ c ∧ c ≤ 1000000000 ∧ 1 ≤ t ∧ t ≤ 1000000000 ∧ l.length ≤ 200 ∧ l.any (outB t) = false
instance (c t : Int) (l : List S35) : Decidable (chargesOk c t l) := by unfold chargesOk; infer_instance
def chargesB (c t : Int) (l : List S35) : List S35 × Int := if chargesOk c t l then (l.map (rightR c t), 0) else ([], 1)
set_option maxHeartbeats 8000000 in
set_option maxRecDepth 100000 in
theorem chargesBounds_calls (c t : Int) (A : Option Addr) (cp : Nat) (l : List S35) (w : World) (hr : Kd.C k35 w A l.length l) :
  Calls Try.prog 30 #[.int .i64 c, .int .i64 t, .slice A l.length cp] w fun e w' => ∃ v, e = .returned (.tuple #[v, .int .i64 (chargesB c t l).2]) ∧ Kd.R k35 35 w' w.heap.size (fun _ => True) v (chargesB c t l).1 ∧ Below w.heap.size w w' := by
 have HBM := Aside0.mk (show chargesB c t l = if chargesOk c t l then (l.map (rightR c t), 0) else ([], 1) from rfl)
 generalize chargesB c t l = bm at HBM
 have HR := Aside0.mk hr
 clear hr
 have HBB := Aside0.mk ((Below.refl _ w).alloc (Nat.le_refl _) (.cells #[.int .i64 t] 3))
 have hcase : decide (c < 0) = true ∨ (decide (c < 0) = false ∧ decide (1000000000 < c) = true) ∨ (decide (c < 0) = false ∧ decide (1000000000 < c) = false ∧ decide (t < 1) = true) ∨ (decide (c < 0) = false ∧ decide (1000000000 < c) = false ∧ decide (t < 1) = false ∧ decide (1000000000 < t) = true) ∨
   (decide (c < 0) = false ∧ decide (1000000000 < c) = false ∧ decide (t < 1) = false ∧ decide (1000000000 < t) = false ∧ decide (200 < l.length) = true) ∨ (decide (c < 0) = false ∧ decide (1000000000 < c) = false ∧ decide (t < 1) = false ∧ decide (1000000000 < t) = false ∧ decide (200 < l.length) = false) := by
  generalize decide (c < 0) = b1
  generalize decide (1000000000 < c) = b2
  generalize decide (t < 1) = b3
  generalize decide (1000000000 < t) = b4
  generalize decide (200 < l.length) = b5
  revert b1 b2 b3 b4 b5
  decide
 rcases hcase with c1 | ⟨c1, c2⟩ | ⟨c1, c2, c3⟩ | ⟨c1, c2, c3, c4⟩ | ⟨c1, c2, c3, c4, c5⟩ | ⟨c1, c2, c3, c4, c5⟩
 case inr.inr.inr.inr.inr =>
  have HC0 := Aside0.mk (show 0 ≤ c by have := of_decide_eq_false c1; omega)
  have HC1 := Aside0.mk (show c ≤ 1000000000 by have := of_decide_eq_false c2; omega)
  have HT0 := Aside0.mk (show 1 ≤ t by have := of_decide_eq_false c3; omega)
  have HT1 := Aside0.mk (show t ≤ 1000000000 by have := of_decide_eq_false c4; omega)
  have HLN := Aside0.mk (show l.length ≤ 200 by have := of_decide_eq_false c5; omega)
  have c5i : decide ((200 : Int) < (l.length : Int)) = false := decide_eq_false (by have := HLN.out; omega)
  have HX := Aside0.mk (heap_alloc_new w (.cells #[.int .i64 t] 3))
  have HCT := Aside0.mk (containsR_calls 46 #[.pointer (some ⟨w.heap.size, 0, none⟩)] (outB t) (enters_ Try.func46 (by kernel_rfl) rfl) A cp l (w.alloc (.cells #[.int .i64 t] 3)) (fun x W hb => out_calls t x w.heap.size W ((hb.cell (p := ⟨w.heap.size, 0, none⟩) (by simp)).trans ((blk_cell HX.out 0).trans rfl))) (Kd.C_alloc HR.out _))
  obtain ⟨q, hq⟩ : ∃ q, l.any (outB t) = q := ⟨_, rfl⟩
  have HQ := Aside0.mk hq
  rw [hq] at HCT
  clear hq
  go_enter Try.func30, Try.ntmps30
  go_wp2_with fail
  clear c1 c2 c3 c4 c5 c5i
  have HB := Aside0.mk HBB.out
  generalize w.alloc (.cells #[.int .i64 t] 3) = w1 at HX HCT HB ⊢
  refine HCT.out.mono ?_
  clear HCT HBB
  rintro e w2 ⟨rfl, hb⟩
  replace HX := Aside0.mk ((hb.block _ (blk_lt HX.out)).trans HX.out)
  replace HB := Aside0.mk (HB.out.trans (hb.mono HB.out.size))
  clear hb
  cases q with
  | true =>
   rw [if_neg (by unfold chargesOk; rw [HQ.out]; simp)] at HBM
   go_wp2
   rw [HBM.out]
   exact bodyPost_ret (v := .tuple #[.slice none 0 0, .int .i64 1]) (by simp [results, Try.results30, go_sem]) rfl ⟨_, rfl, Kd.R_nil _ _ _ _ _, HB.out⟩
  | false =>
   rw [if_pos (by unfold chargesOk; exact ⟨HC0.out, HC1.out, HT0.out, HT1.out, HLN.out, HQ.out⟩)] at HBM
   have hnn : (0 : Int) ≤ (l.length : Int) := by omega
   go_wp2_with (first | ((with_reducible refine gate_dst (N := 39) rfl ?_); refine Kd.R_make k35 (w0 := w2) w2.heap.size 35 rfl (N := 39) rfl 23 _ _ rfl (l.length : Int) rfl rfl Try.underlying23 (.agg #[(.int .i64 0), (.int .i64 0)]) 16 info35 rfl (by decide) (by omega) z35 (ok := fun _ => True) (okp := fun _ => True) (k35_mkM _ _ _ z35) (fun _ hk => hk) trivial hnn (by have := HLN.out; simp only [Int.toNat_natCast]; omega) (Below.refl _ _) (Nat.le_refl _) ?_; intro v6 w6 ho5 hb hg_ hnew_; have HF0 := Aside0.mk ho5; have HB6 := Aside0.mk hb; clear ho5 hb hg_ hnew_))
   clear hnn
   go_loopg [42] l.length (fun gg s42 wr => ∃ k : Nat, k ≤ l.length ∧ l.length - k ≤ gg ∧ s42 = .int .i64 k ∧ Aside0 (Kd.R k35 35 wr w2.heap.size (fun _ => True) v6 (fillTo l.length (fun j => rightR c t (l.getD j z35)) z35 k)) ∧ Aside0 (Below w2.heap.size w2 wr))
   case atStart => exact ⟨0, Nat.zero_le _, by omega, rfl, ⟨by have h := HF0.out; rw [Int.toNat_natCast] at h; rw [fill_zero]; exact h⟩, HB6⟩
   case round =>
    obtain ⟨k, hk, hgg, rfl, HF, HBR⟩ := hrel
    clear HF0 HB6
    by_cases hlt : k < l.length
    ·have hi : (k : Int) < (l.length : Int) := by omega
     have HLN2 := Aside0.mk (show (l.length : Int) ≤ 200 by have := HLN.out; omega)
     obtain ⟨ad, e0, h0, h1⟩ := at_T35 HR.out (k : Int) (by omega) hi
     cases e0
     simp only [Int.toNat_natCast] at h0 h1
     have HBW := Aside0.mk (HB.out.trans (HBR.out.mono HB.out.size))
     replace h0 := (HBW.out.cell (World.block_lt_of_cell? w _ h0)).trans h0
     replace h1 := (HBW.out.cell (World.block_lt_of_cell? w _ h1)).trans h1
     have HXD := Aside0.mk (show rd_T35 l k = l.getD k z35 from rfl)
     have HXM := Aside0.mk (show rd_T35 l k ∈ l by show l.getD k z35 ∈ l; rw [List.getD_eq_getElem?_getD, List.getElem?_eq_getElem hlt]; exact List.getElem_mem hlt)
     generalize rd_T35 l (k : Int) = x at h0 h1 HXD HXM
     have HXI := Aside0.mk (show 0 ≤ x.f0 ∧ x.f0 ≤ x.f1 ∧ x.f1 ≤ t by
      have h := List.any_eq_false.1 HQ.out x HXM.out
      simp [outB] at h
      omega)
     clear HXM
     go_wp2_with fail
     clear h0 h1
     have HX2 := Aside0.mk (blk_alloc ((HBR.out.block _ (blk_lt HX.out)).trans HX.out) (.cells #[.int .i64 x.f0, .int .i64 x.f1] 35))
     have HY := Aside0.mk (heap_alloc_new wr (.cells #[.int .i64 x.f0, .int .i64 x.f1] 35))
     have HF2 := Aside0.mk (Kd.R_alloc HF.out (.cells #[.int .i64 x.f0, .int .i64 x.f1] 35))
     have HBR2 := Aside0.mk (HBR.out.alloc HBR.out.size (.cells #[.int .i64 x.f0, .int .i64 x.f1] 35))
     generalize wr.alloc (.cells #[.int .i64 x.f0, .int .i64 x.f1] 35) = w3 at HX2 HY HF2 HBR2 ⊢
     generalize wr.heap.size = bi at HY ⊢
     clear HF HBR HBW
     obtain ⟨g6, c6, e6, hg6, _, _⟩ := Kd.R_form HF2.out (by rw [fill_length]; omega)
     rw [fill_length] at e6
     subst e6
     have HG6 := Aside0.mk hg6
     clear hg6
     obtain ⟨xc0, xc1, xf0, xf1⟩ := row35_at HF2.out (k : Int) (by omega) (by rw [fill_length]; omega)
     simp only [Int.toNat_natCast] at xc0 xc1 xf0 xf1
     have hct : w3.cell? ⟨w.heap.size, 0, none⟩ = some (.int .i64 t) := (blk_cell HX2.out 0).trans rfl
     have hx0 : w3.cell? ⟨bi, 0, none⟩ = some (.int .i64 x.f0) := (blk_cell HY.out 0).trans rfl
     have hx1 : w3.cell? ⟨bi, 1, none⟩ = some (.int .i64 x.f1) := (blk_cell HY.out 1).trans rfl
     have HRL := Aside0.mk (fun W => right_calls c t x.f0 HT0.out HT1.out HXI.out.1 (by have := HXI.out; have := HT1.out; omega) W)
     have HRH := Aside0.mk (fun W => right_calls c t x.f1 HT0.out HT1.out (by have := HXI.out; omega) (by have := HXI.out; have := HT1.out; omega) W)
     have HRX := Aside0.mk (show rightR c t (l.getD k z35) = ⟨rightV c t x.f0, rightV c t x.f1⟩ by rw [← HXD.out]; rfl)
     obtain ⟨ya, hya⟩ : ∃ ya, rightV c t x.f0 = ya := ⟨_, rfl⟩
     obtain ⟨yb, hyb⟩ : ∃ yb, rightV c t x.f1 = yb := ⟨_, rfl⟩
     rw [hya] at HRL HRX
     rw [hyb] at HRH HRX
     clear hya hyb
     refine start_ (n := 15) (S := Ext w3) (ds := [14]) #[false, false, false, false, false, false, false, false, false, false, false, false, false, false, false] (by kernel_rfl) rfl (by rfl) (fun _ _ h => h) (fun hHeld => ?_)
     have HD := Aside0.mk (show Below w3.heap.size w3 w3.drew from (Below.refl _ _).drew)
     generalize w3.drew = wa at HD hHeld ⊢
     refine pure_ (i := 0) (N := some 47) (v := ?_) (a' := ?_) #[true, false, false, false, false, false, false, false, false, false, false, false, false, false, false] rfl rfl (by kernel_rfl) (fun _ _ _ h => h) (Or.inl ⟨by rfl, ?_⟩) ?_ ?_
     rotate_left
     ·intro w'
      go_simp
      with_reducible rfl
     rotate_left
     ·simp only [Act.put, sA, sZ, sS, i64_w, i32_w]
      rfl
     refine pure_ (i := 1) (N := some 48) (v := ?_) (a' := ?_) #[true, true, false, false, false, false, false, false, false, false, false, false, false, false, false] rfl rfl (by kernel_rfl) (fun _ _ _ h => h) (Or.inl ⟨by rfl, ?_⟩) ?_ ?_
     rotate_left
     ·intro w'
      go_simp
      with_reducible rfl
     rotate_left
     ·simp only [Act.put, sA, sZ, sS, i64_w, i32_w]
      rfl
     refine pure_ (i := 2) (N := some 49) (v := ?_) (a' := ?_) #[true, true, true, false, false, false, false, false, false, false, false, false, false, false, false] rfl rfl (by kernel_rfl) (fun _ _ _ h => h) (Or.inl ⟨by rfl, ?_⟩) ?_ ?_
     rotate_left
     ·intro w'
      go_simp
      with_reducible rfl
     rotate_left
     ·simp only [Act.put, sA, sZ, sS, i64_w, i32_w]
      rfl
     refine pure_ (i := 4) (N := some 51) (v := ?_) (a' := ?_) #[true, true, true, false, true, false, false, false, false, false, false, false, false, false, false] rfl rfl (by kernel_rfl) (fun _ _ _ h => h) (Or.inl ⟨by rfl, ?_⟩) ?_ ?_
     rotate_left
     ·intro w'
      go_simp
      with_reducible rfl
     rotate_left
     ·simp only [Act.put, sA, sZ, sS, i64_w, i32_w]
      rfl
     refine pure_ (i := 7) (N := some 54) (v := ?_) (a' := ?_) #[true, true, true, false, true, false, false, true, false, false, false, false, false, false, false] rfl rfl (by kernel_rfl) (fun _ _ _ h => h) (Or.inl ⟨by rfl, ?_⟩) ?_ ?_
     rotate_left
     ·intro w'
      go_simp
      with_reducible rfl
     rotate_left
     ·simp only [Act.put, sA, sZ, sS, i64_w, i32_w]
      rfl
     refine pure_ (i := 9) (N := some 56) (v := ?_) (a' := ?_) #[true, true, true, false, true, false, false, true, false, true, false, false, false, false, false] rfl rfl (by kernel_rfl) (fun _ _ _ h => h) (Or.inl ⟨by rfl, ?_⟩) ?_ ?_
     rotate_left
     ·intro w'
      go_simp
      with_reducible rfl
     rotate_left
     ·simp only [Act.put, sA, sZ, sS, i64_w, i32_w]
      rfl
     refine take_ (i := 3) (N := some 50) (v := ?_) (a' := ?_) #[true, true, true, true, true, false, false, true, false, true, false, false, false, false, false] rfl rfl (by kernel_rfl) (fun _ _ _ h => h) (Or.inl ⟨by rfl, ?_⟩) hHeld ?_ ?_
     rotate_left
     ·intro w' hS
      have s0 := hS _ _ hct
      have s1 := hS _ _ hx0
      have s2 := hS _ _ hx1
      clear hS
      go_simp
      with_reducible rfl
     rotate_left
     ·simp only [Act.put, sA, sZ, sS, i64_w, i32_w]
      rfl
     refine take_ (i := 5) (N := some 52) (v := ?_) (a' := ?_) #[true, true, true, true, true, true, false, true, false, true, false, false, false, false, false] rfl rfl (by kernel_rfl) (fun _ _ _ h => h) (Or.inl ⟨by rfl, ?_⟩) hHeld ?_ ?_
     rotate_left
     ·intro w' hS
      have s0 := hS _ _ hct
      have s1 := hS _ _ hx0
      have s2 := hS _ _ hx1
      clear hS
      go_simp
      with_reducible rfl
     rotate_left
     ·simp only [Act.put, sA, sZ, sS, i64_w, i32_w]
      rfl
     refine take_ (i := 8) (N := some 55) (v := ?_) (a' := ?_) #[true, true, true, true, true, true, false, true, true, true, false, false, false, false, false] rfl rfl (by kernel_rfl) (fun _ _ _ h => h) (Or.inl ⟨by rfl, ?_⟩) hHeld ?_ ?_
     rotate_left
     ·intro w' hS
      have s0 := hS _ _ hct
      have s1 := hS _ _ hx0
      have s2 := hS _ _ hx1
      clear hS
      go_simp
      with_reducible rfl
     rotate_left
     ·simp only [Act.put, sA, sZ, sS, i64_w, i32_w]
      rfl
     refine take_ (i := 10) (N := some 57) (v := ?_) (a' := ?_) #[true, true, true, true, true, true, false, true, true, true, true, false, false, false, false] rfl rfl (by kernel_rfl) (fun _ _ _ h => h) (Or.inl ⟨by rfl, ?_⟩) hHeld ?_ ?_
     rotate_left
     ·intro w' hS
      have s0 := hS _ _ hct
      have s1 := hS _ _ hx0
      have s2 := hS _ _ hx1
      clear hS
      go_simp
      with_reducible rfl
     rotate_left
     ·simp only [Act.put, sA, sZ, sS, i64_w, i32_w]
      rfl
     refine one_ (i := 6) (N := some 53) #[true, true, true, true, true, true, true, true, true, true, true, false, false, false, false] rfl rfl (by kernel_rfl) (by decide) (fun K hK => ?_)
     refine goes_ Try.func47 (by kernel_rfl) rfl #[.int .i64 c, .int .i64 t, .int .i64 x.f0] (by rfl) rfl rfl (by simp [Act.eval]; done) ?_
     refine (HRL.out _).mono ?_
     rintro e w4 ⟨rfl, hb⟩
     refine ⟨_, rfl, hK.out _ _ (Ext.of_below hHeld hb) (fun hHeld => ?_)⟩
     replace HD := Aside0.mk (HD.out.trans (hb.mono HD.out.size))
     clear hb hK K
     refine norm_ (a' := ?_) ?_ ?_
     rotate_left
     ·show Act.put _ (some 53) _ = _
      simp only [Act.put, sA, sZ, sS, i64_w, i32_w]
      rfl
     refine one_ (i := 11) (N := some 58) #[true, true, true, true, true, true, true, true, true, true, true, true, false, false, false] rfl rfl (by kernel_rfl) (by decide) (fun K hK => ?_)
     refine goes_ Try.func47 (by kernel_rfl) rfl #[.int .i64 c, .int .i64 t, .int .i64 x.f1] (by rfl) rfl rfl (by simp [Act.eval]; done) ?_
     refine (HRH.out _).mono ?_
     rintro e w4 ⟨rfl, hb⟩
     refine ⟨_, rfl, hK.out _ _ (Ext.of_below hHeld hb) (fun hHeld => ?_)⟩
     replace HD := Aside0.mk (HD.out.trans (hb.mono HD.out.size))
     clear hb hK K
     refine norm_ (a' := ?_) ?_ ?_
     rotate_left
     ·show Act.put _ (some 58) _ = _
      simp only [Act.put, sA, sZ, sS, i64_w, i32_w]
      rfl
     refine pure_ (i := 12) (N := some 59) (v := ?_) (a' := ?_) #[true, true, true, true, true, true, true, true, true, true, true, true, true, false, false] rfl rfl (by kernel_rfl) (fun _ _ _ h => h) (Or.inl ⟨by rfl, ?_⟩) ?_ ?_
     rotate_left
     ·intro w'
      go_simp
      with_reducible rfl
     rotate_left
     ·simp only [Act.put, sA, sZ, sS, i64_w, i32_w]
      rfl
     refine pure_ (i := 13) (N := some 60) (v := ?_) (a' := ?_) #[true, true, true, true, true, true, true, true, true, true, true, true, true, true, false] rfl rfl (by kernel_rfl) (fun _ _ _ h => h) (Or.inl ⟨by rfl, ?_⟩) ?_ ?_
     rotate_left
     ·intro w'
      go_simp
      with_reducible rfl
     rotate_left
     ·simp only [Act.put, sA, sZ, sS, i64_w, i32_w]
      rfl
     refine last_ (i := 14) (N := none) #[true, true, true, true, true, true, true, true, true, true, true, true, true, true, true] rfl rfl (by kernel_rfl) (by decide) (fun K hK => ?_)
     have c0 := hHeld _ _ xc0
     have c1 := hHeld _ _ xc1
     have f0 := (HD.out.frozen (p := ⟨g6, k * 2, none⟩) (World.block_lt_of_cell? w3 _ xc0)).trans xf0
     have f1 := (HD.out.frozen (p := ⟨g6, k * 2 + 1, none⟩) (World.block_lt_of_cell? w3 _ xc1)).trans xf1
     refine skip_ (w1 := ?_) (by rfl) rfl ?_ ?_
     rotate_left
     ·go_simp
      rfl
     refine hK.out _ _ ?_
     clear hK K c0 c1 f0 f1
     refine done_ (by kernel_rfl) ?_
     replace HF2 := Aside0.mk (row35_set (Kd.R_below HF2.out HD.out) (k : Int) (by omega) (by rw [fill_length]; omega) ⟨ya, yb⟩)
     simp only [Int.toNat_natCast] at HF2
     have HF3 := HF2.out
     rw [← HRX.out, fill_step l.length (fun j => rightR c t (l.getD j z35)) z35 k hlt] at HF3
     replace HF2 := Aside0.mk HF3
     clear HF3
     replace HBR2 := Aside0.mk (below_set (j := k * 2 + 1) (v := .int .i64 yb) (below_set (j := k * 2) (v := .int .i64 ya) (HBR2.out.trans (HD.out.mono HBR2.out.size)) HG6.out) HG6.out)
     generalize (w4.setCell ⟨g6, k * 2, none⟩ (.int .i64 ya)).setCell ⟨g6, k * 2 + 1, none⟩ (.int .i64 yb) = w5 at HF2 HBR2 ⊢
     clear xc0 xc1 xf0 xf1 hct hx0 hx1 hHeld HD
     go_wp2
     go_roundg (l.length - (k + 1))
     case measure => omega
     case rel => exact ⟨k + 1, by omega, by omega, by have := HLN2.out; first | go_num | (congr 1; unfold wrap64; omega), HF2, HBR2⟩
    ·have hi : ¬ (k : Int) < (l.length : Int) := by omega
     have ek : k = l.length := by omega
     subst ek
     have HF2 := HF.out
     rw [fill_full, range_getD z35 (rightR c t) l] at HF2
     replace HF := Aside0.mk (Kd.R_lower HF2 HB.out.size)
     clear HF2
     have HBW := Aside0.mk (HB.out.trans (HBR.out.mono HB.out.size))
     obtain rfl := HBM.out
     go_wp2
     exact bodyPost_ret (v := .tuple #[v6, .int .i64 0]) (by simp [results, Try.results30, go_sem]) rfl ⟨_, rfl, HF.out, HBW.out⟩
 all_goals
  rw [if_neg (by unfold chargesOk; simp only [decide_eq_true_eq, decide_eq_false_iff_not] at *; omega)] at HBM
  try (have c5i : decide ((200 : Int) < (l.length : Int)) = true := decide_eq_true (by have := of_decide_eq_true c5; omega))
  go_enter Try.func30, Try.ntmps30
  go_wp2
  rw [HBM.out]
  exact bodyPost_ret (v := .tuple #[.slice none 0 0, .int .i64 1]) (by simp [results, Try.results30, go_sem]) rfl ⟨_, rfl, Kd.R_nil _ _ _ _ _, HBB.out⟩
end
section
-- The contracts of Share's iterator over bills, and of lower.
attribute [local go_sem] max2_int min2_int
attribute [local go_sem] Oper.semAt_some
set_option linter.unusedVariables false
set_option linter.unusedSimpArgs false
set_option maxRecDepth 100000 in
set_option maxHeartbeats 2000000 in
theorem back48_in (n l Bs : Nat) (A : Option Addr) (len cap : Nat) (hlen : len ≤ 9223372036854775807) (Ok : World → Prop) (J Jx : List {x : Nat × S46 // x.1 < len} → World → Prop)
  (hok : ∀ W, Ok W → W.cell? ⟨Bs, 0, none⟩ = some (.slice A len cap) ∧ ∃ xs : List S46, Kd.C k46 W A len xs)
  (hY : ∀ pre x W, J pre W → pre.length < len → YieldAt Fence.wide (n - 1) Try.prog l #[.int .i64 (x.1.1 : Int), .agg #[.int .i64 x.1.2.f0, .int .i64 x.1.2.f1, .int .i64 x.1.2.f2.f0, .int .i64 x.1.2.f2.f1, .bool x.1.2.f3]] W fun e W' =>
   (e = .returned (.bool true) ∧ J (pre ++ [x]) W' ∧ (Ok W → Ok W')) ∨ (e = .returned (.bool false) ∧ Jx (pre ++ [x]) W'))
  (W : World) (hW : Ok W) (h0 : J [] W) :
  CallsIn Fence.wide n Try.prog 48 #[.func (.yield l) #[] #[], .pointer (some ⟨Bs, 0, none⟩)] W fun e W' => (∃ v, e = .returned v) ∧
   ((∃ ys, ys.map (·.1.1) = dn len len ∧ J ys W') ∨ (∃ pre, pre.length ≤ len ∧ Jx pre W')) := by
 refine callsIn_of_wp Try.func48 rfl trivial ?_ rfl
 simp only [Try.ntmps48, List.size_toArray, List.length_cons, List.length_nil, Nat.reduceAdd, Nat.reduceSub, Array.replicate_succ, Array.replicate_zero, List.push_toArray, List.append_toArray, List.nil_append, List.cons_append]
 have hb := (hok W hW).1
 have HOK := Aside0.mk hok
 have HW := Aside0.mk hW
 have HY := Aside0.mk hY
 have H0 := Aside0.mk h0
 have hn1 : (len : Int) - 1 ≤ 9223372036854775807 := by omega
 clear hok hW hY h0
 gi_wp2
 gi_loopw [3] (fun i wr => ∃ (m : Nat) (pre : List {x : Nat × S46 // x.1 < len}), m ≤ len ∧ i = .int .i64 ((len : Int) - 1 - (m : Int)) ∧ Aside0 (pre.map (·.1.1) = dn len m) ∧ Aside0 (J pre wr) ∧ Aside0 (Ok wr))
  (fun i _ => (intOf i + 1).toNat)
 case atStart => exact ⟨0, [], Nat.zero_le _, by simp, ⟨rfl⟩, H0, HW⟩
 case round =>
  obtain ⟨m, pre, hm, rfl, HP, HJ, HO⟩ := hrel
  clear hb
  by_cases hlt : m < len
  ·obtain ⟨hb, xs, hC⟩ := HOK.out wr HO.out
   obtain ⟨ad, e0, h0, h1, h2, h3, h4⟩ := at_T46 hC ((len : Int) - 1 - (m : Int)) (by omega) (by omega)
   cases e0
   have ei : ((len : Int) - 1 - (m : Int)).toNat = len - 1 - m := by omega
   rw [ei] at h0 h1 h2 h3 h4
   have hx : rd_T46 xs ((len : Int) - 1 - (m : Int)) = xs.getD (len - 1 - m) z46 := by show xs.getD _ _ = _; rw [ei]
   rw [hx] at h0 h1 h2 h3 h4
   clear hx ei hC
   generalize xs.getD (len - 1 - m) z46 = x at h0 h1 h2 h3 h4
   obtain ⟨fn, tmps, assign, body, hy, hR⟩ := HY.out pre ⟨(len - 1 - m, x), by simp; omega⟩ wr HJ.out (by have := congrArg List.length HP.out; rw [List.length_map, dn_length] at this; omega)
   have ec : ((len - 1 - m : Nat) : Int) = (len : Int) - 1 - (m : Int) := by omega
   simp only [ec] at hy
   have i0 : (0 : Int) ≤ (len : Int) - 1 - (m : Int) := by omega
   have i1 : (len : Int) - 1 - (m : Int) < (len : Int) := by omega
   have HR := Aside0.mk hR
   have HE := Aside0.mk ec
   clear hR ec
   gi_wp2
   have hR := HR.out
   refine ⟨fun h => by simp [Fence.wide] at h, hR.mono ?_⟩
   rintro e W3 (⟨rfl, hJ3, hk3⟩ | ⟨rfl, hJx3⟩)
   ·have HJ3 := Aside0.mk hJ3
    have HO3 := Aside0.mk (hk3 HO.out)
    clear hJ3 hk3 hR
    gi_wp2
    go_roundw
    case rel => exact ⟨m + 1, pre ++ [⟨(len - 1 - m, x), by simp; omega⟩], by omega, by first | (congr 1; omega) | (simp; omega), ⟨by rw [List.map_append, HP.out, dn_succ]; rfl⟩, HJ3, HO3⟩
    case measure => simp [intOf]; omega
   ·have HJ3 := Aside0.mk hJx3
    clear hJx3 hR
    gi_wp2
    refine bodyPost_ret (results_none rfl _ _ _) rfl ?_
    exact ⟨⟨_, rfl⟩, .inr ⟨_, by have := congrArg List.length HP.out; rw [List.length_map, dn_length] at this; simp; omega, HJ3.out⟩⟩
  ·obtain rfl : m = len := by omega
   have hneg : ¬ (0 : Int) ≤ (m : Int) - 1 - (m : Int) := by omega
   gi_wp2
   go_end0
   exact ⟨⟨_, rfl⟩, .inl ⟨_, HP.out, HJ.out⟩⟩
/-- slices.Backward: the slice is boxed; the function value captures the box. -/
theorem back31_calls (A : Option Addr) (len cap : Nat) (w : World) :
  Calls Try.prog 31 #[.slice A len cap] w fun e w' => e = .returned (.func (.func 48) #[] #[.pointer (some ⟨w.heap.size, 0, none⟩)]) ∧ w' = w.alloc (.cells #[.slice A len cap] 80) := by
 go_enter Try.func31, Try.ntmps31
 go_wp2
 go_ret
 exact ⟨rfl, rfl⟩
theorem back48_stops (n Bs : Nat) (A : Option Addr) (len cap : Nat) (hlen : len ≤ 9223372036854775807) (Ok : World → Prop) (w : World)
  (hok : ∀ W, Ok W → W.cell? ⟨Bs, 0, none⟩ = some (.slice A len cap) ∧ ∃ xs : List S46, Kd.C k46 W A len xs) (hw : ∀ W, Below w.heap.size w W → Ok W) :
  SeqStopsK Fence.wide n Try.prog 48 #[.pointer (some ⟨Bs, 0, none⟩)] (fun x : {x : Nat × S46 // x.1 < len} => #[.int .i64 (x.1.1 : Int), .agg #[.int .i64 x.1.2.f0, .int .i64 x.1.2.f1, .int .i64 x.1.2.f2.f0, .int .i64 x.1.2.f2.f1, .bool x.1.2.f3]]) (fun W W' => Ok W → Ok W')
   (fun ys => ys.map (·.1.1) = dn len len) (fun pre => pre.length ≤ len) len w := fun l J Jx W hW _ _ hY h0 =>
 back48_in n l Bs A len cap hlen Ok J Jx hok hY W (hw W hW) h0
/-! ### lower -/
def lowM (cents lo by_ : Int) : Int := if wrap64 (cents - lo) < by_ then wrap64 (cents - lo) else by_
def lowD (cents lo by_ : Int) : Int := if 0 < lowM cents lo by_ then lowM cents lo by_ else 0
set_option maxHeartbeats 2000000 in
theorem lower_calls (g off : Nat) (cents lo by_ : Int) (w : World) (h1 : w.cell? ⟨g, off + 1, none⟩ = some (.int .i64 cents)) (h2 : w.cell? ⟨g, off + 2, none⟩ = some (.int .i64 lo)) (hf : w.frozen? ⟨g, off + 1, none⟩ = false) :
  Calls Try.prog 32 #[.pointer (some ⟨g, off, none⟩), .int .i64 by_] w fun e w' => e = .returned (.int .i64 (lowD cents lo by_)) ∧ ∃ m, w' = (w.drewN m).setCell ⟨g, off + 1, none⟩ (.int .i64 (wrap64 (cents - lowD cents lo by_))) := by
 have HL := Aside0.mk (show lowD cents lo by_ = if 0 < (if wrap64 (cents - lo) < by_ then wrap64 (cents - lo) else by_) then (if wrap64 (cents - lo) < by_ then wrap64 (cents - lo) else by_) else 0 from rfl)
 generalize lowD cents lo by_ = d at HL
 go_enter Try.func32, Try.ntmps32
 go_wp2_with fail
 go_quiet (fail)
 obtain ⟨mm, hmm⟩ : ∃ mm, (if wrap64 (cents - lo) < by_ then wrap64 (cents - lo) else by_) = mm := ⟨_, rfl⟩
 have h := HL.out
 rw [hmm] at h ⊢
 rw [← h]
 clear h hmm
 go_wp2
 go_ret
 first | exact ⟨rfl, nq, rfl⟩ | exact ⟨by rfl, nq, by rfl⟩
end
section
-- The contract of charges' Share.
attribute [local go_sem] max2_int min2_int
attribute [local go_sem] Oper.semAt_some
set_option linter.unusedVariables false
set_option linter.unusedSimpArgs false
/-! ### households -/
theorem households_some (xs : List Int) (hn : xs.length ≤ 1000000) : ∀ (d k : Nat) (i : Nat) (y : Int), i + d = xs.length → d < k → ∃ r, charges_households.l0 k y xs (xs.length : Int) (i : Int) = some r := by
 intro d
 induction d with
 | zero =>
  intro k i y hi hk
  obtain ⟨k, rfl⟩ : ∃ m, k = m + 1 := ⟨k - 1, by omega⟩
  simp only [charges_households.l0]
  rw [if_neg (by omega)]
  exact ⟨_, rfl⟩
 | succ d ih =>
  intro k i y hi hk
  obtain ⟨k, rfl⟩ : ∃ m, k = m + 1 := ⟨k - 1, by omega⟩
  simp only [charges_households.l0]
  rw [if_pos (by omega), if_pos (by omega), if_pos (by omega)]
  split
  ·exact ⟨_, rfl⟩
  ·split
   ·exact ⟨_, rfl⟩
   ·have e : wrap64 ((i : Int) + 1) = ((i + 1 : Nat) : Int) := by unfold wrap64; omega
    rw [e]
    exact ih k (i + 1) _ (by omega) (by omega)
def homesB (xs : List Int) : Bool := (charges_households.f (xs.length + 1) xs).getD false
theorem homes_calls (A : Option Addr) (c : Nat) (xs : List Int) (w : World) (hr : Kd.C (Kd.int .i64) w A xs.length xs) (hc : xs.length ≤ c) (hn : xs.length ≤ 1000000) :
  Calls Try.prog 16 #[.slice A xs.length c] w fun e w' => e = .returned (.bool (homesB xs)) ∧ ∃ m, w' = w.drewN m := by
 obtain ⟨r, h⟩ := households_some xs hn xs.length (xs.length + 1) 0 0 (by omega) (by omega)
 have h2 : charges_households.f (xs.length + 1) xs = some r := h
 refine (charges_households.calls (xs.length + 1) A c xs r w hr hc h2).mono ?_
 rintro e w' ⟨rfl, hd⟩
 exact ⟨by unfold homesB; rw [h2]; rfl, hd.out⟩
/-! ### bills -/
def billAt (hs : List Int) (bs : List S35) (i : Nat) : S46 := ⟨rd hs i, wrap64 (Int.tdiv (wrap64 ((rd_T35 bs i).f0 + (rd_T35 bs i).f1)) 2), rd_T35 bs i, (rd_T35 bs i).f0 == (rd_T35 bs i).f1⟩
def sumTo (hs : List Int) (bs : List S35) : Nat → Int
 | 0 => 0
 | k + 1 => wrap64 (sumTo hs bs k + (billAt hs bs k).f1)
def leastTo (l : List S35) : Nat → Int
 | 0 => 0
 | k + 1 => wrap64 (leastTo l k + (rd_T35 l k).f0)
def lowStep (c : Int) (st : List S46 × Int) (i : Nat) : List S46 × Int :=
 (st.1.set i ⟨(rd_T46 st.1 i).f0, wrap64 ((rd_T46 st.1 i).f1 - lowD (rd_T46 st.1 i).f1 (rd_T46 st.1 i).f2.f0 (wrap64 (st.2 - c))), (rd_T46 st.1 i).f2, (rd_T46 st.1 i).f3⟩, wrap64 (st.2 - lowD (rd_T46 st.1 i).f1 (rd_T46 st.1 i).f2.f0 (wrap64 (st.2 - c))))
def lowAll (c : Int) (st : List S46 × Int) (is : List Nat) : List S46 × Int := is.foldl (lowStep c) st
theorem lowAll_snoc (c : Int) (st : List S46 × Int) (is : List Nat) (i : Nat) : lowAll c st (is ++ [i]) = lowStep c (lowAll c st is) i := by simp [lowAll]
theorem lowAll_length (c : Int) (is : List Nat) : ∀ st, (lowAll c st is).1.length = st.1.length := by
 induction is with
 | nil => exact fun _ => rfl
 | cons i is ih => intro st; exact (ih _).trans (by simp [lowStep])
def shareS (c t : Int) (hs : List Int) (l : List S35) : List S46 × Int := lowAll c ((List.range l.length).map (billAt hs (l.map (rightR c t))), sumTo hs (l.map (rightR c t)) l.length) (dn l.length l.length)
def shareM (c t : Int) (hs : List Int) (l : List S35) : List S46 × Int × Int :=
 if chargesOk c t l then
  if hs.length = l.length ∧ homesB hs = true then
   if t < leastTo l l.length then ([], 0, 30) else ((shareS c t hs l).1, wrap64 (c - (shareS c t hs l).2), 0)
  else ([], 0, 1)
 else ([], 0, 1)
theorem info82 : (Try.prog.info? 82).map (fun i => (i.zero, i.size, i.bytes)) = some (some (.agg #[.int .i64 0, .int .i64 0, .int .i64 0, .int .i64 0, .bool false]), 5, 40) := by kernel_rfl
theorem info46 : (Try.prog.info? 46).map (fun i => (i.zero, i.size, i.bytes)) = some (some (.agg #[.int .i64 0, .int .i64 0, .int .i64 0, .int .i64 0, .bool false]), 5, 40) := by kernel_rfl
def put46 (W : World) (g off : Nat) (x : S46) : World := ((((W.setCell ⟨g, off, none⟩ (.int .i64 x.f0)).setCell ⟨g, off + 1, none⟩ (.int .i64 x.f1)).setCell ⟨g, off + 2, none⟩ (.int .i64 x.f2.f0)).setCell ⟨g, off + 3, none⟩ (.int .i64 x.f2.f1)).setCell ⟨g, off + 4, none⟩ (.bool x.f3)
theorem row46_at {W : World} {e base g n cap : Nat} {ok : Nat → Prop} {xs : List S46} (h : Kd.R k46 e W base ok (.slice (some ⟨g, 0, none⟩) n cap) xs) (i : Int) (h0 : 0 ≤ i) (h1 : i < xs.length) :
  W.cell? ⟨g, i.toNat * 5, none⟩ = some (.int .i64 (rd_T46 xs i).f0) ∧ W.cell? ⟨g, i.toNat * 5 + 1, none⟩ = some (.int .i64 (rd_T46 xs i).f1) ∧ W.cell? ⟨g, i.toNat * 5 + 2, none⟩ = some (.int .i64 (rd_T46 xs i).f2.f0) ∧ W.cell? ⟨g, i.toNat * 5 + 3, none⟩ = some (.int .i64 (rd_T46 xs i).f2.f1) ∧ W.cell? ⟨g, i.toNat * 5 + 4, none⟩ = some (.bool (rd_T46 xs i).f3) ∧
   ∀ j, W.frozen? ⟨g, i.toNat * 5 + j, none⟩ = false := by
 have hn := (Kd.R_reads' h).1
 obtain ⟨c, hcl, hM, hcc, hfr⟩ := Kd.R_elem h z46 i h0 (by omega)
 obtain rfl := k46_openM hM
 exact ⟨hcc 0 _ rfl, hcc 1 _ rfl, hcc 2 _ rfl, hcc 3 _ rfl, hcc 4 _ rfl, fun j => hfr j⟩
theorem row46_set {W : World} {e base g n cap : Nat} {ok : Nat → Prop} {xs : List S46} (h : Kd.R k46 e W base ok (.slice (some ⟨g, 0, none⟩) n cap) xs) (i : Int) (h0 : 0 ≤ i) (h1 : i < xs.length) (x : S46) :
  Kd.R k46 e (put46 W g (i.toNat * 5) x) base ok (.slice (some ⟨g, 0, none⟩) n cap) (xs.set i.toNat x) := by
 have hn := (Kd.R_reads' h).1
 obtain ⟨c, hcl, hM, hcc, hfr⟩ := Kd.R_elem h z46 i h0 (by omega)
 obtain rfl := k46_openM hM
 exact (Kd.R_seg h i h0 (by omega) (seg := [.int .i64 x.f0, .int .i64 x.f1, .int .i64 x.f2.f0, .int .i64 x.f2.f1, .bool x.f3]) (j := 0) hcl hcc (show 5 ≤ 5 from by decide) (x' := x) (okp := fun _ => False) (k46_mkM _ _ _ x) (fun _ hk => hk.elim)).1
theorem row46_cents {W : World} {e base g n cap : Nat} {ok : Nat → Prop} {xs : List S46} (h : Kd.R k46 e W base ok (.slice (some ⟨g, 0, none⟩) n cap) xs) (i : Int) (h0 : 0 ≤ i) (h1 : i < xs.length) (y : Int) :
  Kd.R k46 e (W.setCell ⟨g, i.toNat * 5 + 1, none⟩ (.int .i64 y)) base ok (.slice (some ⟨g, 0, none⟩) n cap) (xs.set i.toNat ⟨(rd_T46 xs i).f0, y, (rd_T46 xs i).f2, (rd_T46 xs i).f3⟩) := by
 have hn := (Kd.R_reads' h).1
 obtain ⟨c, hcl, hM, hcc, hfr⟩ := Kd.R_elem h z46 i h0 (by omega)
 obtain rfl := k46_openM hM
 exact (Kd.R_seg h i h0 (by omega) (seg := [.int .i64 y]) (j := 1) hcl hcc (show 2 ≤ 5 from by decide) (x' := ⟨(rd_T46 xs i).f0, y, (rd_T46 xs i).f2, (rd_T46 xs i).f3⟩) (okp := fun _ => False) (k46_mkM _ _ _ ⟨(rd_T46 xs i).f0, y, (rd_T46 xs i).f2, (rd_T46 xs i).f3⟩) (fun _ hk => hk.elim)).1
end
section
-- The contract of charges' Share.
attribute [local go_sem] max2_int min2_int
attribute [local go_sem] Oper.semAt_some
set_option linter.unusedVariables false
set_option linter.unusedSimpArgs false
/-- Only a return will do. -/
def retPost (F : Fence) (n : Nat) (P : Program) (fn : Func) (R : Ending → World → Prop) : Exit → Act → World → Prop
 | .ret, a, w => bodyPostM F n P fn R .ret a w
 | _, _, _ => False
theorem retPost_le {F : Fence} {n : Nat} {P : Program} {fn : Func} {R : Ending → World → Prop} (e : Exit) (a : Act) (w : World) (h : retPost F n P fn R e a w) : bodyPostM F n P fn R e a w := by
 cases e <;> first | exact h | exact h.elim
theorem postM_ret {F : Fence} {n : Nat} {P : Program} {fn : Func} {R : Ending → World → Prop} {a : Act} {w : World} {v : Value} (hr : (results fn a.tmps).run P w = .ok v w) (hd : a.defers = []) (hR : R (.returned v) w) : retPost F n P fn R .ret a w := by
 show LeavesInM F n P fn a.tmps R a.defers .returning w
 rw [hd]
 exact ⟨v, hr, hR⟩
/-- What holds while bills are made, and lowered. -/
structure ShI (wz : World) (bc : Nat) (c : Int) (base bb bsum : Nat) (V : Value) (bills : List S46) (sum : Int) (W : World) : Prop where
 row : Kd.R k46 82 W base (fun k => k ≠ bsum ∧ k < wz.heap.size + 1) V bills
 boxc : W.heap[bc]? = some (.cells #[.int .i64 c] 3)
 boxb : W.heap[bb]? = some (.cells #[V] 80)
 boxs : W.heap[bsum]? = some (.cells #[.int .i64 sum] 3)
 below : Below wz.heap.size wz W
 ltc : bc < wz.heap.size
 leb : wz.heap.size ≤ base
 leB : wz.heap.size ≤ bsum
section
variable {wz W W' : World} {bc : Nat} {c : Int} {base bb bsum : Nat} {V : Value} {bills bills' : List S46} {sum sum' : Int}
theorem ShI.at_ (h : ShI wz bc c base bb bsum V bills sum W) (hb : Below W.heap.size W W') : ShI wz bc c base bb bsum V bills sum W' :=
 ⟨Kd.R_below h.row hb, (hb.block _ (blk_lt h.boxc)).trans h.boxc, (hb.block _ (blk_lt h.boxb)).trans h.boxb, (hb.block _ (blk_lt h.boxs)).trans h.boxs, h.below.trans (hb.mono h.below.size), h.ltc, h.leb, h.leB⟩
theorem ShI.put (h : ShI wz bc c base bb bsum V bills sum W) {g : Nat} (hg : base ≤ g) (hgt : ∃ cs, W.heap[g]? = some (.cells cs 82 (0, 0))) (hr : Kd.R k46 82 W' base (fun k => k ≠ bsum ∧ k < wz.heap.size + 1) V bills') (hk : ∀ j, j ≠ g → W'.heap[j]? = W.heap[j]?) (hb : Below wz.heap.size wz W') : ShI wz bc c base bb bsum V bills' sum W' := by
 obtain ⟨cs, hcs⟩ := hgt
 have := h.leb
 have := h.ltc
 exact ⟨hr, (hk _ (by omega)).trans h.boxc, (hk _ (blk_ty h.boxb hcs (by decide))).trans h.boxb, (hk _ (blk_ty h.boxs hcs (by decide))).trans h.boxs, hb, h.ltc, h.leb, h.leB⟩
theorem ShI.putS (h : ShI wz bc c base bb bsum V bills sum W) (y : Int) : ShI wz bc c base bb bsum V bills y (W.setCell ⟨bsum, 0, none⟩ (.int .i64 y)) := by
 have := h.leB
 have := h.ltc
 exact ⟨Kd.R_far h.row (fun k hk => hk.1) _, (Below.heap_setCell W ⟨bsum, 0, none⟩ (.int .i64 y) bc (by show bc ≠ bsum; omega)).trans h.boxc, (Below.heap_setCell W ⟨bsum, 0, none⟩ (.int .i64 y) bb (blk_ty h.boxb h.boxs (by decide))).trans h.boxb, blk_put h.boxs 0 _ rfl, below_set h.below h.leB, h.ltc, h.leb, h.leB⟩
theorem ShI.low {row : Option Nat} {B : Nat} (h : ShI wz bc c base bb bsum V bills sum W) (hg : W.grownBy W' row) (hr : ∀ r, row = some r → B ≤ r) (hB : wz.heap.size + 1 ≤ B) (hbb : bb < B) (hbs : bsum < B) : ShI wz bc c base bb bsum V bills sum W' := by
 have := h.ltc
 exact ⟨Kd.R_step h.row (fun k hk hl => grown_low hg hr k (by omega) hl), (grown_low hg hr _ (by omega) (blk_lt h.boxc)).trans h.boxc, (grown_low hg hr _ hbb (blk_lt h.boxb)).trans h.boxb, (grown_low hg hr _ hbs (blk_lt h.boxs)).trans h.boxs, below_low h.below hg hr (by omega), h.ltc, h.leb, h.leB⟩
end
set_option maxHeartbeats 16000000 in
set_option maxRecDepth 100000 in
theorem share_calls (c t : Int) (Ah : Option Addr) (ch : Nat) (hs : List Int) (Al : Option Addr) (cl : Nat) (l : List S35) (w : World) (hh : Kd.C (Kd.int .i64) w Ah hs.length hs) (hch : hs.length ≤ ch) (hl : Kd.C k35 w Al l.length l) (hn : hs.length ≤ 1000) :
  Calls Try.prog 17 #[.int .i64 c, .int .i64 t, .slice Ah hs.length ch, .slice Al l.length cl] w fun e w' =>
   ∃ v, e = .returned (.tuple #[v, .int .i64 (shareM c t hs l).2.1, .int .i64 (shareM c t hs l).2.2]) ∧ Kd.R k46 46 w' w.heap.size (fun _ => True) v (shareM c t hs l).1 ∧ Below w.heap.size w w' := by
 have HSM := Aside0.mk (show shareM c t hs l =
  if chargesOk c t l then
  if hs.length = l.length ∧ homesB hs = true then
   if t < leastTo l l.length then ([], 0, 30) else ((shareS c t hs l).1, wrap64 (c - (shareS c t hs l).2), 0)
  else ([], 0, 1)
 else ([], 0, 1) from rfl)
 have HSS := Aside0.mk (show shareS c t hs l = lowAll c ((List.range l.length).map (billAt hs (l.map (rightR c t))), sumTo hs (l.map (rightR c t)) l.length) (dn l.length l.length) from rfl)
 generalize shareS c t hs l = ss at HSM HSS
 generalize shareM c t hs l = sm at HSM
 have HH := Aside0.mk hh
 have HCH := Aside0.mk hch
 have HL := Aside0.mk hl
 have HNN := Aside0.mk hn
 clear hh hch hl hn
 have hu80 := Try.underlying80
 have hu82 := Try.underlying82
 have hu46 := Try.underlying46
 have HCB := Aside0.mk (fun W (hb : Below w.heap.size w W) => chargesBounds_calls c t Al cl l W (Kd.C_below HL.out hb))
 have HCM := Aside0.mk (show chargesB c t l = if chargesOk c t l then (l.map (rightR c t), 0) else ([], 1) from rfl)
 obtain ⟨cb, hcb⟩ : ∃ cb, chargesB c t l = cb := ⟨_, rfl⟩
 rw [hcb] at HCB HCM
 clear hcb
 refine (callsIn_wide (n := 3)).1 (callsIn_of_wp_marks Try.func17 rfl trivial ?_ rfl)
 simp only [Try.ntmps17, List.size_toArray, List.length_cons, List.length_nil, Nat.reduceAdd, Nat.reduceSub, Array.replicate_succ, Array.replicate_zero, List.push_toArray, List.append_toArray, List.nil_append, List.cons_append]
 refine wpIn_mono (Q := retPost _ _ _ _ _) (wpIn_wide.2 ?_) retPost_le
 have HXC := Aside0.mk (heap_alloc_new w (.cells #[.int .i64 c] 3))
 have HB := Aside0.mk ((Below.refl _ w).alloc (Nat.le_refl _) (.cells #[.int .i64 c] 3))
 go_wp2_with fail
 generalize w.alloc (.cells #[.int .i64 c] 3) = w1 at HXC HB ⊢
 refine (HCB.out _ HB.out).mono ?_
 clear HCB
 rintro e w2 ⟨v, rfl, hv, hb⟩
 replace HXC := Aside0.mk ((hb.block _ (blk_lt HXC.out)).trans HXC.out)
 replace HB := Aside0.mk (HB.out.trans (hb.mono HB.out.size))
 by_cases hok : chargesOk c t l
 case neg =>
  rw [if_neg hok] at HCM HSM
  obtain rfl := HCM.out
  clear hv hb
  go_wp2
  rw [HSM.out]
  exact postM_ret (v := .tuple #[.slice none 0 0, .int .i64 0, .int .i64 1]) (by simp [results, Try.results17, go_sem]) rfl ⟨_, rfl, Kd.R_nil _ _ _ _ _, HB.out⟩
 case pos =>
  rw [if_pos hok] at HCM HSM
  obtain rfl := HCM.out
  have HOKC := Aside0.mk hok
  obtain ⟨bs, hbs⟩ : ∃ bs, l.map (rightR c t) = bs := ⟨_, rfl⟩
  have HBL := Aside0.mk (show bs.length = l.length by rw [← hbs, List.length_map])
  have HLN := Aside0.mk (show l.length ≤ 200 from hok.2.2.2.2.1)
  rw [hbs] at hv HSS
  obtain ⟨Av, cv, rfl, hcv, hvC⟩ := Kd.R_reads hv
  have HV := Aside0.mk hvC
  clear hv hb hvC hok HCM hbs
  rw [HBL.out] at HV ⊢
  by_cases hln : hs.length = l.length
  case neg =>
   have hlnI : ¬ (hs.length : Int) = (l.length : Int) := by omega
   have hlnB : ((hs.length : Int) == (l.length : Int)) = false := by simpa using hlnI
   have hlnC : ((hs.length : Int) != (l.length : Int)) = true := by simpa using hlnI
   rw [if_neg (by omega)] at HSM
   go_wp2
   rw [HSM.out]
   exact postM_ret (v := .tuple #[.slice none 0 0, .int .i64 0, .int .i64 1]) (by simp [results, Try.results17, go_sem]) rfl ⟨_, rfl, Kd.R_nil _ _ _ _ _, HB.out⟩
  have HLH := Aside0.mk hln
  have HHC := Aside0.mk (homes_calls Ah ch hs w2 (Kd.C_below HH.out HB.out) HCH.out (by have := HNN.out; omega))
  obtain ⟨hm, hhm⟩ : ∃ hm, homesB hs = hm := ⟨_, rfl⟩
  rw [hhm] at HHC HSM
  rw [hln] at HHC ⊢
  clear hhm hln
  go_wp2_with fail
  refine HHC.out.mono ?_
  rintro e w3 ⟨rfl, m, rfl⟩
  clear HHC
  replace HB := Aside0.mk (pw_below_drewN HB.out m)
  replace HXC : Aside0 ((w2.drewN m).heap[w.heap.size]? = some (.cells #[.int .i64 c] 3)) := HXC
  replace HV : Aside0 (Kd.C k35 (w2.drewN m) Av l.length bs) := ⟨Kd.C_drewN HV.out m⟩
  generalize w2.drewN m = wz at HB HXC HV ⊢
  cases hm with
  | false =>
   rw [if_neg (by simp)] at HSM
   go_wp2
   rw [HSM.out]
   exact postM_ret (v := .tuple #[.slice none 0 0, .int .i64 0, .int .i64 1]) (by simp [results, Try.results17, go_sem]) rfl ⟨_, rfl, Kd.R_nil _ _ _ _ _, HB.out⟩
  | true =>
   rw [if_pos ⟨HLH.out, rfl⟩] at HSM
   have hnn : (0 : Int) ≤ (l.length : Int) := by omega
   go_wp2_with (first | ((with_reducible refine gate_dst (N := 44) rfl ?_); refine Kd.R_make k46 (w0 := wz) wz.heap.size 82 rfl (N := 44) rfl 80 _ _ rfl (l.length : Int) rfl rfl Try.underlying80 (.agg #[.int .i64 0, .int .i64 0, .int .i64 0, .int .i64 0, .bool false]) 40 info82 rfl (by decide) (by omega) z46 (ok := fun k => k < wz.heap.size + 1) (okp := fun _ => False) (k46_mkM _ _ _ z46) (fun _ hk => hk.elim) (by show wz.heap.size < wz.heap.size + 1; omega) hnn (by have := HLN.out; simp only [Int.toNat_natCast]; omega) (Below.refl _ _) (Nat.le_refl _) ?_; intro v6 w6 ho5 hb hg_ hnew_; obtain ⟨Ab, cb, e6, _, _⟩ := Kd.R_reads ho5; subst e6; have HF0 := Aside0.mk ho5; have HB6 := Aside0.mk hb; clear ho5 hb hg_ hnew_))
   clear hnn
   simp only [Int.toNat_natCast, List.length_replicate] at HF0 ⊢
   have HI0 : Aside0 (ShI wz w.heap.size c wz.heap.size w6.heap.size (w6.heap.size + 1) (.slice Ab l.length cb) (fillTo l.length (billAt hs bs) z46 0) (sumTo hs bs 0) ((w6.alloc (.cells #[.slice Ab l.length cb] 80)).alloc (.cells #[.int .i64 0] 3))) := ⟨by
    have h6 := HB6.out.size
    have e1 := heap_alloc_new w6 (.cells #[.slice Ab l.length cb] 80)
    have e2 := heap_alloc_new (w6.alloc (.cells #[.slice Ab l.length cb] 80)) (.cells #[.int .i64 0] 3)
    rw [World.size_alloc] at e2
    exact ⟨by rw [fill_zero]; exact Kd.R_alloc (Kd.R_alloc (Kd.R_mono HF0.out (fun k hk => ⟨by omega, hk⟩)) _) _, blk_alloc (blk_alloc ((HB6.out.block _ (blk_lt HXC.out)).trans HXC.out) _) _, blk_alloc e1 _, e2, (HB6.out.alloc h6 _).alloc (by simp; omega) _, blk_lt HXC.out, Nat.le_refl _, by omega⟩⟩
   clear HF0 HB6
   generalize (w6.alloc (.cells #[.slice Ab l.length cb] 80)).alloc (.cells #[.int .i64 0] 3) = w7 at HI0 ⊢
   generalize w6.heap.size + 1 = bsum at HI0 ⊢
   generalize w6.heap.size = bb at HI0 ⊢
   go_loopg [15, 47] l.length (fun gg s15 s47 wr => ∃ k : Nat, k ≤ l.length ∧ l.length - k ≤ gg ∧ s15 = .int .i64 (leastTo l k) ∧ s47 = .int .i64 k ∧ Aside0 (ShI wz w.heap.size c wz.heap.size bb bsum (.slice Ab l.length cb) (fillTo l.length (billAt hs bs) z46 k) (sumTo hs bs k) wr))
   case atStart => exact ⟨0, Nat.zero_le _, by omega, rfl, rfl, HI0⟩
   case round =>
    clear HI0
    obtain ⟨k, hk, hgg, rfl, rfl, HI⟩ := hrel
    by_cases hlt : k < l.length
    ·have hi : (k : Int) < (l.length : Int) := by omega
     have HLN2 := Aside0.mk (show (l.length : Int) ≤ 200 by have := HLN.out; omega)
     obtain ⟨ad, e0, v0, v1⟩ := at_T35 HV.out (k : Int) (by omega) hi
     cases e0
     obtain ⟨adh, e0, h0⟩ := Kd.at_int HH.out (k : Int) (by omega) (by rw [HLH.out]; exact hi)
     cases e0
     obtain ⟨adl, e0, l0, _⟩ := at_T35 HL.out (k : Int) (by omega) hi
     cases e0
     simp only [Int.toNat_natCast] at v0 v1 h0 l0
     have L00 := Aside0.mk l0
     replace v0 := (HI.out.below.cell (World.block_lt_of_cell? wz _ v0)).trans v0
     replace v1 := (HI.out.below.cell (World.block_lt_of_cell? wz _ v1)).trans v1
     have HBW := Aside0.mk (HB.out.trans (HI.out.below.mono HB.out.size))
     replace h0 := (HBW.out.cell (World.block_lt_of_cell? w _ h0)).trans h0
     clear l0
     have HBA := Aside0.mk (show billAt hs bs k = ⟨rd hs k, wrap64 (Int.tdiv (wrap64 ((rd_T35 bs k).f0 + (rd_T35 bs k).f1)) 2), rd_T35 bs k, (rd_T35 bs k).f0 == (rd_T35 bs k).f1⟩ from rfl)
     have HST := Aside0.mk (show sumTo hs bs (k + 1) = wrap64 (sumTo hs bs k + (billAt hs bs k).f1) from rfl)
     have HLT := Aside0.mk (show leastTo l (k + 1) = wrap64 (leastTo l k + (rd_T35 l k).f0) from rfl)
     have HFS := Aside0.mk (fill_step l.length (billAt hs bs) z46 k hlt)
     generalize rd_T35 bs (k : Int) = x at v0 v1 HBA
     generalize rd hs (k : Int) = h at h0 HBA
     generalize (rd_T35 l (k : Int)).f0 = lo at L00 HLT
     generalize billAt hs bs k = bi at HBA HST HFS
     generalize leastTo l k = lst at HLT ⊢
     go_wp2_with fail
     clear v0 v1
     have HY := Aside0.mk (heap_alloc_new wr (.cells #[.int .i64 x.f0, .int .i64 x.f1] 35))
     replace HI := Aside0.mk (HI.out.at_ (below_alloc (Below.refl _ _) (.cells #[.int .i64 x.f0, .int .i64 x.f1] 35)))
     replace h0 := ((below_alloc (Below.refl wr.heap.size wr) (.cells #[.int .i64 x.f0, .int .i64 x.f1] 35)).cell (World.block_lt_of_cell? wr _ h0)).trans h0
     generalize wr.alloc (.cells #[.int .i64 x.f0, .int .i64 x.f1] 35) = w8 at HY HI h0 ⊢
     generalize wr.heap.size = by_ at HY ⊢
     obtain ⟨g, c6, e6, hg6, _, hgt⟩ := Kd.R_form HI.out.row (by rw [fill_length]; omega)
     rw [fill_length] at e6
     cases e6
     have HG := Aside0.mk hg6
     have HGT := Aside0.mk hgt
     clear hg6 hgt HBW
     obtain ⟨xc0, xc1, xc2, xc3, xc4, xf⟩ := row46_at HI.out.row (k : Int) (by omega) (by rw [fill_length]; omega)
     simp only [Int.toNat_natCast] at xc0 xc1 xc2 xc3 xc4 xf
     have HXF := Aside0.mk xf
     clear xf
     have hbb : w8.cell? ⟨bb, 0, none⟩ = some (.slice (some ⟨g, 0, none⟩) l.length cb) := (blk_cell HI.out.boxb 0).trans rfl
     have hx0 : w8.cell? ⟨by_, 0, none⟩ = some (.int .i64 x.f0) := (blk_cell HY.out 0).trans rfl
     have hx1 : w8.cell? ⟨by_, 1, none⟩ = some (.int .i64 x.f1) := (blk_cell HY.out 1).trans rfl
     refine start_ (n := 22) (S := Ext w8) (ds := [21]) #[false, false, false, false, false, false, false, false, false, false, false, false, false, false, false, false, false, false, false, false, false, false] (by kernel_rfl) rfl (by rfl) (fun _ _ h => h) (fun hHeld => ?_)
     have HD := Aside0.mk (show Below w8.heap.size w8 w8.drew from (Below.refl _ _).drew)
     generalize w8.drew = wa at HD hHeld ⊢
     refine pure_ (i := 1) (N := some 53) (v := ?_) (a' := ?_) #[false, true, false, false, false, false, false, false, false, false, false, false, false, false, false, false, false, false, false, false, false, false] rfl rfl (by kernel_rfl) (fun _ _ _ h => h) (Or.inl ⟨by rfl, ?_⟩) ?_ ?_
     rotate_left
     ·intro w'
      go_simp
      with_reducible rfl
     rotate_left
     ·simp only [Act.put, sA, sZ, sS, i64_w, i32_w]
      rfl
     refine pure_ (i := 2) (N := some 54) (v := ?_) (a' := ?_) #[false, true, true, false, false, false, false, false, false, false, false, false, false, false, false, false, false, false, false, false, false, false] rfl rfl (by kernel_rfl) (fun _ _ _ h => h) (Or.inl ⟨by rfl, ?_⟩) ?_ ?_
     rotate_left
     ·intro w'
      go_simp
      with_reducible rfl
     rotate_left
     ·simp only [Act.put, sA, sZ, sS, i64_w, i32_w]
      rfl
     refine pure_ (i := 3) (N := some 55) (v := ?_) (a' := ?_) #[false, true, true, true, false, false, false, false, false, false, false, false, false, false, false, false, false, false, false, false, false, false] rfl rfl (by kernel_rfl) (fun _ _ _ h => h) (Or.inl ⟨by rfl, ?_⟩) ?_ ?_
     rotate_left
     ·intro w'
      go_simp
      with_reducible rfl
     rotate_left
     ·simp only [Act.put, sA, sZ, sS, i64_w, i32_w]
      rfl
     refine pure_ (i := 4) (N := some 56) (v := ?_) (a' := ?_) #[false, true, true, true, true, false, false, false, false, false, false, false, false, false, false, false, false, false, false, false, false, false] rfl rfl (by kernel_rfl) (fun _ _ _ h => h) (Or.inl ⟨by rfl, ?_⟩) ?_ ?_
     rotate_left
     ·intro w'
      go_simp
      with_reducible rfl
     rotate_left
     ·simp only [Act.put, sA, sZ, sS, i64_w, i32_w]
      rfl
     refine pure_ (i := 6) (N := some 58) (v := ?_) (a' := ?_) #[false, true, true, true, true, false, true, false, false, false, false, false, false, false, false, false, false, false, false, false, false, false] rfl rfl (by kernel_rfl) (fun _ _ _ h => h) (Or.inl ⟨by rfl, ?_⟩) ?_ ?_
     rotate_left
     ·intro w'
      go_simp
      with_reducible rfl
     rotate_left
     ·simp only [Act.put, sA, sZ, sS, i64_w, i32_w]
      rfl
     refine pure_ (i := 8) (N := some 60) (v := ?_) (a' := ?_) #[false, true, true, true, true, false, true, false, true, false, false, false, false, false, false, false, false, false, false, false, false, false] rfl rfl (by kernel_rfl) (fun _ _ _ h => h) (Or.inl ⟨by rfl, ?_⟩) ?_ ?_
     rotate_left
     ·intro w'
      go_simp
      with_reducible rfl
     rotate_left
     ·simp only [Act.put, sA, sZ, sS, i64_w, i32_w]
      rfl
     refine pure_ (i := 13) (N := some 65) (v := ?_) (a' := ?_) #[false, true, true, true, true, false, true, false, true, false, false, false, false, true, false, false, false, false, false, false, false, false] rfl rfl (by kernel_rfl) (fun _ _ _ h => h) (Or.inl ⟨by rfl, ?_⟩) ?_ ?_
     rotate_left
     ·intro w'
      go_simp
      with_reducible rfl
     rotate_left
     ·simp only [Act.put, sA, sZ, sS, i64_w, i32_w]
      rfl
     refine pure_ (i := 15) (N := some 67) (v := ?_) (a' := ?_) #[false, true, true, true, true, false, true, false, true, false, false, false, false, true, false, true, false, false, false, false, false, false] rfl rfl (by kernel_rfl) (fun _ _ _ h => h) (Or.inl ⟨by rfl, ?_⟩) ?_ ?_
     rotate_left
     ·intro w'
      go_simp
      with_reducible rfl
     rotate_left
     ·simp only [Act.put, sA, sZ, sS, i64_w, i32_w]
      rfl
     refine take_ (i := 0) (N := some 52) (v := ?_) (a' := ?_) #[true, true, true, true, true, false, true, false, true, false, false, false, false, true, false, true, false, false, false, false, false, false] rfl rfl (by kernel_rfl) (fun _ _ _ h => h) (Or.inl ⟨by rfl, ?_⟩) hHeld ?_ ?_
     rotate_left
     ·intro w' hS
      have s0 := hS _ _ hbb
      have s1 := hS _ _ h0
      have s2 := hS _ _ hx0
      have s3 := hS _ _ hx1
      clear hS
      go_simp
      with_reducible rfl
     rotate_left
     ·simp only [Act.put, sA, sZ, sS, i64_w, i32_w]
      rfl
     refine take_ (i := 5) (N := some 57) (v := ?_) (a' := ?_) #[true, true, true, true, true, true, true, false, true, false, false, false, false, true, false, true, false, false, false, false, false, false] rfl rfl (by kernel_rfl) (fun _ _ _ h => h) (Or.inl ⟨by rfl, ?_⟩) hHeld ?_ ?_
     rotate_left
     ·intro w' hS
      have s0 := hS _ _ hbb
      have s1 := hS _ _ h0
      have s2 := hS _ _ hx0
      have s3 := hS _ _ hx1
      clear hS
      go_simp
      with_reducible rfl
     rotate_left
     ·simp only [Act.put, sA, sZ, sS, i64_w, i32_w]
      rfl
     refine take_ (i := 7) (N := some 59) (v := ?_) (a' := ?_) #[true, true, true, true, true, true, true, true, true, false, false, false, false, true, false, true, false, false, false, false, false, false] rfl rfl (by kernel_rfl) (fun _ _ _ h => h) (Or.inl ⟨by rfl, ?_⟩) hHeld ?_ ?_
     rotate_left
     ·intro w' hS
      have s0 := hS _ _ hbb
      have s1 := hS _ _ h0
      have s2 := hS _ _ hx0
      have s3 := hS _ _ hx1
      clear hS
      go_simp
      with_reducible rfl
     rotate_left
     ·simp only [Act.put, sA, sZ, sS, i64_w, i32_w]
      rfl
     refine take_ (i := 9) (N := some 61) (v := ?_) (a' := ?_) #[true, true, true, true, true, true, true, true, true, true, false, false, false, true, false, true, false, false, false, false, false, false] rfl rfl (by kernel_rfl) (fun _ _ _ h => h) (Or.inl ⟨by rfl, ?_⟩) hHeld ?_ ?_
     rotate_left
     ·intro w' hS
      have s0 := hS _ _ hbb
      have s1 := hS _ _ h0
      have s2 := hS _ _ hx0
      have s3 := hS _ _ hx1
      clear hS
      go_simp
      with_reducible rfl
     rotate_left
     ·simp only [Act.put, sA, sZ, sS, i64_w, i32_w]
      rfl
     refine pure_ (i := 10) (N := some 62) (v := ?_) (a' := ?_) #[true, true, true, true, true, true, true, true, true, true, true, false, false, true, false, true, false, false, false, false, false, false] rfl rfl (by kernel_rfl) (fun _ _ _ h => h) (Or.inl ⟨by rfl, ?_⟩) ?_ ?_
     rotate_left
     ·intro w'
      go_simp
      with_reducible rfl
     rotate_left
     ·simp only [Act.put, sA, sZ, sS, i64_w, i32_w]
      rfl
     refine pure_ (i := 11) (N := some 63) (v := ?_) (a' := ?_) #[true, true, true, true, true, true, true, true, true, true, true, true, false, true, false, true, false, false, false, false, false, false] rfl rfl (by kernel_rfl) (fun _ _ _ h => h) (Or.inl ⟨by rfl, ?_⟩) ?_ ?_
     rotate_left
     ·intro w'
      go_simp
      with_reducible rfl
     rotate_left
     ·simp only [Act.put, sA, sZ, sS, i64_w, i32_w]
      rfl
     refine take_ (i := 12) (N := some 64) (v := ?_) (a' := ?_) #[true, true, true, true, true, true, true, true, true, true, true, true, true, true, false, true, false, false, false, false, false, false] rfl rfl (by kernel_rfl) (fun _ _ _ h => h) (Or.inl ⟨by rfl, ?_⟩) hHeld ?_ ?_
     rotate_left
     ·intro w' hS
      have s0 := hS _ _ hbb
      have s1 := hS _ _ h0
      have s2 := hS _ _ hx0
      have s3 := hS _ _ hx1
      clear hS
      go_simp
      with_reducible rfl
     rotate_left
     ·simp only [Act.put, sA, sZ, sS, i64_w, i32_w]
      rfl
     refine take_ (i := 14) (N := some 66) (v := ?_) (a' := ?_) #[true, true, true, true, true, true, true, true, true, true, true, true, true, true, true, true, false, false, false, false, false, false] rfl rfl (by kernel_rfl) (fun _ _ _ h => h) (Or.inl ⟨by rfl, ?_⟩) hHeld ?_ ?_
     rotate_left
     ·intro w' hS
      have s0 := hS _ _ hbb
      have s1 := hS _ _ h0
      have s2 := hS _ _ hx0
      have s3 := hS _ _ hx1
      clear hS
      go_simp
      with_reducible rfl
     rotate_left
     ·simp only [Act.put, sA, sZ, sS, i64_w, i32_w]
      rfl
     refine take_ (i := 16) (N := some 68) (v := ?_) (a' := ?_) #[true, true, true, true, true, true, true, true, true, true, true, true, true, true, true, true, true, false, false, false, false, false] rfl rfl (by kernel_rfl) (fun _ _ _ h => h) (Or.inl ⟨by rfl, ?_⟩) hHeld ?_ ?_
     rotate_left
     ·intro w' hS
      have s0 := hS _ _ hbb
      have s1 := hS _ _ h0
      have s2 := hS _ _ hx0
      have s3 := hS _ _ hx1
      clear hS
      go_simp
      with_reducible rfl
     rotate_left
     ·simp only [Act.put, sA, sZ, sS, i64_w, i32_w]
      rfl
     refine pure_ (i := 17) (N := some 69) (v := ?_) (a' := ?_) #[true, true, true, true, true, true, true, true, true, true, true, true, true, true, true, true, true, true, false, false, false, false] rfl rfl (by kernel_rfl) (fun _ _ _ h => h) (Or.inl ⟨by rfl, ?_⟩) ?_ ?_
     rotate_left
     ·intro w'
      go_simp
      with_reducible rfl
     rotate_left
     ·simp only [Act.put, sA, sZ, sS, i64_w, i32_w]
      rfl
     refine pure_ (i := 18) (N := some 70) (v := ?_) (a' := ?_) #[true, true, true, true, true, true, true, true, true, true, true, true, true, true, true, true, true, true, true, false, false, false] rfl rfl (by kernel_rfl) (fun _ _ _ h => h) (Or.inl ⟨by rfl, ?_⟩) ?_ ?_
     rotate_left
     ·intro w'
      go_simp
      with_reducible rfl
     rotate_left
     ·simp only [Act.put, sA, sZ, sS, i64_w, i32_w]
      rfl
     refine pure_ (i := 19) (N := some 71) (v := ?_) (a' := ?_) #[true, true, true, true, true, true, true, true, true, true, true, true, true, true, true, true, true, true, true, true, false, false] rfl rfl (by kernel_rfl) (fun _ _ _ h => h) (Or.inl ⟨by rfl, ?_⟩) ?_ ?_
     rotate_left
     ·intro w'
      go_simp
      with_reducible rfl
     rotate_left
     ·simp only [Act.put, sA, sZ, sS, i64_w, i32_w]
      rfl
     refine pure_ (i := 20) (N := some 72) (v := ?_) (a' := ?_) #[true, true, true, true, true, true, true, true, true, true, true, true, true, true, true, true, true, true, true, true, true, false] rfl rfl (by kernel_rfl) (fun _ _ _ h => h) (Or.inl ⟨by rfl, ?_⟩) ?_ ?_
     rotate_left
     ·intro w'
      go_simp
      with_reducible rfl
     rotate_left
     ·simp only [Act.put, sA, sZ, sS, i64_w, i32_w]
      rfl
     refine last_ (i := 21) (N := none) #[true, true, true, true, true, true, true, true, true, true, true, true, true, true, true, true, true, true, true, true, true, true] rfl rfl (by kernel_rfl) (by decide) (fun K hK => ?_)
     have c0 := hHeld _ _ xc0
     have c1 := hHeld _ _ xc1
     have c2 := hHeld _ _ xc2
     have c3 := hHeld _ _ xc3
     have c4 := hHeld _ _ xc4
     have f0 := (HD.out.frozen (p := ⟨g, k * 5, none⟩) (World.block_lt_of_cell? w8 _ xc0)).trans (HXF.out 0)
     have f1 := (HD.out.frozen (p := ⟨g, k * 5 + 1, none⟩) (World.block_lt_of_cell? w8 _ xc1)).trans (HXF.out 1)
     have f2 := (HD.out.frozen (p := ⟨g, k * 5 + 2, none⟩) (World.block_lt_of_cell? w8 _ xc2)).trans (HXF.out 2)
     have f3 := (HD.out.frozen (p := ⟨g, k * 5 + 3, none⟩) (World.block_lt_of_cell? w8 _ xc3)).trans (HXF.out 3)
     have f4 := (HD.out.frozen (p := ⟨g, k * 5 + 4, none⟩) (World.block_lt_of_cell? w8 _ xc4)).trans (HXF.out 4)
     refine skip_ (w1 := ?_) (by rfl) rfl ?_ ?_
     rotate_left
     ·go_simp
      rfl
     refine hK.out _ _ ?_
     clear hK K c0 c1 c2 c3 c4 f0 f1 f2 f3 f4
     refine done_ (by kernel_rfl) ?_
     have HEB : Aside0 (⟨h, wrap64 (Int.tdiv (wrap64 (x.f0 + x.f1)) 2), x, x.f0 == x.f1⟩ = bi) := ⟨HBA.out.symm⟩
     have HR46 := Aside0.mk (row46_set (Kd.R_below HI.out.row HD.out) (k : Int) (by omega) (by rw [fill_length]; omega) bi)
     have HKB := Aside0.mk (HI.out.below.trans (HD.out.mono HI.out.below.size))
     have HGW := Aside0.mk (show wz.heap.size ≤ g from HG.out)
     have hput : (((((wa.setCell ⟨g, k * 5, none⟩ (.int .i64 h)).setCell ⟨g, k * 5 + 1, none⟩ (.int .i64 (wrap64 (Int.tdiv (wrap64 (x.f0 + x.f1)) 2)))).setCell ⟨g, k * 5 + 2, none⟩ (.int .i64 x.f0)).setCell ⟨g, k * 5 + 3, none⟩ (.int .i64 x.f1)).setCell ⟨g, k * 5 + 4, none⟩ (.bool (x.f0 == x.f1))) = put46 wa g (k * 5) bi := by rw [← HEB.out]; rfl
     rw [hput]
     clear hput
     simp only [Int.toNat_natCast] at HR46
     rw [HFS.out] at HR46
     replace HI := Aside0.mk (ShI.put (HI.out.at_ HD.out) HG.out ⟨_, (HD.out.block _ (blk_lt HGT.out.choose_spec)).trans HGT.out.choose_spec⟩ HR46.out
      (fun j hj => by
       show (put46 wa g (k * 5) bi).heap[j]? = wa.heap[j]?
       unfold put46
       rw [Below.heap_setCell _ _ _ j hj, Below.heap_setCell _ _ _ j hj, Below.heap_setCell _ _ _ j hj, Below.heap_setCell _ _ _ j hj, Below.heap_setCell _ _ _ j hj])
      (by unfold put46; exact below_set (below_set (below_set (below_set (below_set HKB.out HGW.out) HGW.out) HGW.out) HGW.out) HGW.out))
     have HY2 := Aside0.mk (show (put46 wa g (k * 5) bi).cell? ⟨g, k * 5 + 1, none⟩ = some (.int .i64 bi.f1) from by
      have h := (row46_at HR46.out (k : Int) (by omega) (by rw [fill_length]; omega)).2.1
      rw [Int.toNat_natCast] at h
      rw [h]
      congr 2
      rw [← HFS.out]
      show (((fillTo l.length (billAt hs bs) z46 k).set k bi).getD (k : Int).toNat z46).f1 = bi.f1
      rw [Int.toNat_natCast, List.getD_eq_getElem?_getD, List.getElem?_set_self (by rw [fill_length]; exact hlt)]
      rfl)
     have HL0 := Aside0.mk (show (put46 wa g (k * 5) bi).heap.size = wa.heap.size by unfold put46; simp)
     clear xc0 xc1 xc2 xc3 xc4 hbb hx0 hx1 hHeld HR46 HKB HXF HEB HBA h0 HY
     generalize put46 wa g (k * 5) bi = w9 at HI HY2 HL0 ⊢
     have hbb : w9.cell? ⟨bb, 0, none⟩ = some (.slice (some ⟨g, 0, none⟩) l.length cb) := (blk_cell HI.out.boxb 0).trans rfl
     have hbs : w9.cell? ⟨bsum, 0, none⟩ = some (.int .i64 (sumTo hs bs k)) := (blk_cell HI.out.boxs 0).trans rfl
     have hbf : w9.frozen? ⟨bsum, 0, none⟩ = false := blk_frozen HI.out.boxs 0
     have hy2 := HY2.out
     clear HY2 HL0 HD
     generalize sumTo hs bs k = sk at HI hbs HST
     go_wp2_with fail
     refine start_ (n := 9) (S := Ext w9) (ds := [8]) #[false, false, false, false, false, false, false, false, false] (by kernel_rfl) rfl (by rfl) (fun _ _ h => h) (fun hHeld => ?_)
     have HD := Aside0.mk (show Below w9.heap.size w9 w9.drew from (Below.refl _ _).drew)
     generalize w9.drew = wa2 at HD hHeld ⊢
     refine pure_ (i := 2) (N := some 75) (v := ?_) (a' := ?_) #[false, false, true, false, false, false, false, false, false] rfl rfl (by kernel_rfl) (fun _ _ _ h => h) (Or.inl ⟨by rfl, ?_⟩) ?_ ?_
     rotate_left
     ·intro w'
      go_simp
      with_reducible rfl
     rotate_left
     ·simp only [Act.put, sA, sZ, sS, i64_w, i32_w]
      rfl
     refine take_ (i := 0) (N := some 73) (v := ?_) (a' := ?_) #[true, false, true, false, false, false, false, false, false] rfl rfl (by kernel_rfl) (fun _ _ _ h => h) (Or.inl ⟨by rfl, ?_⟩) hHeld ?_ ?_
     rotate_left
     ·intro w' hS
      have s0 := hS _ _ hbb
      have s1 := hS _ _ hbs
      have s2 := hS _ _ hy2
      clear hS
      go_simp
      with_reducible rfl
     rotate_left
     ·simp only [Act.put, sA, sZ, sS, i64_w, i32_w]
      rfl
     refine take_ (i := 1) (N := some 74) (v := ?_) (a' := ?_) #[true, true, true, false, false, false, false, false, false] rfl rfl (by kernel_rfl) (fun _ _ _ h => h) (Or.inl ⟨by rfl, ?_⟩) hHeld ?_ ?_
     rotate_left
     ·intro w' hS
      have s0 := hS _ _ hbb
      have s1 := hS _ _ hbs
      have s2 := hS _ _ hy2
      clear hS
      go_simp
      with_reducible rfl
     rotate_left
     ·simp only [Act.put, sA, sZ, sS, i64_w, i32_w]
      rfl
     refine pure_ (i := 3) (N := some 76) (v := ?_) (a' := ?_) #[true, true, true, true, false, false, false, false, false] rfl rfl (by kernel_rfl) (fun _ _ _ h => h) (Or.inl ⟨by rfl, ?_⟩) ?_ ?_
     rotate_left
     ·intro w'
      go_simp
      with_reducible rfl
     rotate_left
     ·simp only [Act.put, sA, sZ, sS, i64_w, i32_w]
      rfl
     refine pure_ (i := 4) (N := some 77) (v := ?_) (a' := ?_) #[true, true, true, true, true, false, false, false, false] rfl rfl (by kernel_rfl) (fun _ _ _ h => h) (Or.inl ⟨by rfl, ?_⟩) ?_ ?_
     rotate_left
     ·intro w'
      go_simp
      with_reducible rfl
     rotate_left
     ·simp only [Act.put, sA, sZ, sS, i64_w, i32_w]
      rfl
     refine pure_ (i := 5) (N := some 78) (v := ?_) (a' := ?_) #[true, true, true, true, true, true, false, false, false] rfl rfl (by kernel_rfl) (fun _ _ _ h => h) (Or.inl ⟨by rfl, ?_⟩) ?_ ?_
     rotate_left
     ·intro w'
      go_simp
      with_reducible rfl
     rotate_left
     ·simp only [Act.put, sA, sZ, sS, i64_w, i32_w]
      rfl
     refine take_ (i := 6) (N := some 79) (v := ?_) (a' := ?_) #[true, true, true, true, true, true, true, false, false] rfl rfl (by kernel_rfl) (fun _ _ _ h => h) (Or.inl ⟨by rfl, ?_⟩) hHeld ?_ ?_
     rotate_left
     ·intro w' hS
      have s0 := hS _ _ hbb
      have s1 := hS _ _ hbs
      have s2 := hS _ _ hy2
      clear hS
      go_simp
      with_reducible rfl
     rotate_left
     ·simp only [Act.put, sA, sZ, sS, i64_w, i32_w]
      rfl
     refine pure_ (i := 7) (N := some 80) (v := ?_) (a' := ?_) #[true, true, true, true, true, true, true, true, false] rfl rfl (by kernel_rfl) (fun _ _ _ h => h) (Or.inl ⟨by rfl, ?_⟩) ?_ ?_
     rotate_left
     ·intro w'
      go_simp
      with_reducible rfl
     rotate_left
     ·simp only [Act.put, sA, sZ, sS, i64_w, i32_w]
      rfl
     refine last_ (i := 8) (N := none) #[true, true, true, true, true, true, true, true, true] rfl rfl (by kernel_rfl) (by decide) (fun K hK => ?_)
     have c0 := hHeld _ _ hbs
     have f0 := (HD.out.frozen (p := ⟨bsum, 0, none⟩) (World.block_lt_of_cell? w9 _ hbs)).trans hbf
     refine skip_ (w1 := ?_) (by rfl) rfl ?_ ?_
     rotate_left
     ·go_simp
      rfl
     refine hK.out _ _ ?_
     clear hK K c0 f0
     refine done_ (by kernel_rfl) ?_
     replace HI := Aside0.mk (ShI.putS (HI.out.at_ HD.out) (wrap64 (sk + bi.f1)))
     generalize wa2.setCell ⟨bsum, 0, none⟩ (.int .i64 (wrap64 (sk + bi.f1))) = w10 at HI ⊢
     rw [← HST.out] at HI
     clear hbb hbs hbf hy2 hHeld HD
     have l0 := ((HB.out.trans (HI.out.below.mono HB.out.size)).cell (World.block_lt_of_cell? w _ L00.out)).trans L00.out
     go_wp2
     go_roundg (l.length - (k + 1))
     case measure => omega
     case rel => exact ⟨k + 1, by omega, by omega, by rw [HLT.out], by have := HLN2.out; first | go_num | (congr 1; unfold wrap64; omega), HI⟩
    ·have hi : ¬ (k : Int) < (l.length : Int) := by omega
     have ek : k = l.length := by omega
     subst ek
     rw [fill_full] at HI
     obtain ⟨b0, hb0⟩ : ∃ b0, (List.range l.length).map (billAt hs bs) = b0 := ⟨_, rfl⟩
     obtain ⟨s0, hs0⟩ : ∃ s0, sumTo hs bs l.length = s0 := ⟨_, rfl⟩
     have HBL0 := Aside0.mk (show b0.length = l.length by rw [← hb0]; simp)
     rw [hb0, hs0] at HI HSS
     clear hb0 hs0
     obtain ⟨lst, hlst⟩ : ∃ lst, leastTo l l.length = lst := ⟨_, rfl⟩
     rw [hlst] at HSM ⊢
     clear hlst
     by_cases hlt2 : t < lst
     ·rw [if_pos hlt2] at HSM
      have HBZ := Aside0.mk (HB.out.trans (HI.out.below.mono HB.out.size))
      go_wp2
      rw [HSM.out]
      exact postM_ret (v := .tuple #[.slice none 0 0, .int .i64 0, .int .i64 30]) (by simp [results, Try.results17, go_sem]) rfl ⟨_, rfl, Kd.R_nil _ _ _ _ _, HBZ.out⟩
     ·rw [if_neg hlt2] at HSM
      have hbb : wr.cell? ⟨bb, 0, none⟩ = some (.slice Ab l.length cb) := (blk_cell HI.out.boxb 0).trans rfl
      go_wp2_with fail
      refine (back31_calls Ab l.length cb wr).mono ?_
      rintro e w' ⟨rfl, rfl⟩
      have HBX := Aside0.mk (heap_alloc_new wr (.cells #[.slice Ab l.length cb] 80))
      replace HI := Aside0.mk (HI.out.at_ (below_alloc (Below.refl _ _) (.cells #[.slice Ab l.length cb] 80)))
      have HSZ := Aside0.mk (show (wr.alloc (.cells #[.slice Ab l.length cb] 80)).heap.size = wr.heap.size + 1 from World.size_alloc _ _)
      generalize wr.alloc (.cells #[.slice Ab l.length cb] 80) = wl at HBX HI HSZ ⊢
      generalize wr.heap.size = bn at HBX HSZ ⊢
      clear hbb
      have hmax : l.length ≤ 9223372036854775807 := by have := HLN.out; omega
      have HWL := Aside0.mk (show wz.heap.size + 1 ≤ wl.heap.size by have := blk_lt HI.out.boxs; have := HI.out.leB; omega)
      go_wp2_with fail
      refine (wpIn_wide (n := 3)).1 ?_
      refine wpIn_rangeFunc_ownG (a₁ := ?a1) rfl (by omega) (gf := 48) (lb := #[.pointer (some ⟨bn, 0, none⟩)]) rfl trivial (enters_ Try.func48 (by kernel_rfl) rfl)
       (back48_stops 2 bn Ab l.length cb hmax (fun W => W.cell? ⟨bn, 0, none⟩ = some (.slice Ab l.length cb) ∧ ∃ xs, Kd.R k46 82 W wz.heap.size (fun k => k < wz.heap.size + 1) (.slice Ab l.length cb) xs) wl
        (fun W hW => ⟨hW.1, hW.2.imp fun xs h => by have h2 := (Kd.R_reads' h); rw [h2.1]; exact h2.2.2⟩)
        (fun W hW => ⟨(hW.cell (p := ⟨bn, 0, none⟩) (blk_lt HBX.out)).trans ((blk_cell HBX.out 0).trans rfl), ⟨_, Kd.R_mono (Kd.R_below HI.out.row hW) (fun k hk => hk.2)⟩⟩))
       (fun h k hw => k (h hw))
       (fun W l' o o' hl ho hc _ hW => ⟨cell_low (grownBy_put l' o') (fun r e => by cases e; exact hl) hW.1 (blk_lt HBX.out), hW.2.imp fun xs h => Kd.R_step h (fun k hk hl2 => grown_low (grownBy_put l' o') (fun r e => by cases e; exact hl) k (by have := HWL.out; omega) hl2)⟩)
       (Below.refl _ _) (fun _ => rfl)
       (fun pre W => ShI wz w.heap.size c wz.heap.size bb bsum (.slice Ab l.length cb) (lowAll c (b0, s0) (pre.map (·.1.1))).1 (lowAll c (b0, s0) (pre.map (·.1.1))).2 W) (fun _ _ _ => False)
       (by intro s X Y row hs hgr hrow; exact ShI.low hs hgr (fun r e => (hrow r e).1) HWL.out (blk_lt HI.out.boxb) (blk_lt HI.out.boxs))
       (fun _ _ _ _ _ h => h.elim) HI.out ?assign ?body ?done ?stop
      case assign =>
       intro l' x W K hK
       gi_wp2
       exact hK
      case stop =>
       intro D c' pre W hD hSp hI hK
       exact hI.elim
      case body =>
       intro l' pre x W hI hlt'
       obtain ⟨⟨i, pp⟩, hi⟩ := x
       simp only at hi
       have HUA := Aside0.mk (show ShI wz w.heap.size c wz.heap.size bb bsum (.slice Ab l.length cb) (lowAll c (b0, s0) (pre.map (·.1.1))).1 (lowAll c (b0, s0) (pre.map (·.1.1))).2 W from hI)
       clear hI
       have ex : (pre ++ [(⟨(i, pp), hi⟩ : { x : Nat × S46 // x.1 < l.length })]).map (·.1.1) = pre.map (·.1.1) ++ [i] := by simp
       have HEX := Aside0.mk (fun W' (h : ShI wz w.heap.size c wz.heap.size bb bsum (.slice Ab l.length cb) (lowAll c (b0, s0) (pre.map (·.1.1) ++ [i])).1 (lowAll c (b0, s0) (pre.map (·.1.1) ++ [i])).2 W') => (show ShI wz w.heap.size c wz.heap.size bb bsum (.slice Ab l.length cb) (lowAll c (b0, s0) ((pre ++ [(⟨(i, pp), hi⟩ : { x : Nat × S46 // x.1 < l.length })]).map (·.1.1))).1 (lowAll c (b0, s0) ((pre ++ [(⟨(i, pp), hi⟩ : { x : Nat × S46 // x.1 < l.length })]).map (·.1.1))).2 W' by rw [ex]; exact h))
       clear ex
       have HLEN := Aside0.mk ((lowAll_length c (pre.map (·.1.1)) (b0, s0)).trans HBL0.out)
       rw [lowAll_snoc] at HEX
       obtain ⟨st, hst⟩ : ∃ st, lowAll c (b0, s0) (pre.map (·.1.1)) = st := ⟨_, rfl⟩
       rw [hst] at HUA HEX HLEN
       clear hst
       obtain ⟨bills, sum⟩ := st
       have hii : (i : Int) < (l.length : Int) := by omega
       have HSZB := Aside0.mk (blk_lt HI.out.boxs)
       have HLSS := Aside0.mk (show lowStep c (bills, sum) i = (bills.set i ⟨(rd_T46 bills i).f0, wrap64 ((rd_T46 bills i).f1 - lowD (rd_T46 bills i).f1 (rd_T46 bills i).f2.f0 (wrap64 (sum - c))), (rd_T46 bills i).f2, (rd_T46 bills i).f3⟩, wrap64 (sum - lowD (rd_T46 bills i).f1 (rd_T46 bills i).f2.f0 (wrap64 (sum - c)))) from rfl)
       obtain ⟨g, c6, e6, hg6, hgl, hgt⟩ := Kd.R_form HUA.out.row (by have := HLEN.out; show 0 < bills.length; simp only at this; omega)
       have HGO := Aside0.mk (HUA.out.row.1 g (by rw [e6]; simp [Value.ownBlock]))
       have eAb : Ab = some ⟨g, 0, none⟩ := by injection e6
       subst eAb
       clear e6
       have HIL := Aside0.mk (show (i : Int) < (bills.length : Int) by have := HLEN.out; simp only at this; omega)
       have HGT := Aside0.mk hgt
       have HG := Aside0.mk hg6
       clear hgt hg6 hgl
       gi_wp2
       refine region_round (by kernel_rfl) (by kernel_rfl) (fun _ _ h => False.elim h) (wpAny_of_last (S := fun W' => W'.cell? ⟨bsum, 0, none⟩ = some (.int .i64 sum) ∧ W'.cell? ⟨bb, 0, none⟩ = some (.slice (some ⟨g, 0, none⟩) l.length cb) ∧ W'.cell? ⟨w.heap.size, 0, none⟩ = some (.int .i64 c)) (ds := [9]) _ _ _ _ ?_)
       have HIA := Aside0.mk (HUA.out.at_ (Below.refl _ _).drew)
       have HGTA := Aside0.mk (show ∃ cs, W.drew.heap[g]? = some (.cells cs 82 (0, 0)) from HGT.out)
       have HKP : Aside0 (∀ j, j ≠ g → j ≠ bsum → W.drew.heap[j]? = W.heap[j]?) := ⟨fun j _ _ => rfl⟩
       have HSZW : Aside0 (W.drew.heap.size = W.heap.size) := ⟨rfl⟩
       have hHeld : W.drew.cell? ⟨bsum, 0, none⟩ = some (.int .i64 sum) ∧ W.drew.cell? ⟨bb, 0, none⟩ = some (.slice (some ⟨g, 0, none⟩) l.length cb) ∧ W.drew.cell? ⟨w.heap.size, 0, none⟩ = some (.int .i64 c) :=
        ⟨(blk_cell HIA.out.boxs 0).trans rfl, (blk_cell HIA.out.boxb 0).trans rfl, (blk_cell HIA.out.boxc 0).trans rfl⟩
       generalize W.drew = wa at HIA hHeld HGTA HKP HSZW ⊢
       show wpAnyLast _ _ _ _ _ _ 10 #[false, false, false, false, false, false, false, false, false, false] _ _
       obtain ⟨_, xc1, xc2, _, _, xf⟩ := row46_at HIA.out.row (i : Int) (by omega) HIL.out
       simp only [Int.toNat_natCast] at xc1 xc2 xf
       have HLC := Aside0.mk (lower_calls g (i * 5) (rd_T46 bills i).f1 (rd_T46 bills i).f2.f0 (wrap64 (sum - c)) wa xc1 xc2 (xf 1))
       clear xc1 xc2 xf
       have HRC := Aside0.mk (fun m y => row46_cents (Kd.R_drewN HIA.out.row m) (i : Int) (by omega) HIL.out y)
       simp only [Int.toNat_natCast] at HRC
       generalize lowD (rd_T46 bills i).f1 (rd_T46 bills i).f2.f0 (wrap64 (sum - c)) = d at HLC HLSS
       generalize wrap64 ((rd_T46 bills i).f1 - d) = y at HLC HLSS
       have HRC2 := Aside0.mk (fun m => HRC.out m y)
       clear HRC
       refine pure_ (i := 2) (N := some 98) (v := ?_) (a' := ?_) #[false, false, true, false, false, false, false, false, false, false] rfl rfl (by kernel_rfl) (fun _ _ _ h => h) (Or.inl ⟨by rfl, ?_⟩) ?_ ?_
       rotate_left
       ·intro w'
        go_simp
        with_reducible rfl
       rotate_left
       ·simp only [Act.put, sA, sZ, sS, i64_w, i32_w]
        rfl
       refine take_ (i := 0) (N := some 96) (v := ?_) (a' := ?_) #[true, false, true, false, false, false, false, false, false, false] rfl rfl (by kernel_rfl) (fun _ _ _ h => h) (Or.inl ⟨by rfl, ?_⟩) hHeld ?_ ?_
       rotate_left
       ·intro w' hS
        obtain ⟨s0, s1, s2⟩ := hS
        go_simp
        with_reducible rfl
       rotate_left
       ·simp only [Act.put, sA, sZ, sS, i64_w, i32_w]
        rfl
       refine take_ (i := 1) (N := some 97) (v := ?_) (a' := ?_) #[true, true, true, false, false, false, false, false, false, false] rfl rfl (by kernel_rfl) (fun _ _ _ h => h) (Or.inl ⟨by rfl, ?_⟩) hHeld ?_ ?_
       rotate_left
       ·intro w' hS
        obtain ⟨s0, s1, s2⟩ := hS
        go_simp
        with_reducible rfl
       rotate_left
       ·simp only [Act.put, sA, sZ, sS, i64_w, i32_w]
        rfl
       refine pure_ (i := 3) (N := some 99) (v := ?_) (a' := ?_) #[true, true, true, true, false, false, false, false, false, false] rfl rfl (by kernel_rfl) (fun _ _ _ h => h) (Or.inl ⟨by rfl, ?_⟩) ?_ ?_
       rotate_left
       ·intro w'
        go_simp
        with_reducible rfl
       rotate_left
       ·simp only [Act.put, sA, sZ, sS, i64_w, i32_w]
        rfl
       refine take_ (i := 4) (N := some 100) (v := ?_) (a' := ?_) #[true, true, true, true, true, false, false, false, false, false] rfl rfl (by kernel_rfl) (fun _ _ _ h => h) (Or.inl ⟨by rfl, ?_⟩) hHeld ?_ ?_
       rotate_left
       ·intro w' hS
        obtain ⟨s0, s1, s2⟩ := hS
        go_simp
        with_reducible rfl
       rotate_left
       ·simp only [Act.put, sA, sZ, sS, i64_w, i32_w]
        rfl
       refine take_ (i := 5) (N := some 101) (v := ?_) (a' := ?_) #[true, true, true, true, true, true, false, false, false, false] rfl rfl (by kernel_rfl) (fun _ _ _ h => h) (Or.inl ⟨by rfl, ?_⟩) hHeld ?_ ?_
       rotate_left
       ·intro w' hS
        obtain ⟨s0, s1, s2⟩ := hS
        go_simp
        with_reducible rfl
       rotate_left
       ·simp only [Act.put, sA, sZ, sS, i64_w, i32_w]
        rfl
       refine pure_ (i := 6) (N := some 102) (v := ?_) (a' := ?_) #[true, true, true, true, true, true, true, false, false, false] rfl rfl (by kernel_rfl) (fun _ _ _ h => h) (Or.inl ⟨by rfl, ?_⟩) ?_ ?_
       rotate_left
       ·intro w'
        go_simp
        with_reducible rfl
       rotate_left
       ·simp only [Act.put, sA, sZ, sS, i64_w, i32_w]
        rfl
       refine one_ (i := 7) (N := some 103) #[true, true, true, true, true, true, true, true, false, false] rfl rfl (by kernel_rfl) (by decide) (fun K hK => ?_)
       refine goes_ Try.func32 (by kernel_rfl) rfl #[.pointer (some ⟨g, i * 5, none⟩), .int .i64 (wrap64 (sum - c))] (by rfl) rfl rfl (by simp [Act.eval]; done) ?_
       refine HLC.out.mono ?_
       rintro e w4 ⟨rfl, m, hw4⟩
       have HW4 := Aside0.mk hw4
       have HK4 := Aside0.mk (show ∀ j, j ≠ g → j ≠ bsum → w4.heap[j]? = W.heap[j]? from fun j h1 h2 => by rw [hw4]; exact (Below.heap_setCell (wa.drewN m) ⟨g, i * 5 + 1, none⟩ (.int .i64 y) j h1).trans (HKP.out j h1 h2))
       have HI4 := Aside0.mk (ShI.put (W' := w4) HIA.out HG.out HGTA.out (by rw [hw4]; exact HRC2.out m) (fun j hj => by rw [hw4]; exact Below.heap_setCell (wa.drewN m) ⟨g, i * 5 + 1, none⟩ (.int .i64 y) j hj) (by rw [hw4]; exact below_set (pw_below_drewN HIA.out.below m) HG.out))
       have HSZ4 := Aside0.mk (show w4.heap.size = W.heap.size by rw [hw4, ← HSZW.out]; simp [World.drewN])
       refine ⟨_, rfl, hK.out _ _ ⟨(blk_cell HI4.out.boxs 0).trans rfl, (blk_cell HI4.out.boxb 0).trans rfl, (blk_cell HI4.out.boxc 0).trans rfl⟩ (fun hHeld => ?_)⟩
       clear hw4 hK K
       refine norm_ (a' := ?_) ?_ ?_
       rotate_left
       ·show Act.put _ (some 103) _ = _
        simp only [Act.put, sA, sZ, sS, i64_w, i32_w]
        rfl
       refine pure_ (i := 8) (N := some 104) (v := ?_) (a' := ?_) #[true, true, true, true, true, true, true, true, true, false] rfl rfl (by kernel_rfl) (fun _ _ _ h => h) (Or.inl ⟨by rfl, ?_⟩) ?_ ?_
       rotate_left
       ·intro w'
        go_simp
        with_reducible rfl
       rotate_left
       ·simp only [Act.put, sA, sZ, sS, i64_w, i32_w]
        rfl
       refine last_ (i := 9) (N := none) #[true, true, true, true, true, true, true, true, true, true] rfl rfl (by kernel_rfl) (by decide) (fun K hK => ?_)
       have c0 := hHeld.1
       have f0 : w4.frozen? ⟨bsum, 0, none⟩ = false := blk_frozen HI4.out.boxs 0
       refine skip_ (w1 := ?_) (by rfl) rfl ?_ ?_
       rotate_left
       ·go_simp
        rfl
       refine hK.out _ _ ?_
       clear hK K c0 f0
       refine done_ (by kernel_rfl) ?_
       rw [HLSS.out] at HEX
       have HKPF := Aside0.mk (show ∀ j, j ≠ g → j ≠ bsum → (w4.setCell ⟨bsum, 0, none⟩ (.int .i64 (wrap64 (sum - d)))).heap[j]? = W.heap[j]? from fun j h1 h2 => (Below.heap_setCell w4 ⟨bsum, 0, none⟩ (.int .i64 (wrap64 (sum - d))) j h2).trans (HK4.out j h1 h2))
       have HIF := Aside0.mk (HI4.out.putS (wrap64 (sum - d)))
       have HSF := Aside0.mk (show (w4.setCell ⟨bsum, 0, none⟩ (.int .i64 (wrap64 (sum - d)))).heap.size = W.heap.size by rw [← HSZ4.out]; simp)
       generalize w4.setCell ⟨bsum, 0, none⟩ (.int .i64 (wrap64 (sum - d))) = w5 at HKPF HIF HSF ⊢
       refine ⟨⟨by rw [HSF.out]; exact Nat.le_refl _, fun j o hB hj _ => (HKPF.out j (by have := HGO.out; have := HWL.out; omega) (by have := HSZB.out; omega)).trans hj⟩, fun hw => ⟨?_, _, Kd.R_mono HIF.out.row (fun k hk => hk.2)⟩, HEX.out _ HIF.out⟩
       have hbn := HKPF.out bn (by obtain ⟨_, hq⟩ := Kd.R_typed HI.out.row g (by simp [Value.ownBlock]); exact blk_ty HBX.out hq (by decide)) (blk_ty HBX.out HI.out.boxs (by decide))
       have h1 := hw.1
       simp only [World.cell?, hbn] at h1 ⊢
       exact h1
      case done =>
       intro D xs W hD hS hI hK
       have HI2 : Aside0 (ShI wz w.heap.size c wz.heap.size bb bsum (.slice Ab l.length cb) ss.1 ss.2 W) := ⟨by rw [HSS.out, ← hS]; exact hI⟩
       have HDL := Aside0.mk (blk_lt hK)
       have HKD := Aside0.mk hK
       have HSL := Aside0.mk (show ss.1.length = l.length by rw [HSS.out, lowAll_length]; exact HBL0.out)
       have HDB := Aside0.mk (show wl.heap.size ≤ D from hD)
       clear hS hI hK HI hD
       have hbb : W.cell? ⟨bb, 0, none⟩ = some (.slice Ab l.length cb) := (blk_cell HI2.out.boxb 0).trans rfl
       have hnn : (0 : Int) ≤ (l.length : Int) := by omega
       go_wp2_with (first | ((with_reducible refine gate_dst (N := 107) rfl ?_); refine Kd.R_make k46 (w0 := W) W.heap.size 46 rfl (N := 107) rfl 36 _ _ rfl (l.length : Int) rfl rfl Try.underlying36 (.agg #[.int .i64 0, .int .i64 0, .int .i64 0, .int .i64 0, .bool false]) 40 info46 rfl (by decide) (by omega) z46 (ok := fun _ => True) (okp := fun _ => True) (k46_mkM _ _ _ z46) (fun _ hk => hk) trivial hnn (by have := HLN.out; simp only [Int.toNat_natCast]; omega) (Below.refl _ _) (Nat.le_refl _) ?_; intro v7 w7 ho5 hb hg_ hnew_; have HF0 := Aside0.mk ho5; have HB7 := Aside0.mk hb; have hbb2 := (HB7.out.cell (World.block_lt_of_cell? W _ hbb)).trans hbb; clear ho5 hb hg_ hnew_))
       clear hnn hbb
       go_loopg [110] l.length (fun gg s110 wr => ∃ k : Nat, k ≤ l.length ∧ l.length - k ≤ gg ∧ s110 = .int .i64 k ∧ Aside0 (Kd.R k46 46 wr W.heap.size (fun _ => True) v7 (fillTo l.length (fun j => ss.1.getD j z46) z46 k)) ∧ Aside0 (Below W.heap.size W wr))
       case atStart => exact ⟨0, Nat.zero_le _, by omega, rfl, ⟨by have h := HF0.out; rw [Int.toNat_natCast] at h; rw [fill_zero]; exact h⟩, HB7⟩
       case round =>
        obtain ⟨k, hk, hgg, rfl, HF, HBR⟩ := hrel
        clear HF0 HB7 hbb2
        by_cases hlt : k < l.length
        ·have hi : (k : Int) < (l.length : Int) := by omega
         have HLN2 := Aside0.mk (show (l.length : Int) ≤ 200 by have := HLN.out; omega)
         obtain ⟨adb, e0, y0, y1, y2, y3, y4⟩ := at_T46 (Kd.R_reads' HI2.out.row).2.2 (k : Int) (by omega) (by rw [HSL.out]; exact hi)
         cases e0
         simp only [Int.toNat_natCast] at y0 y1 y2 y3 y4
         replace y0 := (HBR.out.cell (World.block_lt_of_cell? W _ y0)).trans y0
         replace y1 := (HBR.out.cell (World.block_lt_of_cell? W _ y1)).trans y1
         replace y2 := (HBR.out.cell (World.block_lt_of_cell? W _ y2)).trans y2
         replace y3 := (HBR.out.cell (World.block_lt_of_cell? W _ y3)).trans y3
         replace y4 := (HBR.out.cell (World.block_lt_of_cell? W _ y4)).trans y4
         have HFS := Aside0.mk (fill_step l.length (fun j => ss.1.getD j z46) z46 k hlt)
         have HXD := Aside0.mk (show ss.1.getD k z46 = rd_T46 ss.1 (k : Int) from rfl)
         generalize rd_T46 ss.1 (k : Int) = x at y0 y1 y2 y3 y4 HXD
         obtain ⟨g, c6, e6, hg6, _, _⟩ := Kd.R_form HF.out (by rw [fill_length]; omega)
         rw [fill_length] at e6
         subst e6
         have HG := Aside0.mk hg6
         clear hg6
         obtain ⟨xc0, xc1, xc2, xc3, xc4, xf⟩ := row46_at HF.out (k : Int) (by omega) (by rw [fill_length]; omega)
         have HR46 := Aside0.mk (row46_set (Kd.R_alloc HF.out (.cells #[.int .i64 x.f0, .int .i64 x.f1, .int .i64 x.f2.f0, .int .i64 x.f2.f1, .bool x.f3] 82)) (k : Int) (by omega) (by rw [fill_length]; omega) x)
         simp only [Int.toNat_natCast] at xc0 xc1 xc2 xc3 xc4 xf HR46
         have xf0 := xf 0
         have xf1 := xf 1
         have xf2 := xf 2
         have xf3 := xf 3
         have xf4 := xf 4
         clear xf
         simp only [Nat.add_zero] at xf0
         go_wp2_with (first | ((with_reducible refine gate_store (t := 46) (p := 119) rfl ?_); refine store_event (t := 46) (p := 119) (v := ?vo_w12) (w1 := put46 (wr.alloc (.cells #[.int .i64 x.f0, .int .i64 x.f1, .int .i64 x.f2.f0, .int .i64 x.f2.f1, .bool x.f3] 82)) g (k * 5) x) ?hg ?ho ?hn ?hr ?_; (case ho => rfl); (case hg => rfl); (case hn => rfl); (case hr => unfold put46; first | (go_simp; done) | (go_simp; rfl)); intro w8 hw; have HW8 := Aside0.mk hw; clear hw))
         have HBR8 := Aside0.mk (show Below W.heap.size W w8 by rw [HW8.out]; unfold put46; exact below_set (below_set (below_set (below_set (below_set (HBR.out.alloc HBR.out.size _) HG.out) HG.out) HG.out) HG.out) HG.out)
         have HF8 := Aside0.mk (show Kd.R k46 46 w8 W.heap.size (fun _ => True) (.slice (some ⟨g, 0, none⟩) l.length c6) (fillTo l.length (fun j => ss.1.getD j z46) z46 (k + 1)) by
          rw [HW8.out, ← HFS.out]
          simp only [HXD.out]
          exact HR46.out)
         clear HR46 HW8 y0 y1 y2 y3 y4 xc0 xc1 xc2 xc3 xc4 xf0 xf1 xf2 xf3 xf4 HF HBR
         go_roundg (l.length - (k + 1))
         case measure => omega
         case rel => exact ⟨k + 1, by omega, by omega, by have := HLN2.out; first | go_num | (congr 1; unfold wrap64; omega), HF8, HBR8⟩
        ·have hi : ¬ (k : Int) < (l.length : Int) := by omega
         have ek : k = l.length := by omega
         subst ek
         have HF2 := HF.out
         rw [fill_full, show (List.range l.length).map (fun j => ss.1.getD j z46) = ss.1 by rw [← HSL.out, range_getD z46 (fun x => x) ss.1]; simp] at HF2
         replace HF := Aside0.mk HF2
         clear HF2
         have hct : wr.cell? ⟨w.heap.size, 0, none⟩ = some (.int .i64 c) := (blk_cell ((HBR.out.block _ (blk_lt HI2.out.boxc)).trans HI2.out.boxc) 0).trans rfl
         have hsm : wr.cell? ⟨bsum, 0, none⟩ = some (.int .i64 ss.2) := (blk_cell ((HBR.out.block _ (blk_lt HI2.out.boxs)).trans HI2.out.boxs) 0).trans rfl
         have HKE := Aside0.mk (show wr.heap[D]? = some (.deferred (some [])) from (HBR.out.block _ HDL.out).trans HKD.out)
         have HBE := Aside0.mk (show Below w.heap.size w wr from (HB.out.trans (HI2.out.below.mono HB.out.size)).trans (HBR.out.mono (Nat.le_trans HB.out.size HI2.out.below.size)))
         obtain rfl := HSM.out
         go_wp2_with fail
         go_quiet (fail)
         go_wp2
         have HKE2 := Aside0.mk (show (wr.drewN nq).heap[D]? = some (.deferred (some [])) from HKE.out)
         show LeavesInM _ _ _ _ _ _ [_] _ _
         refine ⟨by simp, .inl ⟨_, _, rfl, run_takeDeferred HKE2.out, .tuple #[v7, .int .i64 (wrap64 (c - ss.2)), .int .i64 0], by simp [results, Try.results17, go_sem], _, rfl, ?_, ?_⟩⟩
         ·exact Kd.R_mono (Kd.R_lower (Kd.R_step (Kd.R_bound (Kd.R_drewN HF.out nq)) (fun k hk hl => (grownBy_put D _).block k hl (fun e => by injection e with e; have := hk.2.1; have := HDL.out; omega))) (by have := HBE.out.size; have h1 := HI2.out.below.size; have h2 := HB.out.size; omega)) (fun k hk => trivial)
         ·exact (pw_below_drewN HBE.out nq).grown (grownBy_put D _) (pw_below_drewN HBE.out nq).size (fun r e => by injection e with e; have h1 := HDB.out; have h2 := HWL.out; have h3 := HB.out.size; omega)
end
end Go.Proofs.Ytgjkhifhiggflaa.Own
