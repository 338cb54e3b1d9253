/- The contracts of the functions of package flow up to bounds, and of the small functions that they call. -/
import Derived.Test.YtgjkhifhiggflaaPTopBetweenx
import Derived.Maps.OwnOps
import Derived.Maps.OwnSet
import Derived.Lib.Hide
import Derived.OrdersIn
import Derived.RangeFuncNested
import Derived.RangeFuncCalls
import Derived.RangeFuncLeaves
import Derived.OwnWalkIn
import Derived.TacticsInMore
import Derived.LoopNIn
import Derived.LoopIn
import Derived.Outline
namespace Go.Proofs.Ytgjkhifhiggflaa.Own
open Go.RowKit Go.Lib Go.Proofs.YtgjkhifhiggflaaW.PrintWords Go.Proofs.YtgjkhifhiggflaaW.PrintLast Go.Proofs.YtgjkhifhiggflaaW.PrintMore Go.Proofs.Ytgjkhifhiggflaa.PTopBetween
theorem sA {α : Type} (l : List α) (i : Nat) (a : α) : l.toArray.setIfInBounds i a = (l.set i a).toArray := List.setIfInBounds_toArray l i a
theorem sZ {α : Type} (l : List α) (a b : α) : (a :: l).set 0 b = b :: l := List.set_cons_zero
theorem sS {α : Type} (l : List α) (a b : α) (n : Nat) : (a :: l).set (n + 1) b = a :: l.set n b := List.set_cons_succ
section
-- Maps keyed by whole numbers that a call makes: what they hold, said by a function.
open Go.RowKit Go.Lib Go.Proofs.YtgjkhifhiggflaaW.PrintWords
set_option linter.unusedVariables false
set_option linter.unusedSimpArgs false
theorem key3 : Maps.Keyed Try.prog 3 := Maps.int_keyed Try.underlying3
theorem zero3 (w : World) : (zeroValue 3).run Try.prog w = .ok (.int .i64 0) w := by kernel_rfl
theorem zero4 (w : World) : (zeroValue 4).run Try.prog w = .ok (.bool false) w := by kernel_rfl
def wf64 (x : Int) : Prop := -9223372036854775808 ≤ x ∧ x ≤ 9223372036854775807
theorem wf_of {x : Int} (h : wf64 x) : (Lit.int .i64 x).wf = true := WalkArith.wf_i64 h
theorem key_of {x : Int} (h : wf64 x) : keyOf Try.prog 3 (.int .i64 x) = some (.int .i64 x) := Maps.keyOf_int_mk Try.underlying3 (wf_of h)
theorem isKey (x : Int) (h : wf64 x) : WideAt.IsKeyLit (.int .i64 x) := by
 first | exact trivial | exact wf_of h | simp [WideAt.IsKeyLit]
theorem lit_ne {x y : Int} (h : x ≠ y) : (Lit.int .i64 x) ≠ (Lit.int .i64 y) := fun e => h (by injection e)
/-- map[int]int. -/
def MI (w : World) (B n : Nat) (f : Int → Option Int) : Prop :=
 ∃ D : DataW Unit, w.ownsMap Try.prog 3 (plainElem Try.prog 3) B n D ∧ (∀ x, wf64 x → Maps.has D (.int .i64 x) = (f x).isSome) ∧ ∀ x v, wf64 x → f x = some v → D.atKey (.int .i64 x) (.lit (.int .i64 0)) = .lit (.int .i64 v)
theorem MI.made (w : World) : MI (w.alloc (.map #[] 0)) w.heap.size 0 (fun _ => none) := ⟨_, World.ownsMap_made _ _ _ _, fun _ _ => rfl, fun _ _ _ h => by cases h⟩
theorem MI.look {w : World} {B n : Nat} {f : Int → Option Int} (h : MI w B n f) {x : Int} (hx : wf64 x) :
  (Instr.lookup 70 (.map (some B)) (.int .i64 x) true).run Try.prog w = .ok (.tuple #[.int .i64 ((f x).getD 0), .bool (f x).isSome]) w := by
 obtain ⟨D, hown, hhas, hat⟩ := h
 obtain ⟨v, ps, hrun, hR⟩ := hown.look_ok key3 Try.underlying70 (zero3 w) (plainElem_int Try.underlying3 (by decide)) (key_of hx)
 rw [hhas x hx] at hrun
 obtain ⟨c, rfl, hc, _⟩ := plainElem_int_inv Try.underlying3 hR
 simp only [Prod.mk.injEq, and_true] at hc
 have hcc : c = (f x).getD 0 := by
  cases hf : f x with
  | some u =>
   rw [hat x u hx hf] at hc
   simp only [DataW.lit.injEq, Lit.int.injEq, true_and] at hc
   exact hc.1.symm
  | none =>
   have hn := hhas x hx
   rw [hf] at hn
   rw [Maps.atKey_of_not_has hn] at hc
   simp only [DataW.lit.injEq, Lit.int.injEq, true_and] at hc
   exact hc.1.symm
 rw [hcc] at hrun
 exact hrun
theorem MI.put {w : World} {B n : Nat} {f : Int → Option Int} (h : MI w B n f) (hn : n < maxLen) {x v : Int} (hx : wf64 x) (hv : wf64 v) :
  ∃ w', (Instr.mapUpdate 70 (.map (some B)) (.int .i64 x) (.int .i64 v)).run Try.prog w = .ok () w' ∧ MI w' B (n + 1) (fun y => if y = x then some v else f y) ∧ w.grownBy w' (some B) := by
 obtain ⟨D, hown, hhas, hat⟩ := h
 obtain ⟨w', hrun, hown', hg⟩ := hown.update key3 Try.underlying70 hn (key_of hx) (plainElem_int (H := Unit) Try.underlying3 (wf_of hv))
 refine ⟨w', hrun, ⟨_, hown', fun y hy => ?_, fun y u hy hu => ?_⟩, hg⟩
 ·dsimp only
  by_cases e : y = x
  ·subst e
   rw [Maps.has_put_same hown.isMap (isKey y hy), if_pos rfl]; rfl
  ·rw [Maps.has_put_other (lit_ne e), hhas y hy, if_neg e]
 ·dsimp only at hu
  by_cases e : y = x
  ·subst e
   rw [if_pos rfl] at hu
   have hu := Option.some.inj hu
   rw [Maps.atKey_put_same hown.isMap (isKey y hy), hu]
  ·rw [if_neg e] at hu
   rw [Maps.atKey_put_other (lit_ne e)]
   exact hat y u hy hu
theorem MI.kept {w w' : World} {B n : Nat} {f : Int → Option Int} {row : Option Nat} (h : MI w B n f) (hg : w.grownBy w' row) (hne : some B ≠ row) : MI w' B n f := by
 obtain ⟨D, hown, h1, h2⟩ := h
 exact ⟨D, hown.kept hg hne, h1, h2⟩
theorem MI.same {w w' : World} {B n : Nat} {f : Int → Option Int} (h : MI w B n f) (hs : w'.heap[B]? = w.heap[B]?) : MI w' B n f := by
 obtain ⟨D, ⟨es, clock, hb, r⟩, h1, h2⟩ := h
 exact ⟨D, ⟨es, clock, hs.trans hb, r⟩, h1, h2⟩
theorem MI.lt {w : World} {B n : Nat} {f : Int → Option Int} (h : MI w B n f) : B < w.heap.size := by
 obtain ⟨D, hown, _⟩ := h
 exact hown.lt
theorem MI.map {w : World} {B n : Nat} {f : Int → Option Int} (h : MI w B n f) : ∃ es c, w.heap[B]? = some (.map es c) := by
 obtain ⟨D, ⟨es, clock, hb, r⟩, _⟩ := h
 exact ⟨es, clock, hb⟩
theorem MI.below {w w' : World} {B n : Nat} {f : Int → Option Int} (h : MI w B n f) (hb : Below w.heap.size w w') : MI w' B n f := h.same (hb.block B h.lt)
/-- map[int]bool, whose elements are all true. -/
def MB (w : World) (B n : Nat) (f : Int → Bool) : Prop :=
 ∃ D : DataW Unit, w.ownsMap Try.prog 3 (plainElem Try.prog 4) B n D ∧ ∀ x, wf64 x → D.atKey (.int .i64 x) (.lit (.bool false)) = .lit (.bool (f x))
theorem MB.made (w : World) : MB (w.alloc (.map #[] 0)) w.heap.size 0 (fun _ => false) := ⟨_, World.ownsMap_made _ _ _ _, fun _ _ => rfl⟩
theorem plainElem_bool_inv' {P : Program} {e : TypeId} (he : P.underlying e = some .bool) {v : Value} {z : DataW Unit × List MemPlace} (h : plainElem P e v = some z) : ∃ b, v = .bool b ∧ z = (.lit (.bool b), []) := by
 unfold plainElem at h
 rw [he] at h
 split at h
 ·rename_i x _ _
  exact ⟨_, rfl, (Option.some.inj h).symm⟩
 ·rename_i e1; cases e1
 ·rename_i e1; cases e1
 ·cases h
theorem plainElem_bool_inv {v : Value} {z : DataW Unit × List MemPlace} (h : plainElem Try.prog 4 v = some z) : ∃ b, v = .bool b ∧ z = (.lit (.bool b), []) := plainElem_bool_inv' Try.underlying4 h
theorem MB.look {w : World} {B n : Nat} {f : Int → Bool} (h : MB w B n f) {x : Int} (hx : wf64 x) : (Instr.lookup 57 (.map (some B)) (.int .i64 x) false).run Try.prog w = .ok (.bool (f x)) w := by
 obtain ⟨D, hown, hat⟩ := h
 obtain ⟨v, ps, hrun, hR⟩ := hown.lookup key3 Try.underlying57 (zero4 w) (plainElem_bool (H := Unit) Try.underlying4 false) (key_of hx)
 obtain ⟨b, rfl, hc⟩ := plainElem_bool_inv hR
 simp only [Prod.mk.injEq, and_true] at hc
 rw [hat x hx] at hc
 simp only [DataW.lit.injEq, Lit.bool.injEq] at hc
 rw [← hc.1] at hrun
 exact hrun
theorem MB.put {w : World} {B n : Nat} {f : Int → Bool} (h : MB w B n f) (hn : n < maxLen) {x : Int} (hx : wf64 x) :
  ∃ w', (Instr.mapUpdate 57 (.map (some B)) (.int .i64 x) (.bool true)).run Try.prog w = .ok () w' ∧ MB w' B (n + 1) (fun y => decide (y = x) || f y) ∧ w.grownBy w' (some B) := by
 obtain ⟨D, hown, hat⟩ := h
 obtain ⟨w', hrun, hown', hg⟩ := hown.update key3 Try.underlying57 hn (key_of hx) (plainElem_bool (H := Unit) Try.underlying4 true)
 refine ⟨w', hrun, ⟨_, hown', fun y hy => ?_⟩, hg⟩
 by_cases e : y = x
 ·subst e
  rw [Maps.atKey_put_same hown.isMap (isKey y hy)]; simp
 ·rw [Maps.atKey_put_other (lit_ne e), hat y hy]; simp [e]
theorem MB.same {w w' : World} {B n : Nat} {f : Int → Bool} (h : MB w B n f) (hs : w'.heap[B]? = w.heap[B]?) : MB w' B n f := by
 obtain ⟨D, ⟨es, clock, hb, r⟩, h1⟩ := h
 exact ⟨D, ⟨es, clock, hs.trans hb, r⟩, h1⟩
theorem MB.lt {w : World} {B n : Nat} {f : Int → Bool} (h : MB w B n f) : B < w.heap.size := by
 obtain ⟨D, hown, _⟩ := h
 exact hown.lt
theorem MB.below {w w' : World} {B n : Nat} {f : Int → Bool} (h : MB w B n f) (hb : Below w.heap.size w w') : MB w' B n f := h.same (hb.block B h.lt)
theorem MB.map {w : World} {B n : Nat} {f : Int → Bool} (h : MB w B n f) : ∃ es c, w.heap[B]? = some (.map es c) := by
 obtain ⟨D, ⟨es, clock, hb, r⟩, _⟩ := h
 exact ⟨es, clock, hb⟩
end
section
-- Contracts of the small functions that the law reaches: the bounds' ends, sums, the first index at which a test holds.
attribute [local go_sem] max2_int min2_int
set_option linter.unusedVariables false
set_option linter.unusedSimpArgs false
theorem low_calls (x : S56) (w : World) : Calls Try.prog 43 #[.agg #[.int .i64 x.f0, .int .i64 x.f1]] w fun e w' => e = .returned (.int .i64 x.f0) ∧ Below w.heap.size w w' := by
 go_enter Try.func43, Try.ntmps43
 go_wp2
 go_ret
 exact ⟨rfl, (Below.refl _ _).alloc (Nat.le_refl _) _⟩
theorem high_calls (x : S56) (w : World) : Calls Try.prog 44 #[.agg #[.int .i64 x.f0, .int .i64 x.f1]] w fun e w' => e = .returned (.int .i64 x.f1) ∧ Below w.heap.size w w' := by
 go_enter Try.func44, Try.ntmps44
 go_wp2
 go_ret
 exact ⟨rfl, (Below.refl _ _).alloc (Nat.le_refl _) _⟩
def tot (f : S56 → Int) (xs : List S56) : Int := xs.foldl (fun n x => wrap64 (n + f x)) 0
theorem tot_snoc (f : S56 → Int) (xs : List S56) (x : S56) : tot f (xs ++ [x]) = wrap64 (tot f xs + f x) := by simp [tot]
theorem take_snoc {α : Type} (z : α) (xs : List α) (k : Nat) (h : k < xs.length) : xs.take (k + 1) = xs.take k ++ [xs.getD k z] := by
 rw [List.take_succ_eq_append_getElem h, List.getD_eq_getElem?_getD, List.getElem?_eq_getElem h]; rfl
set_option maxHeartbeats 2000000 in
theorem total_calls (g : Nat) (f : S56 → Int) (eg : ∀ args w, (callFunc g args).run Try.prog w = .ok (.enter g args) w)
  (hg : ∀ (x : S56) (w : World), Calls Try.prog g #[.agg #[.int .i64 x.f0, .int .i64 x.f1]] w fun e w' => e = .returned (.int .i64 (f x)) ∧ Below w.heap.size w w')
  (A : Option Addr) (c : Nat) (xs : List S56) (w : World) (hr : Kd.C k56 w A xs.length xs) :
  Calls Try.prog 42 #[.slice A xs.length c, .func (.func g) #[] #[]] w fun e w' => e = .returned (.int .i64 (tot f xs)) ∧ Below w.heap.size w w' := by
 have HR := Aside0.mk hr
 have HG := Aside0.mk hg
 have hn : xs.length ≤ 9223372036854775807 := hr.2.1
 clear hr hg
 go_enter Try.func42, Try.ntmps42
 go_wp2
 go_loopg [5, 10] xs.length (fun gg s5 s10 wr => ∃ k : Nat, k ≤ xs.length ∧ xs.length - k ≤ gg ∧ s10 = .int .i64 k ∧ s5 = .int .i64 (tot f (xs.take k)) ∧ Aside0 (Below w.heap.size w wr))
 case atStart => exact ⟨0, Nat.zero_le _, by omega, rfl, rfl, ⟨Below.refl _ w⟩⟩
 case round =>
  obtain ⟨k, hk, hgg, rfl, rfl, HB⟩ := hrel
  by_cases hlt : k < xs.length
  ·have hi : (k : Int) < (xs.length : Int) := by omega
   have HS := Aside0.mk (take_snoc z56 xs k hlt)
   obtain ⟨ad, e0, h0, h1⟩ := at_T56 HR.out (k : Int) (by omega) hi
   cases e0
   simp only [Int.toNat_natCast] at h0 h1
   replace h0 := (HB.out.cell (World.block_lt_of_cell? w _ h0)).trans h0
   replace h1 := (HB.out.cell (World.block_lt_of_cell? w _ h1)).trans h1
   have hx : rd_T56 xs (k : Int) = xs.getD k z56 := rfl
   rw [hx] at h0 h1
   have HT := Aside0.mk (tot_snoc f (xs.take k) (xs.getD k z56))
   clear hx
   generalize xs.getD k z56 = x at h0 h1 HT HS
   go_wp2_with fail
   refine (HG.out x _).mono ?_
   rintro e w' ⟨rfl, hb'⟩
   replace HB := Aside0.mk (((HB.out.alloc HB.out.size _).trans (hb'.mono (by have := HB.out.size; simp; omega))))
   clear hb'
   go_wp2
   go_roundg (xs.length - (k + 1))
   case measure => omega
   case rel => exact ⟨k + 1, by omega, by omega, by go_num, by rw [HS.out, HT.out], HB⟩
  ·have hi : ¬ (k : Int) < (xs.length : Int) := by omega
   obtain rfl : k = xs.length := by omega
   go_wp2
   go_ret
   exact ⟨by first | rfl | (rw [List.take_length]; rfl), HB.out⟩
/-- Where a list's first element of which p holds stands; -1 if there is none. -/
def idxB {α : Type} (p : α → Bool) (xs : List α) : Int := match xs.findIdx? p with | some i => i | none => -1
theorem idxB_hit {α : Type} (p : α → Bool) (z : α) (xs : List α) (k : Nat) (hk : k < xs.length) (h : p (xs.getD k z) = true) (hn : ∀ j, j < k → p (xs.getD j z) = false) : idxB p xs = k := by
 have : xs.findIdx? p = some k := by
  rw [List.findIdx?_eq_some_iff_getElem]
  refine ⟨hk, by simpa [List.getD_eq_getElem?_getD, List.getElem?_eq_getElem hk] using h, fun j hj => ?_⟩
  have := hn j hj
  simpa [List.getD_eq_getElem?_getD, List.getElem?_eq_getElem (show j < xs.length by omega)] using this
 unfold idxB; rw [this]
theorem idxB_miss {α : Type} (p : α → Bool) (z : α) (xs : List α) (hn : ∀ j, j < xs.length → p (xs.getD j z) = false) : idxB p xs = -1 := by
 have : xs.findIdx? p = none := by
  rw [List.findIdx?_eq_none_iff]
  intro x hx
  obtain ⟨j, hj, rfl⟩ := List.getElem_of_mem hx
  have := hn j hj
  simpa [List.getD_eq_getElem?_getD, List.getElem?_eq_getElem hj] using this
 unfold idxB; rw [this]
theorem idxB_any {α : Type} (p : α → Bool) (xs : List α) : decide (0 ≤ idxB p xs) = xs.any p := by
 unfold idxB
 cases h : xs.findIdx? p with
 | none =>
  have : xs.any p = false := by
   rw [List.any_eq_false]; intro x hx; rw [List.findIdx?_eq_none_iff] at h; simp [h x hx]
  rw [this]; rfl
 | some i =>
  have : xs.any p = true := by
   rw [List.findIdx?_eq_some_iff_getElem] at h
   obtain ⟨hi, hp, _⟩ := h
   rw [List.any_eq_true]; exact ⟨_, List.getElem_mem hi, hp⟩
  rw [this]; simp
set_option maxHeartbeats 2000000 in
theorem indexR_calls (g : Nat) (lb : Array Value) (p : S35 → Bool) (eg : ∀ args w, (callFunc g args).run Try.prog w = .ok (.enter g args) w)
  (A : Option Addr) (c : Nat) (xs : List S35) (w : World)
  (hg : ∀ (x : S35) (W : World), Below w.heap.size w W → Calls Try.prog g (#[.agg #[.int .i64 x.f0, .int .i64 x.f1]] ++ lb) W fun e w' => e = .returned (.bool (p x)) ∧ Below W.heap.size W w')
  (hr : Kd.C k35 w A xs.length xs) :
  Calls Try.prog 39 #[.slice A xs.length c, .func (.func g) #[] lb] w fun e w' => e = .returned (.int .i64 (idxB p xs)) ∧ Below w.heap.size w w' := by
 have HR := Aside0.mk hr
 have HG := Aside0.mk hg
 have hn : xs.length ≤ 9223372036854775807 := hr.2.1
 clear hr hg
 go_enter Try.func39, Try.ntmps39
 go_wp2
 go_loopg [5, 8] xs.length (fun gg _ s8 wr => ∃ k : Nat, k ≤ xs.length ∧ xs.length - k ≤ gg ∧ s8 = .int .i64 k ∧ Aside0 (∀ j, j < k → p (xs.getD j z35) = false) ∧ Aside0 (Below w.heap.size w wr))
 case atStart => exact ⟨0, Nat.zero_le _, by omega, rfl, ⟨fun j hj => absurd hj (Nat.not_lt_zero _)⟩, ⟨Below.refl _ w⟩⟩
 case round =>
  obtain ⟨k, hk, hgg, rfl, HN, HB⟩ := hrel
  by_cases hlt : k < xs.length
  ·have hi : (k : Int) < (xs.length : Int) := by omega
   obtain ⟨ad, e0, h0, h1⟩ := at_T35 HR.out (k : Int) (by omega) hi
   cases e0
   simp only [Int.toNat_natCast] at h0 h1
   replace h0 := (HB.out.cell (World.block_lt_of_cell? w _ h0)).trans h0
   replace h1 := (HB.out.cell (World.block_lt_of_cell? w _ h1)).trans h1
   have hx : rd_T35 xs (k : Int) = xs.getD k z35 := rfl
   rw [hx] at h0 h1
   clear hx
   obtain ⟨y, hy⟩ : ∃ y, xs.getD k z35 = y := ⟨_, rfl⟩
   rw [hy] at h0 h1
   have HY := Aside0.mk hy
   clear hy
   obtain ⟨q, hq⟩ : ∃ q, p y = q := ⟨_, rfl⟩
   have HC := HG.out y wr HB.out
   rw [hq] at HC
   replace HC := Aside0.mk HC
   have HQ := Aside0.mk hq
   clear hq
   go_wp2_with fail
   refine HC.out.mono ?_
   rintro e w' ⟨rfl, hb'⟩
   replace HB := Aside0.mk (HB.out.trans (hb'.mono HB.out.size))
   clear hb' HC
   cases q with
   | true =>
    go_wp2
    go_ret
    exact ⟨by first | rfl | (rw [idxB_hit p z35 xs k hlt (by rw [HY.out]; exact HQ.out) HN.out]; rfl), HB.out⟩
   | false =>
    go_wp2
    go_roundg (xs.length - (k + 1))
    case measure => omega
    case rel =>
     refine ⟨k + 1, by omega, by omega, by go_num, ⟨fun j hj => ?_⟩, HB⟩
     by_cases e : j = k
     ·rw [e, HY.out]; exact HQ.out
     ·exact HN.out j (by omega)
  ·have hi : ¬ (k : Int) < (xs.length : Int) := by omega
   obtain rfl : k = xs.length := by omega
   go_wp2
   go_ret
   exact ⟨by first | rfl | (rw [idxB_miss p z35 xs HN.out]; rfl), HB.out⟩
set_option maxHeartbeats 2000000 in
theorem containsR_calls (g : Nat) (lb : Array Value) (p : S35 → Bool) (eg : ∀ args w, (callFunc g args).run Try.prog w = .ok (.enter g args) w)
  (A : Option Addr) (c : Nat) (xs : List S35) (w : World)
  (hg : ∀ (x : S35) (W : World), Below w.heap.size w W → Calls Try.prog g (#[.agg #[.int .i64 x.f0, .int .i64 x.f1]] ++ lb) W fun e w' => e = .returned (.bool (p x)) ∧ Below W.heap.size W w')
  (hr : Kd.C k35 w A xs.length xs) :
  Calls Try.prog 26 #[.slice A xs.length c, .func (.func g) #[] lb] w fun e w' => e = .returned (.bool (xs.any p)) ∧ Below w.heap.size w w' := by
 have HC := Aside0.mk (indexR_calls g lb p eg A c xs w hg hr)
 have HN := Aside0.mk (idxB_any p xs)
 clear hr hg eg
 go_enter Try.func26, Try.ntmps26
 go_wp2_with fail
 refine HC.out.mono ?_
 rintro e w' ⟨rfl, hb'⟩
 have HB := Aside0.mk hb'
 clear hb' HC
 go_wp2
 go_ret
 exact ⟨by first | rfl | (rw [← HN.out]; rfl), HB.out⟩
set_option maxHeartbeats 2000000 in
theorem indexI_calls (g : Nat) (lb : Array Value) (p : S56 → Bool) (eg : ∀ args w, (callFunc g args).run Try.prog w = .ok (.enter g args) w)
  (A : Option Addr) (c : Nat) (xs : List S56) (w : World)
  (hg : ∀ (x : S56) (W : World), Below w.heap.size w W → Calls Try.prog g (#[.agg #[.int .i64 x.f0, .int .i64 x.f1]] ++ lb) W fun e w' => e = .returned (.bool (p x)) ∧ Below W.heap.size W w')
  (hr : Kd.C k56 w A xs.length xs) :
  Calls Try.prog 45 #[.slice A xs.length c, .func (.func g) #[] lb] w fun e w' => e = .returned (.int .i64 (idxB p xs)) ∧ Below w.heap.size w w' := by
 have HR := Aside0.mk hr
 have HG := Aside0.mk hg
 have hn : xs.length ≤ 9223372036854775807 := hr.2.1
 clear hr hg
 go_enter Try.func45, Try.ntmps45
 go_wp2
 go_loopg [5, 8] xs.length (fun gg _ s8 wr => ∃ k : Nat, k ≤ xs.length ∧ xs.length - k ≤ gg ∧ s8 = .int .i64 k ∧ Aside0 (∀ j, j < k → p (xs.getD j z56) = false) ∧ Aside0 (Below w.heap.size w wr))
 case atStart => exact ⟨0, Nat.zero_le _, by omega, rfl, ⟨fun j hj => absurd hj (Nat.not_lt_zero _)⟩, ⟨Below.refl _ w⟩⟩
 case round =>
  obtain ⟨k, hk, hgg, rfl, HN, HB⟩ := hrel
  by_cases hlt : k < xs.length
  ·have hi : (k : Int) < (xs.length : Int) := by omega
   obtain ⟨ad, e0, h0, h1⟩ := at_T56 HR.out (k : Int) (by omega) hi
   cases e0
   simp only [Int.toNat_natCast] at h0 h1
   replace h0 := (HB.out.cell (World.block_lt_of_cell? w _ h0)).trans h0
   replace h1 := (HB.out.cell (World.block_lt_of_cell? w _ h1)).trans h1
   have hx : rd_T56 xs (k : Int) = xs.getD k z56 := rfl
   rw [hx] at h0 h1
   clear hx
   obtain ⟨y, hy⟩ : ∃ y, xs.getD k z56 = y := ⟨_, rfl⟩
   rw [hy] at h0 h1
   have HY := Aside0.mk hy
   clear hy
   obtain ⟨q, hq⟩ : ∃ q, p y = q := ⟨_, rfl⟩
   have HC := HG.out y wr HB.out
   rw [hq] at HC
   replace HC := Aside0.mk HC
   have HQ := Aside0.mk hq
   clear hq
   go_wp2_with fail
   refine HC.out.mono ?_
   rintro e w' ⟨rfl, hb'⟩
   replace HB := Aside0.mk (HB.out.trans (hb'.mono HB.out.size))
   clear hb' HC
   cases q with
   | true =>
    go_wp2
    go_ret
    exact ⟨by first | rfl | (rw [idxB_hit p z56 xs k hlt (by rw [HY.out]; exact HQ.out) HN.out]; rfl), HB.out⟩
   | false =>
    go_wp2
    go_roundg (xs.length - (k + 1))
    case measure => omega
    case rel =>
     refine ⟨k + 1, by omega, by omega, by go_num, ⟨fun j hj => ?_⟩, HB⟩
     by_cases e : j = k
     ·rw [e, HY.out]; exact HQ.out
     ·exact HN.out j (by omega)
  ·have hi : ¬ (k : Int) < (xs.length : Int) := by omega
   obtain rfl : k = xs.length := by omega
   go_wp2
   go_ret
   exact ⟨by first | rfl | (rw [idxB_miss p z56 xs HN.out]; rfl), HB.out⟩
set_option maxHeartbeats 2000000 in
theorem containsI_calls (g : Nat) (lb : Array Value) (p : S56 → Bool) (eg : ∀ args w, (callFunc g args).run Try.prog w = .ok (.enter g args) w)
  (A : Option Addr) (c : Nat) (xs : List S56) (w : World)
  (hg : ∀ (x : S56) (W : World), Below w.heap.size w W → Calls Try.prog g (#[.agg #[.int .i64 x.f0, .int .i64 x.f1]] ++ lb) W fun e w' => e = .returned (.bool (p x)) ∧ Below W.heap.size W w')
  (hr : Kd.C k56 w A xs.length xs) :
  Calls Try.prog 29 #[.slice A xs.length c, .func (.func g) #[] lb] w fun e w' => e = .returned (.bool (xs.any p)) ∧ Below w.heap.size w w' := by
 have HC := Aside0.mk (indexI_calls g lb p eg A c xs w hg hr)
 have HN := Aside0.mk (idxB_any p xs)
 clear hr hg eg
 go_enter Try.func29, Try.ntmps29
 go_wp2_with fail
 refine HC.out.mono ?_
 rintro e w' ⟨rfl, hb'⟩
 have HB := Aside0.mk hb'
 clear hb' HC
 go_wp2
 go_ret
 exact ⟨by first | rfl | (rw [← HN.out]; rfl), HB.out⟩
set_option maxHeartbeats 2000000 in
theorem indexN_calls (g : Nat) (lb : Array Value) (p : Int → Bool) (eg : ∀ args w, (callFunc g args).run Try.prog w = .ok (.enter g args) w)
  (A : Option Addr) (c : Nat) (xs : List Int) (w : World)
  (hg : ∀ (x : Int) (W : World), Below w.heap.size w W → Calls Try.prog g (#[.int .i64 x] ++ lb) W fun e w' => e = .returned (.bool (p x)) ∧ Below W.heap.size W w')
  (hr : Kd.C (Kd.int .i64) w A xs.length xs) :
  Calls Try.prog 49 #[.slice A xs.length c, .func (.func g) #[] lb] w fun e w' => e = .returned (.int .i64 (idxB p xs)) ∧ Below w.heap.size w w' := by
 have HR := Aside0.mk hr
 have HG := Aside0.mk hg
 have hn : xs.length ≤ 9223372036854775807 := hr.2.1
 clear hr hg
 go_enter Try.func49, Try.ntmps49
 go_wp2
 go_loopg [5, 8] xs.length (fun gg _ s8 wr => ∃ k : Nat, k ≤ xs.length ∧ xs.length - k ≤ gg ∧ s8 = .int .i64 k ∧ Aside0 (∀ j, j < k → p (xs.getD j 0) = false) ∧ Aside0 (Below w.heap.size w wr))
 case atStart => exact ⟨0, Nat.zero_le _, by omega, rfl, ⟨fun j hj => absurd hj (Nat.not_lt_zero _)⟩, ⟨Below.refl _ w⟩⟩
 case round =>
  obtain ⟨k, hk, hgg, rfl, HN, HB⟩ := hrel
  by_cases hlt : k < xs.length
  ·have hi : (k : Int) < (xs.length : Int) := by omega
   obtain ⟨ad, e0, h0⟩ := Kd.at_int HR.out (k : Int) (by omega) hi
   cases e0
   simp only [Int.toNat_natCast] at h0
   replace h0 := (HB.out.cell (World.block_lt_of_cell? w _ h0)).trans h0
   have hx : rd xs (k : Int) = xs.getD k 0 := rfl
   rw [hx] at h0
   clear hx
   obtain ⟨y, hy⟩ : ∃ y, xs.getD k 0 = y := ⟨_, rfl⟩
   rw [hy] at h0
   have HY := Aside0.mk hy
   clear hy
   obtain ⟨q, hq⟩ : ∃ q, p y = q := ⟨_, rfl⟩
   have HC := HG.out y wr HB.out
   rw [hq] at HC
   replace HC := Aside0.mk HC
   have HQ := Aside0.mk hq
   clear hq
   go_wp2_with fail
   refine HC.out.mono ?_
   rintro e w' ⟨rfl, hb'⟩
   replace HB := Aside0.mk (HB.out.trans (hb'.mono HB.out.size))
   clear hb' HC
   cases q with
   | true =>
    go_wp2
    go_ret
    exact ⟨by first | rfl | (rw [idxB_hit p 0 xs k hlt (by rw [HY.out]; exact HQ.out) HN.out]; rfl), HB.out⟩
   | false =>
    go_wp2
    go_roundg (xs.length - (k + 1))
    case measure => omega
    case rel =>
     refine ⟨k + 1, by omega, by omega, by go_num, ⟨fun j hj => ?_⟩, HB⟩
     by_cases e : j = k
     ·rw [e, HY.out]; exact HQ.out
     ·exact HN.out j (by omega)
  ·have hi : ¬ (k : Int) < (xs.length : Int) := by omega
   obtain rfl : k = xs.length := by omega
   go_wp2
   go_ret
   exact ⟨by first | rfl | (rw [idxB_miss p 0 xs HN.out]; rfl), HB.out⟩
set_option maxHeartbeats 2000000 in
theorem containsN_calls (g : Nat) (lb : Array Value) (p : Int → Bool) (eg : ∀ args w, (callFunc g args).run Try.prog w = .ok (.enter g args) w)
  (A : Option Addr) (c : Nat) (xs : List Int) (w : World)
  (hg : ∀ (x : Int) (W : World), Below w.heap.size w W → Calls Try.prog g (#[.int .i64 x] ++ lb) W fun e w' => e = .returned (.bool (p x)) ∧ Below W.heap.size W w')
  (hr : Kd.C (Kd.int .i64) w A xs.length xs) :
  Calls Try.prog 37 #[.slice A xs.length c, .func (.func g) #[] lb] w fun e w' => e = .returned (.bool (xs.any p)) ∧ Below w.heap.size w w' := by
 have HC := Aside0.mk (indexN_calls g lb p eg A c xs w hg hr)
 have HN := Aside0.mk (idxB_any p xs)
 clear hr hg eg
 go_enter Try.func37, Try.ntmps37
 go_wp2_with fail
 refine HC.out.mono ?_
 rintro e w' ⟨rfl, hb'⟩
 have HB := Aside0.mk hb'
 clear hb' HC
 go_wp2
 go_ret
 exact ⟨by first | rfl | (rw [← HN.out]; rfl), HB.out⟩
end
section
-- Contracts of the function literals that the law reaches.
attribute [local go_sem] max2_int min2_int
set_option linter.unusedVariables false
set_option linter.unusedSimpArgs false
theorem cell_newAt (w : World) (cs : Array Value) (t : TypeId) (i : Nat) (u : Value) (h : cs[i]? = some u) : (w.alloc (.cells cs t)).cell? ⟨w.heap.size, i, none⟩ = some u := by
 unfold World.cell?
 rw [show (w.alloc (.cells cs t)).heap[(⟨w.heap.size, i, none⟩ : Addr).block]? = some (.cells cs t) from heap_alloc_new w _]
 exact h
def volB (a : Int) : Bool := decide (0 ≤ a ∧ a ≤ 1000000000)
theorem vol_calls (a : Int) (w : World) : Calls Try.prog 24 #[.int .i64 a] w fun e w' => e = .returned (.bool (volB a)) ∧ Below w.heap.size w w' := by
 refine (flow_isVolume.calls a (volB a) w ?_).mono ?_
 ·unfold flow_isVolume.f volB
  by_cases h : 0 ≤ a <;> simp [h]
 ·rintro e w' ⟨rfl, hd⟩
  exact ⟨rfl, hd.below⟩
def oddB (x : S35) : Bool := !volB x.f0 || (!volB x.f1 || decide (x.f1 < x.f0))
set_option maxHeartbeats 2000000 in
theorem odd_calls (x : S35) (w : World) : Calls Try.prog 25 #[.agg #[.int .i64 x.f0, .int .i64 x.f1]] w fun e w' => e = .returned (.bool (oddB x)) ∧ Below w.heap.size w w' := by
 have HO := Aside0.mk (show oddB x = (!volB x.f0 || (!volB x.f1 || decide (x.f1 < x.f0))) from rfl)
 obtain ⟨a, b⟩ := x
 have C1 := Aside0.mk (fun W => vol_calls a W)
 have C2 := Aside0.mk (fun W => vol_calls b W)
 simp only at HO
 obtain ⟨p, hp⟩ : ∃ p, volB a = p := ⟨_, rfl⟩
 obtain ⟨q, hq⟩ : ∃ p, volB b = p := ⟨_, rfl⟩
 rw [hp] at C1 HO
 rw [hq] at C2 HO
 have HP := Aside0.mk (And.intro hp hq)
 clear hp hq
 generalize oddB ⟨a, b⟩ = r at HO
 cases p
 ·go_enter Try.func25, Try.ntmps25
  go_wp2_with fail
  refine (C1.out _).mono ?_
  rintro e w' ⟨rfl, hb'⟩
  have HB := Aside0.mk (((Below.refl _ w).alloc (Nat.le_refl _) _).trans (hb'.mono (by simp)))
  clear hb'
  go_wp2
  go_ret
  exact ⟨by rw [HO.out]; rfl, HB.out⟩
 ·go_enter Try.func25, Try.ntmps25
  go_wp2_with fail
  refine (C1.out _).mono ?_
  rintro e w' ⟨rfl, hb'⟩
  obtain ⟨hc, hf⟩ : w'.cell? ⟨w.heap.size, 0, none⟩ = some (.int .i64 a) ∧ w'.cell? ⟨w.heap.size, 1, none⟩ = some (.int .i64 b) := by
   refine ⟨(hb'.cell (p := ⟨w.heap.size, 0, none⟩) (by simp)).trans ?_, (hb'.cell (p := ⟨w.heap.size, 1, none⟩) (by simp)).trans ?_⟩ <;> exact cell_newAt _ _ _ _ _ rfl
  have HB := Aside0.mk (((Below.refl _ w).alloc (Nat.le_refl _) _).trans (hb'.mono (by simp)))
  clear hb'
  go_wp2_with fail
  refine (C2.out _).mono ?_
  rintro e w2 ⟨rfl, hb'⟩
  replace hc := (hb'.cell (World.block_lt_of_cell? _ _ hc)).trans hc
  replace hf := (hb'.cell (World.block_lt_of_cell? _ _ hf)).trans hf
  replace HB := Aside0.mk (HB.out.trans (hb'.mono HB.out.size))
  clear hb'
  cases q
  ·go_wp2
   go_ret
   exact ⟨by rw [HO.out]; rfl, HB.out⟩
  ·go_wp2
   all_goals
    go_ret
    exact ⟨by rw [HO.out]; first | rfl | simp, HB.out⟩
def amountB (a : Int) : Bool := decide (a < -1000000000) || decide (1000000000 < a)
theorem amount_calls (a : Int) (w : World) : Calls Try.prog 38 #[.int .i64 a] w fun e w' => e = .returned (.bool (amountB a)) ∧ Below w.heap.size w w' := by
 by_cases h : a < -1000000000
 ·have HO := Aside0.mk (show amountB a = true by simp [amountB, h])
  go_enter Try.func38, Try.ntmps38
  go_wp2
  go_ret
  exact ⟨by rw [HO.out]; rfl, Below.refl _ _⟩
 ·have HO := Aside0.mk (show amountB a = decide (1000000000 < a) by unfold amountB; rw [decide_eq_false h, Bool.false_or])
  go_enter Try.func38, Try.ntmps38
  go_wp2
  all_goals
   go_ret
   exact ⟨by rw [HO.out]; rfl, Below.refl _ _⟩
/-- A range outside of 0 to t. -/
def outB (t : Int) (x : S35) : Bool := decide (x.f0 < 0) || (decide (x.f1 < x.f0) || decide (t < x.f1))
set_option maxHeartbeats 2000000 in
theorem out_calls (t : Int) (x : S35) (B : Nat) (w : World) (hc : w.cell? ⟨B, 0, none⟩ = some (.int .i64 t)) : Calls Try.prog 46 #[.agg #[.int .i64 x.f0, .int .i64 x.f1], .pointer (some ⟨B, 0, none⟩)] w fun e w' => e = .returned (.bool (outB t x)) ∧ Below w.heap.size w w' := by
 have hB := World.block_lt_of_cell? _ _ hc
 replace hc := (((Below.refl w.heap.size w).alloc (Nat.le_refl _) (.cells #[.int .i64 x.f0, .int .i64 x.f1] 35)).cell (p := ⟨B, 0, none⟩) hB).trans hc
 obtain ⟨a, b⟩ := x
 have HO := Aside0.mk (show outB t ⟨a, b⟩ = (decide (a < 0) || (decide (b < a) || decide (t < b))) from rfl)
 generalize outB t ⟨a, b⟩ = r at HO ⊢
 simp only at hc
 by_cases h : a < 0
 ·rw [decide_eq_true h] at HO
  go_enter Try.func46, Try.ntmps46
  go_wp2
  go_ret
  exact ⟨by rw [HO.out]; rfl, (Below.refl _ _).alloc (Nat.le_refl _) _⟩
 ·rw [decide_eq_false h] at HO
  by_cases h2 : b < a
  ·rw [decide_eq_true h2] at HO
   go_enter Try.func46, Try.ntmps46
   go_wp2
   go_ret
   exact ⟨by rw [HO.out]; rfl, (Below.refl _ _).alloc (Nat.le_refl _) _⟩
  ·rw [decide_eq_false h2] at HO
   go_enter Try.func46, Try.ntmps46
   go_wp2
   all_goals
    go_ret
    exact ⟨by rw [HO.out]; rfl, (Below.refl _ _).alloc (Nat.le_refl _) _⟩
theorem sameHome_calls (x y : S46) (w : World) : Calls Try.prog 33 #[.agg #[.int .i64 x.f0, .int .i64 x.f1, .int .i64 x.f2.f0, .int .i64 x.f2.f1, .bool x.f3], .agg #[.int .i64 y.f0, .int .i64 y.f1, .int .i64 y.f2.f0, .int .i64 y.f2.f1, .bool y.f3]] w
  fun e w' => e = .returned (.bool (x.f0 == y.f0)) ∧ Below w.heap.size w w' := by
 go_enter Try.func33, Try.ntmps33
 go_wp2
 go_ret
 exact ⟨by simp, ((Below.refl _ _).alloc (Nat.le_refl _) _).alloc (by simp) _⟩
theorem empty_calls (x : S56) (w : World) : Calls Try.prog 19 #[.agg #[.int .i64 x.f0, .int .i64 x.f1]] w fun e w' => e = .returned (.bool (decide (x.f1 < x.f0))) ∧ Below w.heap.size w w' := by
 refine (flow_interval_empty.calls x.f0 x.f1 (decide (x.f1 < x.f0)) w ?_).mono ?_
 ·simp [flow_interval_empty.f]
 ·rintro e w' ⟨rfl, hd⟩
  exact ⟨rfl, hd⟩
end
section
-- A statement whose order Go leaves open, within a round of a range over a function: it may be walked by the laws for a plain frame.
open Go.RowKit Go.Lib
set_option linter.unusedVariables false
section
variable {P : Program} {ops : Array Oper} {Q : Exit → Act → World → Prop} {md : Region.Mode} {l n : Nat}
theorem oper_round {o : Oper} {a : Act} {w : World} {K : Act → World → Prop} (hd : ∀ c, o.op ≠ .defer c) (h : o.wp P a w K Q) : o.wpIn (Fence.wide.inRound l) n P a w K Q := by
 unfold Oper.wpIn
 refine ⟨fun _ _ => trivial, ?_⟩
 rw [Oper.semAt_eq _ _ _ hd]
 unfold Oper.wp at h
 generalize (execOp a.eval o).run P w = r at h
 cases r with
 | ok x w' =>
  cases x <;> simp only [Oper.upon] at h <;> simp only [Oper.uponIn]
  case value => exact h
  case skip => exact h
  case defer => exact h
  case enter f args => exact ⟨fun hh => by simp [Fence.wide] at hh, CallsIn.inRound l (callsIn_wide.2 h)⟩
  case row row args =>
   refine ⟨fun hh => by simp [Fence.wide] at hh, fun c cs _ => ?_⟩
   obtain ⟨v, w2, hr, hs⟩ := h c cs
   exact ⟨v, w2, hr, stepsIn_wide.2 hs⟩
 | halt x w' => cases x <;> simp only [Oper.upon] at h <;> simp only [Oper.uponIn] <;> exact h
theorem any_round (hd : ∀ (i : Nat) (o : Oper), ops[i]? = some o → ∀ c, o.op ≠ .defer c) (hQ : ∀ a w, ¬ Q .outgrown a w) : ∀ (fuel : Nat) (listed : Array Bool) (a : Act) (w : World), wpAny P md ops Q fuel listed a w → wpAnyIn (Fence.wide.inRound l) n P md ops Q fuel listed a w
 | 0, _, _, _, h => h
 | fuel + 1, listed, a, w, h => ⟨h.1, fun i hi => by
   have h1 := h.2 i hi
   unfold wpOp at h1
   unfold wpOpIn
   cases ho : ops[i]? with
   | none =>
    rw [ho] at h1
    exact any_round hd hQ fuel _ a w h1
   | some o =>
    rw [ho] at h1
    simp only at h1 ⊢
    by_cases hw : Region.wanted o (yielded ops a.tmps) = true
    ·rw [if_pos hw] at h1 ⊢
     rcases h1 with h1 | ⟨_, a0, w0, h2⟩
     ·exact Oper.wpIn_mono (fun a' w' h3 => any_round hd hQ fuel _ a' w' h3) (oper_round (hd i o ho) h1)
     ·exact absurd h2 (hQ a0 w0)
    ·rw [if_neg hw] at h1 ⊢
     exact ⟨fun _ _ => trivial, any_round hd hQ fuel _ _ w h1⟩⟩
def noDefer (ops : Array Oper) : Bool := ops.all fun o => match o.op with | .defer _ => false | _ => true
theorem noDefer_spec (h : noDefer ops = true) (i : Nat) (o : Oper) (hi : ops[i]? = some o) (c) : o.op ≠ .defer c := by
 intro e
 unfold noDefer at h
 rw [Array.all_eq_true_iff_forall_mem] at h
 have := h o (Array.mem_of_getElem? hi)
 rw [e] at this
 cases this
/-- A region that draws its order, in a round: by the laws for a plain frame. -/
theorem region_round {id : Nat} {a : Act} {w : World} (hm : P.follows .mixedOrders = true) (hd : noDefer ops = true) (hQ : ∀ a w, ¬ Q .outgrown a w)
  (h : wpAny P .any ops Q ops.size (Array.replicate ops.size false) a w.drew) : (Code.region id ops true).wpIn (Fence.wide.inRound l) n P Q a w :=
 wpIn_region_any hm (any_round (noDefer_spec hd) hQ _ _ _ _ h)
end
end
section
-- The contracts of the iterators that the law reaches: a slice from its end on; two slices side by side.
attribute [local go_sem] max2_int min2_int
attribute [local go_sem] Oper.semAt_some
set_option linter.unusedVariables false
set_option linter.unusedSimpArgs false
/-- n - 1, n - 2, ..: m numbers. -/
def dn (n m : Nat) : List Nat := (List.range m).map fun j => n - 1 - j
theorem dn_succ (n m : Nat) : dn n (m + 1) = dn n m ++ [n - 1 - m] := by simp [dn, List.range_succ]
theorem dn_length (n m : Nat) : (dn n m).length = m := by simp [dn]
set_option maxRecDepth 100000 in
set_option maxHeartbeats 2000000 in
theorem back50_in (n l Bs : Nat) (A : Option Addr) (len cap : Nat) (hlen : len ≤ 9223372036854775807) (Ok : World → Prop) (J Jx : List {x : Nat × S28 // x.1 < len} → World → Prop)
  (hok : ∀ W, Ok W → W.cell? ⟨Bs, 0, none⟩ = some (.slice A len cap) ∧ ∃ xs : List S28, Kd.C k28 W A len xs)
  (hY : ∀ pre x W, J pre W → pre.length < len → YieldAt Fence.wide (n - 1) Try.prog l #[.int .i64 (x.1.1 : Int), .agg #[.int .i64 x.1.2.f0, .int .i64 x.1.2.f1, .int .i64 x.1.2.f2]] W fun e W' =>
   (e = .returned (.bool true) ∧ J (pre ++ [x]) W' ∧ (Ok W → Ok W')) ∨ (e = .returned (.bool false) ∧ Jx (pre ++ [x]) W'))
  (W : World) (hW : Ok W) (h0 : J [] W) :
  CallsIn Fence.wide n Try.prog 50 #[.func (.yield l) #[] #[], .pointer (some ⟨Bs, 0, none⟩)] W fun e W' => (∃ v, e = .returned v) ∧
   ((∃ ys, ys.map (·.1.1) = dn len len ∧ J ys W') ∨ (∃ pre, pre.length ≤ len ∧ Jx pre W')) := by
 refine callsIn_of_wp Try.func50 rfl trivial ?_ rfl
 simp only [Try.ntmps50, List.size_toArray, List.length_cons, List.length_nil, Nat.reduceAdd, Nat.reduceSub, Array.replicate_succ, Array.replicate_zero, List.push_toArray, List.append_toArray, List.nil_append, List.cons_append]
 have hb := (hok W hW).1
 have HOK := Aside0.mk hok
 have HW := Aside0.mk hW
 have HY := Aside0.mk hY
 have H0 := Aside0.mk h0
 have hn1 : (len : Int) - 1 ≤ 9223372036854775807 := by omega
 clear hok hW hY h0
 gi_wp2
 gi_loopw [3] (fun i wr => ∃ (m : Nat) (pre : List {x : Nat × S28 // x.1 < len}), m ≤ len ∧ i = .int .i64 ((len : Int) - 1 - (m : Int)) ∧ Aside0 (pre.map (·.1.1) = dn len m) ∧ Aside0 (J pre wr) ∧ Aside0 (Ok wr))
  (fun i _ => (intOf i + 1).toNat)
 case atStart => exact ⟨0, [], Nat.zero_le _, by simp, ⟨rfl⟩, H0, HW⟩
 case round =>
  obtain ⟨m, pre, hm, rfl, HP, HJ, HO⟩ := hrel
  clear hb
  by_cases hlt : m < len
  ·obtain ⟨hb, xs, hC⟩ := HOK.out wr HO.out
   obtain ⟨ad, e0, h0, h1, h2⟩ := at_T28 hC ((len : Int) - 1 - (m : Int)) (by omega) (by omega)
   cases e0
   have ei : ((len : Int) - 1 - (m : Int)).toNat = len - 1 - m := by omega
   rw [ei] at h0 h1 h2
   have hx : rd_T28 xs ((len : Int) - 1 - (m : Int)) = xs.getD (len - 1 - m) z28 := by show xs.getD _ _ = _; rw [ei]
   rw [hx] at h0 h1 h2
   clear hx ei hC
   generalize xs.getD (len - 1 - m) z28 = x at h0 h1 h2
   obtain ⟨fn, tmps, assign, body, hy, hR⟩ := HY.out pre ⟨(len - 1 - m, x), by simp; omega⟩ wr HJ.out (by have := congrArg List.length HP.out; rw [List.length_map, dn_length] at this; omega)
   have ec : ((len - 1 - m : Nat) : Int) = (len : Int) - 1 - (m : Int) := by omega
   simp only [ec] at hy
   have i0 : (0 : Int) ≤ (len : Int) - 1 - (m : Int) := by omega
   have i1 : (len : Int) - 1 - (m : Int) < (len : Int) := by omega
   have HR := Aside0.mk hR
   have HE := Aside0.mk ec
   clear hR ec
   gi_wp2
   have hR := HR.out
   refine ⟨fun h => by simp [Fence.wide] at h, hR.mono ?_⟩
   rintro e W3 (⟨rfl, hJ3, hk3⟩ | ⟨rfl, hJx3⟩)
   ·have HJ3 := Aside0.mk hJ3
    have HO3 := Aside0.mk (hk3 HO.out)
    clear hJ3 hk3 hR
    gi_wp2
    go_roundw
    case rel => exact ⟨m + 1, pre ++ [⟨(len - 1 - m, x), by simp; omega⟩], by omega, by first | (congr 1; omega) | (simp; omega), ⟨by rw [List.map_append, HP.out, dn_succ]; rfl⟩, HJ3, HO3⟩
    case measure => simp [intOf]; omega
   ·have HJ3 := Aside0.mk hJx3
    clear hJx3 hR
    gi_wp2
    refine bodyPost_ret (results_none rfl _ _ _) rfl ?_
    exact ⟨⟨_, rfl⟩, .inr ⟨_, by have := congrArg List.length HP.out; rw [List.length_map, dn_length] at this; simp; omega, HJ3.out⟩⟩
  ·obtain rfl : m = len := by omega
   have hneg : ¬ (0 : Int) ≤ (m : Int) - 1 - (m : Int) := by omega
   gi_wp2
   go_end0
   exact ⟨⟨_, rfl⟩, .inl ⟨_, HP.out, HJ.out⟩⟩
/-- slices.Backward: the slice is boxed; the function value captures the box. -/
theorem back40_calls (A : Option Addr) (len cap : Nat) (w : World) :
  Calls Try.prog 40 #[.slice A len cap] w fun e w' => e = .returned (.func (.func 50) #[] #[.pointer (some ⟨w.heap.size, 0, none⟩)]) ∧ w' = w.alloc (.cells #[.slice A len cap] 22) := by
 go_enter Try.func40, Try.ntmps40
 go_wp2
 go_ret
 exact ⟨rfl, rfl⟩
theorem back50_stops (n Bs : Nat) (A : Option Addr) (len cap : Nat) (hlen : len ≤ 9223372036854775807) (Ok : World → Prop) (w : World)
  (hok : ∀ W, Ok W → W.cell? ⟨Bs, 0, none⟩ = some (.slice A len cap) ∧ ∃ xs : List S28, Kd.C k28 W A len xs) (hw : ∀ W, Below w.heap.size w W → Ok W) :
  SeqStopsK Fence.wide n Try.prog 50 #[.pointer (some ⟨Bs, 0, none⟩)] (fun x : {x : Nat × S28 // x.1 < len} => #[.int .i64 (x.1.1 : Int), .agg #[.int .i64 x.1.2.f0, .int .i64 x.1.2.f1, .int .i64 x.1.2.f2]]) (fun W W' => Ok W → Ok W')
   (fun ys => ys.map (·.1.1) = dn len len) (fun pre => pre.length ≤ len) len w := fun l J Jx W hW _ _ hY h0 =>
 back50_in n l Bs A len cap hlen Ok J Jx hok hY W (hw W hW) h0
end
section
-- The contract of flow's below: the intervals of the pipes directly below one, in new memory.
attribute [local go_sem] max2_int min2_int
set_option linter.unusedVariables false
set_option linter.unusedSimpArgs false
/-- The kind of a list of lists of whole numbers. -/
abbrev kKids : Kd (List Int) := Kd.slice 3 (Kd.int .i64)
def kidsOf (ks : List (List Int)) (i : Int) : List Int := ks.getD i.toNat []
theorem at_kids {w : World} {A : Option Addr} {n : Nat} {xs : List (List Int)} (h : Kd.C kKids w A n xs) (i : Int) (h0 : 0 ≤ i) (h1 : i < n) :
  ∃ ad A0 c0, A = some ad ∧ w.cell? (ad.add i.toNat) = some (.slice A0 (kidsOf xs i).length c0) ∧ (kidsOf xs i).length ≤ c0 ∧ (Kd.int .i64).C w A0 (kidsOf xs i).length (kidsOf xs i) := by
 obtain ⟨ad, c, e, _, hK, hc0⟩ := Kd.C_get h ([] : List Int) i h0 h1
 have hc : ∀ j u, c[j]? = some u → w.cell? (ad.add (i.toNat * 1 + j)) = some u := hc0
 obtain ⟨A0, c0, rfl, l0, g0⟩ := hK
 exact ⟨ad, A0, c0, e, by have hq := hc 0 _ rfl; rwa [Nat.mul_one, Nat.add_zero] at hq, l0, g0⟩
/-- The intervals of the pipes with these numbers. -/
def pickL (rs : List S56) (ks : List Int) : List S56 := ks.map (rd_T56 rs)
theorem pickL_snoc (rs : List S56) (ks : List Int) (k : Int) : pickL rs (ks ++ [k]) = pickL rs ks ++ [rd_T56 rs k] := by simp [pickL]
theorem pickL_length (rs : List S56) (ks : List Int) : (pickL rs ks).length = ks.length := by simp [pickL]
set_option maxHeartbeats 4000000 in
set_option maxRecDepth 100000 in
theorem below_calls (Al : Option Addr) (nl cl : Nat) (Ak : Option Addr) (ck : Nat) (kids : List (List Int)) (Ar : Option Addr) (cr : Nat) (rs : List S56) (i : Int) (w : World)
  (hk : Kd.C kKids w Ak kids.length kids) (hr : Kd.C k56 w Ar rs.length rs) (hi0 : 0 ≤ i) (hi1 : i < kids.length) (hin : ∀ k ∈ kidsOf kids i, 0 ≤ k ∧ k < rs.length) (hm : (kidsOf kids i).length ≤ 1000000) :
  Calls Try.prog 41 #[.agg #[.slice Al nl cl, .slice Ak kids.length ck], .slice Ar rs.length cr, .int .i64 i] w fun e w' =>
   ∃ v, e = .returned v ∧ Kd.R k56 56 w' w.heap.size (fun _ => True) v (pickL rs (kidsOf kids i)) ∧ Below w.heap.size w w' := by
 obtain ⟨ad, A0, c0, rfl, hc, hc0, hI⟩ := at_kids hk i hi0 hi1
 have HR := Aside0.mk hr
 have HI := Aside0.mk hI
 have HN := Aside0.mk hin
 have hb := World.block_lt_of_cell? _ _ hc
 replace hc := (((Below.refl w.heap.size w).alloc (Nat.le_refl _) (.cells #[.slice Al nl cl, .slice (some ad) kids.length ck] 49)).cell (p := ad.add i.toNat) hb).trans hc
 have hu := Try.underlying56
 clear hr hI hin hk hb
 obtain ⟨ks, hks⟩ : ∃ ks, kidsOf kids i = ks := ⟨_, rfl⟩
 rw [hks] at hc hc0 HI HN hm ⊢
 have HKS := Aside0.mk hks
 clear hks
 go_enter Try.func41, Try.ntmps41
 go_wp2
 clear hc
 go_loopg [7, 16] ks.length (fun gg s7 s16 wr => ∃ k : Nat, k ≤ ks.length ∧ ks.length - k ≤ gg ∧ s16 = .int .i64 k ∧ Aside0 (Kd.R k56 56 wr w.heap.size (fun _ => True) s7 (pickL rs (ks.take k))) ∧ Aside0 (Below w.heap.size w wr))
 case atStart => exact ⟨0, Nat.zero_le _, by omega, rfl, ⟨Kd.R_nil _ _ _ _ _⟩, ⟨(Below.refl _ w).alloc (Nat.le_refl _) _⟩⟩
 case round =>
  obtain ⟨k, hk, hgg, rfl, HO, HB⟩ := hrel
  by_cases hlt : k < ks.length
  ·have hi : (k : Int) < (ks.length : Int) := by omega
   have HS := Aside0.mk (take_snoc 0 ks k hlt)
   obtain ⟨ad1, e0, h0⟩ := Kd.at_int HI.out (k : Int) (by omega) hi
   cases e0
   simp only [Int.toNat_natCast] at h0
   replace h0 := (HB.out.cell (World.block_lt_of_cell? w _ h0)).trans h0
   have hx : rd ks (k : Int) = ks.getD k 0 := rfl
   rw [hx] at h0
   clear hx
   have hmem : ks.getD k 0 ∈ ks := by rw [List.getD_eq_getElem?_getD, List.getElem?_eq_getElem hlt]; exact List.getElem_mem hlt
   obtain ⟨q0, q1⟩ := HN.out _ hmem
   clear hmem
   generalize ks.getD k 0 = q at h0 HS q0 q1
   obtain ⟨ad2, e2, g0, g1⟩ := at_T56 HR.out q q0 q1
   cases e2
   replace g0 := (HB.out.cell (World.block_lt_of_cell? w _ g0)).trans g0
   replace g1 := (HB.out.cell (World.block_lt_of_cell? w _ g1)).trans g1
   have HP := Aside0.mk (pickL_snoc rs (ks.take k) q)
   have HL := Aside0.mk (show (pickL rs (ks.take k)).length ≤ 1000000 by rw [pickL_length]; have := List.length_take_le k ks; omega)
   generalize rd_T56 rs q = x at g0 g1 HP
   generalize pickL rs (ks.take k) = cur at HO HP HL
   go_wp2_with (first | ((with_reducible refine gate_builtin (b := .append) (xs := #[.tmp 20, .tmp 25]) rfl ?_); at_builtin; refine Kd.R_append k56 (w0 := w) w.heap.size rfl (.tmp 20) (.tmp 25) 53 56 (.agg #[(.int .i64 0), (.int .i64 0)]) 16 rfl Try.underlying53 info56 rfl (by decide) (by omega) u7 cur x [.int .i64 x.f0, .int .i64 x.f1] (fun _ => True) (fun _ => False) rfl rfl ?aP (fun _ hk => hk.elim) ?aF ?aO ?aB ?aS ?aL ?_; (case aP => exact k56_mkM _ _ _ x); (case aB => exact HB.out); (case aF => exact (fun _ _ => trivial)); (case aO => exact HO.out); (case aS => exact HB.out.size); (case aL => have := HL.out; omega); intro v1 w1 ho hb1 hg hat; have n0_ := Aside0.mk ho; have n1_ := Aside0.mk hb1; clear HO HB; have HO := n0_; have HB := n1_; clear n0_ n1_ ho hb1 hg hat))
   go_roundg (ks.length - (k + 1))
   case measure => omega
   case rel => exact ⟨k + 1, by omega, by omega, by go_num, ⟨by rw [HS.out, HP.out]; exact HO.out⟩, HB⟩
  ·have hi : ¬ (k : Int) < (ks.length : Int) := by omega
   obtain rfl : k = ks.length := by omega
   go_wp2
   go_ret
   exact ⟨_, rfl, by have h := HO.out; rw [List.take_length] at h; exact h, HB.out⟩
end
section
-- The contract of flow's down: every interval cut to what the pipe above, and the others below it, allow.
attribute [local go_sem] max2_int min2_int
set_option linter.unusedVariables false
set_option linter.unusedSimpArgs false
/-- Every cell that was reads as it did. -/
def Ext (w W : World) : Prop := ∀ a u, w.cell? a = some u → W.cell? a = some u
theorem Ext.of_below {w W W' : World} (h : Ext w W) (hb : Below W.heap.size W W') : Ext w W' := fun a u hu => (hb.cell (World.block_lt_of_cell? _ _ (h a u hu))).trans (h a u hu)
def cutV (x : S56) (lo hi : Int) : S56 := ⟨mx x.f0 lo, mn x.f1 hi⟩
theorem cut_calls (x : S56) (lo hi : Int) (w : World) : Calls Try.prog 18 #[.agg #[.int .i64 x.f0, .int .i64 x.f1], .int .i64 lo, .int .i64 hi] w fun e w' => e = .returned (.agg #[.int .i64 (cutV x lo hi).f0, .int .i64 (cutV x lo hi).f1]) ∧ Below w.heap.size w w' :=
 flow_interval_cut.calls x.f0 x.f1 lo hi (cutV x lo hi).f0 (cutV x lo hi).f1 w rfl
/-- One pipe below pipe i is cut. -/
def downKid (ls : List S28) (i : Int) (lo hi : Int) (rs : List S56) (k : Int) : List S56 :=
 rs.set k.toNat (cutV (rd_T56 rs k) (wrap64 (wrap64 ((rd_T56 rs i).f0 - (rd_T28 ls i).f2) - wrap64 (hi - (rd_T56 rs k).f1))) (wrap64 ((rd_T56 rs i).f1 - wrap64 (lo - (rd_T56 rs k).f0))))
def downStep (ls : List S28) (kids : List (List Int)) (rs : List S56) (i : Nat) : List S56 :=
 (kidsOf kids i).foldl (downKid ls i (tot S56.f0 (pickL rs (kidsOf kids i))) (tot S56.f1 (pickL rs (kidsOf kids i)))) rs
def downTo (ls : List S28) (kids : List (List Int)) (rs : List S56) (k : Nat) : List S56 := (List.range k).foldl (downStep ls kids) rs
theorem downTo_succ (ls : List S28) (kids : List (List Int)) (rs : List S56) (k : Nat) : downTo ls kids rs (k + 1) = downStep ls kids (downTo ls kids rs k) k := by simp [downTo, List.range_succ]
theorem downKids_length (ls : List S28) (i lo hi : Int) (ks : List Int) : ∀ rs, (ks.foldl (downKid ls i lo hi) rs).length = rs.length := by
 induction ks with
 | nil => exact fun _ => rfl
 | cons k ks ih => intro rs; rw [List.foldl_cons, ih]; simp [downKid]
theorem downStep_length (ls : List S28) (kids : List (List Int)) (rs : List S56) (i : Nat) : (downStep ls kids rs i).length = rs.length := downKids_length _ _ _ _ _ _
theorem downTo_length (ls : List S28) (kids : List (List Int)) (rs : List S56) (k : Nat) : (downTo ls kids rs k).length = rs.length := by
 induction k with
 | zero => rfl
 | succ k ih => rw [downTo_succ, downStep_length, ih]
/-- Where a row of intervals has its cells. -/
theorem row_at {W : World} {base g g' n cap : Nat} {rs : List S56} (h : Kd.R k56 56 W base (fun k => k = g) (.slice (some ⟨g', 0, none⟩) n cap) rs) (i : Int) (h0 : 0 ≤ i) (h1 : i < rs.length) :
  W.cell? ⟨g', i.toNat * 2, none⟩ = some (.int .i64 (rd_T56 rs i).f0) ∧ W.cell? ⟨g', i.toNat * 2 + 1, none⟩ = some (.int .i64 (rd_T56 rs i).f1) ∧ W.frozen? ⟨g', i.toNat * 2, none⟩ = false ∧ W.frozen? ⟨g', i.toNat * 2 + 1, none⟩ = false := by
 have hn := (Kd.R_reads' h).1
 obtain ⟨c, hcl, hM, hcc, hfr⟩ := Kd.R_elem h z56 i h0 (by omega)
 obtain rfl := k56_openM hM
 exact ⟨hcc 0 _ rfl, hcc 1 _ rfl, hfr 0, hfr 1⟩
theorem row_set {W : World} {base g g' n cap : Nat} {rs : List S56} (h : Kd.R k56 56 W base (fun k => k = g) (.slice (some ⟨g', 0, none⟩) n cap) rs) (i : Int) (h0 : 0 ≤ i) (h1 : i < rs.length) (x : S56) :
  Kd.R k56 56 ((W.setCell ⟨g', i.toNat * 2, none⟩ (.int .i64 x.f0)).setCell ⟨g', i.toNat * 2 + 1, none⟩ (.int .i64 x.f1)) base (fun k => k = g) (.slice (some ⟨g', 0, none⟩) n cap) (rs.set i.toNat x) := by
 have hn := (Kd.R_reads' h).1
 obtain ⟨c, hcl, hM, hcc, hfr⟩ := Kd.R_elem h z56 i h0 (by omega)
 obtain rfl := k56_openM hM
 exact (Kd.R_seg h i h0 (by omega) (seg := [.int .i64 x.f0, .int .i64 x.f1]) (j := 0) hcl hcc (show 2 ≤ 2 from by decide) (x' := x) (k56_mkM _ _ _ x) (fun _ hk => hk)).1
theorem row_form {W : World} {base g n cap : Nat} {A : Option Addr} {rs : List S56} (h : Kd.R k56 56 W base (fun k => k = g) (.slice A n cap) rs) (hp : 0 < rs.length) : A = some ⟨g, 0, none⟩ := by
 obtain ⟨g', c', he, _, _, _⟩ := Kd.R_form h hp
 have := h.1 g' (by rw [he]; simp [Value.ownBlock])
 injection he with e1 e2 e3
 rw [e1, this]
theorem read_of_row {W : World} {base n cap : Nat} {ok : Nat → Prop} {A : Option Addr} {rs : List S56} (h : Kd.R k56 56 W base ok (.slice A n cap) rs) : Kd.C k56 W A rs.length rs := (Kd.R_reads' h).2.2
set_option maxHeartbeats 8000000 in
set_option maxRecDepth 100000 in
theorem down_calls (base g : Nat) (Al : Option Addr) (cl : Nat) (ls : List S28) (Ak : Option Addr) (ck : Nat) (kids : List (List Int)) (Ar : Option Addr) (cr : Nat) (rs : List S56) (nl : Nat) (w0 w : World)
  (hl : Kd.C k28 w0 Al nl ls) (hk : Kd.C kKids w0 Ak nl kids) (hB : Below w0.heap.size w0 w) (hg : w0.heap.size ≤ g) (hr : Kd.R k56 56 w base (fun k => k = g) (.slice Ar nl cr) rs)
  (hin : ∀ i : Nat, ∀ k ∈ kidsOf kids i, 0 ≤ k ∧ k < nl) (hm : ∀ i : Nat, (kidsOf kids i).length ≤ 1000000) :
  Calls Try.prog 28 #[.agg #[.slice Al nl cl, .slice Ak nl ck], .slice Ar nl cr] w fun e w' =>
   e = .returned (.tuple #[]) ∧ Kd.R k56 56 w' base (fun k => k = g) (.slice Ar nl cr) (downTo ls kids rs nl) ∧ Kept w w' (fun k => k = g) ∧ Below w0.heap.size w0 w' := by
 have HL := Aside0.mk hl
 have HKD := Aside0.mk hk
 have HR := Aside0.mk hr
 have HIN := Aside0.mk hin
 have HM := Aside0.mk hm
 have HG := Aside0.mk hg
 have HB := Aside0.mk hB
 have hmax := hl.2.1
 have HNL := Aside0.mk hl.1
 have HNK := Aside0.mk hk.1
 have HN := Aside0.mk (Kd.R_reads' hr).1
 have hu49 := Try.underlying49
 have hu56 := Try.underlying56
 have hu28 := Try.underlying28
 have HBX := Aside0.mk (heap_alloc_new w (.cells #[.slice Al nl cl, .slice Ak nl ck] 49))
 clear hl hk hr hin hm hg hB
 go_enter Try.func28, Try.ntmps28
 go_wp2
 go_loopg [13] nl (fun gg s13 wr => ∃ k : Nat, k ≤ nl ∧ nl - k ≤ gg ∧ s13 = .int .i64 k ∧ Aside0 (Kd.R k56 56 wr base (fun k => k = g) (.slice Ar nl cr) (downTo ls kids rs k)) ∧ Aside0 (Below w0.heap.size w0 wr) ∧ Aside0 (Kept w wr (fun k => k = g)) ∧ Aside0 (wr.heap[w.heap.size]? = some (.cells #[.slice Al nl cl, .slice Ak nl ck] 49)))
 case atStart => exact ⟨0, Nat.zero_le _, by omega, rfl, ⟨Kd.R_alloc HR.out _⟩, ⟨HB.out.alloc HB.out.size _⟩, ⟨(Kept.refl _ _).alloc _⟩, HBX⟩
 case round =>
  obtain ⟨k, hk, hgg, rfl, HO, HBW, HK, HX⟩ := hrel
  clear HBX HR
  by_cases hlt : k < nl
  ·have hi : (k : Int) < (nl : Int) := by omega
   have HLEN := Aside0.mk ((downTo_length ls kids rs k).trans HN.out.symm)
   have HSUC := Aside0.mk (downTo_succ ls kids rs k)
   generalize downTo ls kids rs k = r0 at HO HLEN HSUC
   have hcz0 : wr.cell? ⟨w.heap.size, 0, none⟩ = some (.slice Al nl cl) := (blk_cell HX.out 0).trans rfl
   have hcz1 : wr.cell? ⟨w.heap.size, 1, none⟩ = some (.slice Ak nl ck) := (blk_cell HX.out 1).trans rfl
   have HBL := Aside0.mk (below_calls Al nl cl Ak ck kids Ar cr r0 (k : Int) wr (by rw [HNK.out]; exact (Kd.C_below HKD.out HBW.out)) (read_of_row HO.out) (by omega) (by rw [HNK.out]; omega) (by rw [HLEN.out]; exact HIN.out k) (HM.out k))
   rw [HNK.out, HLEN.out] at HBL
   go_wp2_with fail
   refine HBL.out.mono ?_
   rintro e w1 ⟨v, rfl, hv, hb⟩
   clear HBL hcz0 hcz1
   obtain ⟨Ab, cb, rfl, _, hvC⟩ := Kd.R_reads hv
   replace HO := Aside0.mk (Kd.R_below HO.out hb)
   replace HK := Aside0.mk (HK.out.below hb)
   replace HX := Aside0.mk ((hb.block _ (blk_lt HX.out)).trans HX.out)
   replace HBW := Aside0.mk (HBW.out.trans (hb.mono HBW.out.size))
   have HV := Aside0.mk hvC
   clear hv hvC hb
   obtain ⟨ps, hps⟩ : ∃ ps, pickL r0 (kidsOf kids (k : Int)) = ps := ⟨_, rfl⟩
   rw [hps] at HV ⊢
   have HPS := Aside0.mk hps
   clear hps
   go_wp2_with fail
   refine (total_calls 43 S56.f0 (enters_ Try.func43 (by kernel_rfl) rfl) low_calls Ab cb ps _ HV.out).mono ?_
   rintro e w2 ⟨rfl, hb⟩
   replace HO := Aside0.mk (Kd.R_below HO.out hb)
   replace HK := Aside0.mk (HK.out.below hb)
   replace HX := Aside0.mk ((hb.block _ (blk_lt HX.out)).trans HX.out)
   replace HBW := Aside0.mk (HBW.out.trans (hb.mono HBW.out.size))
   replace HV := Aside0.mk (Kd.C_below HV.out hb)
   clear hb
   go_wp2_with fail
   refine (total_calls 44 S56.f1 (enters_ Try.func44 (by kernel_rfl) rfl) high_calls Ab cb ps _ HV.out).mono ?_
   rintro e w3 ⟨rfl, hb⟩
   replace HO := Aside0.mk (Kd.R_below HO.out hb)
   replace HK := Aside0.mk (HK.out.below hb)
   replace HX := Aside0.mk ((hb.block _ (blk_lt HX.out)).trans HX.out)
   replace HBW := Aside0.mk (HBW.out.trans (hb.mono HBW.out.size))
   clear hb HV
   obtain ⟨lo, hlo⟩ : ∃ lo, tot S56.f0 ps = lo := ⟨_, rfl⟩
   obtain ⟨hi', hhi⟩ : ∃ hi, tot S56.f1 ps = hi := ⟨_, rfl⟩
   rw [hlo, hhi]
   have HST : Aside0 (downStep ls kids r0 k = (kidsOf kids (k : Int)).foldl (downKid ls (k : Int) lo hi') r0) := ⟨by unfold downStep; rw [HPS.out, hlo, hhi]⟩
   clear hlo hhi HPS
   rw [HST.out] at HSUC
   clear HST
   have hcz1 : w3.cell? ⟨w.heap.size, 1, none⟩ = some (.slice Ak nl ck) := (blk_cell HX.out 1).trans rfl
   obtain ⟨adk, A0, c0, e0, hkc, _, hI⟩ := at_kids HKD.out (k : Int) (by omega) hi
   cases e0
   simp only [Int.toNat_natCast] at hkc
   replace hkc := (HBW.out.cell (World.block_lt_of_cell? w0 _ hkc)).trans hkc
   have HI := Aside0.mk hI
   have HNM := Aside0.mk (HM.out k)
   have HINK := Aside0.mk (HIN.out k)
   clear hI
   obtain ⟨ks, hks⟩ : ∃ ks, kidsOf kids (k : Int) = ks := ⟨_, rfl⟩
   rw [hks] at hkc HI HNM HINK HSUC
   clear hks
   have hks9 : ks.length ≤ 9223372036854775807 := by have := HNM.out; omega
   go_wp2
   clear hkc hcz1
   go_loopg [30] ks.length (fun gi s30 wi => ∃ j : Nat, j ≤ ks.length ∧ ks.length - j ≤ gi ∧ s30 = .int .i64 j ∧ Aside0 (Kd.R k56 56 wi base (fun k => k = g) (.slice Ar nl cr) ((ks.take j).foldl (downKid ls (k : Int) lo hi') r0)) ∧ Aside0 (Below w0.heap.size w0 wi) ∧ Aside0 (Kept w wi (fun k => k = g)) ∧ Aside0 (wi.heap[w.heap.size]? = some (.cells #[.slice Al nl cl, .slice (some adk) nl ck] 49)))
   case atStart => exact ⟨0, Nat.zero_le _, by omega, rfl, HO, HBW, HK, HX⟩
   case round =>
    clear HO HBW HK HX
    obtain ⟨j, hj, hgj, rfl, HO, HBW, HK, HX⟩ := hrel
    by_cases hjlt : j < ks.length
    ·have hji : (j : Int) < (ks.length : Int) := by omega
     have HTS := Aside0.mk (take_snoc 0 ks j hjlt)
     have HLEN2 := Aside0.mk ((downKids_length ls (k : Int) lo hi' (ks.take j) r0).trans HLEN.out)
     obtain ⟨adq, e0, hq0⟩ := Kd.at_int HI.out (j : Int) (by omega) hji
     cases e0
     simp only [Int.toNat_natCast] at hq0
     replace hq0 := (HBW.out.cell (World.block_lt_of_cell? w0 _ hq0)).trans hq0
     have hxq : rd ks (j : Int) = ks.getD j 0 := rfl
     rw [hxq] at hq0
     clear hxq
     have hmem : ks.getD j 0 ∈ ks := by rw [List.getD_eq_getElem?_getD, List.getElem?_eq_getElem hjlt]; exact List.getElem_mem hjlt
     obtain ⟨q0, q1⟩ := HINK.out _ hmem
     clear hmem
     generalize ks.getD j 0 = q at hq0 HTS q0 q1
     have HFS : Aside0 ((ks.take (j + 1)).foldl (downKid ls (k : Int) lo hi') r0 = downKid ls (k : Int) lo hi' ((ks.take j).foldl (downKid ls (k : Int) lo hi') r0) q) := ⟨by rw [HTS.out, List.foldl_append]; rfl⟩
     clear HTS
     generalize (ks.take j).foldl (downKid ls (k : Int) lo hi') r0 = r1 at HO HLEN2 HFS
     have ear := row_form HO.out (by have := HLEN2.out; omega)
     subst ear
     have hqr : q < (r1.length : Int) := by rw [HLEN2.out]; exact q1
     have hkr : (k : Int) < (r1.length : Int) := by rw [HLEN2.out]; exact hi
     have HQR := Aside0.mk hqr
     obtain ⟨yc0, yc1, yf0, yf1⟩ := row_at HO.out q q0 hqr
     obtain ⟨xc0, xc1, _, _⟩ := row_at HO.out (k : Int) (by omega) hkr
     clear hqr hkr
     simp only [Int.toNat_natCast] at xc0 xc1
     obtain ⟨adl, e0, lc0, lc1, lc2⟩ := at_T28 HL.out (k : Int) (by omega) hi
     cases e0
     clear lc0 lc1
     simp only [Int.toNat_natCast] at lc2
     replace lc2 := (HBW.out.cell (World.block_lt_of_cell? w0 _ lc2)).trans lc2
     have hcz0 : wr.cell? ⟨w.heap.size, 0, none⟩ = some (.slice (some adl) nl cl) := (blk_cell HX.out 0).trans rfl
     have HZ : Aside0 (downKid ls (k : Int) lo hi' r1 q = r1.set q.toNat (cutV (rd_T56 r1 q) (wrap64 (wrap64 ((rd_T56 r1 (k : Int)).f0 - (rd_T28 ls (k : Int)).f2) - wrap64 (hi' - (rd_T56 r1 q).f1))) (wrap64 ((rd_T56 r1 (k : Int)).f1 - wrap64 (lo - (rd_T56 r1 q).f0))))) := ⟨rfl⟩
     rw [HZ.out] at HFS
     clear HZ
     generalize rd_T56 r1 q = y at yc0 yc1 HFS
     generalize rd_T56 r1 (k : Int) = x at xc0 xc1 HFS
     generalize rd_T28 ls (k : Int) = p at lc2 HFS
     go_wp2
     refine start_ (n := 42) (S := Ext wr) (ds := [41]) #[false, false, false, false, false, false, false, false, false, false, false, false, false, false, false, false, false, false, false, false, false, false, false, false, false, false, false, false, false, false, false, false, false, false, false, false, false, false, false, false, false, false] (by kernel_rfl) rfl (by rfl) (fun _ _ h => h) (fun hHeld => ?_)
     have HD := Aside0.mk (show Below wr.heap.size wr wr.drew from (Below.refl _ _).drew)
     generalize wr.drew = wa at HD hHeld ⊢
     refine pure_ (i := 0) (N := some 34) (v := ?_) (a' := ?_) #[true, false, false, false, false, false, false, false, false, false, false, false, false, false, false, false, false, false, false, false, false, false, false, false, false, false, false, false, false, false, false, false, false, false, false, false, false, false, false, false, false, false] rfl rfl (by kernel_rfl) (fun _ _ _ h => h) (Or.inl ⟨by rfl, ?_⟩) ?_ ?_
     rotate_left
     ·intro w'
      go_simp
      with_reducible rfl
     rotate_left
     ·simp only [Act.put, sA, sZ, sS, i64_w, i32_w]
      rfl
     refine pure_ (i := 1) (N := some 35) (v := ?_) (a' := ?_) #[true, true, false, false, false, false, false, false, false, false, false, false, false, false, false, false, false, false, false, false, false, false, false, false, false, false, false, false, false, false, false, false, false, false, false, false, false, false, false, false, false, false] rfl rfl (by kernel_rfl) (fun _ _ _ h => h) (Or.inl ⟨by rfl, ?_⟩) ?_ ?_
     rotate_left
     ·intro w'
      go_simp
      with_reducible rfl
     rotate_left
     ·simp only [Act.put, sA, sZ, sS, i64_w, i32_w]
      rfl
     refine pure_ (i := 2) (N := some 36) (v := ?_) (a' := ?_) #[true, true, true, false, false, false, false, false, false, false, false, false, false, false, false, false, false, false, false, false, false, false, false, false, false, false, false, false, false, false, false, false, false, false, false, false, false, false, false, false, false, false] rfl rfl (by kernel_rfl) (fun _ _ _ h => h) (Or.inl ⟨by rfl, ?_⟩) ?_ ?_
     rotate_left
     ·intro w'
      go_simp
      with_reducible rfl
     rotate_left
     ·simp only [Act.put, sA, sZ, sS, i64_w, i32_w]
      rfl
     refine pure_ (i := 3) (N := some 37) (v := ?_) (a' := ?_) #[true, true, true, true, false, false, false, false, false, false, false, false, false, false, false, false, false, false, false, false, false, false, false, false, false, false, false, false, false, false, false, false, false, false, false, false, false, false, false, false, false, false] rfl rfl (by kernel_rfl) (fun _ _ _ h => h) (Or.inl ⟨by rfl, ?_⟩) ?_ ?_
     rotate_left
     ·intro w'
      go_simp
      with_reducible rfl
     rotate_left
     ·simp only [Act.put, sA, sZ, sS, i64_w, i32_w]
      rfl
     refine pure_ (i := 4) (N := some 38) (v := ?_) (a' := ?_) #[true, true, true, true, true, false, false, false, false, false, false, false, false, false, false, false, false, false, false, false, false, false, false, false, false, false, false, false, false, false, false, false, false, false, false, false, false, false, false, false, false, false] rfl rfl (by kernel_rfl) (fun _ _ _ h => h) (Or.inl ⟨by rfl, ?_⟩) ?_ ?_
     rotate_left
     ·intro w'
      go_simp
      with_reducible rfl
     rotate_left
     ·simp only [Act.put, sA, sZ, sS, i64_w, i32_w]
      rfl
     refine pure_ (i := 6) (N := some 40) (v := ?_) (a' := ?_) #[true, true, true, true, true, false, true, false, false, false, false, false, false, false, false, false, false, false, false, false, false, false, false, false, false, false, false, false, false, false, false, false, false, false, false, false, false, false, false, false, false, false] rfl rfl (by kernel_rfl) (fun _ _ _ h => h) (Or.inl ⟨by rfl, ?_⟩) ?_ ?_
     rotate_left
     ·intro w'
      go_simp
      with_reducible rfl
     rotate_left
     ·simp only [Act.put, sA, sZ, sS, i64_w, i32_w]
      rfl
     refine pure_ (i := 7) (N := some 41) (v := ?_) (a' := ?_) #[true, true, true, true, true, false, true, true, false, false, false, false, false, false, false, false, false, false, false, false, false, false, false, false, false, false, false, false, false, false, false, false, false, false, false, false, false, false, false, false, false, false] rfl rfl (by kernel_rfl) (fun _ _ _ h => h) (Or.inl ⟨by rfl, ?_⟩) ?_ ?_
     rotate_left
     ·intro w'
      go_simp
      with_reducible rfl
     rotate_left
     ·simp only [Act.put, sA, sZ, sS, i64_w, i32_w]
      rfl
     refine pure_ (i := 8) (N := some 42) (v := ?_) (a' := ?_) #[true, true, true, true, true, false, true, true, true, false, false, false, false, false, false, false, false, false, false, false, false, false, false, false, false, false, false, false, false, false, false, false, false, false, false, false, false, false, false, false, false, false] rfl rfl (by kernel_rfl) (fun _ _ _ h => h) (Or.inl ⟨by rfl, ?_⟩) ?_ ?_
     rotate_left
     ·intro w'
      go_simp
      with_reducible rfl
     rotate_left
     ·simp only [Act.put, sA, sZ, sS, i64_w, i32_w]
      rfl
     refine pure_ (i := 9) (N := some 43) (v := ?_) (a' := ?_) #[true, true, true, true, true, false, true, true, true, true, false, false, false, false, false, false, false, false, false, false, false, false, false, false, false, false, false, false, false, false, false, false, false, false, false, false, false, false, false, false, false, false] rfl rfl (by kernel_rfl) (fun _ _ _ h => h) (Or.inl ⟨by rfl, ?_⟩) ?_ ?_
     rotate_left
     ·intro w'
      go_simp
      with_reducible rfl
     rotate_left
     ·simp only [Act.put, sA, sZ, sS, i64_w, i32_w]
      rfl
     refine pure_ (i := 11) (N := some 45) (v := ?_) (a' := ?_) #[true, true, true, true, true, false, true, true, true, true, false, true, false, false, false, false, false, false, false, false, false, false, false, false, false, false, false, false, false, false, false, false, false, false, false, false, false, false, false, false, false, false] rfl rfl (by kernel_rfl) (fun _ _ _ h => h) (Or.inl ⟨by rfl, ?_⟩) ?_ ?_
     rotate_left
     ·intro w'
      go_simp
      with_reducible rfl
     rotate_left
     ·simp only [Act.put, sA, sZ, sS, i64_w, i32_w]
      rfl
     refine pure_ (i := 13) (N := some 47) (v := ?_) (a' := ?_) #[true, true, true, true, true, false, true, true, true, true, false, true, false, true, false, false, false, false, false, false, false, false, false, false, false, false, false, false, false, false, false, false, false, false, false, false, false, false, false, false, false, false] rfl rfl (by kernel_rfl) (fun _ _ _ h => h) (Or.inl ⟨by rfl, ?_⟩) ?_ ?_
     rotate_left
     ·intro w'
      go_simp
      with_reducible rfl
     rotate_left
     ·simp only [Act.put, sA, sZ, sS, i64_w, i32_w]
      rfl
     refine pure_ (i := 18) (N := some 52) (v := ?_) (a' := ?_) #[true, true, true, true, true, false, true, true, true, true, false, true, false, true, false, false, false, false, true, false, false, false, false, false, false, false, false, false, false, false, false, false, false, false, false, false, false, false, false, false, false, false] rfl rfl (by kernel_rfl) (fun _ _ _ h => h) (Or.inl ⟨by rfl, ?_⟩) ?_ ?_
     rotate_left
     ·intro w'
      go_simp
      with_reducible rfl
     rotate_left
     ·simp only [Act.put, sA, sZ, sS, i64_w, i32_w]
      rfl
     refine pure_ (i := 19) (N := some 53) (v := ?_) (a' := ?_) #[true, true, true, true, true, false, true, true, true, true, false, true, false, true, false, false, false, false, true, true, false, false, false, false, false, false, false, false, false, false, false, false, false, false, false, false, false, false, false, false, false, false] rfl rfl (by kernel_rfl) (fun _ _ _ h => h) (Or.inl ⟨by rfl, ?_⟩) ?_ ?_
     rotate_left
     ·intro w'
      go_simp
      with_reducible rfl
     rotate_left
     ·simp only [Act.put, sA, sZ, sS, i64_w, i32_w]
      rfl
     refine pure_ (i := 20) (N := some 54) (v := ?_) (a' := ?_) #[true, true, true, true, true, false, true, true, true, true, false, true, false, true, false, false, false, false, true, true, true, false, false, false, false, false, false, false, false, false, false, false, false, false, false, false, false, false, false, false, false, false] rfl rfl (by kernel_rfl) (fun _ _ _ h => h) (Or.inl ⟨by rfl, ?_⟩) ?_ ?_
     rotate_left
     ·intro w'
      go_simp
      with_reducible rfl
     rotate_left
     ·simp only [Act.put, sA, sZ, sS, i64_w, i32_w]
      rfl
     refine pure_ (i := 21) (N := some 55) (v := ?_) (a' := ?_) #[true, true, true, true, true, false, true, true, true, true, false, true, false, true, false, false, false, false, true, true, true, true, false, false, false, false, false, false, false, false, false, false, false, false, false, false, false, false, false, false, false, false] rfl rfl (by kernel_rfl) (fun _ _ _ h => h) (Or.inl ⟨by rfl, ?_⟩) ?_ ?_
     rotate_left
     ·intro w'
      go_simp
      with_reducible rfl
     rotate_left
     ·simp only [Act.put, sA, sZ, sS, i64_w, i32_w]
      rfl
     refine pure_ (i := 22) (N := some 56) (v := ?_) (a' := ?_) #[true, true, true, true, true, false, true, true, true, true, false, true, false, true, false, false, false, false, true, true, true, true, true, false, false, false, false, false, false, false, false, false, false, false, false, false, false, false, false, false, false, false] rfl rfl (by kernel_rfl) (fun _ _ _ h => h) (Or.inl ⟨by rfl, ?_⟩) ?_ ?_
     rotate_left
     ·intro w'
      go_simp
      with_reducible rfl
     rotate_left
     ·simp only [Act.put, sA, sZ, sS, i64_w, i32_w]
      rfl
     refine pure_ (i := 26) (N := some 60) (v := ?_) (a' := ?_) #[true, true, true, true, true, false, true, true, true, true, false, true, false, true, false, false, false, false, true, true, true, true, true, false, false, false, true, false, false, false, false, false, false, false, false, false, false, false, false, false, false, false] rfl rfl (by kernel_rfl) (fun _ _ _ h => h) (Or.inl ⟨by rfl, ?_⟩) ?_ ?_
     rotate_left
     ·intro w'
      go_simp
      with_reducible rfl
     rotate_left
     ·simp only [Act.put, sA, sZ, sS, i64_w, i32_w]
      rfl
     refine pure_ (i := 27) (N := some 61) (v := ?_) (a' := ?_) #[true, true, true, true, true, false, true, true, true, true, false, true, false, true, false, false, false, false, true, true, true, true, true, false, false, false, true, true, false, false, false, false, false, false, false, false, false, false, false, false, false, false] rfl rfl (by kernel_rfl) (fun _ _ _ h => h) (Or.inl ⟨by rfl, ?_⟩) ?_ ?_
     rotate_left
     ·intro w'
      go_simp
      with_reducible rfl
     rotate_left
     ·simp only [Act.put, sA, sZ, sS, i64_w, i32_w]
      rfl
     refine pure_ (i := 28) (N := some 62) (v := ?_) (a' := ?_) #[true, true, true, true, true, false, true, true, true, true, false, true, false, true, false, false, false, false, true, true, true, true, true, false, false, false, true, true, true, false, false, false, false, false, false, false, false, false, false, false, false, false] rfl rfl (by kernel_rfl) (fun _ _ _ h => h) (Or.inl ⟨by rfl, ?_⟩) ?_ ?_
     rotate_left
     ·intro w'
      go_simp
      with_reducible rfl
     rotate_left
     ·simp only [Act.put, sA, sZ, sS, i64_w, i32_w]
      rfl
     refine pure_ (i := 29) (N := some 63) (v := ?_) (a' := ?_) #[true, true, true, true, true, false, true, true, true, true, false, true, false, true, false, false, false, false, true, true, true, true, true, false, false, false, true, true, true, true, false, false, false, false, false, false, false, false, false, false, false, false] rfl rfl (by kernel_rfl) (fun _ _ _ h => h) (Or.inl ⟨by rfl, ?_⟩) ?_ ?_
     rotate_left
     ·intro w'
      go_simp
      with_reducible rfl
     rotate_left
     ·simp only [Act.put, sA, sZ, sS, i64_w, i32_w]
      rfl
     refine pure_ (i := 31) (N := some 65) (v := ?_) (a' := ?_) #[true, true, true, true, true, false, true, true, true, true, false, true, false, true, false, false, false, false, true, true, true, true, true, false, false, false, true, true, true, true, false, true, false, false, false, false, false, false, false, false, false, false] rfl rfl (by kernel_rfl) (fun _ _ _ h => h) (Or.inl ⟨by rfl, ?_⟩) ?_ ?_
     rotate_left
     ·intro w'
      go_simp
      with_reducible rfl
     rotate_left
     ·simp only [Act.put, sA, sZ, sS, i64_w, i32_w]
      rfl
     refine pure_ (i := 32) (N := some 66) (v := ?_) (a' := ?_) #[true, true, true, true, true, false, true, true, true, true, false, true, false, true, false, false, false, false, true, true, true, true, true, false, false, false, true, true, true, true, false, true, true, false, false, false, false, false, false, false, false, false] rfl rfl (by kernel_rfl) (fun _ _ _ h => h) (Or.inl ⟨by rfl, ?_⟩) ?_ ?_
     rotate_left
     ·intro w'
      go_simp
      with_reducible rfl
     rotate_left
     ·simp only [Act.put, sA, sZ, sS, i64_w, i32_w]
      rfl
     refine pure_ (i := 33) (N := some 67) (v := ?_) (a' := ?_) #[true, true, true, true, true, false, true, true, true, true, false, true, false, true, false, false, false, false, true, true, true, true, true, false, false, false, true, true, true, true, false, true, true, true, false, false, false, false, false, false, false, false] rfl rfl (by kernel_rfl) (fun _ _ _ h => h) (Or.inl ⟨by rfl, ?_⟩) ?_ ?_
     rotate_left
     ·intro w'
      go_simp
      with_reducible rfl
     rotate_left
     ·simp only [Act.put, sA, sZ, sS, i64_w, i32_w]
      rfl
     refine pure_ (i := 34) (N := some 68) (v := ?_) (a' := ?_) #[true, true, true, true, true, false, true, true, true, true, false, true, false, true, false, false, false, false, true, true, true, true, true, false, false, false, true, true, true, true, false, true, true, true, true, false, false, false, false, false, false, false] rfl rfl (by kernel_rfl) (fun _ _ _ h => h) (Or.inl ⟨by rfl, ?_⟩) ?_ ?_
     rotate_left
     ·intro w'
      go_simp
      with_reducible rfl
     rotate_left
     ·simp only [Act.put, sA, sZ, sS, i64_w, i32_w]
      rfl
     refine pure_ (i := 35) (N := some 69) (v := ?_) (a' := ?_) #[true, true, true, true, true, false, true, true, true, true, false, true, false, true, false, false, false, false, true, true, true, true, true, false, false, false, true, true, true, true, false, true, true, true, true, true, false, false, false, false, false, false] rfl rfl (by kernel_rfl) (fun _ _ _ h => h) (Or.inl ⟨by rfl, ?_⟩) ?_ ?_
     rotate_left
     ·intro w'
      go_simp
      with_reducible rfl
     rotate_left
     ·simp only [Act.put, sA, sZ, sS, i64_w, i32_w]
      rfl
     refine take_ (i := 5) (N := some 39) (v := ?_) (a' := ?_) #[true, true, true, true, true, true, true, true, true, true, false, true, false, true, false, false, false, false, true, true, true, true, true, false, false, false, true, true, true, true, false, true, true, true, true, true, false, false, false, false, false, false] rfl rfl (by kernel_rfl) (fun _ _ _ h => h) (Or.inl ⟨by rfl, ?_⟩) hHeld ?_ ?_
     rotate_left
     ·intro w' hS
      have s0 := hS _ _ yc0
      have s1 := hS _ _ yc1
      have s2 := hS _ _ xc0
      have s3 := hS _ _ xc1
      have s4 := hS _ _ lc2
      have s5 := hS _ _ hcz0
      clear hS
      go_simp
      with_reducible rfl
     rotate_left
     ·simp only [Act.put, sA, sZ, sS, i64_w, i32_w]
      rfl
     refine take_ (i := 10) (N := some 44) (v := ?_) (a' := ?_) #[true, true, true, true, true, true, true, true, true, true, true, true, false, true, false, false, false, false, true, true, true, true, true, false, false, false, true, true, true, true, false, true, true, true, true, true, false, false, false, false, false, false] rfl rfl (by kernel_rfl) (fun _ _ _ h => h) (Or.inl ⟨by rfl, ?_⟩) hHeld ?_ ?_
     rotate_left
     ·intro w' hS
      have s0 := hS _ _ yc0
      have s1 := hS _ _ yc1
      have s2 := hS _ _ xc0
      have s3 := hS _ _ xc1
      have s4 := hS _ _ lc2
      have s5 := hS _ _ hcz0
      clear hS
      go_simp
      with_reducible rfl
     rotate_left
     ·simp only [Act.put, sA, sZ, sS, i64_w, i32_w]
      rfl
     refine take_ (i := 12) (N := some 46) (v := ?_) (a' := ?_) #[true, true, true, true, true, true, true, true, true, true, true, true, true, true, false, false, false, false, true, true, true, true, true, false, false, false, true, true, true, true, false, true, true, true, true, true, false, false, false, false, false, false] rfl rfl (by kernel_rfl) (fun _ _ _ h => h) (Or.inl ⟨by rfl, ?_⟩) hHeld ?_ ?_
     rotate_left
     ·intro w' hS
      have s0 := hS _ _ yc0
      have s1 := hS _ _ yc1
      have s2 := hS _ _ xc0
      have s3 := hS _ _ xc1
      have s4 := hS _ _ lc2
      have s5 := hS _ _ hcz0
      clear hS
      go_simp
      with_reducible rfl
     rotate_left
     ·simp only [Act.put, sA, sZ, sS, i64_w, i32_w]
      rfl
     refine pure_ (i := 14) (N := some 48) (v := ?_) (a' := ?_) #[true, true, true, true, true, true, true, true, true, true, true, true, true, true, true, false, false, false, true, true, true, true, true, false, false, false, true, true, true, true, false, true, true, true, true, true, false, false, false, false, false, false] rfl rfl (by kernel_rfl) (fun _ _ _ h => h) (Or.inl ⟨by rfl, ?_⟩) ?_ ?_
     rotate_left
     ·intro w'
      go_simp
      with_reducible rfl
     rotate_left
     ·simp only [Act.put, sA, sZ, sS, i64_w, i32_w]
      rfl
     refine pure_ (i := 15) (N := some 49) (v := ?_) (a' := ?_) #[true, true, true, true, true, true, true, true, true, true, true, true, true, true, true, true, false, false, true, true, true, true, true, false, false, false, true, true, true, true, false, true, true, true, true, true, false, false, false, false, false, false] rfl rfl (by kernel_rfl) (fun _ _ _ h => h) (Or.inl ⟨by rfl, ?_⟩) ?_ ?_
     rotate_left
     ·intro w'
      go_simp
      with_reducible rfl
     rotate_left
     ·simp only [Act.put, sA, sZ, sS, i64_w, i32_w]
      rfl
     refine take_ (i := 16) (N := some 50) (v := ?_) (a' := ?_) #[true, true, true, true, true, true, true, true, true, true, true, true, true, true, true, true, true, false, true, true, true, true, true, false, false, false, true, true, true, true, false, true, true, true, true, true, false, false, false, false, false, false] rfl rfl (by kernel_rfl) (fun _ _ _ h => h) (Or.inl ⟨by rfl, ?_⟩) hHeld ?_ ?_
     rotate_left
     ·intro w' hS
      have s0 := hS _ _ yc0
      have s1 := hS _ _ yc1
      have s2 := hS _ _ xc0
      have s3 := hS _ _ xc1
      have s4 := hS _ _ lc2
      have s5 := hS _ _ hcz0
      clear hS
      go_simp
      with_reducible rfl
     rotate_left
     ·simp only [Act.put, sA, sZ, sS, i64_w, i32_w]
      rfl
     refine pure_ (i := 17) (N := some 51) (v := ?_) (a' := ?_) #[true, true, true, true, true, true, true, true, true, true, true, true, true, true, true, true, true, true, true, true, true, true, true, false, false, false, true, true, true, true, false, true, true, true, true, true, false, false, false, false, false, false] rfl rfl (by kernel_rfl) (fun _ _ _ h => h) (Or.inl ⟨by rfl, ?_⟩) ?_ ?_
     rotate_left
     ·intro w'
      go_simp
      with_reducible rfl
     rotate_left
     ·simp only [Act.put, sA, sZ, sS, i64_w, i32_w]
      rfl
     refine take_ (i := 23) (N := some 57) (v := ?_) (a' := ?_) #[true, true, true, true, true, true, true, true, true, true, true, true, true, true, true, true, true, true, true, true, true, true, true, true, false, false, true, true, true, true, false, true, true, true, true, true, false, false, false, false, false, false] rfl rfl (by kernel_rfl) (fun _ _ _ h => h) (Or.inl ⟨by rfl, ?_⟩) hHeld ?_ ?_
     rotate_left
     ·intro w' hS
      have s0 := hS _ _ yc0
      have s1 := hS _ _ yc1
      have s2 := hS _ _ xc0
      have s3 := hS _ _ xc1
      have s4 := hS _ _ lc2
      have s5 := hS _ _ hcz0
      clear hS
      go_simp
      with_reducible rfl
     rotate_left
     ·simp only [Act.put, sA, sZ, sS, i64_w, i32_w]
      rfl
     refine pure_ (i := 24) (N := some 58) (v := ?_) (a' := ?_) #[true, true, true, true, true, true, true, true, true, true, true, true, true, true, true, true, true, true, true, true, true, true, true, true, true, false, true, true, true, true, false, true, true, true, true, true, false, false, false, false, false, false] rfl rfl (by kernel_rfl) (fun _ _ _ h => h) (Or.inl ⟨by rfl, ?_⟩) ?_ ?_
     rotate_left
     ·intro w'
      go_simp
      with_reducible rfl
     rotate_left
     ·simp only [Act.put, sA, sZ, sS, i64_w, i32_w]
      rfl
     refine pure_ (i := 25) (N := some 59) (v := ?_) (a' := ?_) #[true, true, true, true, true, true, true, true, true, true, true, true, true, true, true, true, true, true, true, true, true, true, true, true, true, true, true, true, true, true, false, true, true, true, true, true, false, false, false, false, false, false] rfl rfl (by kernel_rfl) (fun _ _ _ h => h) (Or.inl ⟨by rfl, ?_⟩) ?_ ?_
     rotate_left
     ·intro w'
      go_simp
      with_reducible rfl
     rotate_left
     ·simp only [Act.put, sA, sZ, sS, i64_w, i32_w]
      rfl
     refine take_ (i := 30) (N := some 64) (v := ?_) (a' := ?_) #[true, true, true, true, true, true, true, true, true, true, true, true, true, true, true, true, true, true, true, true, true, true, true, true, true, true, true, true, true, true, true, true, true, true, true, true, false, false, false, false, false, false] rfl rfl (by kernel_rfl) (fun _ _ _ h => h) (Or.inl ⟨by rfl, ?_⟩) hHeld ?_ ?_
     rotate_left
     ·intro w' hS
      have s0 := hS _ _ yc0
      have s1 := hS _ _ yc1
      have s2 := hS _ _ xc0
      have s3 := hS _ _ xc1
      have s4 := hS _ _ lc2
      have s5 := hS _ _ hcz0
      clear hS
      go_simp
      with_reducible rfl
     rotate_left
     ·simp only [Act.put, sA, sZ, sS, i64_w, i32_w]
      rfl
     refine take_ (i := 36) (N := some 70) (v := ?_) (a' := ?_) #[true, true, true, true, true, true, true, true, true, true, true, true, true, true, true, true, true, true, true, true, true, true, true, true, true, true, true, true, true, true, true, true, true, true, true, true, true, false, false, false, false, false] rfl rfl (by kernel_rfl) (fun _ _ _ h => h) (Or.inl ⟨by rfl, ?_⟩) hHeld ?_ ?_
     rotate_left
     ·intro w' hS
      have s0 := hS _ _ yc0
      have s1 := hS _ _ yc1
      have s2 := hS _ _ xc0
      have s3 := hS _ _ xc1
      have s4 := hS _ _ lc2
      have s5 := hS _ _ hcz0
      clear hS
      go_simp
      with_reducible rfl
     rotate_left
     ·simp only [Act.put, sA, sZ, sS, i64_w, i32_w]
      rfl
     refine pure_ (i := 37) (N := some 71) (v := ?_) (a' := ?_) #[true, true, true, true, true, true, true, true, true, true, true, true, true, true, true, true, true, true, true, true, true, true, true, true, true, true, true, true, true, true, true, true, true, true, true, true, true, true, false, false, false, false] rfl rfl (by kernel_rfl) (fun _ _ _ h => h) (Or.inl ⟨by rfl, ?_⟩) ?_ ?_
     rotate_left
     ·intro w'
      go_simp
      with_reducible rfl
     rotate_left
     ·simp only [Act.put, sA, sZ, sS, i64_w, i32_w]
      rfl
     refine pure_ (i := 38) (N := some 72) (v := ?_) (a' := ?_) #[true, true, true, true, true, true, true, true, true, true, true, true, true, true, true, true, true, true, true, true, true, true, true, true, true, true, true, true, true, true, true, true, true, true, true, true, true, true, true, false, false, false] rfl rfl (by kernel_rfl) (fun _ _ _ h => h) (Or.inl ⟨by rfl, ?_⟩) ?_ ?_
     rotate_left
     ·intro w'
      go_simp
      with_reducible rfl
     rotate_left
     ·simp only [Act.put, sA, sZ, sS, i64_w, i32_w]
      rfl
     refine one_ (i := 39) (N := some 73) #[true, true, true, true, true, true, true, true, true, true, true, true, true, true, true, true, true, true, true, true, true, true, true, true, true, true, true, true, true, true, true, true, true, true, true, true, true, true, true, true, false, false] rfl rfl (by kernel_rfl) (by decide) (fun K hK => ?_)
     refine goes_ Try.func18 (by kernel_rfl) rfl #[.agg #[.int .i64 y.f0, .int .i64 y.f1], .int .i64 (wrap64 (wrap64 (x.f0 - p.f2) - wrap64 (hi' - y.f1))), .int .i64 (wrap64 (x.f1 - wrap64 (lo - y.f0)))] (by rfl) rfl rfl (by simp [Act.eval]; done) ?_
     refine (cut_calls y (wrap64 (wrap64 (x.f0 - p.f2) - wrap64 (hi' - y.f1))) (wrap64 (x.f1 - wrap64 (lo - y.f0))) _).mono ?_
     rintro e w4 ⟨rfl, hb⟩
     refine ⟨_, rfl, hK.out _ _ (Ext.of_below hHeld hb) (fun hHeld => ?_)⟩
     replace HD := Aside0.mk (HD.out.trans (hb.mono HD.out.size))
     clear hb hK K
     generalize cutV y (wrap64 (wrap64 (x.f0 - p.f2) - wrap64 (hi' - y.f1))) (wrap64 (x.f1 - wrap64 (lo - y.f0))) = z at HFS ⊢
     refine norm_ (a' := ?_) ?_ ?_
     rotate_left
     ·show Act.put _ (some 73) _ = _
      simp only [Act.put, sA, sZ, sS, i64_w, i32_w]
      rfl
     refine pure_ (i := 40) (N := some 74) (v := ?_) (a' := ?_) #[true, true, true, true, true, true, true, true, true, true, true, true, true, true, true, true, true, true, true, true, true, true, true, true, true, true, true, true, true, true, true, true, true, true, true, true, true, true, true, true, true, false] rfl rfl (by kernel_rfl) (fun _ _ _ h => h) (Or.inl ⟨by rfl, ?_⟩) ?_ ?_
     rotate_left
     ·intro w'
      go_simp
      with_reducible rfl
     rotate_left
     ·simp only [Act.put, sA, sZ, sS, i64_w, i32_w]
      rfl
     refine last_ (i := 41) (N := none) #[true, true, true, true, true, true, true, true, true, true, true, true, true, true, true, true, true, true, true, true, true, true, true, true, true, true, true, true, true, true, true, true, true, true, true, true, true, true, true, true, true, true] rfl rfl (by kernel_rfl) (by decide) (fun K hK => ?_)
     have c0 := hHeld _ _ yc0
     have c1 := hHeld _ _ yc1
     have f0 := (HD.out.frozen (p := ⟨g, q.toNat * 2, none⟩) (World.block_lt_of_cell? wr _ yc0)).trans yf0
     have f1 := (HD.out.frozen (p := ⟨g, q.toNat * 2 + 1, none⟩) (World.block_lt_of_cell? wr _ yc1)).trans yf1
     refine skip_ (w1 := ?_) (by rfl) rfl ?_ ?_
     rotate_left
     ·go_simp
      rfl
     refine hK.out _ _ ?_
     clear hK K c0 c1 f0 f1
     refine done_ (by kernel_rfl) ?_
     replace HX := Aside0.mk ((HD.out.block _ (blk_lt HX.out)).trans HX.out)
     have HGN := Aside0.mk (show g ≠ w.heap.size from fun e => by
      have h1 := (Kd.R_form HO.out (by have := HLEN2.out; omega))
      obtain ⟨g', c', he, _, hlt', cells, hc⟩ := h1
      injection he with e1 e2 e3
      injection e1 with e1
      injection e1 with e1
      subst e1
      have h2 := (HD.out.block _ hlt').trans hc
      rw [e, HX.out] at h2
      injection h2 with h2
      injection h2 with _ h2 _
      cases h2)
     replace HO := Aside0.mk (row_set (Kd.R_below HO.out HD.out) q q0 HQR.out z)
     replace HBW := Aside0.mk (show Below w0.heap.size w0 ((w4.setCell ⟨g, q.toNat * 2, none⟩ (.int .i64 z.f0)).setCell ⟨g, q.toNat * 2 + 1, none⟩ (.int .i64 z.f1)) from below_set (below_set (HBW.out.trans (HD.out.mono HBW.out.size)) HG.out) HG.out)
     replace HK := Aside0.mk (((HK.out.below HD.out).setCell (p := ⟨g, q.toNat * 2, none⟩) (.inl rfl) (.int .i64 z.f0)).setCell (p := ⟨g, q.toNat * 2 + 1, none⟩) (.inl rfl) (.int .i64 z.f1))
     replace HX := Aside0.mk (((Below.heap_setCell _ ⟨g, q.toNat * 2 + 1, none⟩ (.int .i64 z.f1) w.heap.size HGN.out.symm).trans (Below.heap_setCell w4 ⟨g, q.toNat * 2, none⟩ (.int .i64 z.f0) w.heap.size HGN.out.symm)).trans HX.out)
     generalize (w4.setCell ⟨g, q.toNat * 2, none⟩ (.int .i64 z.f0)).setCell ⟨g, q.toNat * 2 + 1, none⟩ (.int .i64 z.f1) = w5 at HO HBW HK HX ⊢
     clear yc0 yc1 xc0 xc1 lc2 hcz0 hHeld HGN hq0 yf0 yf1
     go_wp2
     go_roundg (ks.length - (j + 1))
     case measure => omega
     case rel => exact ⟨j + 1, by omega, by omega, by go_num, ⟨by rw [HFS.out]; exact HO.out⟩, HBW, HK, HX⟩
    ·have hji : ¬ (j : Int) < (ks.length : Int) := by omega
     obtain rfl : j = ks.length := by omega
     replace HO : Aside0 (Kd.R k56 56 wr base (fun k => k = g) (.slice Ar nl cr) (downTo ls kids rs (k + 1))) := ⟨by have h := HO.out; rw [List.take_length, ← HSUC.out] at h; exact h⟩
     go_wp2
     go_roundg (nl - (k + 1))
     case measure => omega
     case rel => exact ⟨k + 1, by omega, by omega, by go_num, HO, HBW, HK, HX⟩
  ·have hi : ¬ (k : Int) < (nl : Int) := by omega
   obtain rfl : k = nl := by omega
   go_wp2
   first | go_end0 | go_ret
   exact ⟨rfl, HO.out, HK.out, HBW.out⟩
end
section
-- The contract of flow's up: every interval cut to what the pipes below allow.
attribute [local go_sem] max2_int min2_int
attribute [local go_sem] Oper.semAt_some
set_option linter.unusedVariables false
set_option linter.unusedSimpArgs false
def upStep (ls : List S28) (kids : List (List Int)) (rs : List S56) (i : Nat) : List S56 :=
 if 0 < (pickL rs (kidsOf kids i)).length then rs.set i (cutV (rd_T56 rs i) (tot S56.f0 (pickL rs (kidsOf kids i))) (wrap64 (tot S56.f1 (pickL rs (kidsOf kids i)) + (rd_T28 ls i).f2))) else rs
def upAll (ls : List S28) (kids : List (List Int)) (rs : List S56) (is : List Nat) : List S56 := is.foldl (upStep ls kids) rs
theorem upAll_snoc (ls : List S28) (kids : List (List Int)) (rs : List S56) (is : List Nat) (i : Nat) : upAll ls kids rs (is ++ [i]) = upStep ls kids (upAll ls kids rs is) i := by simp [upAll]
theorem upStep_length (ls : List S28) (kids : List (List Int)) (rs : List S56) (i : Nat) : (upStep ls kids rs i).length = rs.length := by unfold upStep; split <;> simp
theorem upAll_length (ls : List S28) (kids : List (List Int)) (is : List Nat) : ∀ rs, (upAll ls kids rs is).length = rs.length := by
 induction is with
 | nil => exact fun _ => rfl
 | cons i is ih => intro rs; exact (ih _).trans (upStep_length _ _ _ _)
/-- What lies below B stays where a block at or beyond B is turned. -/
theorem grown_low {W W' : World} {row : Option Nat} {B : Nat} (hg : W.grownBy W' row) (hr : ∀ r, row = some r → B ≤ r) (k : Nat) (hk : k < B) (hl : k < W.heap.size) : W'.heap[k]? = W.heap[k]? :=
 hg.block k hl (fun e => by have := hr k e.symm; omega)
theorem cell_low {W W' : World} {row : Option Nat} {B : Nat} (hg : W.grownBy W' row) (hr : ∀ r, row = some r → B ≤ r) {a : Addr} {v : Value} (h : W.cell? a = some v) (hb : a.block < B) : W'.cell? a = some v := by
 have := grown_low hg hr a.block hb (World.block_lt_of_cell? W a h)
 simpa [World.cell?, this] using h
theorem kept_low {w W W' : World} {row : Option Nat} {B : Nat} {S : Nat → Prop} (h : Kept w W S) (hg : W.grownBy W' row) (hr : ∀ r, row = some r → B ≤ r) (hB : w.heap.size ≤ B) : Kept w W' S :=
 Kept.of_grown hg h (fun k e => .inr (Nat.le_trans hB (hr k e)))
theorem below_low {w W W' : World} {row : Option Nat} {B : Nat} (h : Below w.heap.size w W) (hg : W.grownBy W' row) (hr : ∀ r, row = some r → B ≤ r) (hB : w.heap.size ≤ B) : Below w.heap.size w W' :=
 h.grown hg h.size (fun k e => Nat.le_trans hB (hr k e))
theorem keepsFrom_of_kept {B g : Nat} {W W' : World} (h : Kept W W' (fun k => k = g)) (hg : g < B) : KeepsFrom B W W' :=
 ⟨h.1, fun k o hB hk _ => (h.2 k (Array.getElem?_eq_some_iff.1 hk).1 (by omega)).trans hk⟩
theorem grownBy_put {W : World} (l : Nat) (o : Obj) : W.grownBy (W.putObj l o) (some l) := grownBy_putObj' W l o
/-- What holds between two rounds of up. -/
structure UpI (base g : Nat) (Al Ak Ar : Option Addr) (nl cl ck cr : Nat) (ls : List S28) (kids : List (List Int)) (rs : List S56) (w0 w : World) (is : List Nat) (W : World) : Prop where
 row : Kd.R k56 56 W base (fun k => k = g) (.slice Ar nl cr) (upAll ls kids rs is)
 below : Below w0.heap.size w0 W
 kept : Kept w W (fun k => k = g)
 boxn : W.heap[w.heap.size]? = some (.cells #[.slice Al nl cl, .slice Ak nl ck] 49)
 boxr : W.heap[w.heap.size + 1]? = some (.cells #[.slice Ar nl cr] 53)
 boxl : W.heap[w.heap.size + 1 + 1]? = some (.cells #[.slice Al nl cl] 22)
 w0le : w0.heap.size ≤ w.heap.size
theorem UpI.next {base g : Nat} {Al Ak Ar : Option Addr} {nl cl ck cr : Nat} {ls : List S28} {kids : List (List Int)} {rs : List S56} {w0 w : World} {is : List Nat} {i : Nat} {W W' : World}
  (h : UpI base g Al Ak Ar nl cl ck cr ls kids rs w0 w is W) (hk : Kept W W' (fun k => k = g)) (hb : Below w0.heap.size w0 W') (hr : Kd.R k56 56 W' base (fun k => k = g) (.slice Ar nl cr) (upAll ls kids rs (is ++ [i]))) (hgw : g < w.heap.size) :
  UpI base g Al Ak Ar nl cl ck cr ls kids rs w0 w (is ++ [i]) W' :=
 ⟨hr, hb, h.kept.then_ hk (fun _ e => .inl e), blk_kept h.boxn hk (by omega), blk_kept h.boxr hk (by omega), blk_kept h.boxl hk (by omega), h.w0le⟩
theorem UpI.low {base g : Nat} {Al Ak Ar : Option Addr} {nl cl ck cr : Nat} {ls : List S28} {kids : List (List Int)} {rs : List S56} {w0 w : World} {is : List Nat} {W W' : World} {row : Option Nat} {B : Nat}
  (h : UpI base g Al Ak Ar nl cl ck cr ls kids rs w0 w is W) (hg : W.grownBy W' row) (hr : ∀ r, row = some r → B ≤ r) (hgw : g < w.heap.size) (hB : w.heap.size + 3 ≤ B) : UpI base g Al Ak Ar nl cl ck cr ls kids rs w0 w is W' :=
 ⟨Kd.R_step h.row (fun k hk hl => grown_low hg hr k (by omega) hl), h.below.grown hg h.below.size (fun k e => by have := hr k e; have := h.kept.1; have := h.w0le; omega), kept_low h.kept hg hr (by omega),
  (grown_low hg hr _ (by omega) (blk_lt h.boxn)).trans h.boxn, (grown_low hg hr _ (by omega) (blk_lt h.boxr)).trans h.boxr, (grown_low hg hr _ (by omega) (blk_lt h.boxl)).trans h.boxl, h.w0le⟩
set_option maxHeartbeats 8000000 in
set_option maxRecDepth 100000 in
theorem up_calls (base g : Nat) (Al : Option Addr) (cl : Nat) (ls : List S28) (Ak : Option Addr) (ck : Nat) (kids : List (List Int)) (Ar : Option Addr) (cr : Nat) (rs : List S56) (nl : Nat) (w0 w : World)
  (hl : Kd.C k28 w0 Al nl ls) (hk : Kd.C kKids w0 Ak nl kids) (hB : Below w0.heap.size w0 w) (hg : w0.heap.size ≤ g) (hgw : g < w.heap.size) (hr : Kd.R k56 56 w base (fun k => k = g) (.slice Ar nl cr) rs)
  (hin : ∀ i : Nat, ∀ k ∈ kidsOf kids i, 0 ≤ k ∧ k < nl) (hm : ∀ i : Nat, (kidsOf kids i).length ≤ 1000000) :
  Calls Try.prog 27 #[.agg #[.slice Al nl cl, .slice Ak nl ck], .slice Ar nl cr] w fun e w' =>
   e = .returned (.tuple #[]) ∧ Kd.R k56 56 w' base (fun k => k = g) (.slice Ar nl cr) (upAll ls kids rs (dn nl nl)) ∧ Kept w w' (fun k => k = g) ∧ Below w0.heap.size w0 w' := by
 have HL := Aside0.mk hl
 have HKD := Aside0.mk hk
 have HIN := Aside0.mk hin
 have HM := Aside0.mk hm
 have HG := Aside0.mk hg
 have HGW := Aside0.mk hgw
 have hmax := hl.2.1
 have HNL := Aside0.mk hl.1
 have HNK := Aside0.mk hk.1
 have HN := Aside0.mk (Kd.R_reads' hr).1
 have hu49 := Try.underlying49
 have hu56 := Try.underlying56
 have hu28 := Try.underlying28
 have HI0 : Aside0 (UpI base g Al Ak Ar nl cl ck cr ls kids rs w0 w [] (((w.alloc (.cells #[.slice Al nl cl, .slice Ak nl ck] 49)).alloc (.cells #[.slice Ar nl cr] 53)).alloc (.cells #[.slice Al nl cl] 22))) := ⟨by
  have e1 := heap_alloc_new w (.cells #[.slice Al nl cl, .slice Ak nl ck] 49)
  have e2 := heap_alloc_new (w.alloc (.cells #[.slice Al nl cl, .slice Ak nl ck] 49)) (.cells #[.slice Ar nl cr] 53)
  have e3 := heap_alloc_new ((w.alloc (.cells #[.slice Al nl cl, .slice Ak nl ck] 49)).alloc (.cells #[.slice Ar nl cr] 53)) (.cells #[.slice Al nl cl] 22)
  rw [World.size_alloc] at e2
  rw [World.size_alloc, World.size_alloc] at e3
  exact ⟨Kd.R_alloc (Kd.R_alloc (Kd.R_alloc hr _) _) _, ((hB.alloc hB.size _).alloc (by have := hB.size; simp; omega) _).alloc (by have := hB.size; simp; omega) _, (((Kept.refl _ _).alloc _).alloc _).alloc _, blk_alloc (blk_alloc e1 _) _, blk_alloc e2 _, e3, hB.size⟩⟩
 clear hl hk hr hin hm hg hgw hB
 refine (callsIn_wide (n := 3)).1 (callsIn_of_wp_marks Try.func27 rfl trivial ?_ rfl)
 simp only [Try.ntmps27, List.size_toArray, List.length_cons, List.length_nil, Nat.reduceAdd, Nat.reduceSub, Array.replicate_succ, Array.replicate_zero, List.push_toArray, List.append_toArray, List.nil_append, List.cons_append]
 gi_wp2_with fail
 refine ⟨trivial, callsIn_wide.2 ((back40_calls Al nl cl _).mono ?_)⟩
 rintro e w' ⟨rfl, rfl⟩
 obtain ⟨wl, hwl⟩ : ∃ wl, (((w.alloc (.cells #[.slice Al nl cl, .slice Ak nl ck] 49)).alloc (.cells #[.slice Ar nl cr] 53)).alloc (.cells #[.slice Al nl cl] 22)) = wl := ⟨_, rfl⟩
 have hsz : wl.heap.size = w.heap.size + 3 := by rw [← hwl]; simp
 have hb0 : Below wl.heap.size wl wl := Below.refl _ _
 rw [hwl] at HI0
 simp only [World.size_alloc] at hwl ⊢
 rw [hwl]
 have HSZ := Aside0.mk hsz
 clear hwl hsz
 gi_wp2_with fail
 have h0 := HI0.out
 have hbn := h0.boxn
 refine wpIn_rangeFunc_ownG rfl (by omega) (gf := 50) (lb := #[.pointer (some ⟨w.heap.size + 1 + 1, 0, none⟩)]) rfl trivial (enters_ Try.func50 (by kernel_rfl) rfl)
  (back50_stops 2 (w.heap.size + 1 + 1) Al nl cl hmax (fun W => W.cell? ⟨w.heap.size + 1 + 1, 0, none⟩ = some (.slice Al nl cl) ∧ Below w0.heap.size w0 W) wl
   (fun W hW => ⟨hW.1, ls, Kd.C_below HL.out hW.2⟩)
   (fun W hW => ⟨(hW.cell (p := ⟨w.heap.size + 1 + 1, 0, none⟩) (by have := HSZ.out; simp; omega)).trans ((blk_cell h0.boxl 0).trans rfl), h0.below.trans (hW.mono h0.below.size)⟩))
  (fun h k hw => k (h hw))
  (fun W l o o' hl ho hc _ hW => ⟨cell_low (grownBy_put l o') (fun r e => by cases e; exact hl) hW.1 (by have := HSZ.out; simp; omega), below_low hW.2 (grownBy_put l o') (fun r e => by cases e; exact hl) (by have := HSZ.out; have := h0.w0le; omega)⟩)
  hb0 (fun _ => rfl)
  (fun pre W => UpI base g Al Ak Ar nl cl ck cr ls kids rs w0 w (pre.map (·.1.1)) W) (fun _ _ _ => False)
  (by intro s X Y row hs hgr hrow; exact UpI.low hs hgr (fun r e => (hrow r e).1) HGW.out (by have := HSZ.out; omega))
  (fun _ _ _ _ _ h => h.elim) h0
  (fun x => { tmps := #[.agg #[.slice Al nl cl, .slice Ak nl ck], .slice Ar nl cr, .pointer (some ⟨w.heap.size, 0, none⟩), .pointer (some ⟨w.heap.size + 1, 0, none⟩), .int .i64 (x.1.1 : Int), undef, .pointer (some ⟨w.heap.size, 0, none⟩), .slice Al nl cl, .func (.func 50) #[] #[.pointer (some ⟨w.heap.size + 1 + 1, 0, none⟩)], .int .i64 (x.1.1 : Int), .agg #[.int .i64 x.1.2.f0, .int .i64 x.1.2.f1, .int .i64 x.1.2.f2], undef, undef, undef, undef, undef, undef, undef, undef, undef, undef, undef, undef, undef, undef, undef, undef, undef, undef, undef, undef, undef, undef, undef, undef, undef, undef], defers := [] }) ?assign ?body ?done ?stop
 case assign =>
  intro l x W K hK
  gi_wp2
  exact hK
 case body =>
  clear hbn h0
  intro l pre x W hI hlt
  obtain ⟨⟨i, pp⟩, hi⟩ := x
  simp only at hi
  have HUA := Aside0.mk (show UpI base g Al Ak Ar nl cl ck cr ls kids rs w0 w (pre.map (·.1.1)) W from hI)
  clear hI
  have ex : (pre ++ [(⟨(i, pp), hi⟩ : { x : Nat × S28 // x.1 < nl })]).map (·.1.1) = pre.map (·.1.1) ++ [i] := by simp
  have HEX := Aside0.mk (fun W' (h : UpI base g Al Ak Ar nl cl ck cr ls kids rs w0 w (pre.map (·.1.1) ++ [i]) W') => (show UpI base g Al Ak Ar nl cl ck cr ls kids rs w0 w ((pre ++ [(⟨(i, pp), hi⟩ : { x : Nat × S28 // x.1 < nl })]).map (·.1.1)) W' by rw [ex]; exact h))
  clear ex
  have HLEN := Aside0.mk ((upAll_length ls kids (pre.map (·.1.1)) rs).trans HN.out.symm)
  have HSUC := Aside0.mk (upAll_snoc ls kids rs (pre.map (·.1.1)) i)
  have HO := Aside0.mk HUA.out.row
  generalize upAll ls kids rs (pre.map (·.1.1)) = r0 at HO HLEN HSUC
  have hii : (i : Int) < (nl : Int) := by omega
  have hcz0 : W.cell? ⟨w.heap.size, 0, none⟩ = some (.slice Al nl cl) := (blk_cell HUA.out.boxn 0).trans rfl
  have hcz1 : W.cell? ⟨w.heap.size, 1, none⟩ = some (.slice Ak nl ck) := (blk_cell HUA.out.boxn 1).trans rfl
  have hcz2 : W.cell? ⟨w.heap.size + 1, 0, none⟩ = some (.slice Ar nl cr) := (blk_cell HUA.out.boxr 0).trans rfl
  have HBL := Aside0.mk (below_calls Al nl cl Ak ck kids Ar cr r0 (i : Int) W (by rw [HNK.out]; exact (Kd.C_below HKD.out HUA.out.below)) (read_of_row HO.out) (by omega) (by rw [HNK.out]; omega) (by rw [HLEN.out]; exact HIN.out i) (HM.out i))
  rw [HNK.out, HLEN.out] at HBL
  gi_wp2_with fail
  refine ⟨trivial, CallsIn.inRound l (callsIn_wide.2 (HBL.out.mono ?_))⟩
  rintro e w1 ⟨v, rfl, hv, hb⟩
  clear HBL
  obtain ⟨Ab, cb, rfl, _, hvC⟩ := Kd.R_reads hv
  replace HO := Aside0.mk (Kd.R_below HO.out hb)
  have HBW := Aside0.mk hb
  replace hcz0 := (hb.cell (World.block_lt_of_cell? _ _ hcz0)).trans hcz0
  replace hcz1 := (hb.cell (World.block_lt_of_cell? _ _ hcz1)).trans hcz1
  replace hcz2 := (hb.cell (World.block_lt_of_cell? _ _ hcz2)).trans hcz2
  have HV := Aside0.mk hvC
  clear hv hvC hb
  obtain ⟨ps, hps⟩ : ∃ ps, pickL r0 (kidsOf kids (i : Int)) = ps := ⟨_, rfl⟩
  rw [hps] at HV ⊢
  have HST : Aside0 (upStep ls kids r0 i = if 0 < ps.length then r0.set i (cutV (rd_T56 r0 i) (tot S56.f0 ps) (wrap64 (tot S56.f1 ps + (rd_T28 ls i).f2))) else r0) := ⟨by unfold upStep; rw [hps]⟩
  clear hps
  by_cases hp : 0 < ps.length
  ·rw [if_pos hp] at HST
   have hpi : (0 : Int) < (ps.length : Int) := by omega
   have ear := row_form HO.out (by have := HLEN.out; omega)
   subst ear
   have hir : (i : Int) < (r0.length : Int) := by rw [HLEN.out]; exact hii
   have HIR := Aside0.mk hir
   obtain ⟨xc0, xc1, xf0, xf1⟩ := row_at HO.out (i : Int) (by omega) hir
   simp only [Int.toNat_natCast] at xc0 xc1 xf0 xf1
   obtain ⟨adl, e0, lc0, lc1, lc2⟩ := at_T28 HL.out (i : Int) (by omega) hii
   cases e0
   clear lc0 lc1 hir
   simp only [Int.toNat_natCast] at lc2
   replace lc2 := ((HUA.out.below.trans (HBW.out.mono HUA.out.below.size)).cell (World.block_lt_of_cell? w0 _ lc2)).trans lc2
   generalize rd_T56 r0 (i : Int) = x at xc0 xc1 HST
   generalize rd_T28 ls (i : Int) = p at lc2 HST
   have HXF := Aside0.mk (And.intro xf0 xf1)
   clear xf0 xf1
   gi_wp2
   refine region_round (by kernel_rfl) (by kernel_rfl) (fun _ _ h => False.elim h) (wpAny_of_last (S := Ext w1) (ds := [19]) _ _ _ _ ?_)
   have hHeld : Ext w1 w1.drew := fun _ _ h => h
   have HD := Aside0.mk (show Below w1.heap.size w1 w1.drew from (Below.refl _ _).drew)
   generalize w1.drew = wa at HD hHeld ⊢
   show wpAnyLast _ _ _ _ _ _ 20 #[false, false, false, false, false, false, false, false, false, false, false, false, false, false, false, false, false, false, false, false] _ _
   refine pure_ (i := 1) (N := some 19) (v := ?_) (a' := ?_) #[false, true, false, false, false, false, false, false, false, false, false, false, false, false, false, false, false, false, false, false] rfl rfl (by kernel_rfl) (fun _ _ _ h => h) (Or.inl ⟨by rfl, ?_⟩) ?_ ?_
   rotate_left
   ·intro w'
    go_simp
    with_reducible rfl
   rotate_left
   ·simp only [Act.put, sA, sZ, sS, i64_w, i32_w]
    rfl
   refine pure_ (i := 3) (N := some 21) (v := ?_) (a' := ?_) #[false, true, false, true, false, false, false, false, false, false, false, false, false, false, false, false, false, false, false, false] rfl rfl (by kernel_rfl) (fun _ _ _ h => h) (Or.inl ⟨by rfl, ?_⟩) ?_ ?_
   rotate_left
   ·intro w'
    go_simp
    with_reducible rfl
   rotate_left
   ·simp only [Act.put, sA, sZ, sS, i64_w, i32_w]
    rfl
   refine pure_ (i := 6) (N := some 24) (v := ?_) (a' := ?_) #[false, true, false, true, false, false, true, false, false, false, false, false, false, false, false, false, false, false, false, false] rfl rfl (by kernel_rfl) (fun _ _ _ h => h) (Or.inl ⟨by rfl, ?_⟩) ?_ ?_
   rotate_left
   ·intro w'
    go_simp
    with_reducible rfl
   rotate_left
   ·simp only [Act.put, sA, sZ, sS, i64_w, i32_w]
    rfl
   refine pure_ (i := 8) (N := some 26) (v := ?_) (a' := ?_) #[false, true, false, true, false, false, true, false, true, false, false, false, false, false, false, false, false, false, false, false] rfl rfl (by kernel_rfl) (fun _ _ _ h => h) (Or.inl ⟨by rfl, ?_⟩) ?_ ?_
   rotate_left
   ·intro w'
    go_simp
    with_reducible rfl
   rotate_left
   ·simp only [Act.put, sA, sZ, sS, i64_w, i32_w]
    rfl
   refine pure_ (i := 10) (N := some 28) (v := ?_) (a' := ?_) #[false, true, false, true, false, false, true, false, true, false, true, false, false, false, false, false, false, false, false, false] rfl rfl (by kernel_rfl) (fun _ _ _ h => h) (Or.inl ⟨by rfl, ?_⟩) ?_ ?_
   rotate_left
   ·intro w'
    go_simp
    with_reducible rfl
   rotate_left
   ·simp only [Act.put, sA, sZ, sS, i64_w, i32_w]
    rfl
   refine pure_ (i := 12) (N := some 30) (v := ?_) (a' := ?_) #[false, true, false, true, false, false, true, false, true, false, true, false, true, false, false, false, false, false, false, false] rfl rfl (by kernel_rfl) (fun _ _ _ h => h) (Or.inl ⟨by rfl, ?_⟩) ?_ ?_
   rotate_left
   ·intro w'
    go_simp
    with_reducible rfl
   rotate_left
   ·simp only [Act.put, sA, sZ, sS, i64_w, i32_w]
    rfl
   refine take_ (i := 0) (N := some 18) (v := ?_) (a' := ?_) #[true, true, false, true, false, false, true, false, true, false, true, false, true, false, false, false, false, false, false, false] rfl rfl (by kernel_rfl) (fun _ _ _ h => h) (Or.inl ⟨by rfl, ?_⟩) hHeld ?_ ?_
   rotate_left
   ·intro w' hS
    have s0 := hS _ _ xc0
    have s1 := hS _ _ xc1
    have s2 := hS _ _ lc2
    have s3 := hS _ _ hcz0
    have s4 := hS _ _ hcz2
    clear hS
    go_simp
    with_reducible rfl
   rotate_left
   ·simp only [Act.put, sA, sZ, sS, i64_w, i32_w]
    rfl
   refine take_ (i := 2) (N := some 20) (v := ?_) (a' := ?_) #[true, true, true, true, false, false, true, false, true, false, true, false, true, false, false, false, false, false, false, false] rfl rfl (by kernel_rfl) (fun _ _ _ h => h) (Or.inl ⟨by rfl, ?_⟩) hHeld ?_ ?_
   rotate_left
   ·intro w' hS
    have s0 := hS _ _ xc0
    have s1 := hS _ _ xc1
    have s2 := hS _ _ lc2
    have s3 := hS _ _ hcz0
    have s4 := hS _ _ hcz2
    clear hS
    go_simp
    with_reducible rfl
   rotate_left
   ·simp only [Act.put, sA, sZ, sS, i64_w, i32_w]
    rfl
   refine pure_ (i := 4) (N := some 22) (v := ?_) (a' := ?_) #[true, true, true, true, true, false, true, false, true, false, true, false, true, false, false, false, false, false, false, false] rfl rfl (by kernel_rfl) (fun _ _ _ h => h) (Or.inl ⟨by rfl, ?_⟩) ?_ ?_
   rotate_left
   ·intro w'
    go_simp
    with_reducible rfl
   rotate_left
   ·simp only [Act.put, sA, sZ, sS, i64_w, i32_w]
    rfl
   refine take_ (i := 5) (N := some 23) (v := ?_) (a' := ?_) #[true, true, true, true, true, true, true, false, true, false, true, false, true, false, false, false, false, false, false, false] rfl rfl (by kernel_rfl) (fun _ _ _ h => h) (Or.inl ⟨by rfl, ?_⟩) hHeld ?_ ?_
   rotate_left
   ·intro w' hS
    have s0 := hS _ _ xc0
    have s1 := hS _ _ xc1
    have s2 := hS _ _ lc2
    have s3 := hS _ _ hcz0
    have s4 := hS _ _ hcz2
    clear hS
    go_simp
    with_reducible rfl
   rotate_left
   ·simp only [Act.put, sA, sZ, sS, i64_w, i32_w]
    rfl
   refine take_ (i := 11) (N := some 29) (v := ?_) (a' := ?_) #[true, true, true, true, true, true, true, false, true, false, true, true, true, false, false, false, false, false, false, false] rfl rfl (by kernel_rfl) (fun _ _ _ h => h) (Or.inl ⟨by rfl, ?_⟩) hHeld ?_ ?_
   rotate_left
   ·intro w' hS
    have s0 := hS _ _ xc0
    have s1 := hS _ _ xc1
    have s2 := hS _ _ lc2
    have s3 := hS _ _ hcz0
    have s4 := hS _ _ hcz2
    clear hS
    go_simp
    with_reducible rfl
   rotate_left
   ·simp only [Act.put, sA, sZ, sS, i64_w, i32_w]
    rfl
   refine pure_ (i := 13) (N := some 31) (v := ?_) (a' := ?_) #[true, true, true, true, true, true, true, false, true, false, true, true, true, true, false, false, false, false, false, false] rfl rfl (by kernel_rfl) (fun _ _ _ h => h) (Or.inl ⟨by rfl, ?_⟩) ?_ ?_
   rotate_left
   ·intro w'
    go_simp
    with_reducible rfl
   rotate_left
   ·simp only [Act.put, sA, sZ, sS, i64_w, i32_w]
    rfl
   refine pure_ (i := 14) (N := some 32) (v := ?_) (a' := ?_) #[true, true, true, true, true, true, true, false, true, false, true, true, true, true, true, false, false, false, false, false] rfl rfl (by kernel_rfl) (fun _ _ _ h => h) (Or.inl ⟨by rfl, ?_⟩) ?_ ?_
   rotate_left
   ·intro w'
    go_simp
    with_reducible rfl
   rotate_left
   ·simp only [Act.put, sA, sZ, sS, i64_w, i32_w]
    rfl
   refine take_ (i := 15) (N := some 33) (v := ?_) (a' := ?_) #[true, true, true, true, true, true, true, false, true, false, true, true, true, true, true, true, false, false, false, false] rfl rfl (by kernel_rfl) (fun _ _ _ h => h) (Or.inl ⟨by rfl, ?_⟩) hHeld ?_ ?_
   rotate_left
   ·intro w' hS
    have s0 := hS _ _ xc0
    have s1 := hS _ _ xc1
    have s2 := hS _ _ lc2
    have s3 := hS _ _ hcz0
    have s4 := hS _ _ hcz2
    clear hS
    go_simp
    with_reducible rfl
   rotate_left
   ·simp only [Act.put, sA, sZ, sS, i64_w, i32_w]
    rfl
   refine one_ (i := 7) (N := some 25) #[true, true, true, true, true, true, true, true, true, false, true, true, true, true, true, true, false, false, false, false] rfl rfl (by kernel_rfl) (by decide) (fun K hK => ?_)
   refine call_ 42 #[.slice Ab ps.length cb, .func (.func 43) #[] #[]] (by rfl) rfl (by first | (go_simp; done) | (go_simp; rfl)) ?_
   refine (total_calls 43 S56.f0 (enters_ Try.func43 (by kernel_rfl) rfl) low_calls Ab cb ps _ (Kd.C_below HV.out HD.out)).mono ?_
   rintro e w4 ⟨rfl, hb⟩
   refine ⟨_, rfl, hK.out _ _ (Ext.of_below hHeld hb) (fun hHeld => ?_)⟩
   replace HD := Aside0.mk (HD.out.trans (hb.mono HD.out.size))
   clear hb hK K
   refine norm_ (a' := ?_) ?_ ?_
   rotate_left
   ·show Act.put _ (some 25) _ = _
    simp only [Act.put, sA, sZ, sS, i64_w, i32_w]
    rfl
   refine one_ (i := 9) (N := some 27) #[true, true, true, true, true, true, true, true, true, true, true, true, true, true, true, true, false, false, false, false] rfl rfl (by kernel_rfl) (by decide) (fun K hK => ?_)
   refine call_ 42 #[.slice Ab ps.length cb, .func (.func 44) #[] #[]] (by rfl) rfl (by first | (go_simp; done) | (go_simp; rfl)) ?_
   refine (total_calls 44 S56.f1 (enters_ Try.func44 (by kernel_rfl) rfl) high_calls Ab cb ps _ (Kd.C_below HV.out HD.out)).mono ?_
   rintro e w5 ⟨rfl, hb⟩
   refine ⟨_, rfl, hK.out _ _ (Ext.of_below hHeld hb) (fun hHeld => ?_)⟩
   replace HD := Aside0.mk (HD.out.trans (hb.mono HD.out.size))
   clear hb hK K
   refine norm_ (a' := ?_) ?_ ?_
   rotate_left
   ·show Act.put _ (some 27) _ = _
    simp only [Act.put, sA, sZ, sS, i64_w, i32_w]
    rfl
   refine pure_ (i := 16) (N := some 34) (v := ?_) (a' := ?_) #[true, true, true, true, true, true, true, true, true, true, true, true, true, true, true, true, true, false, false, false] rfl rfl (by kernel_rfl) (fun _ _ _ h => h) (Or.inl ⟨by rfl, ?_⟩) ?_ ?_
   rotate_left
   ·intro w'
    go_simp
    with_reducible rfl
   rotate_left
   ·simp only [Act.put, sA, sZ, sS, i64_w, i32_w]
    rfl
   refine one_ (i := 17) (N := some 35) #[true, true, true, true, true, true, true, true, true, true, true, true, true, true, true, true, true, true, false, false] rfl rfl (by kernel_rfl) (by decide) (fun K hK => ?_)
   refine goes_ Try.func18 (by kernel_rfl) rfl #[.agg #[.int .i64 x.f0, .int .i64 x.f1], .int .i64 (tot S56.f0 ps), .int .i64 (wrap64 (tot S56.f1 ps + p.f2))] (by rfl) rfl rfl (by simp [Act.eval]; done) ?_
   refine (cut_calls x (tot S56.f0 ps) (wrap64 (tot S56.f1 ps + p.f2)) _).mono ?_
   rintro e w6 ⟨rfl, hb⟩
   refine ⟨_, rfl, hK.out _ _ (Ext.of_below hHeld hb) (fun hHeld => ?_)⟩
   replace HD := Aside0.mk (HD.out.trans (hb.mono HD.out.size))
   clear hb hK K
   generalize cutV x (tot S56.f0 ps) (wrap64 (tot S56.f1 ps + p.f2)) = z at HST ⊢
   refine norm_ (a' := ?_) ?_ ?_
   rotate_left
   ·show Act.put _ (some 35) _ = _
    simp only [Act.put, sA, sZ, sS, i64_w, i32_w]
    rfl
   refine pure_ (i := 18) (N := some 36) (v := ?_) (a' := ?_) #[true, true, true, true, true, true, true, true, true, true, true, true, true, true, true, true, true, true, true, false] rfl rfl (by kernel_rfl) (fun _ _ _ h => h) (Or.inl ⟨by rfl, ?_⟩) ?_ ?_
   rotate_left
   ·intro w'
    go_simp
    with_reducible rfl
   rotate_left
   ·simp only [Act.put, sA, sZ, sS, i64_w, i32_w]
    rfl
   refine last_ (i := 19) (N := none) #[true, true, true, true, true, true, true, true, true, true, true, true, true, true, true, true, true, true, true, true] rfl rfl (by kernel_rfl) (by decide) (fun K hK => ?_)
   have c0 := hHeld _ _ xc0
   have c1 := hHeld _ _ xc1
   have f0 := (HD.out.frozen (p := ⟨g, i * 2, none⟩) (World.block_lt_of_cell? w1 _ xc0)).trans HXF.out.1
   have f1 := (HD.out.frozen (p := ⟨g, i * 2 + 1, none⟩) (World.block_lt_of_cell? w1 _ xc1)).trans HXF.out.2
   refine skip_ (w1 := ?_) (by rfl) rfl ?_ ?_
   rotate_left
   ·go_simp
    rfl
   refine hK.out _ _ ?_
   clear hK K c0 c1 f0 f1
   refine done_ (by kernel_rfl) ?_
   replace HO := Aside0.mk (row_set (Kd.R_below HO.out HD.out) (i : Int) (by omega) HIR.out z)
   have HBN := Aside0.mk (show Below w0.heap.size w0 ((w6.setCell ⟨g, i * 2, none⟩ (.int .i64 z.f0)).setCell ⟨g, i * 2 + 1, none⟩ (.int .i64 z.f1)) from below_set (below_set ((HUA.out.below.trans (HBW.out.mono HUA.out.below.size)).trans (HD.out.mono (Nat.le_trans HUA.out.below.size HBW.out.size))) HG.out) HG.out)
   have HKN := Aside0.mk (((((Kept.of_below HBW.out (fun k => k = g))).below HD.out).setCell (p := ⟨g, i * 2, none⟩) (.inl rfl) (.int .i64 z.f0)).setCell (p := ⟨g, i * 2 + 1, none⟩) (.inl rfl) (.int .i64 z.f1))
   simp only [Int.toNat_natCast] at HO
   refine ⟨keepsFrom_of_kept HKN.out (by have := HSZ.out; have := HGW.out; omega), fun hw => ⟨Go.Proofs.YtgjkhifhiggflaaW.PrintWords.cell_kept hw.1 HKN.out (by have := HGW.out; show ¬ (_ = g); simp; omega), HBN.out⟩, HEX.out _ (HUA.out.next HKN.out HBN.out (by rw [HSUC.out, HST.out]; exact HO.out) HGW.out)⟩
  ·rw [if_neg hp] at HST
   have hpi : ¬ (0 : Int) < (ps.length : Int) := by omega
   gi_wp2
   have hk := Kept.of_below HBW.out (fun k => k = g)
   have hbn : Below w0.heap.size w0 w1 := HUA.out.below.trans (HBW.out.mono HUA.out.below.size)
   refine ⟨keepsFrom_of_kept hk (by have := HSZ.out; have := HGW.out; omega), fun hw => ⟨Go.Proofs.YtgjkhifhiggflaaW.PrintWords.cell_kept hw.1 hk (by have := HGW.out; show ¬ (_ = g); simp; omega), hbn⟩, HEX.out _ (HUA.out.next hk hbn (by rw [HSUC.out, HST.out]; exact HO.out) HGW.out)⟩
 case done =>
  clear hbn h0
  intro D xs W hD hS hI hK
  gi_wp2
  refine ⟨by simp, .inl ⟨_, _, rfl, run_takeDeferred hK, ?_⟩⟩
  have hlow := UpI.low hI (grownBy_put D (.deferred none)) (fun r e => by cases e; exact hD) HGW.out (by have := HSZ.out; omega)
  exact ⟨_, results_none rfl _ _ _, rfl, by rw [← hS]; exact hlow.row, hlow.kept, hlow.below⟩
 case stop =>
  intro D c pre W hD hSp hI hK
  exact hI.elim
end
section
-- The contract of flow's bounds: intervals cut to what consistent states have, and whether there are any.
attribute [local go_sem] max2_int min2_int
set_option linter.unusedVariables false
set_option linter.unusedSimpArgs false
def emptyB (x : S56) : Bool := decide (x.f1 < x.f0)
def boundsF (ls : List S28) (kids : List (List Int)) (rs : List S56) (nl : Nat) : Bool × List S56 :=
 if (upAll ls kids rs (dn nl nl)).any emptyB = true then (false, upAll ls kids rs (dn nl nl))
 else (!(downTo ls kids (upAll ls kids rs (dn nl nl)) nl).any emptyB, downTo ls kids (upAll ls kids rs (dn nl nl)) nl)
theorem someEmpty_calls (A : Option Addr) (c n : Nat) (xs : List S56) (w : World) (hr : Kd.C k56 w A n xs) :
  Calls Try.prog 29 #[.slice A n c, .func (.func 19) #[] #[]] w fun e w' => e = .returned (.bool (xs.any emptyB)) ∧ Below w.heap.size w w' := by
 obtain rfl := hr.1
 exact containsI_calls 19 #[] emptyB (enters_ Try.func19 (by kernel_rfl) rfl) A c xs w (fun x W _ => empty_calls x W) hr
set_option maxHeartbeats 8000000 in
set_option maxRecDepth 100000 in
theorem bounds_calls (base g : Nat) (Al : Option Addr) (cl : Nat) (ls : List S28) (Ak : Option Addr) (ck : Nat) (kids : List (List Int)) (Ar : Option Addr) (cr : Nat) (rs : List S56) (nl : Nat) (w0 w : World)
  (hl : Kd.C k28 w0 Al nl ls) (hk : Kd.C kKids w0 Ak nl kids) (hB : Below w0.heap.size w0 w) (hg : w0.heap.size ≤ g) (hgw : g < w.heap.size) (hr : Kd.R k56 56 w base (fun k => k = g) (.slice Ar nl cr) rs)
  (hin : ∀ i : Nat, ∀ k ∈ kidsOf kids i, 0 ≤ k ∧ k < nl) (hm : ∀ i : Nat, (kidsOf kids i).length ≤ 1000000) :
  Calls Try.prog 15 #[.agg #[.slice Al nl cl, .slice Ak nl ck], .slice Ar nl cr] w fun e w' =>
   e = .returned (.bool (boundsF ls kids rs nl).1) ∧ Kd.R k56 56 w' base (fun k => k = g) (.slice Ar nl cr) (boundsF ls kids rs nl).2 ∧ Kept w w' (fun k => k = g) ∧ Below w0.heap.size w0 w' := by
 have HU := Aside0.mk (fun W (hB' : Below w0.heap.size w0 W) (hgW : g < W.heap.size) (hR : Kd.R k56 56 W base (fun k => k = g) (.slice Ar nl cr) rs) => up_calls base g Al cl ls Ak ck kids Ar cr rs nl w0 W hl hk hB' hg hgW hR hin hm)
 have HDN := Aside0.mk (fun W rs' (hB' : Below w0.heap.size w0 W) (hR : Kd.R k56 56 W base (fun k => k = g) (.slice Ar nl cr) rs') => down_calls base g Al cl ls Ak ck kids Ar cr rs' nl w0 W hl hk hB' hg hR hin hm)
 obtain ⟨r1, hr1⟩ : ∃ r1, upAll ls kids rs (dn nl nl) = r1 := ⟨_, rfl⟩
 obtain ⟨r2, hr2⟩ : ∃ r2, downTo ls kids r1 nl = r2 := ⟨_, rfl⟩
 have HBF : Aside0 (boundsF ls kids rs nl = if r1.any emptyB = true then (false, r1) else (!r2.any emptyB, r2)) := ⟨by unfold boundsF; rw [hr1, hr2]⟩
 generalize boundsF ls kids rs nl = bf at HBF
 have HR := Aside0.mk hr
 have HB := Aside0.mk hB
 have HG := Aside0.mk hg
 have HGW := Aside0.mk hgw
 have HR1 := Aside0.mk hr1
 have HR2 := Aside0.mk hr2
 clear hl hk hB hg hgw hr hin hm hr1 hr2
 have i0 : ∀ (f0 f1 : Value) (W : World), (Instr.index 76 (.agg #[f0, f1]) (.int .i64 0)).run Try.prog W = .ok f0 W := fun _ _ _ => by kernel_rfl
 have i1 : ∀ (f0 f1 : Value) (W : World), (Instr.index 76 (.agg #[f0, f1]) (.int .i64 1)).run Try.prog W = .ok f1 W := fun _ _ _ => by kernel_rfl
 go_enter Try.func15, Try.ntmps15
 go_wp2
 go_loopg [12] 2 (fun gg s12 wr => ∃ k : Nat, k ≤ 2 ∧ 2 - k ≤ gg ∧ s12 = .int .i64 k ∧ Aside0 (Kd.R k56 56 wr base (fun k => k = g) (.slice Ar nl cr) (if k = 0 then rs else if k = 1 then r1 else r2)) ∧ Aside0 (Below w0.heap.size w0 wr) ∧ Aside0 (Kept w wr (fun k => k = g)) ∧ Aside0 ((1 ≤ k → r1.any emptyB = false) ∧ (2 ≤ k → r2.any emptyB = false)))
 case atStart => exact ⟨0, by omega, by omega, rfl, ⟨Kd.R_alloc HR.out _⟩, ⟨HB.out.alloc HB.out.size _⟩, ⟨(Kept.refl _ _).alloc _⟩, ⟨fun h => by omega, fun h => by omega⟩⟩
 case round =>
  obtain ⟨k, hk, hgg, rfl, HO, HBW, HK, HE⟩ := hrel
  clear HR HB
  match k, hk with
  | 0, _ =>
   go_wp2_with fail
   refine (HU.out _ HBW.out (Nat.lt_of_lt_of_le HGW.out HK.out.1) HO.out).mono ?_
   rintro e w1 ⟨rfl, hO, hk1, hb1⟩
   rw [HR1.out] at hO
   replace HBW := Aside0.mk hb1
   replace HK := Aside0.mk (HK.out.then_ hk1 (fun _ e => .inl e))
   replace HO := Aside0.mk hO
   clear hO hk1 hb1
   go_wp2_with fail
   refine (someEmpty_calls Ar cr nl r1 _ (by have h := read_of_row HO.out; rw [← (Kd.R_reads' HO.out).1] at h; exact h)).mono ?_
   rintro e w2 ⟨rfl, hb⟩
   replace HO := Aside0.mk (Kd.R_below HO.out hb)
   replace HK := Aside0.mk (HK.out.below hb)
   replace HBW := Aside0.mk (HBW.out.trans (hb.mono HBW.out.size))
   clear hb
   obtain ⟨q, hq⟩ : ∃ q, r1.any emptyB = q := ⟨_, rfl⟩
   have HQ := Aside0.mk hq
   rw [hq]
   rw [hq] at HBF
   clear hq
   cases q with
   | true =>
    go_wp2
    go_ret
    exact ⟨by rw [HBF.out]; rfl, by rw [HBF.out]; exact HO.out, HK.out, HBW.out⟩
   | false =>
    go_wp2
    go_roundg 1
    case measure => omega
    case rel => exact ⟨1, by omega, by omega, by first | rfl | go_num, HO, HBW, HK, ⟨fun _ => HQ.out, fun h => by omega⟩⟩
  | 1, _ =>
   go_wp2_with fail
   refine (HDN.out _ r1 HBW.out HO.out).mono ?_
   rintro e w1 ⟨rfl, hO, hk1, hb1⟩
   rw [HR2.out] at hO
   replace HBW := Aside0.mk hb1
   replace HK := Aside0.mk (HK.out.then_ hk1 (fun _ e => .inl e))
   replace HO := Aside0.mk hO
   clear hO hk1 hb1
   go_wp2_with fail
   refine (someEmpty_calls Ar cr nl r2 _ (by have h := read_of_row HO.out; rw [← (Kd.R_reads' HO.out).1] at h; exact h)).mono ?_
   rintro e w2 ⟨rfl, hb⟩
   replace HO := Aside0.mk (Kd.R_below HO.out hb)
   replace HK := Aside0.mk (HK.out.below hb)
   replace HBW := Aside0.mk (HBW.out.trans (hb.mono HBW.out.size))
   clear hb
   obtain ⟨q, hq⟩ : ∃ q, r2.any emptyB = q := ⟨_, rfl⟩
   have HQ := Aside0.mk hq
   rw [hq]
   rw [hq, HE.out.1 (Nat.le_refl _)] at HBF
   clear hq
   cases q with
   | true =>
    go_wp2
    go_ret
    exact ⟨by rw [HBF.out]; rfl, by rw [HBF.out]; exact HO.out, HK.out, HBW.out⟩
   | false =>
    go_wp2
    go_roundg 0
    case measure => omega
    case rel => exact ⟨2, by omega, by omega, by first | rfl | go_num, HO, HBW, HK, ⟨fun _ => HE.out.1 (Nat.le_refl _), fun _ => HQ.out⟩⟩
  | 2, _ =>
   rw [HE.out.1 (by omega), HE.out.2 (by omega)] at HBF
   go_wp2
   go_ret
   exact ⟨by rw [HBF.out]; rfl, by rw [HBF.out]; exact HO.out, HK.out, HBW.out⟩
end
end Go.Proofs.Ytgjkhifhiggflaa.Own
