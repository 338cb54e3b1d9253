/- The contracts of settle.Settle and w17Pipes. -/
import Derived.Test.YtgjkhifhiggflaaK4
namespace Go.Proofs.Ytgjkhifhiggflaa.Own
open Go.RowKit Go.Lib Go.Proofs.YtgjkhifhiggflaaW.PrintWords Go.Proofs.YtgjkhifhiggflaaW.PrintLast Go.Proofs.YtgjkhifhiggflaaW.PrintMore Go.Proofs.Ytgjkhifhiggflaa.PTopBetween
section
-- The contract of the iterator that settle's pairs hands out: two lists of charges side by side.
attribute [local go_sem] max2_int min2_int
attribute [local go_sem] Oper.semAt_some
set_option linter.unusedVariables false
set_option linter.unusedSimpArgs false
/-! ### a statement that draws its order, and yields -/
section
variable {n : Nat} {P : Program} {ops : Array Oper} {Q : Exit → Act → World → Prop} {md : Region.Mode}
theorem takeIn_ {i : Nat} {N : Option Tmp} {oi : Oper} {v : Value} {fuel : Nat} {l : Array Bool} {a : Act} {w : World} (l' : Array Bool) (hi : ops[i]? = some oi) (hN : oi.dst = N) (hc : anyB md ops l l' i = true)
  (hQ : ∀ c a w, Q (.panic c) (a.put oi.dst v) w → Q (.panic c) a w) (hy : YieldsFenced P ops oi v a) {a' : Act} (ha : a.put N v = a')
  (h : wpAnyIn Fence.wide n P md ops Q fuel l' a' w) : wpAnyIn Fence.wide n P md ops Q (fuel + 1) l a w := by
 subst ha
 subst hN
 simp only [anyB, Bool.and_eq_true, beq_iff_eq] at hc
 obtain ⟨⟨⟨h1, h2⟩, h3⟩, h6⟩ := hc
 subst h6
 exact wpAnyIn_take rfl hi h1 h2 h3 hQ hy h
theorem valueIn_ {oi : Oper} {N : Option Tmp} {a : Act} {w : World} {v : Value} {K : Act → World → Prop} (hw : Region.wanted oi (yielded ops a.tmps) = true) (hN : oi.dst = N) (hrun : (execOp a.eval oi).run P w = .ok (.value v) w)
  {a' : Act} (ha : a.put N v = a') (h : K a' w) : if Region.wanted oi (yielded ops a.tmps) = true then Oper.wpIn Fence.wide n P oi a w K Q else (∀ f, oi.about P w a.eval = some f → Fence.wide.fn f) ∧ K (a.put oi.dst undef) w := by
 rw [if_pos hw]
 subst ha
 subst hN
 unfold Oper.wpIn
 refine ⟨fun _ _ => trivial, ?_⟩
 rw [show Fence.wide.round = none from rfl, Oper.semAt_none, hrun]
 exact h
theorem roundIn_ {oi : Oper} {N : Option Tmp} {a : Act} {w : World} {K : Act → World → Prop} {l : Nat} {f : FuncId} {tmps : Array Value} {assign body : Code} (hw : Region.wanted oi (yielded ops a.tmps) = true) (hN : oi.dst = N) (hrun : (execOp a.eval oi).run P w = .ok (.round l f tmps assign body) w)
  (h : RoundIn Fence.wide (n - 1) P l f tmps assign body w fun e w' => ∃ v, e = .returned v ∧ K (a.put N v) w') : if Region.wanted oi (yielded ops a.tmps) = true then Oper.wpIn Fence.wide n P oi a w K Q else (∀ f, oi.about P w a.eval = some f → Fence.wide.fn f) ∧ K (a.put oi.dst undef) w := by
 rw [if_pos hw]
 subst hN
 unfold Oper.wpIn
 refine ⟨fun _ _ => trivial, ?_⟩
 rw [show Fence.wide.round = none from rfl, Oper.semAt_none, hrun]
 refine ⟨fun hh => by simp [Fence.wide] at hh, RoundIn.mono h fun e w' hh => ?_⟩
 obtain ⟨v, rfl, hk⟩ := hh
 exact hk
end
theorem normIn_ {n : Nat} {P : Program} {ops : Array Oper} {Q : Exit → Act → World → Prop} {md : Region.Mode} {fuel : Nat} {l : Array Bool} {a a' : Act} {w : World} (ha : a = a') (h : wpAnyIn Fence.wide n P md ops Q fuel l a' w) : wpAnyIn Fence.wide n P md ops Q fuel l a w := by
 rw [ha]
 exact h
def encP (x y : S46) : Array Value := #[.agg #[.int .i64 x.f0, .int .i64 x.f1, .int .i64 x.f2.f0, .int .i64 x.f2.f1, .bool x.f3, .int .i64 y.f0, .int .i64 y.f1, .int .i64 y.f2.f0, .int .i64 y.f2.f1, .bool y.f3]]
set_option maxRecDepth 100000 in
set_option maxHeartbeats 4000000 in
theorem pairs2_in (n l B1 B2 : Nat) (A : Option Addr) (c : Nat) (xs : List S46) (A1 : Option Addr) (c1 : Nat) (ys : List S46) (len : Nat) (hlen : len ≤ 64) (Ok : World → Prop) (J Jx : List { k : Nat // k < len } → World → Prop)
  (hok : ∀ W, Ok W → W.cell? ⟨B1, 0, none⟩ = some (.slice A len c) ∧ W.cell? ⟨B2, 0, none⟩ = some (.slice A1 len c1) ∧ Kd.C k46 W A len xs ∧ Kd.C k46 W A1 len ys)
  (hokd : ∀ W, Ok W → Ok W.drew) (hJd : ∀ pre W, J pre W → J pre W.drew)
  (hY : ∀ pre x W, J pre W → pre.length < len → YieldAt Fence.wide (n - 1) Try.prog l (encP (rd_T46 xs x.1) (rd_T46 ys x.1)) W fun e W' =>
   (e = .returned (.bool true) ∧ J (pre ++ [x]) W' ∧ (Ok W → Ok W')) ∨ (e = .returned (.bool false) ∧ Jx (pre ++ [x]) W'))
  (W : World) (hW : Ok W) (h0 : J [] W) :
  CallsIn Fence.wide n Try.prog 36 #[.func (.yield l) #[] #[], .pointer (some ⟨B1, 0, none⟩), .pointer (some ⟨B2, 0, none⟩)] W fun e W' => (∃ v, e = .returned v) ∧
   ((∃ zs, zs.map (·.1) = List.range len ∧ J zs W') ∨ (∃ pre, pre.length ≤ len ∧ Jx pre W')) := by
 refine callsIn_of_wp Try.func36 rfl trivial ?_ rfl
 simp only [Try.ntmps36, List.size_toArray, List.length_cons, List.length_nil, Nat.reduceAdd, Nat.reduceSub, Array.replicate_succ, Array.replicate_zero, List.push_toArray, List.append_toArray, List.nil_append, List.cons_append]
 have hb := (hok W hW).1
 have HOK := Aside0.mk hok
 have HW := Aside0.mk hW
 have HY := Aside0.mk hY
 have H0 := Aside0.mk h0
 have HD1 := Aside0.mk hokd
 have HD2 := Aside0.mk hJd
 have hnI : (len : Int) ≤ 64 := by omega
 clear hok hW hY h0 hokd hJd
 gi_wp2
 gi_loopw [7] (fun i wr => ∃ (m : Nat) (pre : List { k : Nat // k < len }), m ≤ len ∧ i = .int .i64 (m : Int) ∧ Aside0 (pre.map (·.1) = List.range m) ∧ Aside0 (J pre wr) ∧ Aside0 (Ok wr))
  (fun i _ => len - (intOf i).toNat)
 case atStart => exact ⟨0, [], Nat.zero_le _, rfl, ⟨rfl⟩, H0, HW⟩
 case round =>
  obtain ⟨m, pre, hm, rfl, HP, HJ, HO⟩ := hrel
  clear hb
  by_cases hlt : m < len
  ·have hi : (m : Int) < (len : Int) := by omega
   gi_wp2_with fail
   refine wpIn_region_any (by kernel_rfl) ?_
   obtain ⟨hb1, hb2, hCx, hCy⟩ := HOK.out _ (HD1.out _ HO.out)
   obtain ⟨ad, e0, y0, y1, y2, y3, y4⟩ := at_T46 hCx (m : Int) (by omega) hi
   obtain ⟨ad1, e1, u0, u1, u2, u3, u4⟩ := at_T46 hCy (m : Int) (by omega) hi
   rw [e0] at hb1
   rw [e1] at hb2
   clear e0 e1 hCx hCy
   simp only [Int.toNat_natCast] at y0 y1 y2 y3 y4 u0 u1 u2 u3 u4
   obtain ⟨fn, tmps, assign, body, hy, hR⟩ := HY.out pre ⟨m, hlt⟩ _ (HD2.out _ _ HJ.out) (by have := congrArg List.length HP.out; simp at this; omega)
   have HR := Aside0.mk hR
   clear hR
   simp only [encP] at hy
   generalize rd_T46 xs (m : Int) = x at y0 y1 y2 y3 y4 hy
   generalize rd_T46 ys (m : Int) = y at u0 u1 u2 u3 u4 hy
   have HOD := Aside0.mk (HD1.out _ HO.out)
   show wpAnyIn _ _ _ _ _ _ _ _ _ wr.drew
   generalize wr.drew = wd at hb1 hb2 y0 y1 y2 y3 y4 u0 u1 u2 u3 u4 hy HR HOD ⊢
   show wpAnyIn _ _ _ _ _ _ 12 #[false, false, false, false, false, false, false, false, false, false, false, false] _ _
   refine takeIn_ (i := 0) (N := some 10) (v := ?_) (a' := ?_) #[true, false, false, false, false, false, false, false, false, false, false, false] rfl rfl (by kernel_rfl) (fun _ _ _ h => h) ⟨Or.inl ⟨by rfl, ?_⟩, fun _ => by rfl⟩ ?_ ?_
   rotate_left
   ·intro w'
    go_simp
    with_reducible rfl
   rotate_left
   ·simp only [Act.put, sA, sZ, sS, i64_w, i32_w]
    rfl
   refine takeIn_ (i := 2) (N := some 12) (v := ?_) (a' := ?_) #[true, false, true, false, false, false, false, false, false, false, false, false] rfl rfl (by kernel_rfl) (fun _ _ _ h => h) ⟨Or.inl ⟨by rfl, ?_⟩, fun _ => by rfl⟩ ?_ ?_
   rotate_left
   ·intro w'
    go_simp
    with_reducible rfl
   rotate_left
   ·simp only [Act.put, sA, sZ, sS, i64_w, i32_w]
    rfl
   refine takeIn_ (i := 6) (N := some 16) (v := ?_) (a' := ?_) #[true, false, true, false, false, false, true, false, false, false, false, false] rfl rfl (by kernel_rfl) (fun _ _ _ h => h) ⟨Or.inl ⟨by rfl, ?_⟩, fun _ => by rfl⟩ ?_ ?_
   rotate_left
   ·intro w'
    go_simp
    with_reducible rfl
   rotate_left
   ·simp only [Act.put, sA, sZ, sS, i64_w, i32_w]
    rfl
   refine wpAnyIn_ready (rs := [1, 5]) (by kernel_rfl) (by simp) (AllReadyIn.cons rfl (fun K hK => ?r24_1) (AllReadyIn.cons rfl (fun K hK => ?r24_5) (AllReadyIn.nil)))
   ·refine valueIn_ (N := some 11) (v := ?_) (a' := ?_) (by rfl) rfl ?_ ?_ ?_
    rotate_left
    ·go_simp
     with_reducible rfl
    rotate_left
    ·simp only [Act.put, sA, sZ, sS, i64_w, i32_w]
     rfl
    refine hK _ _ ?_
    show wpAnyIn _ _ _ _ _ _ 8 #[true, true, true, false, false, false, true, false, false, false, false, false] _ _
    refine takeIn_ (i := 3) (N := some 13) (v := ?_) (a' := ?_) #[true, true, true, true, false, false, true, false, false, false, false, false] rfl rfl (by kernel_rfl) (fun _ _ _ h => h) ⟨Or.inl ⟨by rfl, ?_⟩, fun _ => by rfl⟩ ?_ ?_
    rotate_left
    ·intro w'
     go_simp
     with_reducible rfl
    rotate_left
    ·simp only [Act.put, sA, sZ, sS, i64_w, i32_w]
     rfl
    refine wpAnyIn_ready (rs := [4, 5]) (by kernel_rfl) (by simp) (AllReadyIn.cons rfl (fun K hK => ?r42_4) (AllReadyIn.cons rfl (fun K hK => ?r42_5) (AllReadyIn.nil)))
    ·refine valueIn_ (N := some 14) (v := ?_) (a' := ?_) (by rfl) rfl ?_ ?_ ?_
     rotate_left
     ·go_simp
      with_reducible rfl
     rotate_left
     ·simp only [Act.put, sA, sZ, sS, i64_w, i32_w]
      rfl
     refine hK _ _ ?_
     show wpAnyIn _ _ _ _ _ _ 6 #[true, true, true, true, true, false, true, false, false, false, false, false] _ _
     refine wpAnyIn_ready (rs := [5]) (by kernel_rfl) (by simp) (AllReadyIn.cons rfl (fun K hK => ?r52_5) (AllReadyIn.nil))
     ·refine valueIn_ (N := some 15) (v := ?_) (a' := ?_) (by rfl) rfl ?_ ?_ ?_
      rotate_left
      ·go_simp
       with_reducible rfl
      rotate_left
      ·simp only [Act.put, sA, sZ, sS, i64_w, i32_w]
       rfl
      refine hK _ _ ?_
      show wpAnyIn _ _ _ _ _ _ 5 #[true, true, true, true, true, true, true, false, false, false, false, false] _ _
      refine takeIn_ (i := 7) (N := some 17) (v := ?_) (a' := ?_) #[true, true, true, true, true, true, true, true, false, false, false, false] rfl rfl (by kernel_rfl) (fun _ _ _ h => h) ⟨Or.inl ⟨by rfl, ?_⟩, fun _ => by rfl⟩ ?_ ?_
      rotate_left
      ·intro w'
       go_simp
       with_reducible rfl
      rotate_left
      ·simp only [Act.put, sA, sZ, sS, i64_w, i32_w]
       rfl
      refine wpAnyIn_ready (rs := [8]) (by kernel_rfl) (by simp) (AllReadyIn.cons rfl (fun K hK => ?r70_8) (AllReadyIn.nil))
      ·refine valueIn_ (N := some 18) (v := ?_) (a' := ?_) (by rfl) rfl ?_ ?_ ?_
       rotate_left
       ·go_simp
        with_reducible rfl
       rotate_left
       ·simp only [Act.put, sA, sZ, sS, i64_w, i32_w]
        rfl
       refine hK _ _ ?_
       show wpAnyIn _ _ _ _ _ _ 3 #[true, true, true, true, true, true, true, true, true, false, false, false] _ _
       refine takeIn_ (i := 9) (N := some 19) (v := ?_) (a' := ?_) #[true, true, true, true, true, true, true, true, true, true, false, false] rfl rfl (by kernel_rfl) (fun _ _ _ h => h) ⟨Or.inl ⟨by rfl, ?_⟩, fun _ => by rfl⟩ ?_ ?_
       rotate_left
       ·intro w'
        go_simp
        with_reducible rfl
       rotate_left
       ·simp only [Act.put, sA, sZ, sS, i64_w, i32_w]
        rfl
       refine wpAnyIn_ready (rs := [10]) (by kernel_rfl) (by simp) (AllReadyIn.cons rfl (fun K hK => ?_) AllReadyIn.nil)
       refine roundIn_ (N := some 20) (by rfl) rfl (by first | (go_simp; exact hy) | (simp [execOp, resolve, Deferred.ofValue, invoke, Act.eval]; exact hy)) (RoundIn.mono HR.out ?_)
       rintro e W3 (⟨rfl, hJ3, hk3⟩ | ⟨rfl, hJx3⟩)
       ·refine ⟨_, rfl, hK _ _ ?_⟩
        have HJ3 := Aside0.mk hJ3
        have HO3 := Aside0.mk (hk3 HOD.out)
        clear hJ3 hk3
        show wpAnyIn _ _ _ _ _ _ 1 #[true, true, true, true, true, true, true, true, true, true, true, false] _ _
        refine normIn_ (a' := ?_) ?_ ?_
        rotate_left
        ·simp only [Act.put, sA, sZ, sS, i64_w, i32_w]
         rfl
        refine takeIn_ (i := 11) (N := some 21) (v := ?_) (a' := ?_) #[true, true, true, true, true, true, true, true, true, true, true, true] rfl rfl (by kernel_rfl) (fun _ _ _ h => h) ⟨Or.inl ⟨by rfl, ?_⟩, fun _ => by rfl⟩ ?_ ?_
        rotate_left
        ·intro w'
         go_simp
         with_reducible rfl
        rotate_left
        ·simp only [Act.put, sA, sZ, sS, i64_w, i32_w]
         rfl
        refine wpAnyIn_done (by kernel_rfl) ?_ _
        clear hb1 hb2 y0 y1 y2 y3 y4 u0 u1 u2 u3 u4 hy
        gi_wp2
        go_roundw
        case rel => exact ⟨m + 1, pre ++ [⟨m, hlt⟩], by omega, by first | go_num | (congr 1; unfold wrap64; omega), ⟨by rw [List.map_append, HP.out, List.range_succ]; rfl⟩, HJ3, HO3⟩
        case measure => simp [intOf]; first | omega | (unfold wrap64; omega)
       ·refine ⟨_, rfl, hK _ _ ?_⟩
        have HJ3 := Aside0.mk hJx3
        clear hJx3
        show wpAnyIn _ _ _ _ _ _ 1 #[true, true, true, true, true, true, true, true, true, true, true, false] _ _
        refine normIn_ (a' := ?_) ?_ ?_
        rotate_left
        ·simp only [Act.put, sA, sZ, sS, i64_w, i32_w]
         rfl
        refine takeIn_ (i := 11) (N := some 21) (v := ?_) (a' := ?_) #[true, true, true, true, true, true, true, true, true, true, true, true] rfl rfl (by kernel_rfl) (fun _ _ _ h => h) ⟨Or.inl ⟨by rfl, ?_⟩, fun _ => by rfl⟩ ?_ ?_
        rotate_left
        ·intro w'
         go_simp
         with_reducible rfl
        rotate_left
        ·simp only [Act.put, sA, sZ, sS, i64_w, i32_w]
         rfl
        refine wpAnyIn_done (by kernel_rfl) ?_ _
        clear hb1 hb2 y0 y1 y2 y3 y4 u0 u1 u2 u3 u4 hy
        gi_wp2
        refine bodyPost_ret (results_none rfl _ _ _) rfl ?_
        exact ⟨⟨_, rfl⟩, .inr ⟨_, by have := congrArg List.length HP.out; simp at this; simp; omega, HJ3.out⟩⟩
    ·refine valueIn_ (N := some 15) (v := ?_) (a' := ?_) (by rfl) rfl ?_ ?_ ?_
     rotate_left
     ·go_simp
      with_reducible rfl
     rotate_left
     ·simp only [Act.put, sA, sZ, sS, i64_w, i32_w]
      rfl
     refine hK _ _ ?_
     show wpAnyIn _ _ _ _ _ _ 6 #[true, true, true, true, false, true, true, false, false, false, false, false] _ _
     refine takeIn_ (i := 7) (N := some 17) (v := ?_) (a' := ?_) #[true, true, true, true, false, true, true, true, false, false, false, false] rfl rfl (by kernel_rfl) (fun _ _ _ h => h) ⟨Or.inl ⟨by rfl, ?_⟩, fun _ => by rfl⟩ ?_ ?_
     rotate_left
     ·intro w'
      go_simp
      with_reducible rfl
     rotate_left
     ·simp only [Act.put, sA, sZ, sS, i64_w, i32_w]
      rfl
     refine wpAnyIn_ready (rs := [4, 8]) (by kernel_rfl) (by simp) (AllReadyIn.cons rfl (fun K hK => ?r152_4) (AllReadyIn.cons rfl (fun K hK => ?r152_8) (AllReadyIn.nil)))
     ·refine valueIn_ (N := some 14) (v := ?_) (a' := ?_) (by rfl) rfl ?_ ?_ ?_
      rotate_left
      ·go_simp
       with_reducible rfl
      rotate_left
      ·simp only [Act.put, sA, sZ, sS, i64_w, i32_w]
       rfl
      refine hK _ _ ?_
      show wpAnyIn _ _ _ _ _ _ 4 #[true, true, true, true, true, true, true, true, false, false, false, false] _ _
      refine wpAnyIn_ready (rs := [8]) (by kernel_rfl) (by simp) (AllReadyIn.cons rfl (fun K hK => ?r162_8) (AllReadyIn.nil))
      ·refine valueIn_ (N := some 18) (v := ?_) (a' := ?_) (by rfl) rfl ?_ ?_ ?_
       rotate_left
       ·go_simp
        with_reducible rfl
       rotate_left
       ·simp only [Act.put, sA, sZ, sS, i64_w, i32_w]
        rfl
       refine hK _ _ ?_
       show wpAnyIn _ _ _ _ _ _ 3 #[true, true, true, true, true, true, true, true, true, false, false, false] _ _
       refine takeIn_ (i := 9) (N := some 19) (v := ?_) (a' := ?_) #[true, true, true, true, true, true, true, true, true, true, false, false] rfl rfl (by kernel_rfl) (fun _ _ _ h => h) ⟨Or.inl ⟨by rfl, ?_⟩, fun _ => by rfl⟩ ?_ ?_
       rotate_left
       ·intro w'
        go_simp
        with_reducible rfl
       rotate_left
       ·simp only [Act.put, sA, sZ, sS, i64_w, i32_w]
        rfl
       refine wpAnyIn_ready (rs := [10]) (by kernel_rfl) (by simp) (AllReadyIn.cons rfl (fun K hK => ?_) AllReadyIn.nil)
       refine roundIn_ (N := some 20) (by rfl) rfl (by first | (go_simp; exact hy) | (simp [execOp, resolve, Deferred.ofValue, invoke, Act.eval]; exact hy)) (RoundIn.mono HR.out ?_)
       rintro e W3 (⟨rfl, hJ3, hk3⟩ | ⟨rfl, hJx3⟩)
       ·refine ⟨_, rfl, hK _ _ ?_⟩
        have HJ3 := Aside0.mk hJ3
        have HO3 := Aside0.mk (hk3 HOD.out)
        clear hJ3 hk3
        show wpAnyIn _ _ _ _ _ _ 1 #[true, true, true, true, true, true, true, true, true, true, true, false] _ _
        refine normIn_ (a' := ?_) ?_ ?_
        rotate_left
        ·simp only [Act.put, sA, sZ, sS, i64_w, i32_w]
         rfl
        refine takeIn_ (i := 11) (N := some 21) (v := ?_) (a' := ?_) #[true, true, true, true, true, true, true, true, true, true, true, true] rfl rfl (by kernel_rfl) (fun _ _ _ h => h) ⟨Or.inl ⟨by rfl, ?_⟩, fun _ => by rfl⟩ ?_ ?_
        rotate_left
        ·intro w'
         go_simp
         with_reducible rfl
        rotate_left
        ·simp only [Act.put, sA, sZ, sS, i64_w, i32_w]
         rfl
        refine wpAnyIn_done (by kernel_rfl) ?_ _
        clear hb1 hb2 y0 y1 y2 y3 y4 u0 u1 u2 u3 u4 hy
        gi_wp2
        go_roundw
        case rel => exact ⟨m + 1, pre ++ [⟨m, hlt⟩], by omega, by first | go_num | (congr 1; unfold wrap64; omega), ⟨by rw [List.map_append, HP.out, List.range_succ]; rfl⟩, HJ3, HO3⟩
        case measure => simp [intOf]; first | omega | (unfold wrap64; omega)
       ·refine ⟨_, rfl, hK _ _ ?_⟩
        have HJ3 := Aside0.mk hJx3
        clear hJx3
        show wpAnyIn _ _ _ _ _ _ 1 #[true, true, true, true, true, true, true, true, true, true, true, false] _ _
        refine normIn_ (a' := ?_) ?_ ?_
        rotate_left
        ·simp only [Act.put, sA, sZ, sS, i64_w, i32_w]
         rfl
        refine takeIn_ (i := 11) (N := some 21) (v := ?_) (a' := ?_) #[true, true, true, true, true, true, true, true, true, true, true, true] rfl rfl (by kernel_rfl) (fun _ _ _ h => h) ⟨Or.inl ⟨by rfl, ?_⟩, fun _ => by rfl⟩ ?_ ?_
        rotate_left
        ·intro w'
         go_simp
         with_reducible rfl
        rotate_left
        ·simp only [Act.put, sA, sZ, sS, i64_w, i32_w]
         rfl
        refine wpAnyIn_done (by kernel_rfl) ?_ _
        clear hb1 hb2 y0 y1 y2 y3 y4 u0 u1 u2 u3 u4 hy
        gi_wp2
        refine bodyPost_ret (results_none rfl _ _ _) rfl ?_
        exact ⟨⟨_, rfl⟩, .inr ⟨_, by have := congrArg List.length HP.out; simp at this; simp; omega, HJ3.out⟩⟩
     ·refine valueIn_ (N := some 18) (v := ?_) (a' := ?_) (by rfl) rfl ?_ ?_ ?_
      rotate_left
      ·go_simp
       with_reducible rfl
      rotate_left
      ·simp only [Act.put, sA, sZ, sS, i64_w, i32_w]
       rfl
      refine hK _ _ ?_
      show wpAnyIn _ _ _ _ _ _ 4 #[true, true, true, true, false, true, true, true, true, false, false, false] _ _
      refine wpAnyIn_ready (rs := [4]) (by kernel_rfl) (by simp) (AllReadyIn.cons rfl (fun K hK => ?r236_4) (AllReadyIn.nil))
      ·refine valueIn_ (N := some 14) (v := ?_) (a' := ?_) (by rfl) rfl ?_ ?_ ?_
       rotate_left
       ·go_simp
        with_reducible rfl
       rotate_left
       ·simp only [Act.put, sA, sZ, sS, i64_w, i32_w]
        rfl
       refine hK _ _ ?_
       show wpAnyIn _ _ _ _ _ _ 3 #[true, true, true, true, true, true, true, true, true, false, false, false] _ _
       refine takeIn_ (i := 9) (N := some 19) (v := ?_) (a' := ?_) #[true, true, true, true, true, true, true, true, true, true, false, false] rfl rfl (by kernel_rfl) (fun _ _ _ h => h) ⟨Or.inl ⟨by rfl, ?_⟩, fun _ => by rfl⟩ ?_ ?_
       rotate_left
       ·intro w'
        go_simp
        with_reducible rfl
       rotate_left
       ·simp only [Act.put, sA, sZ, sS, i64_w, i32_w]
        rfl
       refine wpAnyIn_ready (rs := [10]) (by kernel_rfl) (by simp) (AllReadyIn.cons rfl (fun K hK => ?_) AllReadyIn.nil)
       refine roundIn_ (N := some 20) (by rfl) rfl (by first | (go_simp; exact hy) | (simp [execOp, resolve, Deferred.ofValue, invoke, Act.eval]; exact hy)) (RoundIn.mono HR.out ?_)
       rintro e W3 (⟨rfl, hJ3, hk3⟩ | ⟨rfl, hJx3⟩)
       ·refine ⟨_, rfl, hK _ _ ?_⟩
        have HJ3 := Aside0.mk hJ3
        have HO3 := Aside0.mk (hk3 HOD.out)
        clear hJ3 hk3
        show wpAnyIn _ _ _ _ _ _ 1 #[true, true, true, true, true, true, true, true, true, true, true, false] _ _
        refine normIn_ (a' := ?_) ?_ ?_
        rotate_left
        ·simp only [Act.put, sA, sZ, sS, i64_w, i32_w]
         rfl
        refine takeIn_ (i := 11) (N := some 21) (v := ?_) (a' := ?_) #[true, true, true, true, true, true, true, true, true, true, true, true] rfl rfl (by kernel_rfl) (fun _ _ _ h => h) ⟨Or.inl ⟨by rfl, ?_⟩, fun _ => by rfl⟩ ?_ ?_
        rotate_left
        ·intro w'
         go_simp
         with_reducible rfl
        rotate_left
        ·simp only [Act.put, sA, sZ, sS, i64_w, i32_w]
         rfl
        refine wpAnyIn_done (by kernel_rfl) ?_ _
        clear hb1 hb2 y0 y1 y2 y3 y4 u0 u1 u2 u3 u4 hy
        gi_wp2
        go_roundw
        case rel => exact ⟨m + 1, pre ++ [⟨m, hlt⟩], by omega, by first | go_num | (congr 1; unfold wrap64; omega), ⟨by rw [List.map_append, HP.out, List.range_succ]; rfl⟩, HJ3, HO3⟩
        case measure => simp [intOf]; first | omega | (unfold wrap64; omega)
       ·refine ⟨_, rfl, hK _ _ ?_⟩
        have HJ3 := Aside0.mk hJx3
        clear hJx3
        show wpAnyIn _ _ _ _ _ _ 1 #[true, true, true, true, true, true, true, true, true, true, true, false] _ _
        refine normIn_ (a' := ?_) ?_ ?_
        rotate_left
        ·simp only [Act.put, sA, sZ, sS, i64_w, i32_w]
         rfl
        refine takeIn_ (i := 11) (N := some 21) (v := ?_) (a' := ?_) #[true, true, true, true, true, true, true, true, true, true, true, true] rfl rfl (by kernel_rfl) (fun _ _ _ h => h) ⟨Or.inl ⟨by rfl, ?_⟩, fun _ => by rfl⟩ ?_ ?_
        rotate_left
        ·intro w'
         go_simp
         with_reducible rfl
        rotate_left
        ·simp only [Act.put, sA, sZ, sS, i64_w, i32_w]
         rfl
        refine wpAnyIn_done (by kernel_rfl) ?_ _
        clear hb1 hb2 y0 y1 y2 y3 y4 u0 u1 u2 u3 u4 hy
        gi_wp2
        refine bodyPost_ret (results_none rfl _ _ _) rfl ?_
        exact ⟨⟨_, rfl⟩, .inr ⟨_, by have := congrArg List.length HP.out; simp at this; simp; omega, HJ3.out⟩⟩
   ·refine valueIn_ (N := some 15) (v := ?_) (a' := ?_) (by rfl) rfl ?_ ?_ ?_
    rotate_left
    ·go_simp
     with_reducible rfl
    rotate_left
    ·simp only [Act.put, sA, sZ, sS, i64_w, i32_w]
     rfl
    refine hK _ _ ?_
    show wpAnyIn _ _ _ _ _ _ 8 #[true, false, true, false, false, true, true, false, false, false, false, false] _ _
    refine takeIn_ (i := 7) (N := some 17) (v := ?_) (a' := ?_) #[true, false, true, false, false, true, true, true, false, false, false, false] rfl rfl (by kernel_rfl) (fun _ _ _ h => h) ⟨Or.inl ⟨by rfl, ?_⟩, fun _ => by rfl⟩ ?_ ?_
    rotate_left
    ·intro w'
     go_simp
     with_reducible rfl
    rotate_left
    ·simp only [Act.put, sA, sZ, sS, i64_w, i32_w]
     rfl
    refine wpAnyIn_ready (rs := [1, 8]) (by kernel_rfl) (by simp) (AllReadyIn.cons rfl (fun K hK => ?r318_1) (AllReadyIn.cons rfl (fun K hK => ?r318_8) (AllReadyIn.nil)))
    ·refine valueIn_ (N := some 11) (v := ?_) (a' := ?_) (by rfl) rfl ?_ ?_ ?_
     rotate_left
     ·go_simp
      with_reducible rfl
     rotate_left
     ·simp only [Act.put, sA, sZ, sS, i64_w, i32_w]
      rfl
     refine hK _ _ ?_
     show wpAnyIn _ _ _ _ _ _ 6 #[true, true, true, false, false, true, true, true, false, false, false, false] _ _
     refine takeIn_ (i := 3) (N := some 13) (v := ?_) (a' := ?_) #[true, true, true, true, false, true, true, true, false, false, false, false] rfl rfl (by kernel_rfl) (fun _ _ _ h => h) ⟨Or.inl ⟨by rfl, ?_⟩, fun _ => by rfl⟩ ?_ ?_
     rotate_left
     ·intro w'
      go_simp
      with_reducible rfl
     rotate_left
     ·simp only [Act.put, sA, sZ, sS, i64_w, i32_w]
      rfl
     refine wpAnyIn_ready (rs := [4, 8]) (by kernel_rfl) (by simp) (AllReadyIn.cons rfl (fun K hK => ?r336_4) (AllReadyIn.cons rfl (fun K hK => ?r336_8) (AllReadyIn.nil)))
     ·refine valueIn_ (N := some 14) (v := ?_) (a' := ?_) (by rfl) rfl ?_ ?_ ?_
      rotate_left
      ·go_simp
       with_reducible rfl
      rotate_left
      ·simp only [Act.put, sA, sZ, sS, i64_w, i32_w]
       rfl
      refine hK _ _ ?_
      show wpAnyIn _ _ _ _ _ _ 4 #[true, true, true, true, true, true, true, true, false, false, false, false] _ _
      refine wpAnyIn_ready (rs := [8]) (by kernel_rfl) (by simp) (AllReadyIn.cons rfl (fun K hK => ?r346_8) (AllReadyIn.nil))
      ·refine valueIn_ (N := some 18) (v := ?_) (a' := ?_) (by rfl) rfl ?_ ?_ ?_
       rotate_left
       ·go_simp
        with_reducible rfl
       rotate_left
       ·simp only [Act.put, sA, sZ, sS, i64_w, i32_w]
        rfl
       refine hK _ _ ?_
       show wpAnyIn _ _ _ _ _ _ 3 #[true, true, true, true, true, true, true, true, true, false, false, false] _ _
       refine takeIn_ (i := 9) (N := some 19) (v := ?_) (a' := ?_) #[true, true, true, true, true, true, true, true, true, true, false, false] rfl rfl (by kernel_rfl) (fun _ _ _ h => h) ⟨Or.inl ⟨by rfl, ?_⟩, fun _ => by rfl⟩ ?_ ?_
       rotate_left
       ·intro w'
        go_simp
        with_reducible rfl
       rotate_left
       ·simp only [Act.put, sA, sZ, sS, i64_w, i32_w]
        rfl
       refine wpAnyIn_ready (rs := [10]) (by kernel_rfl) (by simp) (AllReadyIn.cons rfl (fun K hK => ?_) AllReadyIn.nil)
       refine roundIn_ (N := some 20) (by rfl) rfl (by first | (go_simp; exact hy) | (simp [execOp, resolve, Deferred.ofValue, invoke, Act.eval]; exact hy)) (RoundIn.mono HR.out ?_)
       rintro e W3 (⟨rfl, hJ3, hk3⟩ | ⟨rfl, hJx3⟩)
       ·refine ⟨_, rfl, hK _ _ ?_⟩
        have HJ3 := Aside0.mk hJ3
        have HO3 := Aside0.mk (hk3 HOD.out)
        clear hJ3 hk3
        show wpAnyIn _ _ _ _ _ _ 1 #[true, true, true, true, true, true, true, true, true, true, true, false] _ _
        refine normIn_ (a' := ?_) ?_ ?_
        rotate_left
        ·simp only [Act.put, sA, sZ, sS, i64_w, i32_w]
         rfl
        refine takeIn_ (i := 11) (N := some 21) (v := ?_) (a' := ?_) #[true, true, true, true, true, true, true, true, true, true, true, true] rfl rfl (by kernel_rfl) (fun _ _ _ h => h) ⟨Or.inl ⟨by rfl, ?_⟩, fun _ => by rfl⟩ ?_ ?_
        rotate_left
        ·intro w'
         go_simp
         with_reducible rfl
        rotate_left
        ·simp only [Act.put, sA, sZ, sS, i64_w, i32_w]
         rfl
        refine wpAnyIn_done (by kernel_rfl) ?_ _
        clear hb1 hb2 y0 y1 y2 y3 y4 u0 u1 u2 u3 u4 hy
        gi_wp2
        go_roundw
        case rel => exact ⟨m + 1, pre ++ [⟨m, hlt⟩], by omega, by first | go_num | (congr 1; unfold wrap64; omega), ⟨by rw [List.map_append, HP.out, List.range_succ]; rfl⟩, HJ3, HO3⟩
        case measure => simp [intOf]; first | omega | (unfold wrap64; omega)
       ·refine ⟨_, rfl, hK _ _ ?_⟩
        have HJ3 := Aside0.mk hJx3
        clear hJx3
        show wpAnyIn _ _ _ _ _ _ 1 #[true, true, true, true, true, true, true, true, true, true, true, false] _ _
        refine normIn_ (a' := ?_) ?_ ?_
        rotate_left
        ·simp only [Act.put, sA, sZ, sS, i64_w, i32_w]
         rfl
        refine takeIn_ (i := 11) (N := some 21) (v := ?_) (a' := ?_) #[true, true, true, true, true, true, true, true, true, true, true, true] rfl rfl (by kernel_rfl) (fun _ _ _ h => h) ⟨Or.inl ⟨by rfl, ?_⟩, fun _ => by rfl⟩ ?_ ?_
        rotate_left
        ·intro w'
         go_simp
         with_reducible rfl
        rotate_left
        ·simp only [Act.put, sA, sZ, sS, i64_w, i32_w]
         rfl
        refine wpAnyIn_done (by kernel_rfl) ?_ _
        clear hb1 hb2 y0 y1 y2 y3 y4 u0 u1 u2 u3 u4 hy
        gi_wp2
        refine bodyPost_ret (results_none rfl _ _ _) rfl ?_
        exact ⟨⟨_, rfl⟩, .inr ⟨_, by have := congrArg List.length HP.out; simp at this; simp; omega, HJ3.out⟩⟩
     ·refine valueIn_ (N := some 18) (v := ?_) (a' := ?_) (by rfl) rfl ?_ ?_ ?_
      rotate_left
      ·go_simp
       with_reducible rfl
      rotate_left
      ·simp only [Act.put, sA, sZ, sS, i64_w, i32_w]
       rfl
      refine hK _ _ ?_
      show wpAnyIn _ _ _ _ _ _ 4 #[true, true, true, true, false, true, true, true, true, false, false, false] _ _
      refine wpAnyIn_ready (rs := [4]) (by kernel_rfl) (by simp) (AllReadyIn.cons rfl (fun K hK => ?r420_4) (AllReadyIn.nil))
      ·refine valueIn_ (N := some 14) (v := ?_) (a' := ?_) (by rfl) rfl ?_ ?_ ?_
       rotate_left
       ·go_simp
        with_reducible rfl
       rotate_left
       ·simp only [Act.put, sA, sZ, sS, i64_w, i32_w]
        rfl
       refine hK _ _ ?_
       show wpAnyIn _ _ _ _ _ _ 3 #[true, true, true, true, true, true, true, true, true, false, false, false] _ _
       refine takeIn_ (i := 9) (N := some 19) (v := ?_) (a' := ?_) #[true, true, true, true, true, true, true, true, true, true, false, false] rfl rfl (by kernel_rfl) (fun _ _ _ h => h) ⟨Or.inl ⟨by rfl, ?_⟩, fun _ => by rfl⟩ ?_ ?_
       rotate_left
       ·intro w'
        go_simp
        with_reducible rfl
       rotate_left
       ·simp only [Act.put, sA, sZ, sS, i64_w, i32_w]
        rfl
       refine wpAnyIn_ready (rs := [10]) (by kernel_rfl) (by simp) (AllReadyIn.cons rfl (fun K hK => ?_) AllReadyIn.nil)
       refine roundIn_ (N := some 20) (by rfl) rfl (by first | (go_simp; exact hy) | (simp [execOp, resolve, Deferred.ofValue, invoke, Act.eval]; exact hy)) (RoundIn.mono HR.out ?_)
       rintro e W3 (⟨rfl, hJ3, hk3⟩ | ⟨rfl, hJx3⟩)
       ·refine ⟨_, rfl, hK _ _ ?_⟩
        have HJ3 := Aside0.mk hJ3
        have HO3 := Aside0.mk (hk3 HOD.out)
        clear hJ3 hk3
        show wpAnyIn _ _ _ _ _ _ 1 #[true, true, true, true, true, true, true, true, true, true, true, false] _ _
        refine normIn_ (a' := ?_) ?_ ?_
        rotate_left
        ·simp only [Act.put, sA, sZ, sS, i64_w, i32_w]
         rfl
        refine takeIn_ (i := 11) (N := some 21) (v := ?_) (a' := ?_) #[true, true, true, true, true, true, true, true, true, true, true, true] rfl rfl (by kernel_rfl) (fun _ _ _ h => h) ⟨Or.inl ⟨by rfl, ?_⟩, fun _ => by rfl⟩ ?_ ?_
        rotate_left
        ·intro w'
         go_simp
         with_reducible rfl
        rotate_left
        ·simp only [Act.put, sA, sZ, sS, i64_w, i32_w]
         rfl
        refine wpAnyIn_done (by kernel_rfl) ?_ _
        clear hb1 hb2 y0 y1 y2 y3 y4 u0 u1 u2 u3 u4 hy
        gi_wp2
        go_roundw
        case rel => exact ⟨m + 1, pre ++ [⟨m, hlt⟩], by omega, by first | go_num | (congr 1; unfold wrap64; omega), ⟨by rw [List.map_append, HP.out, List.range_succ]; rfl⟩, HJ3, HO3⟩
        case measure => simp [intOf]; first | omega | (unfold wrap64; omega)
       ·refine ⟨_, rfl, hK _ _ ?_⟩
        have HJ3 := Aside0.mk hJx3
        clear hJx3
        show wpAnyIn _ _ _ _ _ _ 1 #[true, true, true, true, true, true, true, true, true, true, true, false] _ _
        refine normIn_ (a' := ?_) ?_ ?_
        rotate_left
        ·simp only [Act.put, sA, sZ, sS, i64_w, i32_w]
         rfl
        refine takeIn_ (i := 11) (N := some 21) (v := ?_) (a' := ?_) #[true, true, true, true, true, true, true, true, true, true, true, true] rfl rfl (by kernel_rfl) (fun _ _ _ h => h) ⟨Or.inl ⟨by rfl, ?_⟩, fun _ => by rfl⟩ ?_ ?_
        rotate_left
        ·intro w'
         go_simp
         with_reducible rfl
        rotate_left
        ·simp only [Act.put, sA, sZ, sS, i64_w, i32_w]
         rfl
        refine wpAnyIn_done (by kernel_rfl) ?_ _
        clear hb1 hb2 y0 y1 y2 y3 y4 u0 u1 u2 u3 u4 hy
        gi_wp2
        refine bodyPost_ret (results_none rfl _ _ _) rfl ?_
        exact ⟨⟨_, rfl⟩, .inr ⟨_, by have := congrArg List.length HP.out; simp at this; simp; omega, HJ3.out⟩⟩
    ·refine valueIn_ (N := some 18) (v := ?_) (a' := ?_) (by rfl) rfl ?_ ?_ ?_
     rotate_left
     ·go_simp
      with_reducible rfl
     rotate_left
     ·simp only [Act.put, sA, sZ, sS, i64_w, i32_w]
      rfl
     refine hK _ _ ?_
     show wpAnyIn _ _ _ _ _ _ 6 #[true, false, true, false, false, true, true, true, true, false, false, false] _ _
     refine wpAnyIn_ready (rs := [1]) (by kernel_rfl) (by simp) (AllReadyIn.cons rfl (fun K hK => ?r494_1) (AllReadyIn.nil))
     ·refine valueIn_ (N := some 11) (v := ?_) (a' := ?_) (by rfl) rfl ?_ ?_ ?_
      rotate_left
      ·go_simp
       with_reducible rfl
      rotate_left
      ·simp only [Act.put, sA, sZ, sS, i64_w, i32_w]
       rfl
      refine hK _ _ ?_
      show wpAnyIn _ _ _ _ _ _ 5 #[true, true, true, false, false, true, true, true, true, false, false, false] _ _
      refine takeIn_ (i := 3) (N := some 13) (v := ?_) (a' := ?_) #[true, true, true, true, false, true, true, true, true, false, false, false] rfl rfl (by kernel_rfl) (fun _ _ _ h => h) ⟨Or.inl ⟨by rfl, ?_⟩, fun _ => by rfl⟩ ?_ ?_
      rotate_left
      ·intro w'
       go_simp
       with_reducible rfl
      rotate_left
      ·simp only [Act.put, sA, sZ, sS, i64_w, i32_w]
       rfl
      refine wpAnyIn_ready (rs := [4]) (by kernel_rfl) (by simp) (AllReadyIn.cons rfl (fun K hK => ?r512_4) (AllReadyIn.nil))
      ·refine valueIn_ (N := some 14) (v := ?_) (a' := ?_) (by rfl) rfl ?_ ?_ ?_
       rotate_left
       ·go_simp
        with_reducible rfl
       rotate_left
       ·simp only [Act.put, sA, sZ, sS, i64_w, i32_w]
        rfl
       refine hK _ _ ?_
       show wpAnyIn _ _ _ _ _ _ 3 #[true, true, true, true, true, true, true, true, true, false, false, false] _ _
       refine takeIn_ (i := 9) (N := some 19) (v := ?_) (a' := ?_) #[true, true, true, true, true, true, true, true, true, true, false, false] rfl rfl (by kernel_rfl) (fun _ _ _ h => h) ⟨Or.inl ⟨by rfl, ?_⟩, fun _ => by rfl⟩ ?_ ?_
       rotate_left
       ·intro w'
        go_simp
        with_reducible rfl
       rotate_left
       ·simp only [Act.put, sA, sZ, sS, i64_w, i32_w]
        rfl
       refine wpAnyIn_ready (rs := [10]) (by kernel_rfl) (by simp) (AllReadyIn.cons rfl (fun K hK => ?_) AllReadyIn.nil)
       refine roundIn_ (N := some 20) (by rfl) rfl (by first | (go_simp; exact hy) | (simp [execOp, resolve, Deferred.ofValue, invoke, Act.eval]; exact hy)) (RoundIn.mono HR.out ?_)
       rintro e W3 (⟨rfl, hJ3, hk3⟩ | ⟨rfl, hJx3⟩)
       ·refine ⟨_, rfl, hK _ _ ?_⟩
        have HJ3 := Aside0.mk hJ3
        have HO3 := Aside0.mk (hk3 HOD.out)
        clear hJ3 hk3
        show wpAnyIn _ _ _ _ _ _ 1 #[true, true, true, true, true, true, true, true, true, true, true, false] _ _
        refine normIn_ (a' := ?_) ?_ ?_
        rotate_left
        ·simp only [Act.put, sA, sZ, sS, i64_w, i32_w]
         rfl
        refine takeIn_ (i := 11) (N := some 21) (v := ?_) (a' := ?_) #[true, true, true, true, true, true, true, true, true, true, true, true] rfl rfl (by kernel_rfl) (fun _ _ _ h => h) ⟨Or.inl ⟨by rfl, ?_⟩, fun _ => by rfl⟩ ?_ ?_
        rotate_left
        ·intro w'
         go_simp
         with_reducible rfl
        rotate_left
        ·simp only [Act.put, sA, sZ, sS, i64_w, i32_w]
         rfl
        refine wpAnyIn_done (by kernel_rfl) ?_ _
        clear hb1 hb2 y0 y1 y2 y3 y4 u0 u1 u2 u3 u4 hy
        gi_wp2
        go_roundw
        case rel => exact ⟨m + 1, pre ++ [⟨m, hlt⟩], by omega, by first | go_num | (congr 1; unfold wrap64; omega), ⟨by rw [List.map_append, HP.out, List.range_succ]; rfl⟩, HJ3, HO3⟩
        case measure => simp [intOf]; first | omega | (unfold wrap64; omega)
       ·refine ⟨_, rfl, hK _ _ ?_⟩
        have HJ3 := Aside0.mk hJx3
        clear hJx3
        show wpAnyIn _ _ _ _ _ _ 1 #[true, true, true, true, true, true, true, true, true, true, true, false] _ _
        refine normIn_ (a' := ?_) ?_ ?_
        rotate_left
        ·simp only [Act.put, sA, sZ, sS, i64_w, i32_w]
         rfl
        refine takeIn_ (i := 11) (N := some 21) (v := ?_) (a' := ?_) #[true, true, true, true, true, true, true, true, true, true, true, true] rfl rfl (by kernel_rfl) (fun _ _ _ h => h) ⟨Or.inl ⟨by rfl, ?_⟩, fun _ => by rfl⟩ ?_ ?_
        rotate_left
        ·intro w'
         go_simp
         with_reducible rfl
        rotate_left
        ·simp only [Act.put, sA, sZ, sS, i64_w, i32_w]
         rfl
        refine wpAnyIn_done (by kernel_rfl) ?_ _
        clear hb1 hb2 y0 y1 y2 y3 y4 u0 u1 u2 u3 u4 hy
        gi_wp2
        refine bodyPost_ret (results_none rfl _ _ _) rfl ?_
        exact ⟨⟨_, rfl⟩, .inr ⟨_, by have := congrArg List.length HP.out; simp at this; simp; omega, HJ3.out⟩⟩
  ·obtain rfl : m = len := by omega
   have hneg : ¬ (m : Int) < (m : Int) := by omega
   gi_wp2
   first | go_end0 | (refine bodyPost_ret (results_none rfl _ _ _) rfl ?_)
   exact ⟨⟨_, rfl⟩, .inl ⟨_, HP.out, HJ.out⟩⟩
end
section
-- The contract of settle's within, where all charges lie within the earlier ones.
attribute [local go_sem] max2_int min2_int
attribute [local go_sem] Oper.semAt_some
set_option linter.unusedVariables false
set_option linter.unusedSimpArgs false
/-- The iterator that pairs hands out, wherever all that was at w0 is still there. -/
theorem pairs2_stops (n B1 B2 : Nat) (A : Option Addr) (c : Nat) (xs : List S46) (A1 : Option Addr) (c1 : Nat) (ys : List S46) (len : Nat) (hlen : len ≤ 64) (w0 w : World)
  (hb1 : w0.heap[B1]? = some (.cells #[.slice A len c] 36)) (hb2 : w0.heap[B2]? = some (.cells #[.slice A1 len c1] 36)) (hx : Kd.C k46 w0 A len xs) (hy : Kd.C k46 w0 A1 len ys) (hB : Below w0.heap.size w0 w) :
  SeqStopsK Fence.wide n Try.prog 36 #[.pointer (some ⟨B1, 0, none⟩), .pointer (some ⟨B2, 0, none⟩)] (fun x : { k : Nat // k < len } => encP (rd_T46 xs x.1) (rd_T46 ys x.1)) (fun W W' => Below w0.heap.size w0 W → Below w0.heap.size w0 W')
   (fun zs => zs.map (·.1) = List.range len) (fun pre => pre.length ≤ len) len w := fun l J Jx W hW hJ hJx hY h0 =>
 pairs2_in n l B1 B2 A c xs A1 c1 ys len hlen (fun W => Below w0.heap.size w0 W) J Jx
  (fun W hW => ⟨(blk_cell ((hW.block _ (blk_lt hb1)).trans hb1) 0).trans rfl, (blk_cell ((hW.block _ (blk_lt hb2)).trans hb2) 0).trans rfl, Kd.C_below hx hW, Kd.C_below hy hW⟩)
  (fun W hW => below_drew hW) (fun pre W h => hJ pre W W.drew none h (grown_of_below (below_drew (Below.refl _ _)) none) (fun r e => by cases e)) hY W (hB.trans (hW.mono hB.size)) h0
theorem keeps_alloc (B : Nat) (W : World) (o : Obj) : KeepsFrom B W (W.alloc o) := ⟨by simp, fun k o2 hB hk _ => ((below_alloc (Below.refl _ W) o).block k (Array.getElem?_eq_some_iff.1 hk).1).trans hk⟩
set_option maxHeartbeats 4000000 in
set_option maxRecDepth 100000 in
theorem within_calls (B1 B2 : Nat) (A : Option Addr) (c : Nat) (xs : List S46) (A1 : Option Addr) (c1 : Nat) (ys : List S46) (len : Nat) (hlen : len ≤ 64) (w0 : World)
  (hb1 : w0.heap[B1]? = some (.cells #[.slice A len c] 36)) (hb2 : w0.heap[B2]? = some (.cells #[.slice A1 len c1] 36)) (hx : Kd.C k46 w0 A len xs) (hy : Kd.C k46 w0 A1 len ys)
  (hw : ∀ k : Nat, k < len → (rd_T46 xs k).f2.f0 ≤ (rd_T46 ys k).f2.f0 ∧ (rd_T46 ys k).f2.f1 ≤ (rd_T46 xs k).f2.f1) :
  Calls Try.prog 22 #[.func (.func 36) #[] #[.pointer (some ⟨B1, 0, none⟩), .pointer (some ⟨B2, 0, none⟩)]] w0 fun e w' => e = .returned (.bool true) ∧ Below w0.heap.size w0 w' := by
 have HWI := Aside0.mk hw
 have HX := Aside0.mk hb1
 have HY := Aside0.mk hb2
 have HCX := Aside0.mk hx
 have HCY := Aside0.mk hy
 clear hw hb1 hb2 hx hy
 refine (callsIn_wide (n := 3)).1 (callsIn_of_wp_marks Try.func22 rfl trivial ?_ rfl)
 simp only [Try.ntmps22, List.size_toArray, List.length_cons, List.length_nil, Nat.reduceAdd, Nat.reduceSub, Array.replicate_succ, Array.replicate_zero, List.push_toArray, List.append_toArray, List.nil_append, List.cons_append]
 refine wpIn_mono (Q := retPost _ _ _ _ _) (wpIn_wide.2 ?_) retPost_le
 go_wp2_with fail
 have HR0 := Aside0.mk (heap_alloc_new w0 (.cells #[.bool false] 4))
 have HB0 := Aside0.mk (below_alloc (Below.refl _ w0) (.cells #[.bool false] 4))
 have HS0 := Aside0.mk (show (w0.alloc (.cells #[.bool false] 4)).heap.size = w0.heap.size + 1 from World.size_alloc _ _)
 generalize w0.alloc (.cells #[.bool false] 4) = w1 at HR0 HB0 HS0 ⊢
 refine (wpIn_wide (n := 3)).1 ?_
 refine wpIn_rangeFunc_ownH rfl (by omega) (gf := 36) (lb := #[.pointer (some ⟨B1, 0, none⟩), .pointer (some ⟨B2, 0, none⟩)]) rfl trivial (enters_ Try.func36 (by kernel_rfl) rfl)
  (pairs2_stops 2 B1 B2 A c xs A1 c1 ys len hlen w0 w1 HX.out HY.out HCX.out HCY.out HB0.out)
  (fun h k hw => k (h hw))
  (fun W l' o o' hl ho hc _ hW => below_low hW (grownBy_put l' o') (fun r e => by cases e; exact hl) HB0.out.size)
  (Below.refl _ _) (fun _ => rfl)
  (fun _ W => Below w0.heap.size w0 W ∧ W.heap[w0.heap.size]? = some (.cells #[.bool false] 4)) (fun _ _ _ => False)
  (by
   intro s X Y row hs hgr hrow
   have := HS0.out
   exact ⟨below_low hs.1 hgr (fun r e => (hrow r e).1) HB0.out.size, (grown_low hgr (fun r e => (hrow r e).1) _ (by omega) (blk_lt hs.2)).trans hs.2⟩)
  (fun _ _ _ _ _ h => h.elim) ⟨HB0.out, HR0.out⟩
  (fun x a' W => ∃ q, a' = { tmps := #[.func (.func 36) #[] #[.pointer (some ⟨B1, 0, none⟩), .pointer (some ⟨B2, 0, none⟩)], undef, .pointer (some ⟨w0.heap.size, 0, none⟩), .pointer (some ⟨q, 0, none⟩), .func (.func 36) #[] #[.pointer (some ⟨B1, 0, none⟩), .pointer (some ⟨B2, 0, none⟩)], (encP (rd_T46 xs x.1) (rd_T46 ys x.1)).getD 0 undef, undef, undef, undef, undef, undef, undef, undef, undef, undef, undef, undef, undef, undef, undef, undef, undef, undef, undef, undef, undef], defers := [] } ∧
   ∃ cs, encP (rd_T46 xs x.1) (rd_T46 ys x.1) = #[.agg cs] ∧ W.heap[q]? = some (.cells cs 69))
  (by
   rintro x a' _ X Y row ⟨q, ha, cs, hcs, hq⟩ hgr hrow
   refine ⟨q, ha, cs, hcs, (hgr.block q (blk_lt hq) (fun e => ?_)).trans hq⟩
   obtain ⟨_, o, ho, hc⟩ := hrow q e.symm
   rw [hq] at ho
   cases ho
   simp [Obj.isCells] at hc)
  ?assign ?body ?done ?stop
 case assign =>
  intro l' pre x W K hI hK
  generalize rd_T46 ys x.1 = y at hK ⊢
  generalize rd_T46 xs x.1 = x at hK ⊢
  simp only [encP] at hK ⊢
  have HK := Aside0.mk hK
  clear hK
  gi_wp2
  exact HK.out _ _ (keeps_alloc _ _ _) (fun h => below_alloc h _) ⟨below_alloc hI.1 _, blk_alloc hI.2 _⟩ ⟨W.heap.size, rfl, _, rfl, heap_alloc_new W _⟩
 case body =>
  intro l' pre x a' W hl hloop hI hA hlt
  obtain ⟨q, rfl, cs, hcs, hq⟩ := hA
  obtain ⟨p1, p2⟩ := HWI.out x.1 x.2
  clear hloop
  generalize rd_T46 ys x.1 = y at p1 p2 hcs ⊢
  generalize rd_T46 xs x.1 = x at p1 p2 hcs ⊢
  simp only [encP] at hcs ⊢
  obtain rfl : cs = #[.int .i64 x.f0, .int .i64 x.f1, .int .i64 x.f2.f0, .int .i64 x.f2.f1, .bool x.f3, .int .i64 y.f0, .int .i64 y.f1, .int .i64 y.f2.f0, .int .i64 y.f2.f1, .bool y.f3] := by
   have h := congrArg (fun a => a.getD 0 undef) hcs
   simpa using h.symm
  have d1 : decide (y.f2.f0 < x.f2.f0) = false := decide_eq_false (by omega)
  have d2 : decide (x.f2.f1 < y.f2.f1) = false := decide_eq_false (by omega)
  have c2 : W.cell? ⟨q, 2, none⟩ = some (.int .i64 x.f2.f0) := (blk_cell hq 2).trans rfl
  have c3 : W.cell? ⟨q, 3, none⟩ = some (.int .i64 x.f2.f1) := (blk_cell hq 3).trans rfl
  have c7 : W.cell? ⟨q, 7, none⟩ = some (.int .i64 y.f2.f0) := (blk_cell hq 7).trans rfl
  have c8 : W.cell? ⟨q, 8, none⟩ = some (.int .i64 y.f2.f1) := (blk_cell hq 8).trans rfl
  have HI := Aside0.mk hI
  clear hI hcs hq p1 p2
  gi_wp2
  exact ⟨KeepsFrom.refl _ _, fun h => h, HI.out⟩
 case done =>
  intro D zs W hD hS hI hK
  have HI := Aside0.mk hI
  have HKD := Aside0.mk hK
  have HDB := Aside0.mk (show w0.heap.size + 1 ≤ D by have := HS0.out; omega)
  clear hI hK hS hD
  have hc : W.cell? ⟨w0.heap.size, 0, none⟩ = some (.bool false) := (blk_cell HI.out.2 0).trans rfl
  have hf : W.frozen? ⟨w0.heap.size, 0, none⟩ = false := blk_frozen HI.out.2 0
  go_wp2_with fail
  have HF := Aside0.mk (blk_put HI.out.2 0 (.bool true) rfl)
  have HKE := Aside0.mk (show (W.setCell ⟨w0.heap.size, 0, none⟩ (.bool true)).heap[D]? = some (.deferred (some [])) from (Below.heap_setCell W ⟨w0.heap.size, 0, none⟩ (.bool true) D (by have := HDB.out; show D ≠ w0.heap.size; omega)).trans HKD.out)
  have HBE := Aside0.mk (below_set (j := 0) (v := .bool true) HI.out.1 (Nat.le_refl _))
  generalize W.setCell ⟨w0.heap.size, 0, none⟩ (.bool true) = w2 at HF HKE HBE ⊢
  show LeavesInM _ _ _ _ _ _ [_] _ _
  refine ⟨by simp, .inl ⟨_, _, rfl, run_takeDeferred HKE.out, ?_⟩⟩
  have HF3 := Aside0.mk (((grownBy_put D (.deferred none)).block w0.heap.size (blk_lt HF.out) (fun e => by injection e with e; have := HDB.out; omega)).trans HF.out)
  have HB3 := Aside0.mk (HBE.out.grown (grownBy_put D (.deferred none)) HBE.out.size (fun r e => by injection e with e; have := HDB.out; omega))
  have hc3 := (blk_cell HF3.out 0).trans rfl
  exact ⟨.bool true, by simp [results, Try.results22, go_sem, hc3], rfl, HB3.out⟩
 case stop =>
  intro D c' pre W hD hSp hI hK
  exact hI.elim
end
section
-- The contract of settle's Settle, where all is in order.
attribute [local go_sem] max2_int min2_int
attribute [local go_sem] Oper.semAt_some
set_option linter.unusedVariables false
set_option linter.unusedSimpArgs false
/-! ### a statement of a round, by the laws for a plain frame -/
section
variable {P : Program} {ops : Array Oper} {Q : Exit → Act → World → Prop} {l n : Nat}
theorem list_round (hQ : ∀ a w, ¬ Q .outgrown a w) : ∀ (os : List Oper), (∀ o ∈ os, ∀ c, o.op ≠ .defer c) → ∀ (a : Act) (w : World), wpList P ops Q os a w → wpListIn (Fence.wide.inRound l) n P ops Q os a w
 | [], _, _, _, h => h
 | o :: os, hd, a, w, h => by
  unfold wpList at h
  unfold wpListIn
  by_cases hw : Region.wanted o (yielded ops a.tmps) = true
  ·rw [if_pos hw] at h ⊢
   rcases h with h1 | ⟨_, a0, w0, h2⟩
   ·exact Oper.wpIn_mono (fun a' w' h3 => list_round hQ os (fun o ho => hd o (List.mem_cons_of_mem _ ho)) a' w' h3) (oper_round (hd o List.mem_cons_self) h1)
   ·exact absurd h2 (hQ a0 w0)
  ·rw [if_neg hw] at h ⊢
   exact ⟨fun _ _ => trivial, list_round hQ os (fun o ho => hd o (List.mem_cons_of_mem _ ho)) _ w h⟩
theorem region_list {id : Nat} {a : Act} {w : World} (hd : noDefer ops = true) (hQ : ∀ a w, ¬ Q .outgrown a w) (h : wpList P ops Q ops.toList a w) : (Code.region id ops false).wpIn (Fence.wide.inRound l) n P Q a w :=
 wpIn_region_list (list_round hQ _ (fun o ho c => by obtain ⟨i, hi⟩ := List.getElem?_of_mem ho; exact noDefer_spec hd i o (by simpa using hi) c) _ _ h)
end
theorem list_round_from {P : Program} {ops : Array Oper} {Q : Exit → Act → World → Prop} {l n : Nat} {o : Oper} {os : List Oper} {a : Act} {w : World} {N : Nat} (hN : o.dst = some N) (hd : noDefer (o :: os).toArray = true) (hQ : ∀ a w, ¬ Q .outgrown a w)
  (h : wpList P ops Q (o :: os) a w) : wpListIn (Fence.wide.inRound l) n P ops Q (o :: os) a w :=
 list_round hQ _ (fun o' ho c => by obtain ⟨i, hi⟩ := List.getElem?_of_mem ho; exact noDefer_spec hd i o' (by simpa using hi) c) _ _ h
def settled (xs ys : List S46) (k : Nat) : S46 := ⟨(rd_T46 ys k).f0, wrap64 ((rd_T46 ys k).f1 - (rd_T46 xs k).f1), ⟨wrap64 ((rd_T46 ys k).f2.f0 - (rd_T46 xs k).f1), wrap64 ((rd_T46 ys k).f2.f1 - (rd_T46 xs k).f1)⟩, (rd_T46 ys k).f3⟩
/-- What holds between two rounds of Settle. -/
structure SI (w : World) (out : List S46) (W : World) : Prop where
 below : Below w.heap.size w W
 obo : ∃ v, W.heap[w.heap.size]? = some (.cells #[v] 36) ∧ Kd.R k46 46 W w.heap.size (fun k => k ≠ w.heap.size) v out
theorem SI.low {w W W' : World} {out : List S46} {row : Option Nat} (h : SI w out W) (hg : W.grownBy W' row) (hr : ∀ r, row = some r → w.heap.size ≤ r ∧ ∃ o : Obj, W.heap[r]? = some o ∧ o.isCells = false) : SI w out W' := by
 have stay : ∀ (k : Nat) (cs : Array Value) (t : TypeId), W.heap[k]? = some (.cells cs t (0, 0)) → W'.heap[k]? = some (.cells cs t (0, 0)) := fun k cs t hk => (hg.block k (blk_lt hk) (fun e => by
  obtain ⟨_, o, ho, hc⟩ := hr k e.symm
  rw [hk] at ho
  cases ho
  simp [Obj.isCells] at hc)).trans hk
 obtain ⟨v, h1, h2⟩ := h.obo
 refine ⟨h.below.grown hg h.below.size (fun r e => (hr r e).1), ⟨v, stay _ _ _ h1, Kd.R_mono (Kd.R_move (Kd.R_bound h2) (fun k hk => ?_)) (fun _ hk => hk.1)⟩⟩
 obtain ⟨_, _, _, q, _, cells, hc⟩ := hk
 rw [hc]
 exact stay k cells q hc
theorem SI.at_ {w W W' : World} {out : List S46} (h : SI w out W) (hb : Below W.heap.size W W') : SI w out W' := by
 obtain ⟨v, h1, h2⟩ := h.obo
 exact ⟨h.below.trans (hb.mono h.below.size), ⟨v, (hb.block _ (blk_lt h1)).trans h1, Kd.R_below h2 hb⟩⟩
theorem put46_new {W : World} {nb : Nat} {a b c d e : Value} (h : W.heap[nb]? = some (.cells #[a, b, c, d, e] 46)) (y : S46) : (put46 W nb 0 y).heap[nb]? = some (.cells #[.int .i64 y.f0, .int .i64 y.f1, .int .i64 y.f2.f0, .int .i64 y.f2.f1, .bool y.f3] 46) :=
 blk_put (cs := #[.int .i64 y.f0, .int .i64 y.f1, .int .i64 y.f2.f0, .int .i64 y.f2.f1, e]) (blk_put (cs := #[.int .i64 y.f0, .int .i64 y.f1, .int .i64 y.f2.f0, d, e]) (blk_put (cs := #[.int .i64 y.f0, .int .i64 y.f1, c, d, e]) (blk_put (cs := #[.int .i64 y.f0, b, c, d, e]) (blk_put h 0 _ rfl) 1 _ rfl) 2 _ rfl) 3 _ rfl) 4 _ rfl
theorem put46_below {w0 W : World} {nb : Nat} (h : Below w0.heap.size w0 W) (hn : w0.heap.size ≤ nb) (y : S46) : Below w0.heap.size w0 (put46 W nb 0 y) := below_set (below_set (below_set (below_set (below_set h hn) hn) hn) hn) hn
set_option maxHeartbeats 8000000 in
set_option maxRecDepth 100000 in
theorem settle_calls (A : Option Addr) (c : Nat) (xs : List S46) (A1 : Option Addr) (c1 : Nat) (ys : List S46) (len : Nat) (ho hnw s : Int) (w : World) (hx : Kd.C k46 w A len xs) (hy : Kd.C k46 w A1 len ys) (hc : len ≤ c) (hc1 : len ≤ c1) (hlen : len ≤ 64)
  (hgx : ∀ k : Nat, k < len → GoodC xs k) (hgy : ∀ k : Nat, k < len → GoodC ys k) (hh : ∀ k : Nat, k < len → (rd_T46 xs k).f0 = (rd_T46 ys k).f0)
  (hw : ∀ k : Nat, k < len → (rd_T46 xs k).f2.f0 ≤ (rd_T46 ys k).f2.f0 ∧ (rd_T46 ys k).f2.f1 ≤ (rd_T46 xs k).f2.f1)
  (hs1 : settle_sum.f (len + 1) xs ho = some s) (hs2 : settle_sum.f (len + 1) ys hnw = some s) (ha : [ho, hnw].any amountB = false) (ha2 : [wrap64 (hnw - ho)].any amountB = false)
  (ha3 : ∀ k : Nat, k < len → [(settled xs ys k).f1, (settled xs ys k).f2.f0, (settled xs ys k).f2.f1].any amountB = false) :
  Calls Try.prog 11 #[.slice A len c, .slice A1 len c1, .int .i64 ho, .int .i64 hnw] w fun e w' => ∃ v, e = .returned (.tuple #[v, .int .i64 (wrap64 (hnw - ho)), .int .i64 0]) ∧ Kd.R k46 46 w' w.heap.size (fun _ => True) v ((List.range len).map (settled xs ys)) ∧ Below w.heap.size w w' := by
 have HX := Aside0.mk hx
 have HY := Aside0.mk hy
 have HXL := Aside0.mk hx.1
 have HYL := Aside0.mk hy.1
 have HPC := Aside0.mk (fun W (hb : Below w.heap.size w W) => pairs_calls A c xs A1 c1 ys len W (Kd.C_below hx hb) (Kd.C_below hy hb) hlen hgx hgy hh)
 have HS1 := Aside0.mk (fun W (hb : Below w.heap.size w W) => settle_sum.calls (len + 1) A c xs ho s W (by rw [hx.1]; exact Kd.C_below hx hb) (by rw [hx.1]; exact hc) hs1)
 have HS2 := Aside0.mk (fun W (hb : Below w.heap.size w W) => settle_sum.calls (len + 1) A1 c1 ys hnw s W (by rw [hy.1]; exact Kd.C_below hy hb) (by rw [hy.1]; exact hc1) hs2)
 rw [hx.1] at HS1
 rw [hy.1] at HS2
 have HWI := Aside0.mk hw
 have HA := Aside0.mk ha
 have HA2 := Aside0.mk ha2
 have HA3 := Aside0.mk ha3
 clear hx hy hgx hgy hh hw hs1 hs2 ha ha2 ha3 hc hc1
 refine (callsIn_wide (n := 3)).1 (callsIn_of_wp_marks Try.func11 rfl trivial ?_ rfl)
 simp only [Try.ntmps11, List.size_toArray, List.length_cons, List.length_nil, Nat.reduceAdd, Nat.reduceSub, Array.replicate_succ, Array.replicate_zero, List.push_toArray, List.append_toArray, List.nil_append, List.cons_append]
 refine wpIn_mono (Q := retPost _ _ _ _ _) (wpIn_wide.2 ?_) retPost_le
 go_wp2_with fail
 obtain ⟨w1, hw1⟩ : ∃ w1, ((w.alloc (.cells #[.slice none 0 0] 36)).alloc (.cells #[.int .i64 0] 3)).alloc (.cells #[.int .i64 0] 31) = w1 := ⟨_, rfl⟩
 have R8 := Aside0.mk (show w1.heap[w.heap.size]? = some (.cells #[.slice none 0 0] 36) by rw [← hw1]; exact blk_alloc (blk_alloc (heap_alloc_new w _) _) _)
 have R9 := Aside0.mk (show w1.heap[w.heap.size + 1]? = some (.cells #[.int .i64 0] 3) by
  rw [← hw1]
  have h := heap_alloc_new (w.alloc (.cells #[.slice none 0 0] 36)) (.cells #[.int .i64 0] 3)
  rw [World.size_alloc] at h
  exact blk_alloc h _)
 have R10 := Aside0.mk (show w1.heap[w.heap.size + 2]? = some (.cells #[.int .i64 0] 31) by
  rw [← hw1]
  have h := heap_alloc_new ((w.alloc (.cells #[.slice none 0 0] 36)).alloc (.cells #[.int .i64 0] 3)) (.cells #[.int .i64 0] 31)
  rw [World.size_alloc, World.size_alloc] at h
  exact h)
 have HB := Aside0.mk (show Below w.heap.size w w1 by rw [← hw1]; exact below_alloc (below_alloc (below_alloc (Below.refl _ w) _) _) _)
 have HSZ := Aside0.mk (show w.heap.size + 3 ≤ w1.heap.size by rw [← hw1]; simp)
 rw [hw1]
 clear hw1
 refine (HPC.out _ HB.out).mono ?_
 clear HPC
 rintro e w2 ⟨rfl, hb1, hb2, hb⟩
 have P1 := Aside0.mk hb1
 have P2 := Aside0.mk hb2
 have HB2 := Aside0.mk hb
 clear hb1 hb2 hb
 generalize hB1 : w1.heap.size = B1 at P1 P2 HB2 ⊢
 have HB1E := Aside0.mk hB1
 clear hB1
 have HBW := Aside0.mk (show Below w.heap.size w w2 from HB.out.trans (by have h := HB2.out; rw [← HB1E.out] at h; exact h.mono HB.out.size))
 have HIC := Aside0.mk (isAmount_calls (some ⟨w2.heap.size, 0, none⟩) 2 [ho, hnw] (w2.alloc (.cells #[.int .i64 ho, .int .i64 hnw] 3)) (C_row encI (fun _ => rfl) (fun _ => rfl) (heap_alloc_new w2 _) rfl (by simp)))
 rw [HA.out] at HIC
 go_wp2_with fail
 have HB3 := Aside0.mk (below_alloc (Below.refl _ w2) (.cells #[.int .i64 ho, .int .i64 hnw] 3))
 generalize w2.alloc (.cells #[.int .i64 ho, .int .i64 hnw] 3) = w3 at HIC HB3 ⊢
 refine HIC.out.mono ?_
 clear HIC
 rintro e w4 ⟨rfl, hb⟩
 have HB4 := Aside0.mk (HB3.out.trans (hb.mono HB3.out.size))
 clear hb HB3
 have HWC := Aside0.mk (within_calls B1 (B1 + 1) A c xs A1 c1 ys len hlen w4 ((HB4.out.block _ (blk_lt P1.out)).trans P1.out) ((HB4.out.block _ (blk_lt P2.out)).trans P2.out) (Kd.C_below HX.out (HBW.out.trans (HB4.out.mono HBW.out.size))) (Kd.C_below HY.out (HBW.out.trans (HB4.out.mono HBW.out.size))) HWI.out)
 go_wp2_with fail
 refine HWC.out.mono ?_
 clear HWC
 rintro e w5 ⟨rfl, hb⟩
 have HB5 := Aside0.mk (HB4.out.trans (hb.mono HB4.out.size))
 clear hb HB4
 have HBV := Aside0.mk (HBW.out.trans (HB5.out.mono HBW.out.size))
 go_wp2_with fail
 refine (HS1.out _ HBV.out).mono ?_
 rintro e w6 ⟨rfl, hb⟩
 replace HB5 := Aside0.mk (HB5.out.trans (hb.mono HB5.out.size))
 replace HBV := Aside0.mk (HBV.out.trans (hb.mono HBV.out.size))
 clear hb HS1
 go_wp2_with fail
 refine (HS2.out _ HBV.out).mono ?_
 rintro e w7 ⟨rfl, hb⟩
 replace HB5 := Aside0.mk (HB5.out.trans (hb.mono HB5.out.size))
 replace HBV := Aside0.mk (HBV.out.trans (hb.mono HBV.out.size))
 clear hb HS2
 have HIC := Aside0.mk (isAmount_calls (some ⟨w7.heap.size, 0, none⟩) 1 [wrap64 (hnw - ho)] (w7.alloc (.cells #[.int .i64 (wrap64 (hnw - ho))] 3)) (C_row encI (fun _ => rfl) (fun _ => rfl) (heap_alloc_new w7 _) rfl (by simp)))
 rw [HA2.out] at HIC
 obtain ⟨df, hdf⟩ : ∃ df, wrap64 (hnw - ho) = df := ⟨_, rfl⟩
 rw [hdf] at HIC
 have hss : (s == s) = true := by simp
 have hss2 : (s != s) = false := by simp
 have hdfw : wrap64 (hnw - ho) = df := hdf
 go_wp2_with fail
 have HB8 := Aside0.mk (below_alloc (Below.refl _ w7) (.cells #[.int .i64 df] 3))
 generalize w7.alloc (.cells #[.int .i64 df] 3) = w8 at HIC HB8 ⊢
 refine HIC.out.mono ?_
 clear HIC
 rintro e w9 ⟨rfl, hb⟩
 replace HB8 := Aside0.mk (HB8.out.trans (hb.mono HB8.out.size))
 replace HB5 := Aside0.mk (HB5.out.trans (HB8.out.mono HB5.out.size))
 replace HBV := Aside0.mk (HBV.out.trans (HB8.out.mono HBV.out.size))
 clear hb HB8
 go_wp2_with fail
 have HR0 := Aside0.mk (heap_alloc_new w9 (.cells #[.slice none 0 0] 36))
 have HBL := Aside0.mk (below_alloc (Below.refl _ w9) (.cells #[.slice none 0 0] 36))
 have HSL := Aside0.mk (show (w9.alloc (.cells #[.slice none 0 0] 36)).heap.size = w9.heap.size + 1 from World.size_alloc _ _)
 generalize w9.alloc (.cells #[.slice none 0 0] 36) = wl at HR0 HBL HSL ⊢
 refine (wpIn_wide (n := 3)).1 ?_
 refine wpIn_rangeFunc_ownH rfl (by omega) (gf := 36) (lb := #[.pointer (some ⟨B1, 0, none⟩), .pointer (some ⟨B1 + 1, 0, none⟩)]) rfl trivial (enters_ Try.func36 (by kernel_rfl) rfl)
  (pairs2_stops 2 B1 (B1 + 1) A c xs A1 c1 ys len hlen w9 wl ((HB5.out.block _ (blk_lt P1.out)).trans P1.out) ((HB5.out.block _ (blk_lt P2.out)).trans P2.out) (Kd.C_below HX.out HBV.out) (Kd.C_below HY.out HBV.out) HBL.out)
  (fun h k hw => k (h hw))
  (fun W l' o o' hl ho hc _ hW => below_low hW (grownBy_put l' o') (fun r e => by cases e; exact hl) HBL.out.size)
  (Below.refl _ _) (fun _ => rfl)
  (fun pre W => SI w9 ((pre.map (·.1)).map (settled xs ys)) W) (fun _ _ _ => False)
  (by
   intro sx X Y row hs hgr hrow
   exact SI.low hs hgr (fun r e => ⟨Nat.le_trans HBL.out.size (hrow r e).1, (hrow r e).2⟩))
  (fun _ _ _ _ _ h => h.elim) ⟨HBL.out, ⟨_, HR0.out, Kd.R_nil _ _ _ _ _⟩⟩
  (fun x a' W => ∃ q, a' = { tmps := #[.slice A len c, .slice A1 len c1, .int .i64 ho, .int .i64 hnw, undef, undef, undef, undef, .pointer (some ⟨w.heap.size, 0, none⟩), .pointer (some ⟨w.heap.size + 1, 0, none⟩), .pointer (some ⟨w.heap.size + 1 + 1, 0, none⟩), (.func (.func 36) #[] #[.pointer (some ⟨B1, 0, none⟩), .pointer (some ⟨B1 + 1, 0, none⟩)]), .bool true, .pointer (some ⟨w9.heap.size, 0, none⟩), .pointer (some ⟨q, 0, none⟩), undef, undef, (.tuple #[(.func (.func 36) #[] #[.pointer (some ⟨B1, 0, none⟩), .pointer (some ⟨B1 + 1, 0, none⟩)]), .bool true]), .slice A len c, .slice A1 len c1, (.tuple #[(.func (.func 36) #[] #[.pointer (some ⟨B1, 0, none⟩), .pointer (some ⟨B1 + 1, 0, none⟩)]), .bool true]), (.func (.func 36) #[] #[.pointer (some ⟨B1, 0, none⟩), .pointer (some ⟨B1 + 1, 0, none⟩)]), .bool true, .bool false, .bool true, .bool false, .bool false, .int .i64 ho, .int .i64 hnw, .slice (some ⟨w2.heap.size, 0, none⟩) 2 2, .bool true, .bool false, .bool false, .bool false, (.func (.func 36) #[] #[.pointer (some ⟨B1, 0, none⟩), .pointer (some ⟨B1 + 1, 0, none⟩)]), .bool true, .bool false, .bool false, .slice A len c, .int .i64 ho, .int .i64 s, .slice A1 len c1, .int .i64 hnw, .int .i64 s, .bool false, .bool false, .int .i64 hnw, .int .i64 ho, .int .i64 df, .slice (some ⟨w7.heap.size, 0, none⟩) 1 1, .bool true, .bool false, (.func (.func 36) #[] #[.pointer (some ⟨B1, 0, none⟩), .pointer (some ⟨B1 + 1, 0, none⟩)]), (encP (rd_T46 xs x.1) (rd_T46 ys x.1)).getD 0 undef, undef, undef, undef, undef, undef, undef, undef, undef, undef, undef, undef, undef, undef, undef, undef, undef, undef, undef, undef, undef, undef, undef, undef, undef, undef, undef, undef, undef, undef, undef, undef, undef, undef, undef, undef, undef, undef, undef, undef, undef, undef, undef, undef], defers := [] } ∧
   ∃ cs, encP (rd_T46 xs x.1) (rd_T46 ys x.1) = #[.agg cs] ∧ w9.heap.size + 1 ≤ q ∧ W.heap[q]? = some (.cells cs 69))
  (by
   rintro x a' _ X Y row ⟨q, ha, cs, hcs, hqq, hq⟩ hgr hrow
   refine ⟨q, ha, cs, hcs, hqq, (hgr.block q (blk_lt hq) (fun e => ?_)).trans hq⟩
   obtain ⟨_, o, ho, hc⟩ := hrow q e.symm
   rw [hq] at ho
   cases ho
   simp [Obj.isCells] at hc)
  ?assign ?body ?done ?stop
 case assign =>
  intro l' pre x W K hI hK
  have HK := Aside0.mk hK
  have HI := Aside0.mk hI
  clear hK hI
  generalize rd_T46 ys x.1 = y at HK ⊢
  generalize rd_T46 xs x.1 = x' at HK ⊢
  simp only [encP] at HK ⊢
  gi_wp2
  obtain ⟨_, h1, _⟩ := HI.out.obo
  refine HK.out _ _ (keeps_alloc _ _ _) (fun h => below_alloc h _) (HI.out.at_ (below_alloc (Below.refl _ _) _)) ⟨W.heap.size, rfl, _, rfl, blk_lt h1, heap_alloc_new W _⟩
 case body =>
  intro l' pre x a' W hl hloop hI hA hlt
  obtain ⟨q, rfl, cs, hcs, hqq, hq⟩ := hA
  have HEX := Aside0.mk (show ((pre ++ [x]).map (·.1)).map (settled xs ys) = (pre.map (·.1)).map (settled xs ys) ++ [settled xs ys x.1] by simp)
  have HAM := Aside0.mk (HA3.out x.1 x.2)
  have HSE := Aside0.mk (show settled xs ys x.1 = ⟨(rd_T46 ys x.1).f0, wrap64 ((rd_T46 ys x.1).f1 - (rd_T46 xs x.1).f1), ⟨wrap64 ((rd_T46 ys x.1).f2.f0 - (rd_T46 xs x.1).f1), wrap64 ((rd_T46 ys x.1).f2.f1 - (rd_T46 xs x.1).f1)⟩, (rd_T46 ys x.1).f3⟩ from rfl)
  have HPL := Aside0.mk (show ((pre.map (·.1)).map (settled xs ys)).length ≤ 64 by simp; omega)
  generalize settled xs ys x.1 = z at HEX HAM HSE
  generalize (pre.map (·.1)).map (settled xs ys) = outp at hI HEX HPL
  have HI := Aside0.mk hI
  clear hloop hI
  generalize rd_T46 ys x.1 = y at hcs HSE ⊢
  generalize rd_T46 xs x.1 = x' at hcs HSE ⊢
  simp only [encP] at hcs ⊢
  obtain rfl : cs = #[.int .i64 x'.f0, .int .i64 x'.f1, .int .i64 x'.f2.f0, .int .i64 x'.f2.f1, .bool x'.f3, .int .i64 y.f0, .int .i64 y.f1, .int .i64 y.f2.f0, .int .i64 y.f2.f1, .bool y.f3] := by
   have h := congrArg (fun a => a.getD 0 undef) hcs
   simpa using h.symm
  have k1 : W.cell? ⟨q, 1, none⟩ = some (.int .i64 x'.f1) := (blk_cell hq 1).trans rfl
  have k5 : W.cell? ⟨q, 5, none⟩ = some (.int .i64 y.f0) := (blk_cell hq 5).trans rfl
  have k6 : W.cell? ⟨q, 6, none⟩ = some (.int .i64 y.f1) := (blk_cell hq 6).trans rfl
  have k7 : W.cell? ⟨q, 7, none⟩ = some (.int .i64 y.f2.f0) := (blk_cell hq 7).trans rfl
  have k8 : W.cell? ⟨q, 8, none⟩ = some (.int .i64 y.f2.f1) := (blk_cell hq 8).trans rfl
  have k9 : W.cell? ⟨q, 9, none⟩ = some (.bool y.f3) := (blk_cell hq 9).trans rfl
  clear hcs hq
  gi_wp2
  refine region_round (by kernel_rfl) (by kernel_rfl) (fun _ _ h => False.elim h) (wpAny_of_last (S := Ext W) (ds := []) _ _ _ _ ?_)
  have hHeld : Ext W W.drew := fun _ _ h => h
  have HD := Aside0.mk (show Below W.heap.size W W.drew from (Below.refl _ _).drew)
  generalize W.drew = wa at HD hHeld ⊢
  show wpAnyLast _ _ _ _ _ _ 8 #[false, false, false, false, false, false, false, false] _ _
  refine pure_ (i := 0) (N := some 54) (v := ?_) (a' := ?_) #[true, false, false, false, false, false, false, false] rfl rfl (by kernel_rfl) (fun _ _ _ h => h) (Or.inl ⟨by rfl, ?_⟩) ?_ ?_
  rotate_left
  ·intro w'
   go_simp
   with_reducible rfl
  rotate_left
  ·simp only [Act.put, sA, sZ, sS, i64_w, i32_w]
   rfl
  refine pure_ (i := 2) (N := some 56) (v := ?_) (a' := ?_) #[true, false, true, false, false, false, false, false] rfl rfl (by kernel_rfl) (fun _ _ _ h => h) (Or.inl ⟨by rfl, ?_⟩) ?_ ?_
  rotate_left
  ·intro w'
   go_simp
   with_reducible rfl
  rotate_left
  ·simp only [Act.put, sA, sZ, sS, i64_w, i32_w]
   rfl
  refine pure_ (i := 3) (N := some 57) (v := ?_) (a' := ?_) #[true, false, true, true, false, false, false, false] rfl rfl (by kernel_rfl) (fun _ _ _ h => h) (Or.inl ⟨by rfl, ?_⟩) ?_ ?_
  rotate_left
  ·intro w'
   go_simp
   with_reducible rfl
  rotate_left
  ·simp only [Act.put, sA, sZ, sS, i64_w, i32_w]
   rfl
  refine take_ (i := 1) (N := some 55) (v := ?_) (a' := ?_) #[true, true, true, true, false, false, false, false] rfl rfl (by kernel_rfl) (fun _ _ _ h => h) (Or.inl ⟨by rfl, ?_⟩) hHeld ?_ ?_
  rotate_left
  ·intro w' hS
   have s0 := hS _ _ k1
   have s1 := hS _ _ k5
   have s2 := hS _ _ k6
   have s3 := hS _ _ k7
   have s4 := hS _ _ k8
   have s5 := hS _ _ k9
   clear hS
   go_simp
   with_reducible rfl
  rotate_left
  ·simp only [Act.put, sA, sZ, sS, i64_w, i32_w]
   rfl
  refine take_ (i := 4) (N := some 58) (v := ?_) (a' := ?_) #[true, true, true, true, true, false, false, false] rfl rfl (by kernel_rfl) (fun _ _ _ h => h) (Or.inl ⟨by rfl, ?_⟩) hHeld ?_ ?_
  rotate_left
  ·intro w' hS
   have s0 := hS _ _ k1
   have s1 := hS _ _ k5
   have s2 := hS _ _ k6
   have s3 := hS _ _ k7
   have s4 := hS _ _ k8
   have s5 := hS _ _ k9
   clear hS
   go_simp
   with_reducible rfl
  rotate_left
  ·simp only [Act.put, sA, sZ, sS, i64_w, i32_w]
   rfl
  refine one_ (i := 5) (N := some 15) #[true, true, true, true, true, true, false, false] rfl rfl (by kernel_rfl) (by decide) (fun K hK => ?_)
  have HNB := Aside0.mk (heap_alloc_new wa (.cells #[.int .i64 0, .int .i64 0, .int .i64 0, .int .i64 0, .bool false] 46))
  have HDB := Aside0.mk (HD.out.alloc HD.out.size (.cells #[.int .i64 0, .int .i64 0, .int .i64 0, .int .i64 0, .bool false] 46))
  refine value_ (v := .pointer (some ⟨wa.heap.size, 0, none⟩)) (w1 := wa.alloc (.cells #[.int .i64 0, .int .i64 0, .int .i64 0, .int .i64 0, .bool false] 46)) (by rfl) rfl (by first | (go_simp; done) | (go_simp; rfl)) ?_
  refine hK.out _ _ (Ext.of_below hHeld (below_alloc (Below.refl _ _) _)) (fun hHeld => ?_)
  have HNS := Aside0.mk (show W.heap.size ≤ wa.heap.size from HD.out.size)
  generalize wa.alloc (.cells #[.int .i64 0, .int .i64 0, .int .i64 0, .int .i64 0, .bool false] 46) = wb at HNB HDB hHeld ⊢
  generalize wa.heap.size = nb at HNB HNS ⊢
  clear hK K
  refine norm_ (a' := ?_) ?_ ?_
  rotate_left
  ·show Act.put _ (some 15) _ = _
   simp only [Act.put, sA, sZ, sS, i64_w, i32_w]
   rfl
  refine one_ (i := 6) (N := none) #[true, true, true, true, true, true, true, false] rfl rfl (by kernel_rfl) (by decide) (fun K hK => ?_)
  have b0 := (blk_cell HNB.out 0).trans rfl
  have b1 := (blk_cell HNB.out 1).trans rfl
  have b2 := (blk_cell HNB.out 2).trans rfl
  have b3 := (blk_cell HNB.out 3).trans rfl
  have b4 := (blk_cell HNB.out 4).trans rfl
  have f0 := blk_frozen HNB.out 0
  have f1 := blk_frozen HNB.out 1
  have f2 := blk_frozen HNB.out 2
  have f3 := blk_frozen HNB.out 3
  have f4 := blk_frozen HNB.out 4
  refine skip_ (w1 := put46 wb nb 0 y) (by rfl) rfl (by unfold put46; first | (go_simp; done) | (go_simp; rfl)) ?_
  have HN2 := Aside0.mk (put46_new HNB.out y)
  have HD2 := Aside0.mk (put46_below HDB.out HNS.out y)
  refine hK.out _ _ (Ext.of_below (fun _ _ h => h) HD2.out) (fun hHeld => ?_)
  generalize put46 wb nb 0 y = wc at HN2 HD2 hHeld ⊢
  clear hK K b0 b1 b2 b3 b4 f0 f1 f2 f3 f4
  refine pure_ (i := 7) (N := some 16) (v := ?_) (a' := ?_) #[true, true, true, true, true, true, true, true] rfl rfl (by kernel_rfl) (fun _ _ _ h => h) (Or.inl ⟨by rfl, ?_⟩) ?_ ?_
  rotate_left
  ·intro w'
   go_simp
   with_reducible rfl
  rotate_left
  ·simp only [Act.put, sA, sZ, sS, i64_w, i32_w]
   rfl
  refine done_ (by kernel_rfl) ?_
  clear k1 k5 k6 k7 k8 k9 hHeld
  have b0 : wc.cell? ⟨nb, 0, none⟩ = some (.int .i64 y.f0) := (blk_cell HN2.out 0).trans rfl
  have b1 : wc.cell? ⟨nb, 1, none⟩ = some (.int .i64 y.f1) := (blk_cell HN2.out 1).trans rfl
  have b2 : wc.cell? ⟨nb, 2, none⟩ = some (.int .i64 y.f2.f0) := (blk_cell HN2.out 2).trans rfl
  have b3 : wc.cell? ⟨nb, 3, none⟩ = some (.int .i64 y.f2.f1) := (blk_cell HN2.out 3).trans rfl
  have b4 : wc.cell? ⟨nb, 4, none⟩ = some (.bool y.f3) := (blk_cell HN2.out 4).trans rfl
  have f1 := blk_frozen HN2.out 1
  have f2 := blk_frozen HN2.out 2
  have f3 := blk_frozen HN2.out 3
  obtain ⟨z0, z1, ⟨z2, z3⟩, z4⟩ := z
  have e0 := congrArg S46.f0 HSE.out
  have e1 := congrArg S46.f1 HSE.out
  have e2 := congrArg (fun s => s.f2.f0) HSE.out
  have e3 := congrArg (fun s => s.f2.f1) HSE.out
  have e4 := congrArg S46.f3 HSE.out
  simp only at e0 e1 e2 e3 e4 HAM
  subst e0 e4
  replace e1 := e1.symm
  replace e2 := e2.symm
  replace e3 := e3.symm
  clear HSE
  gi_wp2_with fail
  obtain ⟨wd, hwd⟩ : ∃ wd, (((wc.setCell ⟨nb, 1, none⟩ (.int .i64 z1)).setCell ⟨nb, 2, none⟩ (.int .i64 z2)).setCell ⟨nb, 3, none⟩ (.int .i64 z3)) = wd := ⟨_, rfl⟩
  have HN3 := Aside0.mk (show wd.heap[nb]? = some (.cells #[.int .i64 y.f0, .int .i64 z1, .int .i64 z2, .int .i64 z3, .bool y.f3] 46) by
   rw [← hwd]
   exact blk_put (cs := #[.int .i64 y.f0, .int .i64 z1, .int .i64 z2, .int .i64 y.f2.f1, .bool y.f3]) (blk_put (cs := #[.int .i64 y.f0, .int .i64 z1, .int .i64 y.f2.f0, .int .i64 y.f2.f1, .bool y.f3]) (blk_put HN2.out 1 _ rfl) 2 _ rfl) 3 _ rfl)
  have HD3 := Aside0.mk (show Below W.heap.size W wd by rw [← hwd]; exact below_set (below_set (below_set HD2.out HNS.out) HNS.out) HNS.out)
  have hsz : wc.heap.size = wd.heap.size := by rw [← hwd]; simp
  rw [hwd, hsz]
  clear hwd hsz b0 b1 b2 b3 b4 f1 f2 f3 HN2 HD2 HNB HDB HD
  have HIC := Aside0.mk (isAmount_calls (some ⟨wd.heap.size, 0, none⟩) 3 [z1, z2, z3] (wd.alloc (.cells #[.int .i64 z1, .int .i64 z2, .int .i64 z3] 3)) (C_row encI (fun _ => rfl) (fun _ => rfl) (heap_alloc_new wd _) rfl (by simp)))
  rw [HAM.out] at HIC
  have HD4 := Aside0.mk (HD3.out.alloc HD3.out.size (.cells #[.int .i64 z1, .int .i64 z2, .int .i64 z3] 3))
  have HN4 := Aside0.mk (blk_alloc HN3.out (.cells #[.int .i64 z1, .int .i64 z2, .int .i64 z3] 3))
  generalize wd.alloc (.cells #[.int .i64 z1, .int .i64 z2, .int .i64 z3] 3) = we at HIC HD4 HN4 ⊢
  refine ⟨trivial, CallsIn.inRound l' (callsIn_wide.2 (HIC.out.mono ?_))⟩
  rintro e wf ⟨rfl, hb⟩
  replace HD4 := Aside0.mk (HD4.out.trans (hb.mono HD4.out.size))
  replace HN4 := Aside0.mk ((hb.block _ (blk_lt HN4.out)).trans HN4.out)
  clear hb HIC HD3 HN3
  have HIF := Aside0.mk (HI.out.at_ HD4.out)
  obtain ⟨v, hv1, hv2⟩ := HIF.out.obo
  obtain ⟨Ao, co, eo, _, _⟩ := Kd.R_reads hv2
  subst eo
  have HV1 := Aside0.mk hv1
  have HV2 := Aside0.mk hv2
  have hob : wf.cell? ⟨w9.heap.size, 0, none⟩ = some (.slice Ao outp.length co) := (blk_cell hv1 0).trans rfl
  have hof : wf.frozen? ⟨w9.heap.size, 0, none⟩ = false := blk_frozen hv1 0
  have b0 : wf.cell? ⟨nb, 0, none⟩ = some (.int .i64 y.f0) := (blk_cell HN4.out 0).trans rfl
  have b1 : wf.cell? ⟨nb, 1, none⟩ = some (.int .i64 z1) := (blk_cell HN4.out 1).trans rfl
  have b2 : wf.cell? ⟨nb, 2, none⟩ = some (.int .i64 z2) := (blk_cell HN4.out 2).trans rfl
  have b3 : wf.cell? ⟨nb, 3, none⟩ = some (.int .i64 z3) := (blk_cell HN4.out 3).trans rfl
  have b4 : wf.cell? ⟨nb, 4, none⟩ = some (.bool y.f3) := (blk_cell HN4.out 4).trans rfl
  clear hv1 hv2
  gi_wp2_with ((with_reducible refine list_round_from (N := 89) rfl ?hd ?hq ?_); (case hd => kernel_rfl); (case hq => exact fun _ _ h => False.elim h))
  have HLC := Aside0.mk (show outp.length ≤ 1000 by have := HPL.out; omega)
  go_wp2_with (first | ((with_reducible refine gate_builtin (b := .append) (xs := #[.tmp 89, .tmp 91]) rfl ?_); at_builtin; refine Kd.R_append k46 (w0 := w9) w9.heap.size rfl (.tmp 89) (.tmp 91) 36 46 (.agg #[.int .i64 0, .int .i64 0, .int .i64 0, .int .i64 0, .bool false]) 40 rfl Try.underlying36 info46 rfl (by decide) (by omega) (.slice Ao outp.length co) outp ⟨y.f0, z1, ⟨z2, z3⟩, y.f3⟩ [.int .i64 y.f0, .int .i64 z1, .int .i64 z2, .int .i64 z3, .bool y.f3] (fun k => k ≠ w9.heap.size) (fun _ => False) rfl (by first | rfl | (go_simp; done) | (go_simp; rfl)) ?aP (fun _ hk => hk.elim) ?aF ?aO ?aB ?aS ?aL ?_; (case aP => exact k46_mkM _ _ _ ⟨y.f0, z1, ⟨z2, z3⟩, y.f3⟩); (case aB => exact HIF.out.below); (case aF => exact (fun k hk => by have := blk_lt HV1.out; omega)); (case aO => exact HV2.out); (case aS => exact HIF.out.below.size); (case aL => have := HLC.out; omega); intro v7 wg ho7 hb7 hg7 hat; obtain ⟨An, cn, en, _, _⟩ := Kd.R_reads ho7; subst en; have HO7 := Aside0.mk ho7; have HB7 := Aside0.mk hb7; have HG7 := Aside0.mk hg7; have HV7 := Aside0.mk ((hg7.block w9.heap.size (blk_lt HV1.out) (fun e => HV2.out.1 _ e.symm rfl)).trans HV1.out); have hob7 : wg.cell? ⟨w9.heap.size, 0, none⟩ = some (.slice Ao outp.length co) := (blk_cell HV7.out 0).trans rfl; have hof7 : wg.frozen? ⟨w9.heap.size, 0, none⟩ = false := blk_frozen HV7.out 0; clear ho7 hb7 hg7 hat))
  have HO8 := HO7.out
  rw [List.length_append, List.length_singleton] at HO8
  have HSF := Aside0.mk (show SI w9 (outp ++ [⟨y.f0, z1, ⟨z2, z3⟩, y.f3⟩]) (wg.setCell ⟨w9.heap.size, 0, none⟩ (.slice An (outp.length + 1) cn)) from
   ⟨below_set HB7.out (Nat.le_refl _), ⟨.slice An (outp.length + 1) cn, blk_put HV7.out 0 _ rfl, Kd.R_far HO8 (p := ⟨w9.heap.size, 0, none⟩) (fun k hk => hk) _⟩⟩)
  have hsz1 := HD4.out.size
  have hsz2 := (Kept.of_grown HG7.out (Kept.refl wf (fun _ => True)) (fun _ _ => .inl trivial)).1
  refine ⟨⟨by simp; omega, fun k o hB hk hnc => ?_⟩, fun _ => HSF.out.below, by show SI w9 (((pre ++ [x]).map (·.1)).map (settled xs ys)) _; rw [HEX.out]; exact HSF.out⟩
  have hk1 := (HD4.out.block k (Array.getElem?_eq_some_iff.1 hk).1).trans hk
  have hk2 := (HG7.out.block k (Array.getElem?_eq_some_iff.1 hk1).1 (fun e => by
   obtain ⟨cells, hc⟩ := Kd.R_typed HV2.out k e.symm
   rw [hk1] at hc
   cases hc
   simp [Obj.isCells] at hnc)).trans hk1
  exact (Below.heap_setCell wg ⟨w9.heap.size, 0, none⟩ _ k (fun e => by
   have e' : k = w9.heap.size := e
   rw [e', HV7.out] at hk2
   cases hk2
   simp [Obj.isCells] at hnc)).trans hk2
 case done =>
  intro D zs W hD hS hI hK
  have HI : Aside0 (SI w9 ((List.range len).map (settled xs ys)) W) := ⟨by rw [← hS]; exact hI⟩
  have HKD := Aside0.mk hK
  have HDB := Aside0.mk (show w9.heap.size + 1 ≤ D by have := HSL.out; omega)
  have HDF := Aside0.mk hdf
  have HLT := Aside0.mk (show w.heap.size + 3 ≤ w9.heap.size by have := HSZ.out; have h := HB2.out.size; have := HB5.out.size; have := HB1E.out; omega)
  have q8 := Aside0.mk ((HI.out.below.block _ (by have := HLT.out; omega)).trans ((HB5.out.block _ (by have := HSZ.out; have := HB2.out.size; have := HB1E.out; omega)).trans ((HB2.out.block _ (by have := HSZ.out; have := HB1E.out; omega)).trans R8.out)))
  have q9 := Aside0.mk ((HI.out.below.block _ (by have := HLT.out; omega)).trans ((HB5.out.block _ (by have := HSZ.out; have := HB2.out.size; have := HB1E.out; omega)).trans ((HB2.out.block _ (by have := HSZ.out; have := HB1E.out; omega)).trans R9.out)))
  have q10 := Aside0.mk ((HI.out.below.block _ (by have := HLT.out; omega)).trans ((HB5.out.block _ (by have := HSZ.out; have := HB2.out.size; have := HB1E.out; omega)).trans ((HB2.out.block _ (by have := HSZ.out; have := HB1E.out; omega)).trans R10.out)))
  clear hI hK hS hD
  obtain ⟨v, hv1, hv2⟩ := HI.out.obo
  obtain ⟨Ao, co, eo, _, _⟩ := Kd.R_reads hv2
  subst eo
  have HV2 := Aside0.mk hv2
  have hob : W.cell? ⟨w9.heap.size, 0, none⟩ = some (.slice Ao ((List.range len).map (settled xs ys)).length co) := (blk_cell hv1 0).trans rfl
  obtain ⟨outp, houtp⟩ : ∃ outp, (List.range len).map (settled xs ys) = outp := ⟨_, rfl⟩
  rw [houtp] at hob HV2 HI
  have HOP := Aside0.mk houtp
  clear houtp
  have c8 := (blk_cell q8.out 0).trans rfl
  have c9 := (blk_cell q9.out 0).trans rfl
  have c10 := (blk_cell q10.out 0).trans rfl
  have f8 := blk_frozen q8.out 0
  have f9 := blk_frozen q9.out 0
  have f10 := blk_frozen q10.out 0
  clear hv1 hv2
  go_wp2_with fail
  obtain ⟨wE, hE⟩ : ∃ wE, ((W.setCell ⟨w.heap.size, 0, none⟩ (.slice Ao outp.length co)).setCell ⟨w.heap.size + 1, 0, none⟩ (.int .i64 df)).setCell ⟨w.heap.size + 2, 0, none⟩ (.int .i64 0) = wE := ⟨_, rfl⟩
  have E8 := Aside0.mk (show wE.heap[w.heap.size]? = some (.cells #[.slice Ao outp.length co] 36) by
   rw [← hE]
   exact ((Below.heap_setCell _ ⟨w.heap.size + 2, 0, none⟩ _ w.heap.size (by show w.heap.size ≠ w.heap.size + 2; omega)).trans (Below.heap_setCell _ ⟨w.heap.size + 1, 0, none⟩ _ w.heap.size (by show w.heap.size ≠ w.heap.size + 1; omega))).trans (blk_put q8.out 0 _ rfl))
  have E9 := Aside0.mk (show wE.heap[w.heap.size + 1]? = some (.cells #[.int .i64 df] 3) by
   rw [← hE]
   exact (Below.heap_setCell _ ⟨w.heap.size + 2, 0, none⟩ _ (w.heap.size + 1) (by show w.heap.size + 1 ≠ w.heap.size + 2; omega)).trans (blk_put ((Below.heap_setCell _ ⟨w.heap.size, 0, none⟩ _ (w.heap.size + 1) (by show w.heap.size + 1 ≠ w.heap.size; omega)).trans q9.out) 0 _ rfl))
  have E10 := Aside0.mk (show wE.heap[w.heap.size + 2]? = some (.cells #[.int .i64 0] 31) by
   rw [← hE]
   exact blk_put ((Below.heap_setCell _ ⟨w.heap.size + 1, 0, none⟩ _ (w.heap.size + 2) (by show w.heap.size + 2 ≠ w.heap.size + 1; omega)).trans ((Below.heap_setCell _ ⟨w.heap.size, 0, none⟩ _ (w.heap.size + 2) (by show w.heap.size + 2 ≠ w.heap.size; omega)).trans q10.out)) 0 _ rfl)
  have ED := Aside0.mk (show wE.heap[D]? = some (.deferred (some [])) by
   have h1 := HDB.out
   have h2 := HLT.out
   rw [← hE]
   exact ((Below.heap_setCell _ ⟨w.heap.size + 2, 0, none⟩ _ D (by show D ≠ w.heap.size + 2; omega)).trans ((Below.heap_setCell _ ⟨w.heap.size + 1, 0, none⟩ _ D (by show D ≠ w.heap.size + 1; omega)).trans (Below.heap_setCell _ ⟨w.heap.size, 0, none⟩ _ D (by show D ≠ w.heap.size; omega)))).trans HKD.out)
  have EB := Aside0.mk (show Below w.heap.size w wE by
   rw [← hE]
   exact below_set (below_set (below_set (HBV.out.trans (HI.out.below.mono HBV.out.size)) (Nat.le_refl _)) (by omega)) (by omega))
  have ER := Aside0.mk (show Kd.R k46 46 wE w9.heap.size (fun _ => True) (.slice Ao outp.length co) outp by
   have h2 := HLT.out
   rw [← hE]
   exact Kd.R_mono (Kd.R_far (Kd.R_far (Kd.R_far (Kd.R_mono (Kd.R_bound HV2.out) (fun k hk => (hk.2.1 : w9.heap.size ≤ k))) (p := ⟨w.heap.size, 0, none⟩) (fun k hk => by show k ≠ w.heap.size; omega) _) (p := ⟨w.heap.size + 1, 0, none⟩) (fun k hk => by show k ≠ w.heap.size + 1; omega) _) (p := ⟨w.heap.size + 2, 0, none⟩) (fun k hk => by show k ≠ w.heap.size + 2; omega) _) (fun _ _ => trivial))
  have hE2 : ((W.setCell ⟨w.heap.size, 0, none⟩ (.slice Ao outp.length co)).setCell ⟨w.heap.size + 1, 0, none⟩ (.int .i64 df)).setCell ⟨w.heap.size + 1 + 1, 0, none⟩ (.int .i64 0) = wE := hE
  rw [hE2]
  clear hE hE2 hob c8 c9 c10 f8 f9 f10
  show LeavesInM _ _ _ _ _ _ [_] _ _
  have G8 := ((grownBy_put D (.deferred none)).block w.heap.size (blk_lt E8.out) (fun e => by injection e with e; have h1 := HDB.out; have h2 := HLT.out; omega)).trans E8.out
  have G9 := ((grownBy_put D (.deferred none)).block (w.heap.size + 1) (blk_lt E9.out) (fun e => by injection e with e; have h1 := HDB.out; have h2 := HLT.out; omega)).trans E9.out
  have G10 := ((grownBy_put D (.deferred none)).block (w.heap.size + 2) (blk_lt E10.out) (fun e => by injection e with e; have h1 := HDB.out; have h2 := HLT.out; omega)).trans E10.out
  have g8 : (wE.putObj D (.deferred none)).cell? ⟨w.heap.size, 0, none⟩ = some (.slice Ao outp.length co) := (blk_cell G8 0).trans rfl
  have g9 : (wE.putObj D (.deferred none)).cell? ⟨w.heap.size + 1, 0, none⟩ = some (.int .i64 df) := (blk_cell G9 0).trans rfl
  have g10 : (wE.putObj D (.deferred none)).cell? ⟨w.heap.size + 1 + 1, 0, none⟩ = some (.int .i64 0) := (blk_cell G10 0).trans rfl
  have HRF := Aside0.mk (Kd.R_mono (Kd.R_lower (Kd.R_step (Kd.R_mono (Kd.R_bound ER.out) (fun k hk => (hk.2.2.2 : ∃ q, q ∈ 46 :: Kd.E k46 ∧ ∃ cells, wE.heap[k]? = some (.cells cells q (0, 0))))) (fun k hk hl => (grownBy_put D (.deferred none)).block k hl (fun e => by
   injection e with e
   obtain ⟨q, _, cells, hc⟩ := hk
   rw [e, ED.out] at hc
   cases hc))) (show w.heap.size ≤ w9.heap.size by have := HLT.out; omega)) (fun _ _ => trivial : ∀ k, _ → (fun _ => True) k))
  refine ⟨by simp, .inl ⟨_, _, rfl, run_takeDeferred ED.out, .tuple #[.slice Ao outp.length co, .int .i64 df, .int .i64 0], by simp [results, Try.results11, go_sem, g8, g9, g10], _, by rw [HDF.out], ?_, ?_⟩⟩
  ·rw [HOP.out]; exact HRF.out
  ·exact EB.out.grown (grownBy_put D _) EB.out.size (fun r e => by injection e with e; have h1 := HDB.out; have h2 := HLT.out; omega)
 case stop =>
  intro D c' pre W hD hSp hI hK
  exact hI.elim
end
section
-- The contract of w17Pipes: its own example is in order.
attribute [local go_sem] max2_int min2_int
set_option linter.unusedVariables false
set_option linter.unusedSimpArgs false
def wP : List S28 := [⟨1, 0, 2⟩, ⟨2, 1, 0⟩, ⟨3, 1, 0⟩]
def wK1 : List S35 := [⟨10, 10⟩, ⟨3, 5⟩, ⟨0, 100⟩]
def wK2 : List S35 := [⟨10, 10⟩, ⟨5, 5⟩, ⟨0, 100⟩]
def wO : List S46 := [⟨4, 40, ⟨30, 50⟩, false⟩, ⟨7, 50, ⟨30, 70⟩, false⟩]
def wN : List S46 := [⟨4, 50, ⟨50, 50⟩, true⟩, ⟨7, 40, ⟨30, 50⟩, false⟩]
theorem wNet1 : networkM 100 wP wK1 [4, 7] = (wO, 10, 0) := by kernel_rfl
theorem wNet2 : networkM 100 wP wK2 [4, 7] = (wN, 10, 0) := by kernel_rfl
theorem wGoodO : ∀ k : Nat, k < 2 → GoodC wO k := fun k hk => by
 match k, hk with
 | 0, _ => exact ⟨by decide, by decide, by decide, by decide, by decide, by decide, by decide⟩
 | 1, _ => exact ⟨by decide, by decide, by decide, by decide, by decide, by decide, by decide⟩
theorem wGoodN : ∀ k : Nat, k < 2 → GoodC wN k := fun k hk => by
 match k, hk with
 | 0, _ => exact ⟨by decide, by decide, by decide, by decide, by decide, by decide, by decide⟩
 | 1, _ => exact ⟨by decide, by decide, by decide, by decide, by decide, by decide, by decide⟩
theorem wSmall0 : [(settled wO wN 0).f1, (settled wO wN 0).f2.f0, (settled wO wN 0).f2.f1].any amountB = false := by kernel_rfl
theorem wSmall1 : [(settled wO wN 1).f1, (settled wO wN 1).f2.f0, (settled wO wN 1).f2.f1].any amountB = false := by kernel_rfl
theorem wSettle (A : Option Addr) (c : Nat) (A1 : Option Addr) (c1 : Nat) (w : World) (hx : Kd.C k46 w A 2 wO) (hy : Kd.C k46 w A1 2 wN) (hc : 2 ≤ c) (hc1 : 2 ≤ c1) :
  Calls Try.prog 11 #[.slice A 2 c, .slice A1 2 c1, .int .i64 10, .int .i64 10] w fun e w' => ∃ v, e = .returned (.tuple #[v, .int .i64 0, .int .i64 0]) ∧ Kd.R k46 46 w' w.heap.size (fun _ => True) v [⟨4, 10, ⟨10, 10⟩, true⟩, ⟨7, -10, ⟨-20, 0⟩, false⟩] ∧ Below w.heap.size w w' := by
 have h := settle_calls A c wO A1 c1 wN 2 10 10 100 w hx hy hc hc1 (by decide) wGoodO wGoodN
  (fun k hk => by match k, hk with | 0, _ => rfl | 1, _ => rfl)
  (fun k hk => by match k, hk with | 0, _ => decide | 1, _ => decide)
  (by kernel_rfl) (by kernel_rfl) (by kernel_rfl) (by kernel_rfl)
  (fun k hk => by match k, hk with | 0, _ => exact wSmall0 | 1, _ => exact wSmall1)
 rwa [show wrap64 (10 - 10) = 0 from by kernel_rfl, show (List.range 2).map (settled wO wN) = [⟨4, 10, ⟨10, 10⟩, true⟩, ⟨7, -10, ⟨-20, 0⟩, false⟩] from by kernel_rfl] at h
theorem wNetC (K : List S35) (w : World) (A B C : Nat) (hK : K.length = 3) (ha : w.heap[A]? = some (.cells #[.int .i64 1, .int .i64 0, .int .i64 2, .int .i64 2, .int .i64 1, .int .i64 0, .int .i64 3, .int .i64 1, .int .i64 0] 28)) (hb : w.heap[B]? = some (.cells (K.map enc35).flatten.toArray 35)) (hc : w.heap[C]? = some (.cells #[.int .i64 4, .int .i64 7] 3)) (os : List S46) (hM : networkM 100 wP K [4, 7] = (os, 10, 0)) :
  Calls Try.prog 7 #[.int .i64 100, .slice (some ⟨A, 0, none⟩) 3 3, .slice (some ⟨B, 0, none⟩) 3 3, .slice (some ⟨C, 0, none⟩) 2 2] w fun e w' => ∃ v, e = .returned (.tuple #[v, .int .i64 10, .int .i64 0]) ∧ Kd.R k46 46 w' w.heap.size (fun _ => True) v os ∧ Below w.heap.size w w' := by
 have h := network_calls 100 (some ⟨A, 0, none⟩) 3 wP (some ⟨B, 0, none⟩) 3 K (some ⟨C, 0, none⟩) 2 [4, 7] w
  (C_row enc28 (fun x => k28_mk w x) (fun _ => rfl) ha rfl (by decide)) (C_row enc35 (fun x => k35_mk w x) (fun _ => rfl) hb rfl (by omega)) (by omega) (C_row encI (fun _ => rfl) (fun _ => rfl) hc rfl (by decide)) (by decide)
  (by intro p hp; simp only [wP, List.mem_cons, List.not_mem_nil, or_false] at hp; rcases hp with rfl | rfl | rfl <;> (unfold wf64; decide)) (by decide) (by omega) (by decide)
 rw [hM, hK] at h
 exact h
set_option maxHeartbeats 4000000 in
set_option maxRecDepth 100000 in
theorem pipes_calls (w : World) : Calls Try.prog 4 #[] w fun e w' => e = .returned (.bool true) ∧ Below w.heap.size w w' := by
 have hu46 := Try.underlying46
 have hu35 := Try.underlying35
 go_enter Try.func4, Try.ntmps4
 go_wp2_with fail
 obtain ⟨w1, hw1⟩ : ∃ w1, ((w.alloc (.cells #[.int .i64 1, .int .i64 0, .int .i64 2, .int .i64 2, .int .i64 1, .int .i64 0, .int .i64 3, .int .i64 1, .int .i64 0] 28)).alloc (.cells #[.int .i64 10, .int .i64 10, .int .i64 3, .int .i64 5, .int .i64 0, .int .i64 100] 35)).alloc (.cells #[.int .i64 4, .int .i64 7] 3) = w1 := ⟨_, rfl⟩
 have X1 := Aside0.mk (show w1.heap[w.heap.size]? = some (.cells #[.int .i64 1, .int .i64 0, .int .i64 2, .int .i64 2, .int .i64 1, .int .i64 0, .int .i64 3, .int .i64 1, .int .i64 0] 28) by rw [← hw1]; exact blk_alloc (blk_alloc (heap_alloc_new w _) _) _)
 have X2 := Aside0.mk (show w1.heap[w.heap.size + 1]? = some (.cells #[.int .i64 10, .int .i64 10, .int .i64 3, .int .i64 5, .int .i64 0, .int .i64 100] 35) by
  rw [← hw1]
  have h := heap_alloc_new (w.alloc (.cells #[.int .i64 1, .int .i64 0, .int .i64 2, .int .i64 2, .int .i64 1, .int .i64 0, .int .i64 3, .int .i64 1, .int .i64 0] 28)) (.cells #[.int .i64 10, .int .i64 10, .int .i64 3, .int .i64 5, .int .i64 0, .int .i64 100] 35)
  rw [World.size_alloc] at h
  exact blk_alloc h _)
 have X3 := Aside0.mk (show w1.heap[w.heap.size + 1 + 1]? = some (.cells #[.int .i64 4, .int .i64 7] 3) by
  rw [← hw1]
  have h := heap_alloc_new ((w.alloc (.cells #[.int .i64 1, .int .i64 0, .int .i64 2, .int .i64 2, .int .i64 1, .int .i64 0, .int .i64 3, .int .i64 1, .int .i64 0] 28)).alloc (.cells #[.int .i64 10, .int .i64 10, .int .i64 3, .int .i64 5, .int .i64 0, .int .i64 100] 35)) (.cells #[.int .i64 4, .int .i64 7] 3)
  rw [World.size_alloc, World.size_alloc] at h
  exact h)
 have HB := Aside0.mk (show Below w.heap.size w w1 by rw [← hw1]; exact below_alloc (below_alloc (below_alloc (Below.refl _ w) _) _) _)
 rw [hw1]
 clear hw1
 have HN1 := Aside0.mk (wNetC wK1 w1 w.heap.size (w.heap.size + 1) (w.heap.size + 1 + 1) rfl X1.out X2.out X3.out wO wNet1)
 refine HN1.out.mono ?_
 clear HN1
 rintro e w2 ⟨v1, rfl, hv1, hb⟩
 replace X1 := Aside0.mk ((hb.block _ (blk_lt X1.out)).trans X1.out)
 replace HB := Aside0.mk (HB.out.trans (hb.mono HB.out.size))
 obtain ⟨Aa, ca, rfl, hca, hCa⟩ := Kd.R_reads hv1
 have HA := Aside0.mk hCa
 have HCA := Aside0.mk hca
 clear hv1 hb hca hCa
 go_wp2_with fail
 obtain ⟨w3, hw3⟩ : ∃ w3, (w2.alloc (.cells #[.int .i64 10, .int .i64 10, .int .i64 5, .int .i64 5, .int .i64 0, .int .i64 100] 35)).alloc (.cells #[.int .i64 4, .int .i64 7] 3) = w3 := ⟨_, rfl⟩
 have Y1 := Aside0.mk (show w3.heap[w.heap.size]? = some (.cells #[.int .i64 1, .int .i64 0, .int .i64 2, .int .i64 2, .int .i64 1, .int .i64 0, .int .i64 3, .int .i64 1, .int .i64 0] 28) by rw [← hw3]; exact blk_alloc (blk_alloc X1.out _) _)
 have Y2 := Aside0.mk (show w3.heap[w2.heap.size]? = some (.cells #[.int .i64 10, .int .i64 10, .int .i64 5, .int .i64 5, .int .i64 0, .int .i64 100] 35) by rw [← hw3]; exact blk_alloc (heap_alloc_new w2 _) _)
 have Y3 := Aside0.mk (show w3.heap[w2.heap.size + 1]? = some (.cells #[.int .i64 4, .int .i64 7] 3) by
  rw [← hw3]
  have h := heap_alloc_new (w2.alloc (.cells #[.int .i64 10, .int .i64 10, .int .i64 5, .int .i64 5, .int .i64 0, .int .i64 100] 35)) (.cells #[.int .i64 4, .int .i64 7] 3)
  rw [World.size_alloc] at h
  exact h)
 have HB3 := Aside0.mk (show Below w2.heap.size w2 w3 by rw [← hw3]; exact below_alloc (below_alloc (Below.refl _ w2) _) _)
 rw [hw3]
 clear hw3
 have HN2 := Aside0.mk (wNetC wK2 w3 w.heap.size w2.heap.size (w2.heap.size + 1) rfl Y1.out Y2.out Y3.out wN wNet2)
 refine HN2.out.mono ?_
 clear HN2
 rintro e w4 ⟨v2, rfl, hv2, hb⟩
 replace HB3 := Aside0.mk (HB3.out.trans (hb.mono HB3.out.size))
 replace HB := Aside0.mk (HB.out.trans (HB3.out.mono HB.out.size))
 replace HA := Aside0.mk (Kd.C_below HA.out HB3.out)
 obtain ⟨Ab, cb, rfl, hcb, hCb⟩ := Kd.R_reads hv2
 have HS := Aside0.mk (wSettle Aa ca Ab cb w4 HA.out hCb HCA.out hcb)
 clear hv2 hb hcb hCb
 go_wp2_with fail
 refine HS.out.mono ?_
 clear HS
 rintro e w5 ⟨v3, rfl, hv3, hb⟩
 replace HB := Aside0.mk (HB.out.trans (hb.mono HB.out.size))
 obtain ⟨Ac, cc, rfl, hcc, hCc⟩ := Kd.R_reads hv3
 obtain ⟨ad, e0, a0, a1, a2, a3, a4⟩ := at_T46 hCc 0 (by decide) (by decide)
 obtain ⟨ad', e1, b0, b1, b2, b3, b4⟩ := at_T46 hCc 1 (by decide) (by decide)
 subst e0
 cases e1
 have HC := Aside0.mk (And.intro (And.intro a0 (And.intro a1 (And.intro a2 (And.intro a3 a4)))) (And.intro b0 (And.intro b1 (And.intro b2 (And.intro b3 b4)))))
 clear hv3 hb hcc hCc a0 a1 a2 a3 a4 b0 b1 b2 b3 b4
 obtain ⟨⟨a0, a1, a2, a3, a4⟩, b0, b1, b2, b3, b4⟩ := HC.out
 replace a0 : w5.cell? ad = some (.int .i64 4) := a0
 replace a1 : w5.cell? ⟨ad.block, ad.off + 1, none⟩ = some (.int .i64 10) := a1
 replace a2 : w5.cell? ⟨ad.block, ad.off + 2, none⟩ = some (.int .i64 10) := a2
 replace a3 : w5.cell? ⟨ad.block, ad.off + 3, none⟩ = some (.int .i64 10) := a3
 replace a4 : w5.cell? ⟨ad.block, ad.off + 4, none⟩ = some (.bool true) := a4
 replace b0 : w5.cell? ⟨ad.block, ad.off + 5, none⟩ = some (.int .i64 7) := b0
 replace b1 : w5.cell? ⟨ad.block, ad.off + 5 + 1, none⟩ = some (.int .i64 (-10)) := b1
 replace b2 : w5.cell? ⟨ad.block, ad.off + 5 + 2, none⟩ = some (.int .i64 (-20)) := b2
 replace b3 : w5.cell? ⟨ad.block, ad.off + 5 + 3, none⟩ = some (.int .i64 0) := b3
 replace b4 : w5.cell? ⟨ad.block, ad.off + 5 + 4, none⟩ = some (.bool false) := b4
 clear HC
 go_wp2
 go_ret
 exact ⟨by first | rfl | (simp; done), HB.out⟩
end
end Go.Proofs.Ytgjkhifhiggflaa.Own
