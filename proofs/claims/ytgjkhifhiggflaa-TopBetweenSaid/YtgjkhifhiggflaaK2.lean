/- The contracts of flow.open, belongs, Bounds and State. -/
import Derived.Test.YtgjkhifhiggflaaK1
import Derived.Test.YtgjkhifhiggflaaPTopBetweenx2
namespace Go.Proofs.Ytgjkhifhiggflaa.Own
open Go.RowKit Go.Lib Go.Proofs.YtgjkhifhiggflaaW.PrintWords Go.Proofs.YtgjkhifhiggflaaW.PrintLast Go.Proofs.YtgjkhifhiggflaaW.PrintMore Go.Proofs.Ytgjkhifhiggflaa.PTopBetween
section
-- The contract of flow's open: pipes become a network, or are refused.
attribute [local go_sem] max2_int min2_int
set_option linter.unusedVariables false
set_option linter.unusedSimpArgs false
/-- Which of the first k pipes has this number. -/
def idMap (ls : List S28) : Nat → Int → Option Int
 | 0, _ => none
 | k + 1, y => if y = (rd_T28 ls k).f0 then some (k : Int) else idMap ls k y
def badAt (ls : List S28) (k : Nat) : Bool :=
 decide ((rd_T28 ls k).f0 < 1) || ((decide (0 < k) && decide ((rd_T28 ls k).f0 ≤ (rd_T28 ls ((k : Int) - 1)).f0)) || (!volB (rd_T28 ls k).f2 || (!((rd_T28 ls k).f1 == 0) && !(idMap ls k (rd_T28 ls k).f1).isSome)))
def kidsUp (ls : List S28) (kids : List (List Int)) (k : Nat) : List (List Int) :=
 match idMap ls k (rd_T28 ls k).f1 with
 | some a => kids.set a.toNat (kidsOf kids a ++ [(k : Int)])
 | none => kids
def kidsTo (ls : List S28) (n : Nat) : Nat → List (List Int)
 | 0 => List.replicate n []
 | k + 1 => kidsUp ls (kidsTo ls n k) k
def openOk (ls : List S28) (k : Nat) : Bool := (List.range k).all fun j => !badAt ls j
theorem openOk_succ (ls : List S28) (k : Nat) : openOk ls (k + 1) = (openOk ls k && !badAt ls k) := by simp [openOk, List.range_succ]
theorem openOk_false (ls : List S28) (k n : Nat) (hk : k < n) (h : badAt ls k = true) : openOk ls n = false := by
 unfold openOk
 rw [List.all_eq_false]
 exact ⟨k, List.mem_range.2 hk, by simp [h]⟩
theorem idMap_lt (ls : List S28) : ∀ (k : Nat) (y a : Int), idMap ls k y = some a → 0 ≤ a ∧ a < k
 | 0, y, a, h => by simp [idMap] at h
 | k + 1, y, a, h => by
  unfold idMap at h
  split at h
  ·have := Option.some.inj h
   omega
  ·have := idMap_lt ls k y a h
   omega
theorem kidsTo_length (ls : List S28) (n : Nat) : ∀ k, (kidsTo ls n k).length = n
 | 0 => by simp [kidsTo]
 | k + 1 => by
  show (kidsUp ls (kidsTo ls n k) k).length = n
  unfold kidsUp
  split <;> simp [kidsTo_length ls n k]
theorem kidsTo_small (ls : List S28) (n : Nat) : ∀ (k : Nat) (i : Int), (kidsOf (kidsTo ls n k) i).length ≤ k
 | 0, i => by
  show ((List.replicate n ([] : List Int)).getD i.toNat []).length ≤ 0
  rw [List.getD_eq_getElem?_getD, List.getElem?_replicate]
  split <;> simp
 | k + 1, i => by
  have ih := kidsTo_small ls n k
  show (kidsOf (kidsUp ls (kidsTo ls n k) k) i).length ≤ k + 1
  unfold kidsUp
  split
  ·rename_i a _
   unfold kidsOf
   rw [List.getD_eq_getElem?_getD, List.getElem?_set]
   split
   ·split
    ·have := ih a
     simp only [Option.getD_some, List.length_append, List.length_singleton]
     unfold kidsOf at this
     first | omega | (unfold kidsOf; omega)
    ·simp
   ·have := ih i
    unfold kidsOf at this
    rw [List.getD_eq_getElem?_getD] at this
    omega
  ·have := ih i
   omega
theorem kidsTo_in (ls : List S28) (n : Nat) : ∀ (k : Nat), k ≤ n → ∀ (i : Int), ∀ x ∈ kidsOf (kidsTo ls n k) i, 0 ≤ x ∧ x < n
 | 0, _, i, x, hx => by
  have h := kidsTo_small ls n 0 i
  have : kidsOf (kidsTo ls n 0) i = [] := List.length_eq_zero_iff.1 (by omega)
  rw [this] at hx
  cases hx
 | k + 1, hk, i, x, hx => by
  have ih := kidsTo_in ls n k (by omega)
  change x ∈ kidsOf (kidsUp ls (kidsTo ls n k) k) i at hx
  unfold kidsUp at hx
  split at hx
  ·rename_i a _
   unfold kidsOf at hx
   rw [List.getD_eq_getElem?_getD, List.getElem?_set] at hx
   split at hx
   ·split at hx
    ·rcases List.mem_append.1 hx with h | h
     ·exact ih a x h
     ·rw [List.mem_singleton] at h
      omega
    ·simp at hx
   ·exact ih i x (by unfold kidsOf; rw [List.getD_eq_getElem?_getD]; exact hx)
  ·exact ih i x hx
theorem info24 : (Try.prog.info? 24).map (fun i => (i.zero, i.size, i.bytes)) = some (some (.slice none 0 0), 1, 24) := by kernel_rfl
theorem vol_quiet (a : Int) (w : World) : Calls Try.prog 24 #[.int .i64 a] w fun e w' => e = .returned (.bool (volB a)) ∧ ∃ m, w' = w.drewN m := by
 refine (flow_isVolume.calls a (volB a) w ?_).mono ?_
 ·unfold flow_isVolume.f volB
  by_cases h : 0 ≤ a <;> simp [h]
 ·rintro e w' ⟨rfl, hd⟩
  exact ⟨rfl, hd.out⟩
/-- An element of a row of rows that was lent is put back, longer. -/
theorem kids_put {W : World} {base g n cap : Nat} {kids : List (List Int)} {i : Int} {oki : Nat → Prop} {c : List Value} {v1 : Value} {ys : List Int}
  (hH : Kd.H (Kd.slice 3 (Kd.int .i64)) 24 W base (fun _ => True) (.slice (some ⟨g, 0, none⟩) n cap) kids i oki c) (h0 : 0 ≤ i) (h1 : i < n) (hc : c.length = 1)
  (hR : (Kd.int .i64).R 3 W base oki v1 ys) :
  Kd.S (Kd.slice 3 (Kd.int .i64)) 24 (W.setCell ⟨g, i.toNat, none⟩ v1) base (fun _ => True) (.slice (some ⟨g, 0, none⟩) n cap) (kids.set i.toNat ys) ∧ W.grownBy (W.setCell ⟨g, i.toNat, none⟩ v1) (some g) := by
 have hH2 : Kd.H (Kd.slice 3 (Kd.int .i64)) 24 W base (fun k => True ∧ ¬ False) (.slice (some ⟨g, 0, none⟩) n cap) kids i oki c := Kd.H_mono hH (fun _ _ => ⟨trivial, fun h => h⟩)
 have h := Kd.S_seg (okg := fun _ => False) hH2 h0 h1 (seg := [v1]) (j := 0) (by show 0 + 1 ≤ 1; omega) (x' := ys) (okp := oki)
  (by
   have e : c.take 0 ++ [v1] ++ c.drop (0 + [v1].length) = [v1] := by
    rw [List.take_zero, List.nil_append, List.length_singleton, Nat.zero_add, List.drop_of_length_le (by omega), List.append_nil]
   rw [e]
   exact ⟨v1, rfl, hR⟩) (fun _ hk => .inl hk) (fun _ hk => hk.elim)
 have e2 : W.setCells g (i.toNat * (Kd.slice 3 (Kd.int .i64)).sz + 0) [v1] = W.setCell ⟨g, i.toNat, none⟩ v1 := by
  show W.setCells g (i.toNat * 1 + 0) [v1] = _
  rw [Nat.mul_one, Nat.add_zero]
  rfl
 rw [e2] at h
 exact h
/-- What holds between two rounds of open. -/
structure OpI (A : Option Addr) (c : Nat) (ls : List S28) (Ak : Option Addr) (ck bn bm nl : Nat) (w : World) (k : Nat) (W : World) : Prop where
 kids : Kd.S (Kd.slice 3 (Kd.int .i64)) 24 W w.heap.size (fun _ => True) (.slice Ak nl ck) (kidsTo ls nl k)
 map : MI W bm k (idMap ls k)
 boxn : W.heap[bn]? = some (.cells #[.slice A nl c, .slice Ak nl ck] 49)
 res : W.heap[w.heap.size]? = some (.cells #[.slice none 0 0, .slice none 0 0] 49)
 below : Below w.heap.size w W
 ok : openOk ls k = true
theorem OpI.at_ {A : Option Addr} {c : Nat} {ls : List S28} {Ak : Option Addr} {ck bn bm nl : Nat} {w : World} {k : Nat} {W W' : World} (h : OpI A c ls Ak ck bn bm nl w k W) (hb : Below W.heap.size W W') : OpI A c ls Ak ck bn bm nl w k W' :=
 ⟨Kd.S_below h.kids hb, h.map.below hb, (hb.block _ (blk_lt h.boxn)).trans h.boxn, (hb.block _ (blk_lt h.res)).trans h.res, h.below.trans (hb.mono h.below.size), h.ok⟩
section
variable {ops : Array Oper} {rest : List Oper} {o : Oper} {a : Act} {Q : Exit → Act → World → Prop}
theorem wpList_MI {w : World} {B n : Nat} {f : Int → Option Int} {x v : Int} {m kx vx : Operand} (hg : o.guard = none) (hop : o.op = Op.mapUpdate 70 m kx vx) (hm : a.eval m = .map (some B)) (hx : a.eval kx = .int .i64 x) (hv : a.eval vx = .int .i64 v)
  (h : MI w B n f) (hn : n < maxLen) (hwx : wf64 x) (hwv : wf64 v)
  (hK : ∀ w', MI w' B (n + 1) (fun y => if y = x then some v else f y) → w.grownBy w' (some B) → wpList Try.prog ops Q rest (a.put o.dst undef) w') : wpList Try.prog ops Q (o :: rest) a w := by
 refine wpList_plain hg fun K' hK' => ?_
 obtain ⟨w', hrun, r1, r2⟩ := h.put hn hwx hwv
 unfold Oper.wp
 simp [execOp, hop, hm, hx, hv, hrun, Result.andThen]
 exact hK' _ _ (hK w' r1 r2)
end
/-- One pipe more below pipe a: what the region leaves. -/
structure OpG (A : Option Addr) (c : Nat) (ls : List S28) (g ck bn bm nl : Nat) (w : World) (k pb : Nat) (p : S28) (kids : List (List Int)) (W : World) : Prop where
 kids : Kd.S (Kd.slice 3 (Kd.int .i64)) 24 W w.heap.size (fun _ => True) (.slice (some ⟨g, 0, none⟩) nl ck) kids
 map : MI W bm k (idMap ls k)
 boxn : W.heap[bn]? = some (.cells #[.slice A nl c, .slice (some ⟨g, 0, none⟩) nl ck] 49)
 res : W.heap[w.heap.size]? = some (.cells #[.slice none 0 0, .slice none 0 0] 49)
 below : Below w.heap.size w W
 boxp : W.heap[pb]? = some (.cells #[.int .i64 p.f0, .int .i64 p.f1, .int .i64 p.f2] 28)
theorem blk_ty {W : World} {i j ti tj : Nat} {ci cj : Array Value} (hi : W.heap[i]? = some (.cells ci ti (0, 0))) (hj : W.heap[j]? = some (.cells cj tj (0, 0))) (h : ti ≠ tj) : i ≠ j := blk_ne hi hj h
theorem OpI.push {A : Option Addr} {c : Nat} {ls : List S28} {g ck bn bm nl : Nat} {w : World} {k pb : Nat} {p : S28} {W W2 W3 : World} {a : Int} {oki : Nat → Prop} {v v1 : Value} {ys : List Int} {cg : Array Value}
  (h : OpI A c ls (some ⟨g, 0, none⟩) ck bn bm nl w k W) (hpb : W.heap[pb]? = some (.cells #[.int .i64 p.f0, .int .i64 p.f1, .int .i64 p.f2] 28))
  (hg : W.heap[g]? = some (.cells cg 24 (0, 0))) (hgb : w.heap.size ≤ g) (ha0 : 0 ≤ a) (ha1 : a < nl)
  (hv : (Kd.int .i64).R 3 W w.heap.size oki v ys) (hoki : ∀ k, oki k → k ≠ g)
  (hH : Kd.H (Kd.slice 3 (Kd.int .i64)) 24 W w.heap.size (fun _ => True) (.slice (some ⟨g, 0, none⟩) nl ck) (kidsTo ls nl k) a oki [v])
  (hb2 : Below W.heap.size W W2) (hgr : W2.grownBy W3 v.ownBlock) (hB3 : Below w.heap.size w W3)
  (hv1 : (Kd.int .i64).R 3 W3 w.heap.size (fun k => oki k ∨ W.heap.size ≤ k) v1 (ys ++ [(k : Int)])) :
  OpG A c ls g ck bn bm nl w k pb p ((kidsTo ls nl k).set a.toNat (ys ++ [(k : Int)])) (W3.setCell ⟨g, a.toNat, none⟩ v1) := by
 have hH3 : Kd.H (Kd.slice 3 (Kd.int .i64)) 24 W3 w.heap.size (fun _ => True) (.slice (some ⟨g, 0, none⟩) nl ck) (kidsTo ls nl k) a (fun k => oki k ∨ True ∧ W.heap.size ≤ k) [v] :=
  Kd.H_grown (Kd.H_below (Kd.H_widen hH) hb2) hgr (fun k hk => .inl (hv.1 k hk))
 obtain ⟨hS, hgs⟩ := kids_put hH3 ha0 ha1 rfl (Kd.R_mono hv1 (fun k hk => hk.elim .inl (fun h2 => .inr ⟨trivial, h2⟩)))
 have hvt : ∀ k, v.ownBlock = some k → ∃ cs, W.heap[k]? = some (.cells cs 3 (0, 0)) := Kd.R_typed hv
 have stay : ∀ (j : Nat) (o : Obj), W.heap[j]? = some o → (∀ cs, o ≠ .cells cs 3 (0, 0)) → j ≠ g → (W3.setCell ⟨g, a.toNat, none⟩ v1).heap[j]? = some o := fun j o hj ho hjg => by
  have hlt := blk_lt hj
  refine (Below.heap_setCell W3 ⟨g, a.toNat, none⟩ v1 j hjg).trans ((hgr.block j (Nat.lt_of_lt_of_le hlt hb2.size) (fun e => ?_)).trans ((hb2.block j hlt).trans hj))
  obtain ⟨cs, hcs⟩ := hvt j e.symm
  rw [hcs] at hj
  exact ho cs (Option.some.inj hj).symm
 have ne49 : ∀ (cs ds : Array Value), Obj.cells cs 49 (0, 0) ≠ .cells ds 3 (0, 0) := fun _ _ e => by injection e with _ e; cases e
 have ne28 : ∀ (cs ds : Array Value), Obj.cells cs 28 (0, 0) ≠ .cells ds 3 (0, 0) := fun _ _ e => by injection e with _ e; cases e
 obtain ⟨es, cl, hmp⟩ := h.map.map
 have hmg : bm ≠ g := fun e => by rw [e, hg] at hmp; cases hmp
 exact ⟨hS, h.map.same ((stay bm _ hmp (fun _ e => by cases e) hmg).trans hmp.symm), stay bn _ h.boxn (ne49 _) (blk_ty h.boxn hg (by decide)), stay _ _ h.res (ne49 _) (blk_ty h.res hg (by decide)),
  below_set hB3 hgb, stay pb _ hpb (ne28 _) (blk_ty hpb hg (by decide))⟩
theorem OpG.next {A : Option Addr} {c : Nat} {ls : List S28} {g ck bn bm nl : Nat} {w : World} {k pb : Nat} {p : S28} {kids : List (List Int)} {W W' : World} (h : OpG A c ls g ck bn bm nl w k pb p kids W)
  (hm : MI W' bm (k + 1) (idMap ls (k + 1))) (hg : W.grownBy W' (some bm)) (hok : openOk ls (k + 1) = true) (hk : kidsTo ls nl (k + 1) = kids) (hbm : w.heap.size ≤ bm) : OpI A c ls (some ⟨g, 0, none⟩) ck bn bm nl w (k + 1) W' := by
 obtain ⟨es, cl, hmp⟩ := h.map.map
 have nec : ∀ (j : Nat) (cs : Array Value) (t : Nat), W.heap[j]? = some (.cells cs t (0, 0)) → j ≠ bm := fun j cs t hj e => by rw [e, hmp] at hj; cases hj
 have hne : ∀ j, W.heap[j]? ≠ some (.map es cl) → j ≠ bm := fun j hj e => hj (by rw [e]; exact hmp)
 refine ⟨by rw [hk]; exact Kd.S_mono (Kd.S_grown (Kd.S_bound h.kids) hg (fun j hj e => by
  obtain ⟨_, _, _, q, _, cells, hc⟩ := hj
  injection e with e
  exact nec j _ _ hc e)) (fun _ hj => hj.1), hm, (hg.block bn (blk_lt h.boxn) (fun e => nec _ _ _ h.boxn (by injection e))).trans h.boxn, (hg.block _ (blk_lt h.res) (fun e => nec _ _ _ h.res (by injection e))).trans h.res, h.below.grown hg h.below.size (fun j e => by injection e with e; omega), hok⟩
/-- What open hands back. -/
def OpenPost (A : Option Addr) (c : Nat) (ls : List S28) (w : World) (e : Ending) (w' : World) : Prop :=
 ((openOk ls ls.length = true ∧ ∃ Ak ck, e = .returned (.tuple #[.agg #[.slice A ls.length c, .slice Ak ls.length ck], .bool (decide (ls.length ≤ 200))]) ∧ Kd.C kKids w' Ak ls.length (kidsTo ls ls.length ls.length)) ∨
  (openOk ls ls.length = false ∧ e = .returned (.tuple #[.agg #[.slice none 0 0, .slice none 0 0], .bool false]))) ∧ Below w.heap.size w w'
set_option maxHeartbeats 8000000 in
set_option maxRecDepth 100000 in
theorem open_calls (A : Option Addr) (c : Nat) (ls : List S28) (w : World) (hr : Kd.C k28 w A ls.length ls) (hwf : ∀ p ∈ ls, wf64 p.f0 ∧ wf64 p.f1) (hm : ls.length ≤ 1000) :
  Calls Try.prog 12 #[.slice A ls.length c] w (OpenPost A c ls w) := by
 have HR := Aside0.mk hr
 have HWF := Aside0.mk hwf
 have hu49 := Try.underlying49
 have hu28 := Try.underlying28
 have HM := Aside0.mk hm
 have hmm := @run_makeMap Try.prog
 have hn9 : ls.length ≤ 9223372036854775807 := by omega
 clear hr hwf
 go_enter Try.func12, Try.ntmps12
 go_wp2_with (first | ((with_reducible refine gate_dst (N := 13) rfl ?_); refine Kd.S_make (w0 := w) (Kd.slice 3 (Kd.int .i64)) w.heap.size 24 rfl (N := 13) rfl 47 _ _ rfl (ls.length : Int) rfl rfl Try.underlying47 (.slice none 0 0) 24 info24 rfl (by decide) (by omega) ([] : List Int) (ok := fun _ => True) (okp := fun _ => True) ⟨_, rfl, Kd.R_nil _ _ _ _ _⟩ (fun _ hk => hk) trivial (by omega) (by have := HM.out; omega) ((Below.refl _ w).alloc (Nat.le_refl _) _) (by simp) ?_; intro v1 w1 hs hb hg hnew; obtain ⟨Ak, ck, rfl⟩ := Kd.S_slice hs; have HS := Aside0.mk hs; have HB := Aside0.mk hb; have HG := Aside0.mk hg; clear hs hb hg hnew))
 have HI0 : Aside0 (OpI A c ls Ak ck w1.heap.size (w1.heap.size + 1) ls.length w 0 ((w1.alloc (.cells #[.slice A ls.length c, .slice Ak ls.length ck] 49)).alloc (.map #[] 0))) := ⟨by
  have e0 := (HG.out.block w.heap.size (by simp) (by simp)).trans (heap_alloc_new w (.cells #[.slice none 0 0, .slice none 0 0] 49))
  have e1 := heap_alloc_new w1 (.cells #[.slice A ls.length c, .slice Ak ls.length ck] 49)
  have hs := HS.out
  simp only [Int.toNat_natCast, List.length_replicate] at hs
  have hm := MI.made (w1.alloc (.cells #[.slice A ls.length c, .slice Ak ls.length ck] 49))
  rw [World.size_alloc] at hm
  exact ⟨Kd.S_alloc (Kd.S_alloc hs _) _, hm, blk_alloc e1 _, blk_alloc (blk_alloc e0 _) _, (HB.out.alloc HB.out.size _).alloc (by have := HB.out.size; simp; omega) _, rfl⟩⟩
 try simp only [Int.toNat_natCast, List.length_replicate]
 clear HS HG
 obtain ⟨bn, hbn⟩ : ∃ bn, w1.heap.size = bn := ⟨_, rfl⟩
 rw [hbn] at HI0
 rw [hbn]
 have HBN := Aside0.mk hbn
 clear hbn
 go_loopg [18] ls.length (fun gg s18 wr => ∃ k : Nat, k ≤ ls.length ∧ ls.length - k ≤ gg ∧ s18 = .int .i64 k ∧ Aside0 (OpI A c ls Ak ck bn (bn + 1) ls.length w k wr))
 case atStart => exact ⟨0, Nat.zero_le _, by omega, rfl, HI0⟩
 case round =>
  obtain ⟨k, hk, hgg, rfl, HI⟩ := hrel
  clear HI0 hmm
  by_cases hlt : k < ls.length
  ·have hi : (k : Int) < (ls.length : Int) := by omega
   obtain ⟨ad, e0, h0, h1, h2⟩ := at_T28 HR.out (k : Int) (by omega) hi
   cases e0
   simp only [Int.toNat_natCast] at h0 h1 h2
   replace h0 := (HI.out.below.cell (World.block_lt_of_cell? w _ h0)).trans h0
   replace h1 := (HI.out.below.cell (World.block_lt_of_cell? w _ h1)).trans h1
   replace h2 := (HI.out.below.cell (World.block_lt_of_cell? w _ h2)).trans h2
   have HBA := Aside0.mk (show badAt ls k = (decide ((rd_T28 ls k).f0 < 1) || ((decide (0 < k) && decide ((rd_T28 ls k).f0 ≤ (rd_T28 ls ((k : Int) - 1)).f0)) || (!volB (rd_T28 ls k).f2 || (!((rd_T28 ls k).f1 == 0) && !(idMap ls k (rd_T28 ls k).f1).isSome)))) from rfl)
   have HKU := Aside0.mk (show kidsTo ls ls.length (k + 1) = (match idMap ls k (rd_T28 ls k).f1 with | some a => (kidsTo ls ls.length k).set a.toNat (kidsOf (kidsTo ls ls.length k) a ++ [(k : Int)]) | none => kidsTo ls ls.length k) from rfl)
   have HMU := Aside0.mk (show idMap ls (k + 1) = (fun y => if y = (rd_T28 ls k).f0 then some (k : Int) else idMap ls k y) from rfl)
   have hpw : wf64 (rd_T28 ls k).f0 ∧ wf64 (rd_T28 ls k).f1 := HWF.out _ (by show ls.getD k z28 ∈ ls; rw [List.getD_eq_getElem?_getD, List.getElem?_eq_getElem hlt]; exact List.getElem_mem hlt)
   generalize rd_T28 ls (k : Int) = p at h0 h1 h2 HBA HKU HMU hpw
   have HPW := Aside0.mk hpw
   clear hpw
   have hmm2 := (MI.below HI.out.map (below_alloc (Below.refl _ _) (.cells #[.int .i64 p.f0, .int .i64 p.f1, .int .i64 p.f2] 28))).look HPW.out.2
   obtain ⟨lk, hlk⟩ : ∃ lk, idMap ls k p.f1 = lk := ⟨_, rfl⟩
   have HLK := Aside0.mk hlk
   rw [hlk] at hmm2 HBA HKU
   clear hlk
   obtain ⟨cv, hcv⟩ : ∃ cv, lk.getD 0 = cv := ⟨_, rfl⟩
   obtain ⟨q, hq⟩ : ∃ q, lk.isSome = q := ⟨_, rfl⟩
   rw [hcv, hq] at hmm2
   rw [hq] at HBA
   have HCV := Aside0.mk hcv
   have HQ := Aside0.mk hq
   clear hcv hq
   by_cases hbad : badAt ls k = true
   ·have HPO := Aside0.mk (openOk_false ls k ls.length hlt hbad)
    obtain ⟨bx, hbx⟩ : ∃ bx, Obj.cells #[.int .i64 p.f0, .int .i64 p.f1, .int .i64 p.f2] 28 = bx := ⟨_, rfl⟩
    have HIA := Aside0.mk (HI.out.at_ (below_alloc (Below.refl _ _) bx))
    have hcr0 : (wr.alloc bx).cell? ⟨w.heap.size, 0, none⟩ = some (.slice none 0 0) := (blk_cell HIA.out.res 0).trans rfl
    have hcr1 : (wr.alloc bx).cell? ⟨w.heap.size, 1, none⟩ = some (.slice none 0 0) := (blk_cell HIA.out.res 1).trans rfl
    have hf0 : (wr.alloc bx).frozen? ⟨w.heap.size, 0, none⟩ = false := blk_frozen HIA.out.res 0
    have hf1 : (wr.alloc bx).frozen? ⟨w.heap.size, 1, none⟩ = false := blk_frozen HIA.out.res 1
    have HRB := Aside0.mk HIA.out.res
    have HHB := Aside0.mk HIA.out.below
    clear HIA
    obtain ⟨pv, hpv⟩ : ∃ pv, rd_T28 ls ((k : Int) - 1) = pv := ⟨_, rfl⟩
    obtain ⟨vb, hvb⟩ : ∃ vb, volB p.f2 = vb := ⟨_, rfl⟩
    have HVOL := Aside0.mk (fun W => vol_quiet p.f2 W)
    rw [hvb] at HVOL HBA
    rw [hpv] at HBA
    have HBT := Aside0.mk (HBA.out.symm.trans hbad)
    have HPV := Aside0.mk hpv
    clear hpv hvb hbad HBA
    have hcase : decide (p.f0 < 1) = true ∨ (decide (p.f0 < 1) = false ∧ decide ((0 : Int) < (k : Int)) = true ∧ decide (p.f0 ≤ pv.f0) = true) ∨
      (decide (p.f0 < 1) = false ∧ decide ((0 : Int) < (k : Int)) = true ∧ decide (p.f0 ≤ pv.f0) = false ∧ vb = false) ∨ (decide (p.f0 < 1) = false ∧ decide ((0 : Int) < (k : Int)) = false ∧ vb = false) ∨
      (decide (p.f0 < 1) = false ∧ decide ((0 : Int) < (k : Int)) = true ∧ decide (p.f0 ≤ pv.f0) = false ∧ vb = true ∧ (p.f1 == 0) = false ∧ (p.f1 != 0) = true ∧ q = false) ∨
      (decide (p.f0 < 1) = false ∧ decide ((0 : Int) < (k : Int)) = false ∧ vb = true ∧ (p.f1 == 0) = false ∧ (p.f1 != 0) = true ∧ q = false) := by
     have hb := HBT.out
     have ek : decide ((0 : Int) < (k : Int)) = decide (0 < k) := by rw [decide_eq_decide]; omega
     rw [ek]
     have en : (p.f1 != 0) = !(p.f1 == 0) := rfl
     rw [en]
     generalize decide (p.f0 < 1) = b1 at hb ⊢
     generalize decide (0 < k) = b2 at hb ⊢
     generalize decide (p.f0 ≤ pv.f0) = b3 at hb ⊢
     generalize (p.f1 == 0) = b4 at hb ⊢
     clear ek en HBT
     revert hb
     cases b1 <;> cases b2 <;> cases b3 <;> cases vb <;> cases b4 <;> cases q <;> decide
    have hprev : decide ((0 : Int) < (k : Int)) = true → (wr.alloc bx).cell? (ad.add ((k - 1) * 3)) = some (.int .i64 pv.f0) := fun hd => by
     have hk0 := of_decide_eq_true hd
     obtain ⟨ad', e0, g0, _, _⟩ := at_T28 HR.out ((k : Int) - 1) (by omega) (by omega)
     cases e0
     rw [show ((k : Int) - 1).toNat = k - 1 by omega, HPV.out] at g0
     exact (HHB.out.cell (World.block_lt_of_cell? w _ g0)).trans g0
    clear HBT
    subst hbx
    rcases hcase with c1 | ⟨c1, c2, c3⟩ | ⟨c1, c2, c3, rfl⟩ | ⟨c1, c2, rfl⟩ | ⟨c1, c2, c3, rfl, c4, c5, rfl⟩ | ⟨c1, c2, rfl, c4, c5, rfl⟩
    all_goals
     try (have c2n := (show decide (0 < k) = decide ((0 : Int) < (k : Int)) by rw [decide_eq_decide]; omega).trans c2)
     first | (have hpc := hprev c2; have hk0 := of_decide_eq_true c2; have hs2 : (0 : Int) ≤ (k : Int) - 1 := (by omega); have hs3 : ((k : Int) - 1).toNat = k - 1 := (by omega); have hs4 : (k : Int) - 1 < (ls.length : Int) := (by omega); have hs5 : -9223372036854775808 ≤ (k : Int) - 1 ∧ (k : Int) - 1 ≤ 9223372036854775807 := (by omega); have hs1 := IntWalk.i64_in _ hs5; clear hk0 hs5) | skip
     clear hprev
     go_wp2_with fail
     go_quiet ((go_at_call 24; exact Calls.quiet_of (HVOL.out _)))
     go_wp2
     obtain ⟨wq, hwq⟩ : ∃ wq, (wr.alloc (.cells #[.int .i64 p.f0, .int .i64 p.f1, .int .i64 p.f2] 28)).drewN nq = wq := ⟨_, rfl⟩
     have hrb : wq.heap[w.heap.size]? = some (.cells #[.slice none 0 0, .slice none 0 0] 49) := by rw [← hwq]; exact HRB.out
     have hbb : Below w.heap.size w wq := by rw [← hwq]; exact pw_below_drewN HHB.out nq
     rw [hwq]
     have hbk : (wq.setCell ⟨w.heap.size, 0, none⟩ (.slice none 0 0)).heap[w.heap.size]? = some (.cells #[.slice none 0 0, .slice none 0 0] 49) := blk_put hrb 0 _ rfl
     have hbk2 : ((wq.setCell ⟨w.heap.size, 0, none⟩ (.slice none 0 0)).setCell ⟨w.heap.size, 1, none⟩ (.slice none 0 0)).heap[w.heap.size]? = some (.cells #[.slice none 0 0, .slice none 0 0] 49) := blk_put hbk 1 _ rfl
     have hx0 := (blk_cell hbk2 0).trans rfl
     have hx1 := (blk_cell hbk2 1).trans rfl
     have hbl : Below w.heap.size w ((wq.setCell ⟨w.heap.size, 0, none⟩ (.slice none 0 0)).setCell ⟨w.heap.size, 1, none⟩ (.slice none 0 0)) := below_set (below_set hbb (Nat.le_refl _)) (Nat.le_refl _)
     generalize (wq.setCell ⟨w.heap.size, 0, none⟩ (.slice none 0 0)).setCell ⟨w.heap.size, 1, none⟩ (.slice none 0 0) = w9 at hx0 hx1 hbl ⊢
     have HPF : Aside0 (OpenPost (some ad) c ls w (.returned (.tuple #[.agg #[.slice none 0 0, .slice none 0 0], .bool false])) w9) := ⟨⟨.inr ⟨HPO.out, rfl⟩, hbl⟩⟩
     clear hcr0 hcr1 hf0 hf1 hbk hbk2 hbl hrb hbb hwq hmm2
     exact bodyPost_ret (v := .tuple #[.agg #[.slice none 0 0, .slice none 0 0], .bool false]) (by simp [results, Try.results12, go_sem, hx0, hx1]) rfl HPF.out
   ·have hgood := Bool.eq_false_iff.2 hbad
    have HOKN := Aside0.mk (show openOk ls (k + 1) = true by rw [openOk_succ, HI.out.ok, hgood]; rfl)
    obtain ⟨bx, hbx⟩ : ∃ bx, Obj.cells #[.int .i64 p.f0, .int .i64 p.f1, .int .i64 p.f2] 28 = bx := ⟨_, rfl⟩
    have HIA := Aside0.mk (HI.out.at_ (below_alloc (Below.refl _ _) bx))
    have HHB := Aside0.mk HIA.out.below
    have HPB := Aside0.mk (heap_alloc_new wr bx)
    clear hbad
    obtain ⟨pv, hpv⟩ : ∃ pv, rd_T28 ls ((k : Int) - 1) = pv := ⟨_, rfl⟩
    obtain ⟨vb, hvb⟩ : ∃ vb, volB p.f2 = vb := ⟨_, rfl⟩
    have HVOL := Aside0.mk (fun W => vol_quiet p.f2 W)
    rw [hvb] at HVOL HBA
    rw [hpv] at HBA
    have HBT := Aside0.mk (HBA.out.symm.trans hgood)
    have HPV := Aside0.mk hpv
    clear hpv hvb hgood HBA
    have hcase : decide (p.f0 < 1) = false ∧ vb = true ∧ ((decide ((0 : Int) < (k : Int)) = true ∧ decide (p.f0 ≤ pv.f0) = false) ∨ decide ((0 : Int) < (k : Int)) = false) ∧
      (((p.f1 == 0) = true ∧ (p.f1 != 0) = false ∧ q = false) ∨ ((p.f1 == 0) = true ∧ (p.f1 != 0) = false ∧ q = true) ∨ ((p.f1 == 0) = false ∧ (p.f1 != 0) = true ∧ q = true)) := by
     have hb := HBT.out
     have ek : decide ((0 : Int) < (k : Int)) = decide (0 < k) := by rw [decide_eq_decide]; omega
     rw [ek]
     have en : (p.f1 != 0) = !(p.f1 == 0) := rfl
     rw [en]
     generalize decide (p.f0 < 1) = b1 at hb ⊢
     generalize decide (0 < k) = b2 at hb ⊢
     generalize decide (p.f0 ≤ pv.f0) = b3 at hb ⊢
     generalize (p.f1 == 0) = b4 at hb ⊢
     clear ek en HBT
     revert hb
     cases b1 <;> cases b2 <;> cases b3 <;> cases vb <;> cases b4 <;> cases q <;> decide
    have hprev : decide ((0 : Int) < (k : Int)) = true → (wr.alloc bx).cell? (ad.add ((k - 1) * 3)) = some (.int .i64 pv.f0) := fun hd => by
     have hk0 := of_decide_eq_true hd
     obtain ⟨ad', e0, g0, _, _⟩ := at_T28 HR.out ((k : Int) - 1) (by omega) (by omega)
     cases e0
     rw [show ((k : Int) - 1).toNat = k - 1 by omega, HPV.out] at g0
     exact (HHB.out.cell (World.block_lt_of_cell? w _ g0)).trans g0
    clear HBT
    have hform : ∃ g cg, Ak = some ⟨g, 0, none⟩ ∧ (wr.alloc bx).heap[g]? = some (.cells cg 24 (0, 0)) ∧ w.heap.size ≤ g := by
     obtain ⟨g, cap, hv, hge, hglt, cellsg, hgc⟩ := Kd.S_form HIA.out.kids (by rw [kidsTo_length]; omega)
     injection hv with hv1 _ _
     exact ⟨g, cellsg, hv1, hgc, hge⟩
    obtain ⟨g, cg, rfl, hgc, hge⟩ := hform
    have HGC := Aside0.mk hgc
    have HGE := Aside0.mk hge
    have HBNS := Aside0.mk (show w.heap.size ≤ bn + 1 by have := HB.out.size; have := HBN.out; omega)
    clear hgc hge
    subst hbx
    obtain ⟨c1, rfl, hk01, hq3⟩ := hcase
    rcases hk01 with ⟨c2, c3⟩ | c2
    all_goals
     have c2n := (show decide (0 < k) = decide ((0 : Int) < (k : Int)) by rw [decide_eq_decide]; omega).trans c2
     first | (have hpc := hprev c2; have hk0 := of_decide_eq_true c2; have hs2 : (0 : Int) ≤ (k : Int) - 1 := (by omega); have hs3 : ((k : Int) - 1).toNat = k - 1 := (by omega); have hs4 : (k : Int) - 1 < (ls.length : Int) := (by omega); have hs5 : -9223372036854775808 ≤ (k : Int) - 1 ∧ (k : Int) - 1 ≤ 9223372036854775807 := (by omega); have hs1 := IntWalk.i64_in _ hs5; clear hk0 hs5) | skip
     clear hprev
     rcases hq3 with ⟨c4, c5, rfl⟩ | ⟨c4, c5, rfl⟩ | ⟨c4, c5, rfl⟩
     ·go_wp2_with fail
      go_quiet ((go_at_call 24; exact Calls.quiet_of (HVOL.out _)))
      obtain ⟨wq, hwq⟩ : ∃ wq, (wr.alloc (.cells #[.int .i64 p.f0, .int .i64 p.f1, .int .i64 p.f2] 28)).drewN nq = wq := ⟨_, rfl⟩
      have HIQ := Aside0.mk (show OpI (some ad) c ls (some ⟨g, 0, none⟩) ck bn (bn + 1) ls.length w k wq by rw [← hwq]; exact HI.out.at_ (pw_below_drewN (below_alloc (Below.refl _ _) _) nq))
      have HPQ := Aside0.mk (show wq.heap[wr.heap.size]? = some (.cells #[.int .i64 p.f0, .int .i64 p.f1, .int .i64 p.f2] 28) by rw [← hwq]; exact HPB.out)
      rw [hwq]
      clear hwq hmm2 c1 c2 c2n c4 c5
      try clear c3
      try clear hpc hs1 hs2 hs3 hs4
      have hc0 : wq.cell? ⟨wr.heap.size, 0, none⟩ = some (.int .i64 p.f0) := (blk_cell HPQ.out 0).trans rfl
      have HOG := Aside0.mk (show OpG (some ad) c ls g ck bn (bn + 1) ls.length w k wr.heap.size p (kidsTo ls ls.length k) wq from ⟨HIQ.out.kids, HIQ.out.map, HIQ.out.boxn, HIQ.out.res, HIQ.out.below, HPQ.out⟩)
      have HKN : Aside0 (kidsTo ls ls.length (k + 1) = kidsTo ls ls.length k) := ⟨by
       rw [HKU.out]
       have := HQ.out
       cases lk with
       | none => rfl
       | some u => cases this⟩
      go_wp2_with (at_mapUpdate; refine wpList_MI (x := p.f0) (v := (k : Int)) rfl rfl rfl rfl rfl HIQ.out.map (by unfold maxLen; omega) HPW.out.1 (by unfold wf64; omega) ?_; intro w2 hm2 hg2; have HI2 := Aside0.mk (HOG.out.next (by rw [HMU.out]; exact hm2) hg2 HOKN.out HKN.out HBNS.out); clear hm2 hg2)
      go_roundg (ls.length - (k + 1))
      case measure => omega
      case rel => exact ⟨k + 1, by omega, by omega, by go_num, HI2⟩
     all_goals
      go_wp2_with fail
      go_quiet ((go_at_call 24; exact Calls.quiet_of (HVOL.out _)))
      obtain ⟨wq, hwq⟩ : ∃ wq, (wr.alloc (.cells #[.int .i64 p.f0, .int .i64 p.f1, .int .i64 p.f2] 28)).drewN nq = wq := ⟨_, rfl⟩
      have HIQ := Aside0.mk (show OpI (some ad) c ls (some ⟨g, 0, none⟩) ck bn (bn + 1) ls.length w k wq by rw [← hwq]; exact HI.out.at_ (pw_below_drewN (below_alloc (Below.refl _ _) _) nq))
      have HPQ := Aside0.mk (show wq.heap[wr.heap.size]? = some (.cells #[.int .i64 p.f0, .int .i64 p.f1, .int .i64 p.f2] 28) by rw [← hwq]; exact HPB.out)
      have HGQ := Aside0.mk (show wq.heap[g]? = some (.cells cg 24 (0, 0)) by rw [← hwq]; exact HGC.out)
      rw [hwq]
      clear hwq hmm2 c1 c2 c2n c4 c5
      try clear c3
      try clear hpc hs1 hs2 hs3 hs4
      have hcv : ∃ a, lk = some a := by
       have := HQ.out
       cases lk with
       | none => cases this
       | some u => exact ⟨u, rfl⟩
      obtain ⟨aa, rfl⟩ := hcv
      obtain ⟨ha0, ha1⟩ := idMap_lt ls k _ aa HLK.out
      obtain rfl : aa = cv := HCV.out
      have hal : aa < (ls.length : Int) := by omega
      have hnl : (ls.length : Int) ≤ 9223372036854775807 := by omega
      obtain ⟨oki, cc, hcl, hM, hcc, hfr, hoki, hH⟩ := Kd.S_elem HIQ.out.kids ([] : List Int) aa ha0 hal
      obtain ⟨v, rfl, hRv⟩ := hM
      obtain ⟨Ai, ci, rfl⟩ := Kd.R_slice hRv
      have hyl := kidsTo_small ls ls.length k aa
      have HKN : Aside0 (kidsTo ls ls.length (k + 1) = (kidsTo ls ls.length k).set aa.toNat ((kidsTo ls ls.length k).getD aa.toNat [] ++ [(k : Int)])) := ⟨HKU.out⟩
      change ((kidsTo ls ls.length k).getD aa.toNat []).length ≤ k at hyl
      generalize (kidsTo ls ls.length k).getD aa.toNat [] = ys at hRv hcc hyl HKN hH hcl
      have hce : wq.cell? ⟨g, aa.toNat, none⟩ = some (.slice Ai ys.length ci) := by
       have := hcc 0 _ rfl
       rw [show aa.toNat * (Kd.slice 3 (Kd.int .i64)).sz + 0 = aa.toNat from Nat.mul_one _] at this
       exact this
      have hcf : wq.frozen? ⟨g, aa.toNat, none⟩ = false := by
       have := hfr 0
       rw [show aa.toNat * (Kd.slice 3 (Kd.int .i64)).sz + 0 = aa.toNat from Nat.mul_one _] at this
       exact this
      have hcb1 : wq.cell? ⟨bn, 1, none⟩ = some (.slice (some ⟨g, 0, none⟩) ls.length ck) := (blk_cell HIQ.out.boxn 1).trans rfl
      have HRV := Aside0.mk hRv
      have HHH := Aside0.mk hH
      have HOKI := Aside0.mk (fun k hk => (hoki k hk).2)
      have HFR := Aside0.mk hcf
      clear hcc hfr hoki hH hRv hcl hcf
      go_wp2_with fail
      refine start_ (n := 13) (S := fun W => W.cell? ⟨bn, 1, none⟩ = some (.slice (some ⟨g, 0, none⟩) ls.length ck) ∧ W.cell? ⟨g, aa.toNat, none⟩ = some (.slice Ai ys.length ci)) (ds := [12]) #[false, false, false, false, false, false, false, false, false, false, false, false, false] (by kernel_rfl) rfl (by rfl) ⟨hcb1, hce⟩ (fun hHeld => ?_)
      have HD := Aside0.mk (show Below wq.heap.size wq wq.drew from (Below.refl _ _).drew)
      generalize wq.drew = wa at HD hHeld ⊢
      refine pure_ (i := 0) (N := some 65) (v := ?_) (a' := ?_) #[true, false, false, false, false, false, false, false, false, false, false, false, false] rfl rfl (by kernel_rfl) (fun _ _ _ h => h) (Or.inl ⟨by rfl, ?_⟩) ?_ ?_
      rotate_left
      ·intro w'
       go_simp
       with_reducible rfl
      rotate_left
      ·simp only [Act.put, sA, sZ, sS, i64_w, i32_w]
       rfl
      refine pure_ (i := 2) (N := some 67) (v := ?_) (a' := ?_) #[true, false, true, false, false, false, false, false, false, false, false, false, false] rfl rfl (by kernel_rfl) (fun _ _ _ h => h) (Or.inl ⟨by rfl, ?_⟩) ?_ ?_
      rotate_left
      ·intro w'
       go_simp
       with_reducible rfl
      rotate_left
      ·simp only [Act.put, sA, sZ, sS, i64_w, i32_w]
       rfl
      refine pure_ (i := 3) (N := some 68) (v := ?_) (a' := ?_) #[true, false, true, true, false, false, false, false, false, false, false, false, false] rfl rfl (by kernel_rfl) (fun _ _ _ h => h) (Or.inl ⟨by rfl, ?_⟩) ?_ ?_
      rotate_left
      ·intro w'
       go_simp
       with_reducible rfl
      rotate_left
      ·simp only [Act.put, sA, sZ, sS, i64_w, i32_w]
       rfl
      refine pure_ (i := 5) (N := some 70) (v := ?_) (a' := ?_) #[true, false, true, true, false, true, false, false, false, false, false, false, false] rfl rfl (by kernel_rfl) (fun _ _ _ h => h) (Or.inl ⟨by rfl, ?_⟩) ?_ ?_
      rotate_left
      ·intro w'
       go_simp
       with_reducible rfl
      rotate_left
      ·simp only [Act.put, sA, sZ, sS, i64_w, i32_w]
       rfl
      refine pure_ (i := 8) (N := some 73) (v := ?_) (a' := ?_) #[true, false, true, true, false, true, false, false, true, false, false, false, false] rfl rfl (by kernel_rfl) (fun _ _ _ h => h) (Or.inl ⟨by rfl, ?_⟩) ?_ ?_
      rotate_left
      ·intro w'
       go_simp
       with_reducible rfl
      rotate_left
      ·simp only [Act.put, sA, sZ, sS, i64_w, i32_w]
       rfl
      refine take_ (i := 1) (N := some 66) (v := ?_) (a' := ?_) #[true, true, true, true, false, true, false, false, true, false, false, false, false] rfl rfl (by kernel_rfl) (fun _ _ _ h => h) (Or.inl ⟨by rfl, ?_⟩) hHeld ?_ ?_
      rotate_left
      ·intro w' hS
       obtain ⟨s0, s1⟩ := hS
       go_simp
       with_reducible rfl
      rotate_left
      ·simp only [Act.put, sA, sZ, sS, i64_w, i32_w]
       rfl
      refine take_ (i := 4) (N := some 69) (v := ?_) (a' := ?_) #[true, true, true, true, true, true, false, false, true, false, false, false, false] rfl rfl (by kernel_rfl) (fun _ _ _ h => h) (Or.inl ⟨by rfl, ?_⟩) hHeld ?_ ?_
      rotate_left
      ·intro w' hS
       obtain ⟨s0, s1⟩ := hS
       go_simp
       with_reducible rfl
      rotate_left
      ·simp only [Act.put, sA, sZ, sS, i64_w, i32_w]
       rfl
      refine pure_ (i := 6) (N := some 71) (v := ?_) (a' := ?_) #[true, true, true, true, true, true, true, false, true, false, false, false, false] rfl rfl (by kernel_rfl) (fun _ _ _ h => h) (Or.inl ⟨by rfl, ?_⟩) ?_ ?_
      rotate_left
      ·intro w'
       go_simp
       with_reducible rfl
      rotate_left
      ·simp only [Act.put, sA, sZ, sS, i64_w, i32_w]
       rfl
      refine take_ (i := 7) (N := some 72) (v := ?_) (a' := ?_) #[true, true, true, true, true, true, true, true, true, false, false, false, false] rfl rfl (by kernel_rfl) (fun _ _ _ h => h) (Or.inl ⟨by rfl, ?_⟩) hHeld ?_ ?_
      rotate_left
      ·intro w' hS
       obtain ⟨s0, s1⟩ := hS
       go_simp
       with_reducible rfl
      rotate_left
      ·simp only [Act.put, sA, sZ, sS, i64_w, i32_w]
       rfl
      refine one_ (i := 9) (N := some 74) #[true, true, true, true, true, true, true, true, true, true, false, false, false] rfl rfl (by kernel_rfl) (by decide) (fun K hK => ?_)
      refine value_ (v := .slice (some ⟨wa.heap.size, 0, none⟩) 1 1) (w1 := wa.alloc (.cells #[.int .i64 (k : Int)] 3)) (by rfl) rfl (by first | (go_simp; done) | (go_simp; rfl)) ?_
      refine hK.out _ _ ⟨(HD.out.alloc HD.out.size _ |>.cell (p := ⟨bn, 1, none⟩) (World.block_lt_of_cell? wq _ hcb1)).trans hcb1, (HD.out.alloc HD.out.size _ |>.cell (p := ⟨g, aa.toNat, none⟩) (World.block_lt_of_cell? wq _ hce)).trans hce⟩ (fun hHeld => ?_)
      clear hK K
      refine norm_ (a' := ?_) ?_ ?_
      rotate_left
      ·show Act.put _ (some 74) _ = _
       simp only [Act.put, sA, sZ, sS, i64_w, i32_w]
       rfl
      refine one_ (i := 10) (N := some 75) #[true, true, true, true, true, true, true, true, true, true, true, false, false] rfl rfl (by kernel_rfl) (by decide) (fun K hK => ?_)
      refine Kd.R_append_step (w0 := w) (Kd.int .i64) w.heap.size (by rfl) (.tmp 72) (.tmp 74) 24 3 (.int .i64 0) 8 rfl Try.underlying24 info3 rfl (by decide) (by omega) (.slice Ai ys.length ci) ys (k : Int) [.int .i64 (k : Int)] (fun j => oki j ∨ wq.heap.size ≤ j) (fun _ => False) rfl rfl rfl (fun _ h => h.elim) (fun j hj => .inr (Nat.le_trans HD.out.size hj)) (Kd.R_mono (Kd.R_below HRV.out HD.out) (fun _ h => .inl h)) (HIQ.out.below.trans (HD.out.mono HIQ.out.below.size)) (Nat.le_trans HIQ.out.below.size HD.out.size) (by omega) ?_
      intro v1 w11 ho hb hg hat
      obtain ⟨A1, cv1, rfl⟩ := Kd.R_slice ho
      have HV1 := Aside0.mk ho
      have HB3 := Aside0.mk hb
      have HGR := Aside0.mk hg
      have hgb := hg.block g (blk_lt ((HD.out.block g (blk_lt HGQ.out)).trans HGQ.out)) (fun e => HOKI.out g (HRV.out.1 g e.symm) rfl)
      have hgq := hgb.trans ((HD.out.block g (blk_lt HGQ.out)))
      have hc11 : w11.cell? ⟨g, aa.toNat, none⟩ = some (.slice Ai ys.length ci) := by have h1 := hce; simp only [World.cell?] at h1 ⊢; rw [hgq]; exact h1
      have hf11 : w11.frozen? ⟨g, aa.toNat, none⟩ = false := by have h1 := HFR.out; simp only [World.frozen?] at h1 ⊢; rw [hgq]; exact h1
      have hbb := hg.block bn (blk_lt ((HD.out.block bn (blk_lt HIQ.out.boxn)).trans HIQ.out.boxn)) (fun e => by have h1 := (Kd.R_typed HRV.out) bn e.symm; obtain ⟨cs, h1⟩ := h1; rw [HIQ.out.boxn] at h1; injection h1 with h1; injection h1 with _ h1; cases h1)
      have hcn11 : w11.cell? ⟨bn, 1, none⟩ = some (.slice (some ⟨g, 0, none⟩) ls.length ck) := by have h1 := (HD.out.cell (World.block_lt_of_cell? wq _ hcb1)).trans hcb1; simp only [World.cell?] at h1 ⊢; rw [hbb]; exact h1
      clear ho hb hg hat hgb hgq hbb
      refine hK.out _ _ ⟨hcn11, hc11⟩ (fun hHeld => ?_)
      clear hK K
      refine norm_ (a' := ?_) ?_ ?_
      rotate_left
      ·show Act.put _ (some 75) _ = _
       simp only [Act.put, sA, sZ, sS, i64_w, i32_w]
       rfl
      refine pure_ (i := 11) (N := some 76) (v := ?_) (a' := ?_) #[true, true, true, true, true, true, true, true, true, true, true, true, false] rfl rfl (by kernel_rfl) (fun _ _ _ h => h) (Or.inl ⟨by rfl, ?_⟩) ?_ ?_
      rotate_left
      ·intro w'
       go_simp
       with_reducible rfl
      rotate_left
      ·simp only [Act.put, sA, sZ, sS, i64_w, i32_w]
       rfl
      refine last_ (i := 12) (N := none) #[true, true, true, true, true, true, true, true, true, true, true, true, true] rfl rfl (by kernel_rfl) (by decide) (fun K hK => ?_)
      refine skip_ (w1 := w11.setCell ⟨g, aa.toNat, none⟩ (.slice A1 (ys ++ [(k : Int)]).length cv1)) (by rfl) rfl (by first | (go_simp; done) | (go_simp; rfl)) ?_
      refine hK.out _ _ ?_
      clear hK K hc11 hf11 hcn11
      refine done_ (by kernel_rfl) ?_
      have HOG := Aside0.mk (HIQ.out.push HPQ.out HGQ.out HGE.out ha0 hal HRV.out HOKI.out HHH.out HD.out HGR.out HB3.out HV1.out)
      clear hce hcb1 hHeld
      generalize w11.setCell ⟨g, aa.toNat, none⟩ (.slice A1 (ys ++ [(k : Int)]).length cv1) = w12 at HOG ⊢
      have hc0 : w12.cell? ⟨wr.heap.size, 0, none⟩ = some (.int .i64 p.f0) := (blk_cell HOG.out.boxp 0).trans rfl
      go_wp2_with (at_mapUpdate; refine wpList_MI (x := p.f0) (v := (k : Int)) rfl rfl rfl rfl rfl HOG.out.map (by unfold maxLen; omega) HPW.out.1 (by unfold wf64; omega) ?_; intro w2 hm2 hg2; have HI2 := Aside0.mk (HOG.out.next (by rw [HMU.out]; exact hm2) hg2 HOKN.out HKN.out HBNS.out); clear hm2 hg2)
      go_roundg (ls.length - (k + 1))
      case measure => omega
      case rel => exact ⟨k + 1, by omega, by omega, by go_num, HI2⟩
  ·have hi : ¬ (k : Int) < (ls.length : Int) := by omega
   obtain rfl : k = ls.length := by omega
   have hcb0 : wr.cell? ⟨bn, 0, none⟩ = some (.slice A ls.length c) := (blk_cell HI.out.boxn 0).trans rfl
   have hcb1 : wr.cell? ⟨bn, 1, none⟩ = some (.slice Ak ls.length ck) := (blk_cell HI.out.boxn 1).trans rfl
   have hcr0 : wr.cell? ⟨w.heap.size, 0, none⟩ = some (.slice none 0 0) := (blk_cell HI.out.res 0).trans rfl
   have hcr1 : wr.cell? ⟨w.heap.size, 1, none⟩ = some (.slice none 0 0) := (blk_cell HI.out.res 1).trans rfl
   have hf0 := blk_frozen HI.out.res 0
   have hf1 := blk_frozen HI.out.res 1
   go_wp2
   have hS1 := Kd.S_set HI.out.kids HI.out.res (by intro q hq; simp [Kd.slice, Kd.int, Kd.scalar] at hq; omega) 0 (.slice A ls.length c)
   have hbk : (wr.setCell ⟨w.heap.size, 0, none⟩ (.slice A ls.length c)).heap[w.heap.size]? = some (.cells #[.slice A ls.length c, .slice none 0 0] 49) := blk_put HI.out.res 0 _ rfl
   have hS2 := Kd.S_set hS1 hbk (by intro q hq; simp [Kd.slice, Kd.int, Kd.scalar] at hq; omega) 1 (.slice Ak ls.length ck)
   have hbk2 : ((wr.setCell ⟨w.heap.size, 0, none⟩ (.slice A ls.length c)).setCell ⟨w.heap.size, 1, none⟩ (.slice Ak ls.length ck)).heap[w.heap.size]? = some (.cells #[.slice A ls.length c, .slice Ak ls.length ck] 49) := blk_put hbk 1 _ rfl
   have hx0 := (blk_cell hbk2 0).trans rfl
   have hx1 := (blk_cell hbk2 1).trans rfl
   have hbl : Below w.heap.size w ((wr.setCell ⟨w.heap.size, 0, none⟩ (.slice A ls.length c)).setCell ⟨w.heap.size, 1, none⟩ (.slice Ak ls.length ck)) := below_set (below_set HI.out.below (Nat.le_refl _)) (Nat.le_refl _)
   have hkc := (Kd.S_reads' hS2).2.2
   rw [kidsTo_length] at hkc
   have hdec : decide ((ls.length : Int) ≤ 200) = decide (ls.length ≤ 200) := by rw [decide_eq_decide]; omega
   generalize (wr.setCell ⟨w.heap.size, 0, none⟩ (.slice A ls.length c)).setCell ⟨w.heap.size, 1, none⟩ (.slice Ak ls.length ck) = w9 at hx0 hx1 hbl hkc ⊢
   have HPO : Aside0 (OpenPost A c ls w (.returned (.tuple #[.agg #[.slice A ls.length c, .slice Ak ls.length ck], .bool (decide ((ls.length : Int) ≤ 200))])) w9) := ⟨by
    rw [hdec]
    exact ⟨.inl ⟨HI.out.ok, Ak, ck, rfl, hkc⟩, hbl⟩⟩
   clear hcb0 hcb1 hcr0 hcr1 hf0 hf1 hS1 hbk hS2 hbk2 hbl hkc hdec
   exact bodyPost_ret (v := .tuple #[.agg #[.slice A ls.length c, .slice Ak ls.length ck], .bool (decide ((ls.length : Int) ≤ 200))]) (by simp [results, Try.results12, go_sem, hx0, hx1]) rfl HPO.out
end
section
-- The contracts of flow's belongs and Bounds.
attribute [local go_sem] max2_int min2_int
set_option linter.unusedVariables false
set_option linter.unusedSimpArgs false
/-! ### lists that are filled from their beginning on -/
def fillTo {α : Type} (n : Nat) (f : Nat → α) (z : α) (k : Nat) : List α := (List.range n).map fun j => if j < k then f j else z
theorem fill_length {α : Type} (n : Nat) (f : Nat → α) (z : α) (k : Nat) : (fillTo n f z k).length = n := by simp [fillTo]
theorem fill_zero {α : Type} (n : Nat) (f : Nat → α) (z : α) : fillTo n f z 0 = List.replicate n z := by
 apply List.ext_getElem <;> simp [fillTo]
theorem fill_step {α : Type} (n : Nat) (f : Nat → α) (z : α) (k : Nat) (hk : k < n) : (fillTo n f z k).set k (f k) = fillTo n f z (k + 1) := by
 apply List.ext_getElem
 ·simp [fillTo]
 ·intro i h1 h2
  rw [List.getElem_set]
  simp only [fillTo, List.getElem_map, List.getElem_range]
  by_cases e : k = i
  ·subst e; simp
  ·rw [if_neg e]
   by_cases h : i < k
   ·rw [if_pos h, if_pos (by omega)]
   ·rw [if_neg h, if_neg (by omega)]
theorem fill_full {α : Type} (n : Nat) (f : Nat → α) (z : α) : fillTo n f z n = (List.range n).map f := by
 unfold fillTo
 apply List.map_congr_left
 intro j hj
 rw [if_pos (List.mem_range.1 hj)]
theorem range_getD {α β : Type} (z : α) (g : α → β) (xs : List α) : (List.range xs.length).map (fun j => g (xs.getD j z)) = xs.map g := by
 apply List.ext_getElem
 ·simp
 ·intro i h1 h2
  simp only [List.getElem_map, List.getElem_range]
  congr 1
  rw [List.getD_eq_getElem?_getD, List.getElem?_eq_getElem (by simpa using h2)]
  rfl
/-! ### rows of ranges -/
theorem row35_at {W : World} {base g n cap : Nat} {ok : Nat → Prop} {rs : List S35} (h : Kd.R k35 35 W base ok (.slice (some ⟨g, 0, none⟩) n cap) rs) (i : Int) (h0 : 0 ≤ i) (h1 : i < rs.length) :
  W.cell? ⟨g, i.toNat * 2, none⟩ = some (.int .i64 (rd_T35 rs i).f0) ∧ W.cell? ⟨g, i.toNat * 2 + 1, none⟩ = some (.int .i64 (rd_T35 rs i).f1) ∧ W.frozen? ⟨g, i.toNat * 2, none⟩ = false ∧ W.frozen? ⟨g, i.toNat * 2 + 1, none⟩ = false := by
 have hn := (Kd.R_reads' h).1
 obtain ⟨c, hcl, hM, hcc, hfr⟩ := Kd.R_elem h z35 i h0 (by omega)
 obtain rfl := k35_openM hM
 exact ⟨hcc 0 _ rfl, hcc 1 _ rfl, hfr 0, hfr 1⟩
theorem row35_set {W : World} {base g n cap : Nat} {rs : List S35} (h : Kd.R k35 35 W base (fun _ => True) (.slice (some ⟨g, 0, none⟩) n cap) rs) (i : Int) (h0 : 0 ≤ i) (h1 : i < rs.length) (x : S35) :
  Kd.R k35 35 ((W.setCell ⟨g, i.toNat * 2, none⟩ (.int .i64 x.f0)).setCell ⟨g, i.toNat * 2 + 1, none⟩ (.int .i64 x.f1)) base (fun _ => True) (.slice (some ⟨g, 0, none⟩) n cap) (rs.set i.toNat x) := by
 have hn := (Kd.R_reads' h).1
 obtain ⟨c, hcl, hM, hcc, hfr⟩ := Kd.R_elem h z35 i h0 (by omega)
 obtain rfl := k35_openM hM
 exact (Kd.R_seg h i h0 (by omega) (seg := [.int .i64 x.f0, .int .i64 x.f1]) (j := 0) hcl hcc (show 2 ≤ 2 from by decide) (x' := x) (okp := fun _ => False) (k35_mkM _ _ _ x) (fun _ hk => hk.elim)).1
/-! ### intervals -/
def ivOf (x : S35) : S56 := ⟨x.f0, x.f1⟩
def rgOf (x : S56) : S35 := ⟨x.f0, x.f1⟩
theorem intervals_l0 (xs : List S35) (hn : xs.length ≤ 1000000) : ∀ (d k i : Nat), i + d = xs.length → d < k →
  flow_intervals.l0 k xs (fillTo xs.length (fun j => ivOf (xs.getD j z35)) z56 i) (xs.length : Int) (i : Int) = some (xs.map ivOf) := by
 intro d
 induction d with
 | zero =>
  intro k i hi hk
  obtain ⟨k, rfl⟩ : ∃ m, k = m + 1 := ⟨k - 1, by omega⟩
  simp only [flow_intervals.l0]
  rw [if_neg (by omega)]
  obtain rfl : i = xs.length := by omega
  rw [fill_full, range_getD]
 | succ d ih =>
  intro k i hi hk
  obtain ⟨k, rfl⟩ : ∃ m, k = m + 1 := ⟨k - 1, by omega⟩
  simp only [flow_intervals.l0]
  rw [if_pos (by omega), if_pos (by omega), if_pos (by omega), if_pos (by rw [fill_length]; omega)]
  have e : wrap64 ((i : Int) + 1) = ((i + 1 : Nat) : Int) := by unfold wrap64; omega
  have e2 : (fillTo xs.length (fun j => ivOf (xs.getD j z35)) z56 i).set ((i : Int)).toNat (⟨(rd_T35 xs (i : Int)).f0, (rd_T35 xs (i : Int)).f1⟩ : S56) = fillTo xs.length (fun j => ivOf (xs.getD j z35)) z56 (i + 1) :=
   fill_step xs.length (fun j => ivOf (xs.getD j z35)) z56 i (by omega)
  rw [e, e2]
  exact ih k (i + 1) (by omega) (by omega)
theorem intervals_f (xs : List S35) (hn : xs.length ≤ 1000000) : flow_intervals.f (xs.length + 1) xs = some (xs.map ivOf) := by
 unfold flow_intervals.f
 rw [if_pos (by omega), if_pos (by simp only [Int.toNat_natCast]; omega)]
 have h := intervals_l0 xs hn xs.length (xs.length + 1) 0 (by omega) (by omega)
 rw [fill_zero] at h
 exact h
/-! ### belongs -/
def belongsB (known : List S35) (n : Nat) : Bool := decide (known.length = n) && !known.any oddB
set_option maxHeartbeats 4000000 in
theorem belongs_calls (Al : Option Addr) (nl cl : Nat) (Ak : Option Addr) (nk ck : Nat) (A : Option Addr) (c : Nat) (known : List S35) (w : World) (hr : Kd.C k35 w A known.length known) (hnl : nl ≤ 1000000) :
  Calls Try.prog 13 #[.agg #[.slice Al nl cl, .slice Ak nk ck], .slice A known.length c] w fun e w' => e = .returned (.bool (belongsB known nl)) ∧ Below w.heap.size w w' := by
 have hn := hr.2.1
 have HR := Aside0.mk hr
 have HBE : Aside0 (belongsB known nl = (decide (known.length = nl) && !known.any oddB)) := ⟨rfl⟩
 generalize belongsB known nl = be at HBE
 have HC := Aside0.mk (fun W (hb : Below w.heap.size w W) => containsR_calls 25 #[] oddB (enters_ Try.func25 (by kernel_rfl) rfl) A c known W (fun x W' _ => odd_calls x W') (Kd.C_below hr hb))
 obtain ⟨q, hq⟩ : ∃ q, known.any oddB = q := ⟨_, rfl⟩
 rw [hq] at HBE HC
 clear hr hq
 generalize known.length = n at hn HBE HC
 by_cases e : n = nl
 ·subst e
  rw [decide_eq_true rfl] at HBE
  go_enter Try.func13, Try.ntmps13
  go_wp2_with fail
  refine (HC.out _ ((Below.refl _ _).alloc (Nat.le_refl _) _)).mono ?_
  rintro e w' ⟨rfl, hb⟩
  have HB := Aside0.mk (((Below.refl _ w).alloc (Nat.le_refl _) _).trans (hb.mono (by simp)))
  clear hb
  go_wp2
  go_ret
  exact ⟨by rw [HBE.out]; rfl, HB.out⟩
 ·have e1 : (n == nl) = false := by simpa using e
  have e2 : ((n : Int) == (nl : Int)) = false := by simp; omega
  rw [decide_eq_false e] at HBE
  clear e
  go_enter Try.func13, Try.ntmps13
  go_wp2
  go_ret
  exact ⟨by rw [HBE.out]; rfl, (Below.refl _ w).alloc (Nat.le_refl _) _⟩
end
section
-- The contract of flow's Bounds.
attribute [local go_sem] max2_int min2_int
set_option linter.unusedVariables false
set_option linter.unusedSimpArgs false
def boundsM (ls : List S28) (known : List S35) : List S35 × Int :=
 if openOk ls ls.length = true ∧ ls.length ≤ 200 ∧ belongsB known ls.length = true then
  (if (boundsF ls (kidsTo ls ls.length ls.length) (known.map ivOf) ls.length).1 = true then ((boundsF ls (kidsTo ls ls.length ls.length) (known.map ivOf) ls.length).2.map rgOf, 0) else ([], 30))
 else ([], 1)
theorem upStep_len_ok : True := trivial
set_option maxHeartbeats 8000000 in
set_option maxRecDepth 100000 in
theorem flowBounds_calls (A : Option Addr) (c : Nat) (ls : List S28) (A1 : Option Addr) (c1 : Nat) (known : List S35) (w : World) (hr : Kd.C k28 w A ls.length ls) (hr1 : Kd.C k35 w A1 known.length known) (hc1 : known.length ≤ c1)
  (hwf : ∀ p ∈ ls, wf64 p.f0 ∧ wf64 p.f1) (hm : ls.length ≤ 1000) (hm1 : known.length ≤ 1000) :
  Calls Try.prog 6 #[.slice A ls.length c, .slice A1 known.length c1] w fun e w' => ∃ v, e = .returned (.tuple #[v, .int .i64 (boundsM ls known).2]) ∧ Kd.R k35 35 w' w.heap.size (fun _ => True) v (boundsM ls known).1 ∧ Below w.heap.size w w' := by
 have HBM := Aside0.mk (show boundsM ls known = if openOk ls ls.length = true ∧ ls.length ≤ 200 ∧ belongsB known ls.length = true then
  (if (boundsF ls (kidsTo ls ls.length ls.length) (known.map ivOf) ls.length).1 = true then ((boundsF ls (kidsTo ls ls.length ls.length) (known.map ivOf) ls.length).2.map rgOf, 0) else ([], 30))
 else ([], 1) from rfl)
 generalize boundsM ls known = bm at HBM
 have HR := Aside0.mk hr
 have HR1 := Aside0.mk hr1
 have HC1 := Aside0.mk hc1
 have HM := Aside0.mk hm
 have HM1 := Aside0.mk hm1
 have HOC := Aside0.mk (fun W (hb : Below w.heap.size w W) => open_calls A c ls W (Kd.C_below hr hb) hwf hm)
 clear hr hr1 hwf hc1
 go_enter Try.func6, Try.ntmps6
 go_wp2_with fail
 refine (HOC.out _ (Below.refl _ _)).mono ?_
 clear HOC
 rintro e w1 ⟨⟨hok, Ak, ck, rfl, hkids⟩ | ⟨hok, rfl⟩, hb1⟩
 case inr =>
  have HB1 := Aside0.mk hb1
  have HOK := Aside0.mk hok
  clear hb1 hok
  go_wp2
  rw [if_neg (by rw [HOK.out]; simp)] at HBM
  rw [HBM.out]
  exact bodyPost_ret (v := .tuple #[.slice none 0 0, .int .i64 1]) (by simp [results, Try.results6, go_sem]) rfl ⟨_, rfl, Kd.R_nil _ _ _ _ _, HB1.out.alloc HB1.out.size _⟩
 case inl =>
  have HB1 := Aside0.mk hb1
  have HOK := Aside0.mk hok
  have HKIDS := Aside0.mk hkids
  clear hb1 hok hkids
  by_cases hn : ls.length ≤ 200
  case neg =>
   have hnd : decide (ls.length ≤ 200) = false := decide_eq_false hn
   go_wp2
   rw [if_neg (by omega)] at HBM
   rw [HBM.out]
   exact bodyPost_ret (v := .tuple #[.slice none 0 0, .int .i64 1]) (by simp [results, Try.results6, go_sem]) rfl ⟨_, rfl, Kd.R_nil _ _ _ _ _, HB1.out.alloc HB1.out.size _⟩
  have hnd : decide (ls.length ≤ 200) = true := decide_eq_true hn
  have HN := Aside0.mk hn
  clear hn
  go_wp2_with fail
  have HX := Aside0.mk (heap_alloc_new w1 (.cells #[.slice A ls.length c, .slice Ak ls.length ck] 49))
  have HBE := Aside0.mk (belongs_calls A ls.length c Ak ls.length ck A1 c1 known (w1.alloc (.cells #[.slice A ls.length c, .slice Ak ls.length ck] 49)) (Kd.C_below (Kd.C_below HR1.out HB1.out) ((Below.refl _ _).alloc (Nat.le_refl _) _)) (by have := HN.out; omega))
  have HBS := Aside0.mk ((Below.refl _ w1).alloc (Nat.le_refl _) (.cells #[.slice A ls.length c, .slice Ak ls.length ck] 49))
  have HBW := Aside0.mk (HB1.out.alloc HB1.out.size (.cells #[.slice A ls.length c, .slice Ak ls.length ck] 49))
  have HSZ := Aside0.mk (show (w1.alloc (.cells #[.slice A ls.length c, .slice Ak ls.length ck] 49)).heap.size = w1.heap.size + 1 from World.size_alloc _ _)
  clear hnd
  generalize w1.alloc (.cells #[.slice A ls.length c, .slice Ak ls.length ck] 49) = w2 at HX HBE HBS HBW HSZ ⊢
  obtain ⟨be, hbe⟩ : ∃ be, belongsB known ls.length = be := ⟨_, rfl⟩
  rw [hbe] at HBE HBM
  have HBEQ := Aside0.mk hbe
  clear hbe
  refine HBE.out.mono ?_
  clear HBE
  rintro e w3 ⟨rfl, hb⟩
  replace HX := Aside0.mk ((hb.block _ (blk_lt HX.out)).trans HX.out)
  replace HBS := Aside0.mk (HBS.out.trans (hb.mono HBS.out.size))
  replace HBW := Aside0.mk (HBW.out.trans (hb.mono HBW.out.size))
  have HS3 := Aside0.mk (show w1.heap.size + 1 ≤ w3.heap.size by have := hb.size; have := HSZ.out; omega)
  clear hb HSZ
  cases be with
  | false =>
   go_wp2
   rw [if_neg (by simp)] at HBM
   rw [HBM.out]
   exact bodyPost_ret (v := .tuple #[.slice none 0 0, .int .i64 1]) (by simp [results, Try.results6, go_sem]) rfl ⟨_, rfl, Kd.R_nil _ _ _ _ _, HBW.out⟩
  | true =>
   rw [if_pos ⟨HOK.out, HN.out, rfl⟩] at HBM
   go_wp2_with fail
   have HIV := Aside0.mk (flow_intervals.calls (known.length + 1) A1 c1 known _ w3 (Kd.C_below HR1.out HBW.out) HC1.out (intervals_f known (by have := HM1.out; omega)))
   have HKN := Aside0.mk (show known.length = ls.length by have h := HBEQ.out; simp [belongsB] at h; exact h.1)
   refine HIV.out.mono ?_
   clear HIV
   rintro e w4 ⟨v, rfl, hv, hb⟩
   obtain ⟨g, hg1, hg2, hgr⟩ : ∃ g, w1.heap.size ≤ g ∧ g < w4.heap.size ∧ Kd.R k56 56 w4 w3.heap.size (fun k => k = g) v (known.map ivOf) := by
    have hs3 := HS3.out
    have hs4 := hb.size
    cases hob : v.ownBlock with
    | none => exact ⟨w1.heap.size, Nat.le_refl _, by omega, Kd.R_mono (Kd.R_tight rfl hv) (fun k hk => by rw [hob] at hk; cases hk)⟩
    | some g =>
     have hgb := (Kd.R_bound hv).1 g hob
     exact ⟨g, by omega, hgb.2.2.1, Kd.R_mono (Kd.R_tight rfl hv) (fun k hk => by rw [hob] at hk; injection hk)⟩
   obtain ⟨Ar, cr, rfl, _, _⟩ := Kd.R_reads hgr
   rw [List.length_map, HKN.out] at hgr ⊢
   replace HX := Aside0.mk ((hb.block _ (blk_lt HX.out)).trans HX.out)
   replace HBS := Aside0.mk (HBS.out.trans (hb.mono HBS.out.size))
   replace HBW := Aside0.mk (HBW.out.trans (hb.mono HBW.out.size))
   have HBO := Aside0.mk (bounds_calls w3.heap.size g A c ls Ak ck (kidsTo ls ls.length ls.length) Ar cr (known.map ivOf) ls.length w1 w4 (Kd.C_below HR.out HB1.out) HKIDS.out HBS.out hg1 hg2 hgr (fun i k hk => kidsTo_in ls ls.length ls.length (Nat.le_refl _) i k hk) (fun i => Nat.le_trans (kidsTo_small ls ls.length ls.length i) (by have := HM.out; omega)))
   clear hv hb hg2 hgr
   have HG1 := Aside0.mk hg1
   clear hg1
   have hx0 := (blk_cell HX.out 0).trans rfl
   have hx1 := (blk_cell HX.out 1).trans rfl
   obtain ⟨bf, hbf⟩ : ∃ bf, boundsF ls (kidsTo ls ls.length ls.length) (known.map ivOf) ls.length = bf := ⟨_, rfl⟩
   rw [hbf] at HBO HBM
   clear hbf
   obtain ⟨ok, rs⟩ := bf
   go_wp2_with fail
   refine HBO.out.mono ?_
   clear HBO hx0 hx1
   rintro e w5 ⟨rfl, hO, hK, hB5⟩
   replace HBS := Aside0.mk hB5
   replace HBW := Aside0.mk (HB1.out.trans (hB5.mono HB1.out.size))
   have HO := Aside0.mk hO
   clear hO hK hB5
   cases ok with
   | false =>
    go_wp2
    rw [if_neg (by simp)] at HBM
    rw [HBM.out]
    exact bodyPost_ret (v := .tuple #[.slice none 0 0, .int .i64 30]) (by simp [results, Try.results6, go_sem]) rfl ⟨_, rfl, Kd.R_nil _ _ _ _ _, HBW.out⟩
   | true =>
    rw [if_pos rfl] at HBM
    have HRL := Aside0.mk (show ls.length = rs.length from (Kd.R_reads' HO.out).1)
    have hnn : (0 : Int) ≤ (ls.length : Int) := by omega
    go_wp2_with (first | ((with_reducible refine gate_dst (N := 33) rfl ?_); refine Kd.R_make k35 (w0 := w5) w5.heap.size 35 rfl (N := 33) rfl 23 _ _ rfl (ls.length : Int) rfl rfl Try.underlying23 (.agg #[(.int .i64 0), (.int .i64 0)]) 16 info35 rfl (by decide) (by omega) z35 (ok := fun _ => True) (okp := fun _ => True) (k35_mkM _ _ _ z35) (fun _ hk => hk) trivial hnn (by have := HM.out; simp only [Int.toNat_natCast]; omega) (Below.refl _ _) (Nat.le_refl _) ?_; intro v6 w6 ho5 hb hg_ hnew_; have HQ := Aside0.mk ho5; have HB6 := Aside0.mk hb; have HGR := Aside0.mk hg_; clear ho5 hb hg_ hnew_))
    clear hnn
    go_loopg [36] rs.length (fun gg s36 wr => ∃ k : Nat, k ≤ rs.length ∧ rs.length - k ≤ gg ∧ s36 = .int .i64 k ∧ Aside0 (Kd.R k35 35 wr w5.heap.size (fun _ => True) v6 (fillTo rs.length (fun j => rgOf (rs.getD j z56)) z35 k)) ∧ Aside0 (Below w5.heap.size w5 wr))
    case atStart => exact ⟨0, Nat.zero_le _, by omega, rfl, ⟨by have h := HQ.out; rw [HRL.out, Int.toNat_natCast] at h; rw [fill_zero]; exact h⟩, HB6⟩
    case round =>
     obtain ⟨k, hk, hgg, rfl, HF, HBR⟩ := hrel
     clear HQ HB6 HGR
     by_cases hlt : k < rs.length
     ·have hi : (k : Int) < (ls.length : Int) := by have := HRL.out; omega
      have HAG := Aside0.mk (row_form HO.out (by omega))
      obtain rfl := HAG.out
      obtain ⟨yc0, yc1, _, _⟩ := row_at (Kd.R_below HO.out HBR.out) (k : Int) (by omega) (by omega)
      obtain ⟨g6, c6, e6, hg6, _, _⟩ := Kd.R_form HF.out (by rw [fill_length]; omega)
      rw [fill_length] at e6
      subst e6
      obtain ⟨xc0, xc1, xf0, xf1⟩ := row35_at HF.out (k : Int) (by omega) (by rw [fill_length]; omega)
      have HST := Aside0.mk (row35_set (Kd.R_alloc HF.out (.cells #[.int .i64 (rd_T56 rs k).f0, .int .i64 (rd_T56 rs k).f1] 56)) (k : Int) (by omega) (by rw [fill_length]; omega) (rgOf (rd_T56 rs k)))
      have HG6 := Aside0.mk hg6
      have hi2 : (k : Int) < (rs.length : Int) := by omega
      simp only [Int.toNat_natCast] at yc0 yc1 xc0 xc1 xf0 xf1 HST
      go_wp2_with (first | ((with_reducible refine gate_store (t := 35) (p := 44) rfl ?_); refine store_event (t := 35) (p := 44) (v := ?vo_w12) (w1 := ((wr.alloc (.cells #[.int .i64 (rd_T56 rs k).f0, .int .i64 (rd_T56 rs k).f1] 56)).setCell ⟨g6, k * 2, none⟩ (.int .i64 (rd_T56 rs k).f0)).setCell ⟨g6, k * 2 + 1, none⟩ (.int .i64 (rd_T56 rs k).f1)) ?hg ?ho ?hn ?hr ?_; (case ho => rfl); (case hg => rfl); (case hn => rfl); (case hr => first | (go_simp; done) | (go_simp; rfl)); intro w7 hw; have HW7 := Aside0.mk hw; clear hw))
      have HBR7 := Aside0.mk (show Below w5.heap.size w5 w7 by rw [HW7.out]; exact below_set (below_set (HBR.out.alloc HBR.out.size _) HG6.out) HG6.out)
      have HF7 := Aside0.mk (show Kd.R k35 35 w7 w5.heap.size (fun _ => True) (.slice (some ⟨g6, 0, none⟩) rs.length c6) (fillTo rs.length (fun j => rgOf (rs.getD j z56)) z35 (k + 1)) by
       rw [HW7.out, ← fill_step rs.length (fun j => rgOf (rs.getD j z56)) z35 k hlt]
       exact HST.out)
      clear HST HW7 yc0 yc1 xc0 xc1 xf0 xf1 HF HBR
      go_roundg (rs.length - (k + 1))
      case measure => omega
      case rel => exact ⟨k + 1, by omega, by omega, by go_num, HF7, HBR7⟩
     ·have hi : ¬ (k : Int) < (ls.length : Int) := by have := HRL.out; omega
      have ek : k = rs.length := by omega
      subst ek
      have HF2 := HF.out
      rw [fill_full, range_getD z56 rgOf rs] at HF2
      replace HF := Aside0.mk HF2
      clear HF2
      obtain rfl := HBM.out
      go_wp2
      exact bodyPost_ret (v := .tuple #[v6, .int .i64 0]) (by simp [results, Try.results6, go_sem]) rfl ⟨_, rfl, Kd.R_lower HF.out HBW.out.size, HBW.out.trans (HBR.out.mono HBW.out.size)⟩
end
section
-- The contract of flow's State.
attribute [local go_sem] max2_int min2_int
set_option linter.unusedVariables false
set_option linter.unusedSimpArgs false
/-! ### rows of whole numbers -/
theorem rowI_at {W : World} {base g n cap : Nat} {ok : Nat → Prop} {xs : List Int} (h : Kd.R (Kd.int .i64) 3 W base ok (.slice (some ⟨g, 0, none⟩) n cap) xs) (i : Int) (h0 : 0 ≤ i) (h1 : i < xs.length) :
  W.cell? ⟨g, i.toNat, none⟩ = some (.int .i64 (rd xs i)) ∧ W.frozen? ⟨g, i.toNat, none⟩ = false := by
 have hn := (Kd.R_reads' h).1
 obtain ⟨c, hcl, hM, hcc, hfr⟩ := Kd.R_elem h (0 : Int) i h0 (by omega)
 obtain rfl : c = [.int .i64 (rd xs i)] := hM
 have h2 := hcc 0 _ rfl
 have h3 := hfr 0
 simp only [show (Kd.int .i64).sz = 1 from rfl, Nat.mul_one, Nat.add_zero] at h2 h3
 exact ⟨h2, h3⟩
theorem rowI_set {W : World} {base g n cap : Nat} {ok : Nat → Prop} {xs : List Int} (h : Kd.R (Kd.int .i64) 3 W base ok (.slice (some ⟨g, 0, none⟩) n cap) xs) (i : Int) (h0 : 0 ≤ i) (h1 : i < xs.length) (x : Int) :
  Kd.R (Kd.int .i64) 3 (W.setCell ⟨g, i.toNat, none⟩ (.int .i64 x)) base ok (.slice (some ⟨g, 0, none⟩) n cap) (xs.set i.toNat x) := by
 have hn := (Kd.R_reads' h).1
 obtain ⟨c, hcl, hM, hcc, hfr⟩ := Kd.R_elem h (0 : Int) i h0 (by omega)
 obtain rfl : c = [.int .i64 (rd xs i)] := hM
 have h4 := (Kd.R_seg h i h0 (by omega) (seg := [.int .i64 x]) (j := 0) hcl hcc (show 1 ≤ 1 from by decide) (x' := x) (okp := fun _ => False) rfl (fun _ hk => hk.elim)).1
 have e2 : W.setCells g (i.toNat * (Kd.int .i64).sz + 0) [.int .i64 x] = W.setCell ⟨g, i.toNat, none⟩ (.int .i64 x) := by
  show W.setCells g (i.toNat * 1 + 0) [.int .i64 x] = _
  rw [Nat.mul_one, Nat.add_zero]
  rfl
 rwa [e2] at h4
theorem upStep_len (ls : List S28) (kids : List (List Int)) (rs : List S56) (n : Nat) (w : World) : True := trivial
def stR (ls : List S28) (kids : List (List Int)) (r1 : List S56) (n : Nat) : Nat → List S56
 | 0 => r1
 | j + 1 => (boundsF ls kids ((stR ls kids r1 n j).set j ⟨(rd_T56 (stR ls kids r1 n j) j).f0, (rd_T56 (stR ls kids r1 n j) j).f0⟩) n).2
def stX (ls : List S28) (kids : List (List Int)) (r1 : List S56) (n : Nat) (j : Nat) : Int := (rd_T56 (stR ls kids r1 n j) j).f0
def stateM (ls : List S28) (known : List S35) (k v : Int) : List Int × Int :=
 if openOk ls ls.length = true ∧ ls.length ≤ 200 ∧ belongsB known ls.length = true ∧ 0 ≤ k ∧ k < ls.length then
  (if emptyB (rd_T56 ((known.map ivOf).set k.toNat (cutV (rd_T56 (known.map ivOf) k) v v)) k) = false ∧ (boundsF ls (kidsTo ls ls.length ls.length) ((known.map ivOf).set k.toNat (cutV (rd_T56 (known.map ivOf) k) v v)) ls.length).1 = true then
   ((List.range ls.length).map (stX ls (kidsTo ls ls.length ls.length) (boundsF ls (kidsTo ls ls.length ls.length) ((known.map ivOf).set k.toNat (cutV (rd_T56 (known.map ivOf) k) v v)) ls.length).2 ls.length), 0)
  else ([], 30))
 else ([], 1)
set_option maxHeartbeats 8000000 in
set_option maxRecDepth 100000 in
theorem flowState_calls (A : Option Addr) (c : Nat) (ls : List S28) (A1 : Option Addr) (c1 : Nat) (known : List S35) (k v : Int) (w : World) (hr : Kd.C k28 w A ls.length ls) (hr1 : Kd.C k35 w A1 known.length known) (hc1 : known.length ≤ c1)
  (hwf : ∀ p ∈ ls, wf64 p.f0 ∧ wf64 p.f1) (hm : ls.length ≤ 1000) (hm1 : known.length ≤ 1000) :
  Calls Try.prog 9 #[.slice A ls.length c, .slice A1 known.length c1, .int .i64 k, .int .i64 v] w fun e w' => ∃ u, e = .returned (.tuple #[u, .int .i64 (stateM ls known k v).2]) ∧ Kd.R (Kd.int .i64) 3 w' w.heap.size (fun _ => True) u (stateM ls known k v).1 ∧ Below w.heap.size w w' := by
 have HBM := Aside0.mk (show stateM ls known k v = if openOk ls ls.length = true ∧ ls.length ≤ 200 ∧ belongsB known ls.length = true ∧ 0 ≤ k ∧ k < ls.length then
  (if emptyB (rd_T56 ((known.map ivOf).set k.toNat (cutV (rd_T56 (known.map ivOf) k) v v)) k) = false ∧ (boundsF ls (kidsTo ls ls.length ls.length) ((known.map ivOf).set k.toNat (cutV (rd_T56 (known.map ivOf) k) v v)) ls.length).1 = true then
   ((List.range ls.length).map (stX ls (kidsTo ls ls.length ls.length) (boundsF ls (kidsTo ls ls.length ls.length) ((known.map ivOf).set k.toNat (cutV (rd_T56 (known.map ivOf) k) v v)) ls.length).2 ls.length), 0)
  else ([], 30))
 else ([], 1) from rfl)
 generalize stateM ls known k v = bm at HBM
 have HR := Aside0.mk hr
 have HR1 := Aside0.mk hr1
 have HC1 := Aside0.mk hc1
 have HM := Aside0.mk hm
 have HM1 := Aside0.mk hm1
 have HOC := Aside0.mk (fun W (hb : Below w.heap.size w W) => open_calls A c ls W (Kd.C_below hr hb) hwf hm)
 clear hr hr1 hwf hc1 hm hm1
 go_enter Try.func9, Try.ntmps9
 go_wp2_with fail
 refine (HOC.out _ (Below.refl _ _)).mono ?_
 clear HOC
 rintro e w1 ⟨⟨hok, Ak, ck, rfl, hkids⟩ | ⟨hok, rfl⟩, hb1⟩
 case inr =>
  have HB1 := Aside0.mk hb1
  have HOK := Aside0.mk hok
  clear hb1 hok
  go_wp2
  rw [if_neg (by rw [HOK.out]; simp)] at HBM
  rw [HBM.out]
  exact bodyPost_ret (v := .tuple #[.slice none 0 0, .int .i64 1]) (by simp [results, Try.results9, go_sem]) rfl ⟨_, rfl, Kd.R_nil _ _ _ _ _, HB1.out.alloc HB1.out.size _⟩
 case inl =>
  have HB1 := Aside0.mk hb1
  have HOK := Aside0.mk hok
  have HKIDS := Aside0.mk hkids
  clear hb1 hok hkids
  by_cases hn : ls.length ≤ 200
  case neg =>
   have hnd : decide (ls.length ≤ 200) = false := decide_eq_false hn
   go_wp2
   rw [if_neg (by omega)] at HBM
   rw [HBM.out]
   exact bodyPost_ret (v := .tuple #[.slice none 0 0, .int .i64 1]) (by simp [results, Try.results9, go_sem]) rfl ⟨_, rfl, Kd.R_nil _ _ _ _ _, HB1.out.alloc HB1.out.size _⟩
  have hnd : decide (ls.length ≤ 200) = true := decide_eq_true hn
  have HN := Aside0.mk hn
  clear hn
  go_wp2_with fail
  have HX := Aside0.mk (heap_alloc_new w1 (.cells #[.slice A ls.length c, .slice Ak ls.length ck] 49))
  have HBE := Aside0.mk (belongs_calls A ls.length c Ak ls.length ck A1 c1 known (w1.alloc (.cells #[.slice A ls.length c, .slice Ak ls.length ck] 49)) (Kd.C_below (Kd.C_below HR1.out HB1.out) ((Below.refl _ _).alloc (Nat.le_refl _) _)) (by have := HN.out; omega))
  have HBS := Aside0.mk ((Below.refl _ w1).alloc (Nat.le_refl _) (.cells #[.slice A ls.length c, .slice Ak ls.length ck] 49))
  have HBW := Aside0.mk (HB1.out.alloc HB1.out.size (.cells #[.slice A ls.length c, .slice Ak ls.length ck] 49))
  have HSZ := Aside0.mk (show (w1.alloc (.cells #[.slice A ls.length c, .slice Ak ls.length ck] 49)).heap.size = w1.heap.size + 1 from World.size_alloc _ _)
  clear hnd
  generalize w1.alloc (.cells #[.slice A ls.length c, .slice Ak ls.length ck] 49) = w2 at HX HBE HBS HBW HSZ ⊢
  obtain ⟨be, hbe⟩ : ∃ be, belongsB known ls.length = be := ⟨_, rfl⟩
  rw [hbe] at HBE HBM
  have HBEQ := Aside0.mk hbe
  clear hbe
  refine HBE.out.mono ?_
  clear HBE
  rintro e w3 ⟨rfl, hb⟩
  replace HX := Aside0.mk ((hb.block _ (blk_lt HX.out)).trans HX.out)
  replace HBS := Aside0.mk (HBS.out.trans (hb.mono HBS.out.size))
  replace HBW := Aside0.mk (HBW.out.trans (hb.mono HBW.out.size))
  have HS3 := Aside0.mk (show w1.heap.size + 1 ≤ w3.heap.size by have := hb.size; have := HSZ.out; omega)
  clear hb HSZ
  cases be with
  | false =>
   go_wp2
   rw [if_neg (by simp)] at HBM
   rw [HBM.out]
   exact bodyPost_ret (v := .tuple #[.slice none 0 0, .int .i64 1]) (by simp [results, Try.results9, go_sem]) rfl ⟨_, rfl, Kd.R_nil _ _ _ _ _, HBW.out⟩
  | true =>
   by_cases hk0 : k < 0
   case pos =>
    rw [if_neg (by omega)] at HBM
    go_wp2
    rw [HBM.out]
    exact bodyPost_ret (v := .tuple #[.slice none 0 0, .int .i64 1]) (by simp [results, Try.results9, go_sem]) rfl ⟨_, rfl, Kd.R_nil _ _ _ _ _, HBW.out⟩
   by_cases hk1 : (ls.length : Int) ≤ k
   case pos =>
    rw [if_neg (by omega)] at HBM
    go_wp2
    rw [HBM.out]
    exact bodyPost_ret (v := .tuple #[.slice none 0 0, .int .i64 1]) (by simp [results, Try.results9, go_sem]) rfl ⟨_, rfl, Kd.R_nil _ _ _ _ _, HBW.out⟩
   rw [if_pos ⟨HOK.out, HN.out, rfl, by omega, by omega⟩] at HBM
   have HKN := Aside0.mk (show known.length = ls.length by have h := HBEQ.out; simp [belongsB] at h; exact h.1)
   obtain ⟨kk, hkk⟩ := Int.eq_ofNat_of_zero_le (show 0 ≤ k by omega)
   subst hkk
   have hkl : kk < ls.length := by omega
   go_wp2_with fail
   have HIV := Aside0.mk (flow_intervals.calls (known.length + 1) A1 c1 known _ w3 (Kd.C_below HR1.out HBW.out) HC1.out (intervals_f known (by have := HM1.out; omega)))
   obtain ⟨ri, hri⟩ : ∃ ri, known.map ivOf = ri := ⟨_, rfl⟩
   have HRIL := Aside0.mk (show ri.length = ls.length by rw [← hri, List.length_map]; exact HKN.out)
   rw [hri] at HIV HBM
   clear hri hk0 hk1
   refine HIV.out.mono ?_
   clear HIV
   rintro e w4 ⟨u0, rfl, hv, hb⟩
   obtain ⟨g, cr, rfl, hg1, hg2, hgc, hgt⟩ := Kd.R_form hv (by rw [HRIL.out]; omega)
   have hgr : Kd.R k56 56 w4 w3.heap.size (fun k => k = g) (.slice (some ⟨g, 0, none⟩) ri.length cr) ri := Kd.R_mono (Kd.R_tight rfl hv) (fun k hk => by simp [Value.ownBlock] at hk; exact hk)
   rw [HRIL.out] at hgr ⊢
   have HG1 := Aside0.mk (show w1.heap.size + 1 ≤ g by have := HS3.out; omega)
   have HG2 := Aside0.mk hg2
   replace HX := Aside0.mk ((hb.block _ (blk_lt HX.out)).trans HX.out)
   replace HBS := Aside0.mk (HBS.out.trans (hb.mono HBS.out.size))
   replace HBW := Aside0.mk (HBW.out.trans (hb.mono HBW.out.size))
   have HO := Aside0.mk hgr
   clear hv hb hg1 hg2 hgt hgr
   have hki : (kk : Int) < (ls.length : Int) := by omega
   obtain ⟨yc0, yc1, yf0, yf1⟩ := row_at HO.out (kk : Int) (by omega) (by rw [HRIL.out]; omega)
   simp only [Int.toNat_natCast] at yc0 yc1 yf0 yf1 HBM
   obtain ⟨x0, hx0⟩ : ∃ x0, rd_T56 ri (kk : Int) = x0 := ⟨_, rfl⟩
   rw [hx0] at yc0 yc1 HBM
   clear hx0
   go_wp2_with fail
   refine (cut_calls x0 v v _).mono ?_
   rintro e w5 ⟨rfl, hb⟩
   obtain ⟨z, hz⟩ : ∃ z, cutV x0 v v = z := ⟨_, rfl⟩
   rw [hz] at HBM ⊢
   clear hz
   have yd0 := (hb.cell (World.block_lt_of_cell? w4 _ yc0)).trans yc0
   have yd1 := (hb.cell (World.block_lt_of_cell? w4 _ yc1)).trans yc1
   have yg0 := (hb.frozen (p := ⟨g, kk * 2, none⟩) (World.block_lt_of_cell? w4 _ yc0)).trans yf0
   have yg1 := (hb.frozen (p := ⟨g, kk * 2 + 1, none⟩) (World.block_lt_of_cell? w4 _ yc1)).trans yf1
   clear yc0 yc1 yf0 yf1
   replace HX := Aside0.mk ((hb.block _ (blk_lt HX.out)).trans HX.out)
   replace HBS := Aside0.mk (HBS.out.trans (hb.mono HBS.out.size))
   replace HBW := Aside0.mk (HBW.out.trans (hb.mono HBW.out.size))
   replace HG2 := Aside0.mk (show g < w5.heap.size from Nat.lt_of_lt_of_le HG2.out hb.size)
   have HOS := Aside0.mk (row_set (Kd.R_below HO.out hb) (kk : Int) (by omega) (by rw [HRIL.out]; omega) z)
   simp only [Int.toNat_natCast] at HOS
   clear HO hb
   go_wp2_with (first | ((with_reducible refine gate_store (t := 56) (p := 49) rfl ?_); refine store_event (t := 56) (p := 49) (v := ?vo_w12) (w1 := ((w5.setCell ⟨g, kk * 2, none⟩ (.int .i64 z.f0)).setCell ⟨g, kk * 2 + 1, none⟩ (.int .i64 z.f1))) ?hg ?ho ?hn ?hr ?_; (case ho => rfl); (case hg => rfl); (case hn => rfl); (case hr => first | (go_simp; done) | (go_simp; rfl)); intro w6 hw; have HO := Aside0.mk (show Kd.R k56 56 w6 w3.heap.size (fun k => k = g) (.slice (some ⟨g, 0, none⟩) ls.length cr) (ri.set kk z) from by rw [hw]; exact HOS.out); have n0_ := Aside0.mk (show w6.heap[w1.heap.size]? = some (.cells #[.slice A ls.length c, .slice Ak ls.length ck] 49) by rw [hw]; exact ((Below.heap_setCell _ ⟨g, kk * 2 + 1, none⟩ (.int .i64 z.f1) w1.heap.size (by show w1.heap.size ≠ g; have := HG1.out; omega)).trans (Below.heap_setCell w5 ⟨g, kk * 2, none⟩ (.int .i64 z.f0) w1.heap.size (by show w1.heap.size ≠ g; have := HG1.out; omega))).trans HX.out); have n1_ := Aside0.mk (show Below w1.heap.size w1 w6 by rw [hw]; exact below_set (below_set HBS.out (by show w1.heap.size ≤ g; have := HG1.out; omega)) (by show w1.heap.size ≤ g; have := HG1.out; omega)); have n2_ := Aside0.mk (show g < w6.heap.size from Kd.R_lt HO.out g (by simp [Value.ownBlock])); clear HX HBS HG2 HOS HBW hw yd0 yd1 yg0 yg1; have HX := n0_; have HBS := n1_; have HG2 := n2_; clear n0_ n1_ n2_; have HBW := Aside0.mk (HB1.out.trans (HBS.out.mono HB1.out.size)); obtain ⟨r0, hr0⟩ : ∃ r0, ri.set kk z = r0 := ⟨_, rfl⟩; have HR0L := Aside0.mk (show r0.length = ls.length by rw [← hr0, List.length_set]; exact HRIL.out); rw [hr0] at HO HBM; clear hr0; obtain ⟨yc0, yc1, _, _⟩ := row_at HO.out (kk : Int) (by omega) (by rw [HR0L.out]; omega); simp only [Int.toNat_natCast] at yc0 yc1))
   obtain ⟨b, hb0⟩ : ∃ b, emptyB (rd_T56 r0 (kk : Int)) = b := ⟨_, rfl⟩
   have HE := Aside0.mk (empty_calls (rd_T56 r0 (kk : Int)) w6)
   rw [show decide ((rd_T56 r0 (kk : Int)).f1 < (rd_T56 r0 (kk : Int)).f0) = b from hb0] at HE
   rw [hb0] at HBM
   clear hb0
   go_wp2_with fail
   refine HE.out.mono ?_
   clear HE
   rintro e w7 ⟨rfl, hb⟩
   replace HX := Aside0.mk ((hb.block _ (blk_lt HX.out)).trans HX.out)
   replace HBS := Aside0.mk (HBS.out.trans (hb.mono HBS.out.size))
   replace HBW := Aside0.mk (HBW.out.trans (hb.mono HBW.out.size))
   replace HG2 := Aside0.mk (show g < w7.heap.size from Nat.lt_of_lt_of_le HG2.out hb.size)
   replace HO := Aside0.mk (Kd.R_below HO.out hb)
   clear hb yc0 yc1
   cases b with
   | true =>
    rw [if_neg (by simp)] at HBM
    go_wp2
    rw [HBM.out]
    exact bodyPost_ret (v := .tuple #[.slice none 0 0, .int .i64 30]) (by simp [results, Try.results9, go_sem]) rfl ⟨_, rfl, Kd.R_nil _ _ _ _ _, HBW.out⟩
   | false =>
    have hx0 := (blk_cell HX.out 0).trans rfl
    have hx1 := (blk_cell HX.out 1).trans rfl
    have HBC := Aside0.mk (fun W rs (hB : Below w1.heap.size w1 W) (hgW : g < W.heap.size) (hO : Kd.R k56 56 W w3.heap.size (fun k => k = g) (.slice (some ⟨g, 0, none⟩) ls.length cr) rs) =>
     bounds_calls w3.heap.size g A c ls Ak ck (kidsTo ls ls.length ls.length) (some ⟨g, 0, none⟩) cr rs ls.length w1 W (Kd.C_below HR.out HB1.out) HKIDS.out hB (by have := HG1.out; omega) hgW hO (fun i k hk => kidsTo_in ls ls.length ls.length (Nat.le_refl _) i k hk) (fun i => Nat.le_trans (kidsTo_small ls ls.length ls.length i) (by have := HM.out; omega)))
    have HBO := Aside0.mk (HBC.out _ _ HBS.out HG2.out HO.out)
    have HSR := Aside0.mk (fun r j => show stR ls (kidsTo ls ls.length ls.length) r ls.length (j + 1) = (boundsF ls (kidsTo ls ls.length ls.length) ((stR ls (kidsTo ls ls.length ls.length) r ls.length j).set j ⟨(rd_T56 (stR ls (kidsTo ls ls.length ls.length) r ls.length j) j).f0, (rd_T56 (stR ls (kidsTo ls ls.length ls.length) r ls.length j) j).f0⟩) ls.length).2 from rfl)
    obtain ⟨bf, hbf⟩ : ∃ bf, boundsF ls (kidsTo ls ls.length ls.length) r0 ls.length = bf := ⟨_, rfl⟩
    rw [hbf] at HBO HBM
    clear hbf
    obtain ⟨ok, r1⟩ := bf
    go_wp2_with fail
    refine HBO.out.mono ?_
    clear HBO hx0 hx1
    rintro e w8 ⟨rfl, hO, hK, hB5⟩
    replace HX := Aside0.mk (blk_kept HX.out hK (by have := HG1.out; omega))
    replace HG2 := Aside0.mk (show g < w8.heap.size from Nat.lt_of_lt_of_le HG2.out hK.1)
    replace HBS := Aside0.mk hB5
    replace HBW := Aside0.mk (HB1.out.trans (hB5.mono HB1.out.size))
    replace HO := Aside0.mk hO
    clear hO hK hB5
    cases ok with
    | false =>
     rw [if_neg (by simp)] at HBM
     go_wp2
     rw [HBM.out]
     exact bodyPost_ret (v := .tuple #[.slice none 0 0, .int .i64 30]) (by simp [results, Try.results9, go_sem]) rfl ⟨_, rfl, Kd.R_nil _ _ _ _ _, HBW.out⟩
    | true =>
     rw [if_pos (by simp)] at HBM
     have hnn : (0 : Int) ≤ (ls.length : Int) := by omega
     go_wp2_with (first | ((with_reducible refine gate_dst (N := 63) rfl ?_); refine Kd.R_make (Kd.int .i64) (w0 := w8) w8.heap.size 3 rfl (N := 63) rfl 24 _ _ rfl (ls.length : Int) rfl rfl Try.underlying24 (.int .i64 0) 8 info3 rfl (by decide) (by omega) (0 : Int) (ok := fun k => k ≠ g) (okp := fun _ => False) rfl (fun _ hk => hk.elim) (by have := HG2.out; omega) hnn (by have := HM.out; simp only [Int.toNat_natCast]; omega) (Below.refl _ _) (Nat.le_refl _) ?_; intro v6 w9 ho5 hb hg_ hnew_; have HQ := Aside0.mk ho5; have HB9 := Aside0.mk hb; clear ho5 hb hg_ hnew_))
     clear hnn
     have HW8 := Aside0.mk (show w1.heap.size + 1 ≤ w8.heap.size by have := HG1.out; have := HG2.out; omega)
     replace HX := Aside0.mk ((HB9.out.block _ (blk_lt HX.out)).trans HX.out)
     replace HG2 := Aside0.mk (show g < w9.heap.size from Nat.lt_of_lt_of_le HG2.out HB9.out.size)
     replace HO := Aside0.mk (Kd.R_below HO.out HB9.out)
     replace HBS := Aside0.mk (HBS.out.trans (HB9.out.mono HBS.out.size))
     clear HB9 HBW
     obtain ⟨kids, hkd⟩ : ∃ kids, kidsTo ls ls.length ls.length = kids := ⟨_, rfl⟩
     rw [hkd] at HBC HSR HBM
     clear hkd HKIDS
     have HSX := Aside0.mk (fun j => show stX ls kids r1 ls.length j = (rd_T56 (stR ls kids r1 ls.length j) j).f0 from rfl)
     obtain ⟨sR, hsR⟩ : ∃ sR, stR ls kids r1 ls.length = sR := ⟨_, rfl⟩
     obtain ⟨sX, hsX⟩ : ∃ sX, stX ls kids r1 ls.length = sX := ⟨_, rfl⟩
     have HS0 := Aside0.mk (show sR 0 = r1 by rw [← hsR]; rfl)
     replace HSR := Aside0.mk (fun j => HSR.out r1 j)
     rw [hsX] at HSX HBM
     rw [hsR] at HSR HSX
     clear hsR hsX
     go_loopg [66] ls.length (fun gg s66 wr => ∃ j : Nat, j ≤ ls.length ∧ ls.length - j ≤ gg ∧ s66 = .int .i64 j ∧ Aside0 (Kd.R k56 56 wr w3.heap.size (fun k => k = g) (.slice (some ⟨g, 0, none⟩) ls.length cr) (sR j)) ∧ Aside0 (Kd.R (Kd.int .i64) 3 wr w8.heap.size (fun k => k ≠ g) v6 (fillTo ls.length sX 0 j)) ∧ Aside0 (Below w1.heap.size w1 wr) ∧ Aside0 (wr.heap[w1.heap.size]? = some (.cells #[.slice A ls.length c, .slice Ak ls.length ck] 49)))
     case atStart => exact ⟨0, Nat.zero_le _, by omega, rfl, ⟨by rw [HS0.out]; exact HO.out⟩, ⟨by have h := HQ.out; rw [Int.toNat_natCast] at h; rw [fill_zero]; exact h⟩, HBS, HX⟩
     case round =>
      clear HQ HO HBS HX
      obtain ⟨j, hj, hgg, rfl, HO, HF, HBS, HX⟩ := hrel
      by_cases hlt : j < ls.length
      ·have hi : (j : Int) < (ls.length : Int) := by omega
       have HRJ := Aside0.mk (show ls.length = (sR j).length from (Kd.R_reads' HO.out).1)
       have HSJ := Aside0.mk (HSR.out j)
       have HXJ := Aside0.mk (HSX.out j)
       obtain ⟨rj, hrj⟩ : ∃ rj, sR j = rj := ⟨_, rfl⟩
       rw [hrj] at HO HRJ HSJ HXJ
       clear hrj
       obtain ⟨lo, hlo⟩ : ∃ lo, (rd_T56 rj (j : Int)).f0 = lo := ⟨_, rfl⟩
       obtain ⟨yc0, yc1, yf0, yf1⟩ := row_at HO.out (j : Int) (by omega) (by have := HRJ.out; omega)
       obtain ⟨g6, c6, e6, hg6, _, _⟩ := Kd.R_form HF.out (by rw [fill_length]; omega)
       rw [fill_length] at e6
       subst e6
       have HNE := Aside0.mk (show g6 ≠ g from HF.out.1 g6 (by simp [Value.ownBlock]))
       obtain ⟨xc0, xf0⟩ := rowI_at HF.out (j : Int) (by omega) (by rw [fill_length]; omega)
       have HST := Aside0.mk (rowI_set HF.out (j : Int) (by omega) (by rw [fill_length]; omega) lo)
       simp only [Int.toNat_natCast] at yc0 yc1 yf0 yf1 xc0 xf0 HST
       rw [hlo] at yc0 HSJ HXJ
       rw [← HXJ.out, fill_step ls.length sX 0 j hlt, HXJ.out] at HST
       have HG6 := Aside0.mk hg6
       clear hg6 hlo
       go_wp2_with fail
       obtain ⟨w10, hw10⟩ : ∃ w10, wr.setCell ⟨g6, j, none⟩ (.int .i64 lo) = w10 := ⟨_, rfl⟩
       have HW10 := Aside0.mk hw10.symm
       rw [hw10]
       clear hw10
       have HF10 := Aside0.mk (show Kd.R (Kd.int .i64) 3 w10 w8.heap.size (fun k => k ≠ g) (.slice (some ⟨g6, 0, none⟩) ls.length c6) (fillTo ls.length sX 0 (j + 1)) by rw [HW10.out]; exact HST.out)
       have HO10 := Aside0.mk (show Kd.R k56 56 w10 w3.heap.size (fun k => k = g) (.slice (some ⟨g, 0, none⟩) ls.length cr) rj by rw [HW10.out]; exact Kd.R_far HO.out (fun k hk e => HNE.out (e.symm.trans hk)) _)
       have HBS10 := Aside0.mk (show Below w1.heap.size w1 w10 by rw [HW10.out]; exact below_set HBS.out (by show w1.heap.size ≤ g6; have := HG6.out; have := HW8.out; omega))
       have HX10 := Aside0.mk (show w10.heap[w1.heap.size]? = some (.cells #[.slice A ls.length c, .slice Ak ls.length ck] 49) by rw [HW10.out]; exact (Below.heap_setCell wr ⟨g6, j, none⟩ (.int .i64 lo) w1.heap.size (by show w1.heap.size ≠ g6; have := HG6.out; have := HW8.out; omega)).trans HX.out)
       clear HST HW10 HF HO HBS HX yc0 yc1 yf0 yf1 xc0 xf0
       obtain ⟨yc0, yc1, yf0, yf1⟩ := row_at HO10.out (j : Int) (by omega) (by have := HRJ.out; omega)
       obtain ⟨xc0, xf0⟩ := rowI_at HF10.out (j : Int) (by omega) (by rw [fill_length]; omega)
       simp only [Int.toNat_natCast] at yc0 yc1 yf0 yf1 xc0 xf0
       have hxj : rd (fillTo ls.length sX 0 (j + 1)) (j : Int) = lo := by
        rw [← HXJ.out, ← fill_step ls.length sX 0 j hlt]
        show ((fillTo ls.length sX 0 j).set j (sX j)).getD (j : Int).toNat 0 = sX j
        rw [Int.toNat_natCast, List.getD_eq_getElem?_getD, List.getElem?_set_self (by rw [fill_length]; exact hlt)]
        rfl
       rw [hxj] at xc0
       clear hxj
       refine start_ (n := 13) (S := Ext w10) (ds := [12]) #[false, false, false, false, false, false, false, false, false, false, false, false, false] (by kernel_rfl) rfl (by rfl) (fun _ _ h => h) (fun hHeld => ?_)
       have HD := Aside0.mk (show Below w10.heap.size w10 w10.drew from (Below.refl _ _).drew)
       generalize w10.drew = wa at HD hHeld ⊢
       refine pure_ (i := 0) (N := some 77) (v := ?_) (a' := ?_) #[true, false, false, false, false, false, false, false, false, false, false, false, false] rfl rfl (by kernel_rfl) (fun _ _ _ h => h) (Or.inl ⟨by rfl, ?_⟩) ?_ ?_
       rotate_left
       ·intro w'
        go_simp
        with_reducible rfl
       rotate_left
       ·simp only [Act.put, sA, sZ, sS, i64_w, i32_w]
        rfl
       refine pure_ (i := 1) (N := some 78) (v := ?_) (a' := ?_) #[true, true, false, false, false, false, false, false, false, false, false, false, false] rfl rfl (by kernel_rfl) (fun _ _ _ h => h) (Or.inl ⟨by rfl, ?_⟩) ?_ ?_
       rotate_left
       ·intro w'
        go_simp
        with_reducible rfl
       rotate_left
       ·simp only [Act.put, sA, sZ, sS, i64_w, i32_w]
        rfl
       refine pure_ (i := 2) (N := some 79) (v := ?_) (a' := ?_) #[true, true, true, false, false, false, false, false, false, false, false, false, false] rfl rfl (by kernel_rfl) (fun _ _ _ h => h) (Or.inl ⟨by rfl, ?_⟩) ?_ ?_
       rotate_left
       ·intro w'
        go_simp
        with_reducible rfl
       rotate_left
       ·simp only [Act.put, sA, sZ, sS, i64_w, i32_w]
        rfl
       refine pure_ (i := 3) (N := some 80) (v := ?_) (a' := ?_) #[true, true, true, true, false, false, false, false, false, false, false, false, false] rfl rfl (by kernel_rfl) (fun _ _ _ h => h) (Or.inl ⟨by rfl, ?_⟩) ?_ ?_
       rotate_left
       ·intro w'
        go_simp
        with_reducible rfl
       rotate_left
       ·simp only [Act.put, sA, sZ, sS, i64_w, i32_w]
        rfl
       refine pure_ (i := 4) (N := some 81) (v := ?_) (a' := ?_) #[true, true, true, true, true, false, false, false, false, false, false, false, false] rfl rfl (by kernel_rfl) (fun _ _ _ h => h) (Or.inl ⟨by rfl, ?_⟩) ?_ ?_
       rotate_left
       ·intro w'
        go_simp
        with_reducible rfl
       rotate_left
       ·simp only [Act.put, sA, sZ, sS, i64_w, i32_w]
        rfl
       refine pure_ (i := 6) (N := some 83) (v := ?_) (a' := ?_) #[true, true, true, true, true, false, true, false, false, false, false, false, false] rfl rfl (by kernel_rfl) (fun _ _ _ h => h) (Or.inl ⟨by rfl, ?_⟩) ?_ ?_
       rotate_left
       ·intro w'
        go_simp
        with_reducible rfl
       rotate_left
       ·simp only [Act.put, sA, sZ, sS, i64_w, i32_w]
        rfl
       refine pure_ (i := 7) (N := some 84) (v := ?_) (a' := ?_) #[true, true, true, true, true, false, true, true, false, false, false, false, false] rfl rfl (by kernel_rfl) (fun _ _ _ h => h) (Or.inl ⟨by rfl, ?_⟩) ?_ ?_
       rotate_left
       ·intro w'
        go_simp
        with_reducible rfl
       rotate_left
       ·simp only [Act.put, sA, sZ, sS, i64_w, i32_w]
        rfl
       refine pure_ (i := 8) (N := some 85) (v := ?_) (a' := ?_) #[true, true, true, true, true, false, true, true, true, false, false, false, false] rfl rfl (by kernel_rfl) (fun _ _ _ h => h) (Or.inl ⟨by rfl, ?_⟩) ?_ ?_
       rotate_left
       ·intro w'
        go_simp
        with_reducible rfl
       rotate_left
       ·simp only [Act.put, sA, sZ, sS, i64_w, i32_w]
        rfl
       refine take_ (i := 5) (N := some 82) (v := ?_) (a' := ?_) #[true, true, true, true, true, true, true, true, true, false, false, false, false] rfl rfl (by kernel_rfl) (fun _ _ _ h => h) (Or.inl ⟨by rfl, ?_⟩) hHeld ?_ ?_
       rotate_left
       ·intro w' hS
        have s0 := hS _ _ xc0
        clear hS
        go_simp
        with_reducible rfl
       rotate_left
       ·simp only [Act.put, sA, sZ, sS, i64_w, i32_w]
        rfl
       refine take_ (i := 9) (N := some 86) (v := ?_) (a' := ?_) #[true, true, true, true, true, true, true, true, true, true, false, false, false] rfl rfl (by kernel_rfl) (fun _ _ _ h => h) (Or.inl ⟨by rfl, ?_⟩) hHeld ?_ ?_
       rotate_left
       ·intro w' hS
        have s0 := hS _ _ xc0
        clear hS
        go_simp
        with_reducible rfl
       rotate_left
       ·simp only [Act.put, sA, sZ, sS, i64_w, i32_w]
        rfl
       refine pure_ (i := 10) (N := some 87) (v := ?_) (a' := ?_) #[true, true, true, true, true, true, true, true, true, true, true, false, false] rfl rfl (by kernel_rfl) (fun _ _ _ h => h) (Or.inl ⟨by rfl, ?_⟩) ?_ ?_
       rotate_left
       ·intro w'
        go_simp
        with_reducible rfl
       rotate_left
       ·simp only [Act.put, sA, sZ, sS, i64_w, i32_w]
        rfl
       refine pure_ (i := 11) (N := some 88) (v := ?_) (a' := ?_) #[true, true, true, true, true, true, true, true, true, true, true, true, false] rfl rfl (by kernel_rfl) (fun _ _ _ h => h) (Or.inl ⟨by rfl, ?_⟩) ?_ ?_
       rotate_left
       ·intro w'
        go_simp
        with_reducible rfl
       rotate_left
       ·simp only [Act.put, sA, sZ, sS, i64_w, i32_w]
        rfl
       refine last_ (i := 12) (N := none) #[true, true, true, true, true, true, true, true, true, true, true, true, true] rfl rfl (by kernel_rfl) (by decide) (fun K hK => ?_)
       have c0 := hHeld _ _ yc0
       have c1 := hHeld _ _ yc1
       have f0 := (HD.out.frozen (p := ⟨g, j * 2, none⟩) (World.block_lt_of_cell? w10 _ yc0)).trans yf0
       have f1 := (HD.out.frozen (p := ⟨g, j * 2 + 1, none⟩) (World.block_lt_of_cell? w10 _ yc1)).trans yf1
       refine skip_ (w1 := ?_) (by rfl) rfl ?_ ?_
       rotate_left
       ·go_simp
        rfl
       refine hK.out _ _ ?_
       clear hK K c0 c1 f0 f1
       refine done_ (by kernel_rfl) ?_
       replace HO10 := Aside0.mk (row_set (Kd.R_below HO10.out HD.out) (j : Int) (by omega) (by have := HRJ.out; omega) ⟨lo, lo⟩)
       replace HF10 := Aside0.mk (Kd.R_far (Kd.R_far (Kd.R_below HF10.out HD.out) (p := ⟨g, j * 2, none⟩) (fun k hk => hk) (.int .i64 lo)) (p := ⟨g, j * 2 + 1, none⟩) (fun k hk => hk) (.int .i64 lo))
       have HGG := Aside0.mk (show w1.heap.size ≤ g by have := HG1.out; omega)
       replace HBS10 := Aside0.mk (below_set (j := j * 2 + 1) (v := .int .i64 lo) (below_set (j := j * 2) (v := .int .i64 lo) (HBS10.out.trans (HD.out.mono HBS10.out.size)) HGG.out) HGG.out)
       have HNG := Aside0.mk (show w1.heap.size ≠ g by have := HG1.out; omega)
       replace HX10 := Aside0.mk (((Below.heap_setCell _ ⟨g, j * 2 + 1, none⟩ (.int .i64 lo) w1.heap.size HNG.out).trans (Below.heap_setCell wa ⟨g, j * 2, none⟩ (.int .i64 lo) w1.heap.size HNG.out)).trans ((HD.out.block _ (blk_lt HX10.out)).trans HX10.out))
       simp only [Int.toNat_natCast] at HO10
       generalize (wa.setCell ⟨g, j * 2, none⟩ (.int .i64 lo)).setCell ⟨g, j * 2 + 1, none⟩ (.int .i64 lo) = w11 at HO10 HF10 HBS10 HX10 ⊢
       have HBO := Aside0.mk (HBC.out w11 _ HBS10.out (Kd.R_lt HO10.out g (by simp [Value.ownBlock])) HO10.out)
       obtain ⟨bf, hbf⟩ : ∃ bf, boundsF ls kids (rj.set j ⟨lo, lo⟩) ls.length = bf := ⟨_, rfl⟩
       rw [hbf] at HBO HSJ
       clear hbf yc0 yc1 yf0 yf1 xc0 xf0 hHeld
       obtain ⟨ok, r2⟩ := bf
       have hx0 := (blk_cell HX10.out 0).trans rfl
       have hx1 := (blk_cell HX10.out 1).trans rfl
       go_wp2_with fail
       refine HBO.out.mono ?_
       clear HBO hx0 hx1
       rintro e w12 ⟨rfl, hO, hK, hB5⟩
       replace HX10 := Aside0.mk (blk_kept HX10.out hK HNG.out)
       replace HF10 := Aside0.mk (Kd.R_kept HF10.out hK (fun k hk => hk))
       have HO12 := Aside0.mk hO
       have HBS12 := Aside0.mk hB5
       clear hO hK hB5
       go_wp2
       go_roundg (ls.length - (j + 1))
       case measure => omega
       case rel => exact ⟨j + 1, by omega, by omega, by have := HM.out; first | go_num | (congr 1; unfold wrap64; omega), ⟨by rw [HSJ.out]; exact HO12.out⟩, HF10, HBS12, HX10⟩
      ·have hi : ¬ (j : Int) < (ls.length : Int) := by omega
       have ej : j = ls.length := by omega
       subst ej
       have HF2 := HF.out
       rw [fill_full] at HF2
       replace HF := Aside0.mk (Kd.R_mono (Kd.R_lower HF2 (show w.heap.size ≤ w8.heap.size by have := HB1.out.size; have := HW8.out; omega)) (fun _ _ => trivial))
       clear HF2
       have HBW := Aside0.mk (HB1.out.trans (HBS.out.mono HB1.out.size))
       obtain rfl := HBM.out
       go_wp2
       exact bodyPost_ret (v := .tuple #[v6, .int .i64 0]) (by simp [results, Try.results9, go_sem]) rfl ⟨_, rfl, HF.out, HBW.out⟩
end
end Go.Proofs.Ytgjkhifhiggflaa.Own
