/- The contracts of charges.Network and of settle.charges and pairs. -/
import Derived.Test.YtgjkhifhiggflaaK2
import Derived.Test.YtgjkhifhiggflaaK3
namespace Go.Proofs.Ytgjkhifhiggflaa.Own
open Go.RowKit Go.Lib Go.Proofs.YtgjkhifhiggflaaW.PrintWords Go.Proofs.YtgjkhifhiggflaaW.PrintLast Go.Proofs.YtgjkhifhiggflaaW.PrintMore Go.Proofs.Ytgjkhifhiggflaa.PTopBetween
section
-- The contract of charges' Network.
attribute [local go_sem] max2_int min2_int
set_option linter.unusedVariables false
set_option linter.unusedSimpArgs false
def aboveB (ls : List S28) : Nat → Int → Bool
 | 0 => fun _ => false
 | k + 1 => fun y => decide (y = (rd_T28 ls k).f1) || aboveB ls k y
def rootsTo (ls : List S28) : Nat → Int
 | 0 => 0
 | k + 1 => if (rd_T28 ls k).f1 = 0 then wrap64 (rootsTo ls k + 1) else rootsTo ls k
def totTo (ls : List S28) (b : List S35) : Nat → S35
 | 0 => z35
 | k + 1 => if (rd_T28 ls k).f1 = 0 then rd_T35 b k else totTo ls b k
def partsTo (ls : List S28) (b : List S35) : Nat → List S35
 | 0 => []
 | k + 1 => if aboveB ls ls.length (rd_T28 ls k).f0 = true then partsTo ls b k else partsTo ls b k ++ [rd_T35 b k]
theorem partsTo_length (ls : List S28) (b : List S35) : ∀ k, (partsTo ls b k).length ≤ k
 | 0 => Nat.le_refl _
 | k + 1 => by
  have := partsTo_length ls b k
  unfold partsTo
  split
  ·omega
  ·rw [List.length_append, List.length_singleton]; omega
def networkOk (c : Int) (ls : List S28) (b : List S35) (hs : List Int) : Prop := 0 ≤ c ∧ c ≤ 1000000000 ∧ rootsTo ls ls.length = 1 ∧ hs.length = (partsTo ls b ls.length).length ∧ homesB hs = true
instance (c : Int) (ls : List S28) (b : List S35) (hs : List Int) : Decidable (networkOk c ls b hs) := by unfold networkOk; infer_instance
def networkM (c : Int) (ls : List S28) (known : List S35) (hs : List Int) : List S46 × Int × Int :=
 if (boundsM ls known).2 = 0 then
  if networkOk c ls (boundsM ls known).1 hs then
   if (totTo ls (boundsM ls known).1 ls.length).f0 = (totTo ls (boundsM ls known).1 ls.length).f1 ∧ (totTo ls (boundsM ls known).1 ls.length).f0 ≠ 0 then shareM c (totTo ls (boundsM ls known).1 ls.length).f0 hs (partsTo ls (boundsM ls known).1 ls.length)
   else ([], 0, 3)
  else ([], 0, 1)
 else ([], 0, (boundsM ls known).2)
theorem boundsF_length (ls : List S28) (kids : List (List Int)) (rs : List S56) (n : Nat) : (boundsF ls kids rs n).2.length = rs.length := by
 unfold boundsF
 split
 ·exact upAll_length _ _ _ _
 ·exact (downTo_length _ _ _ _).trans (upAll_length _ _ _ _)
theorem boundsM_length (ls : List S28) (known : List S35) (h : (boundsM ls known).2 = 0) : (boundsM ls known).1.length = ls.length := by
 unfold boundsM at h ⊢
 split at h
 ·rename_i h1
  rw [if_pos h1]
  split at h
  ·rename_i h2
   rw [if_pos h2]
   have h3 := h1.2.2
   simp [belongsB] at h3
   simp [boundsF_length, h3.1]
  ·simp at h
 ·simp at h
/-- What holds between the rounds of Network's first loop. -/
structure NI (w2 : World) (bm bt : Nat) (k : Nat) (f : Int → Bool) (t : S35) (W : World) : Prop where
 map : MB W bm k f
 boxt : W.heap[bt]? = some (.cells #[.int .i64 t.f0, .int .i64 t.f1] 35)
 below : Below w2.heap.size w2 W
 lem : w2.heap.size ≤ bm
 let_ : w2.heap.size ≤ bt
section
variable {w2 W W' : World} {bm bt k k' : Nat} {f f' : Int → Bool} {t : S35}
theorem NI.at_ (h : NI w2 bm bt k f t W) (hb : Below W.heap.size W W') : NI w2 bm bt k f t W' :=
 ⟨h.map.below hb, (hb.block _ (blk_lt h.boxt)).trans h.boxt, h.below.trans (hb.mono h.below.size), h.lem, h.let_⟩
theorem NI.put (h : NI w2 bm bt k f t W) (hm : MB W' bm k' f') (hg : W.grownBy W' (some bm)) : NI w2 bm bt k' f' t W' := by
 obtain ⟨es, cl, hmp⟩ := h.map.map
 exact ⟨hm, (hg.block bt (blk_lt h.boxt) (fun e => by injection e with e; rw [← e, h.boxt] at hmp; cases hmp)).trans h.boxt, h.below.grown hg h.below.size (fun j e => by injection e with e; have := h.lem; omega), h.lem, h.let_⟩
theorem NI.set (h : NI w2 bm bt k f t W) (x : S35) : NI w2 bm bt k f x ((W.setCell ⟨bt, 0, none⟩ (.int .i64 x.f0)).setCell ⟨bt, 1, none⟩ (.int .i64 x.f1)) := by
 obtain ⟨es, cl, hmp⟩ := h.map.map
 have hne : bm ≠ bt := fun e => by rw [e, h.boxt] at hmp; cases hmp
 exact ⟨h.map.same ((Below.heap_setCell _ ⟨bt, 1, none⟩ _ bm hne).trans (Below.heap_setCell W ⟨bt, 0, none⟩ _ bm hne)), blk_put (cs := #[.int .i64 x.f0, .int .i64 t.f1]) (blk_put h.boxt 0 _ rfl) 1 _ rfl, below_set (below_set h.below h.let_) h.let_, h.lem, h.let_⟩
end
section
variable {ops : Array Oper} {rest : List Oper} {o : Oper} {a : Act} {Q : Exit → Act → World → Prop}
theorem wpList_MB {w : World} {B n : Nat} {f : Int → Bool} {x : Int} {m kx vx : Operand} (hg : o.guard = none) (hop : o.op = Op.mapUpdate 57 m kx vx) (hm : a.eval m = .map (some B)) (hx : a.eval kx = .int .i64 x) (hv : a.eval vx = .bool true)
  (h : MB w B n f) (hn : n < maxLen) (hwx : wf64 x)
  (hK : ∀ w', MB w' B (n + 1) (fun y => decide (y = x) || f y) → w.grownBy w' (some B) → wpList Try.prog ops Q rest (a.put o.dst undef) w') : wpList Try.prog ops Q (o :: rest) a w := by
 refine wpList_plain hg fun K' hK' => ?_
 obtain ⟨w', hrun, r1, r2⟩ := h.put hn hwx
 unfold Oper.wp
 simp [execOp, hop, hm, hx, hv, hrun, Result.andThen]
 exact hK' _ _ (hK w' r1 r2)
end
set_option maxHeartbeats 8000000 in
set_option maxRecDepth 100000 in
theorem network_calls (c : Int) (A : Option Addr) (cp : Nat) (ls : List S28) (A1 : Option Addr) (c1 : Nat) (known : List S35) (Ah : Option Addr) (ch : Nat) (hs : List Int) (w : World)
  (hr : Kd.C k28 w A ls.length ls) (hr1 : Kd.C k35 w A1 known.length known) (hc1 : known.length ≤ c1) (hh : Kd.C (Kd.int .i64) w Ah hs.length hs) (hch : hs.length ≤ ch)
  (hwf : ∀ p ∈ ls, wf64 p.f0 ∧ wf64 p.f1) (hm : ls.length ≤ 1000) (hm1 : known.length ≤ 1000) (hn : hs.length ≤ 1000) :
  Calls Try.prog 7 #[.int .i64 c, .slice A ls.length cp, .slice A1 known.length c1, .slice Ah hs.length ch] w fun e w' =>
   ∃ v, e = .returned (.tuple #[v, .int .i64 (networkM c ls known hs).2.1, .int .i64 (networkM c ls known hs).2.2]) ∧ Kd.R k46 46 w' w.heap.size (fun _ => True) v (networkM c ls known hs).1 ∧ Below w.heap.size w w' := by
 have HNM := Aside0.mk (show networkM c ls known hs = if (boundsM ls known).2 = 0 then
  if networkOk c ls (boundsM ls known).1 hs then
   if (totTo ls (boundsM ls known).1 ls.length).f0 = (totTo ls (boundsM ls known).1 ls.length).f1 ∧ (totTo ls (boundsM ls known).1 ls.length).f0 ≠ 0 then shareM c (totTo ls (boundsM ls known).1 ls.length).f0 hs (partsTo ls (boundsM ls known).1 ls.length)
   else ([], 0, 3)
  else ([], 0, 1)
 else ([], 0, (boundsM ls known).2) from rfl)
 generalize networkM c ls known hs = nm at HNM
 have HBL := Aside0.mk (boundsM_length ls known)
 have HR := Aside0.mk hr
 have HH := Aside0.mk hh
 have HCH := Aside0.mk hch
 have HM := Aside0.mk hm
 have HN := Aside0.mk hn
 have HWF := Aside0.mk hwf
 have hmm := @run_makeMap Try.prog
 have HBC := Aside0.mk (flowBounds_calls A cp ls A1 c1 known w hr hr1 hc1 hwf hm hm1)
 obtain ⟨bm0, hbm⟩ : ∃ b, boundsM ls known = b := ⟨_, rfl⟩
 rw [hbm] at HBC HNM HBL
 clear hbm hr hr1 hc1 hh hch hwf hm hm1 hn
 obtain ⟨b, e0⟩ := bm0
 simp only at HNM HBL
 go_enter Try.func7, Try.ntmps7
 go_wp2_with fail
 refine HBC.out.mono ?_
 clear HBC
 rintro e w2 ⟨v, rfl, hv, hb⟩
 have HB := Aside0.mk hb
 clear hb
 by_cases he : e0 = 0
 case neg =>
  rw [if_neg he] at HNM
  have heb : (e0 == 0) = false := by simpa using he
  have hec : (e0 != 0) = true := by simpa using he
  go_wp2
  rw [HNM.out]
  exact bodyPost_ret (v := .tuple #[.slice none 0 0, .int .i64 0, .int .i64 e0]) (by simp [results, Try.results7, go_sem]) rfl ⟨_, rfl, Kd.R_nil _ _ _ _ _, HB.out⟩
 rw [if_pos he] at HNM
 replace HBL := Aside0.mk (HBL.out he)
 subst he
 obtain ⟨Av, cv, rfl, hcv, hvC⟩ := Kd.R_reads hv
 have HV := Aside0.mk hvC
 clear hv hvC
 rw [HBL.out] at HV ⊢
 go_wp2_with fail
 have HI0 : Aside0 (NI w2 w2.heap.size (w2.heap.size + 1) 0 (aboveB ls 0) z35 ((w2.alloc (.map #[] 0)).alloc (.cells #[.int .i64 0, .int .i64 0] 35))) := ⟨by
  have e1 := heap_alloc_new (w2.alloc (.map #[] 0)) (.cells #[.int .i64 0, .int .i64 0] 35)
  rw [World.size_alloc] at e1
  exact ⟨(MB.made w2).below (below_alloc (Below.refl _ _) _), e1, ((Below.refl _ w2).alloc (Nat.le_refl _) _).alloc (by simp) _, Nat.le_refl _, by omega⟩⟩
 clear hmm
 generalize (w2.alloc (.map #[] 0)).alloc (.cells #[.int .i64 0, .int .i64 0] 35) = w3 at HI0 ⊢
 generalize w2.heap.size + 1 = bt at HI0 ⊢
 generalize hbmm : w2.heap.size = bm at HI0 ⊢
 have hmI : (ls.length : Int) ≤ 1000 := by have := HM.out; omega
 go_loopg [14, 33] ls.length (fun gg s14 s33 wr => ∃ k : Nat, k ≤ ls.length ∧ ls.length - k ≤ gg ∧ s14 = .int .i64 (rootsTo ls k) ∧ s33 = .int .i64 k ∧ Aside0 (NI w2 bm bt k (aboveB ls k) (totTo ls b k) wr))
 case atStart => exact ⟨0, Nat.zero_le _, by omega, rfl, rfl, HI0⟩
 case round =>
  obtain ⟨k, hk, hgg, rfl, rfl, HI⟩ := hrel
  clear HI0
  by_cases hlt : k < ls.length
  ·have hi : (k : Int) < (ls.length : Int) := by omega
   obtain ⟨ad, e0, h0, h1, h2⟩ := at_T28 HR.out (k : Int) (by omega) hi
   cases e0
   obtain ⟨adv, e0, v0, v1⟩ := at_T35 HV.out (k : Int) (by omega) hi
   cases e0
   simp only [Int.toNat_natCast] at h0 h1 h2 v0 v1
   have HBW := Aside0.mk (HB.out.trans (HI.out.below.mono HB.out.size))
   replace h0 := (HBW.out.cell (World.block_lt_of_cell? w _ h0)).trans h0
   replace h1 := (HBW.out.cell (World.block_lt_of_cell? w _ h1)).trans h1
   replace h2 := (HBW.out.cell (World.block_lt_of_cell? w _ h2)).trans h2
   have HV01 := Aside0.mk (And.intro v0 v1)
   clear v0 v1
   have HAB := Aside0.mk (show aboveB ls (k + 1) = (fun y => decide (y = (rd_T28 ls k).f1) || aboveB ls k y) from rfl)
   have HRT := Aside0.mk (show rootsTo ls (k + 1) = if (rd_T28 ls k).f1 = 0 then wrap64 (rootsTo ls k + 1) else rootsTo ls k from rfl)
   have HTT := Aside0.mk (show totTo ls b (k + 1) = if (rd_T28 ls k).f1 = 0 then rd_T35 b k else totTo ls b k from rfl)
   have hpw : wf64 (rd_T28 ls k).f0 ∧ wf64 (rd_T28 ls k).f1 := HWF.out _ (by show ls.getD k z28 ∈ ls; rw [List.getD_eq_getElem?_getD, List.getElem?_eq_getElem hlt]; exact List.getElem_mem hlt)
   have HPW := Aside0.mk hpw
   clear hpw
   generalize rd_T28 ls (k : Int) = p at h0 h1 h2 HAB HRT HTT HPW
   generalize rd_T35 b (k : Int) = x at HV01 HTT
   generalize rootsTo ls k = rt at HRT ⊢
   have HIA := Aside0.mk (HI.out.at_ (below_alloc (Below.refl _ _) (.cells #[.int .i64 p.f0, .int .i64 p.f1, .int .i64 p.f2] 28)))
   have HPB := Aside0.mk (heap_alloc_new wr (.cells #[.int .i64 p.f0, .int .i64 p.f1, .int .i64 p.f2] 28))
   clear HI HBW
   have hbt : bt ≠ bt + 1 := by omega
   by_cases hz : p.f1 = 0
   ·rw [if_pos hz] at HRT HTT
    obtain ⟨pa, pb, pc⟩ := p
    simp only at hz
    subst hz
    simp only at h0 h1 h2 HAB HPB HPW HIA
    replace HIA : Aside0 (NI w2 bm bt k (aboveB ls k) (totTo ls b k) (wr.alloc (.cells #[.int .i64 pa, .int .i64 0, .int .i64 pc] 28))) := HIA
    replace HPB : Aside0 ((wr.alloc (.cells #[.int .i64 pa, .int .i64 0, .int .i64 pc] 28)).heap[wr.heap.size]? = some (.cells #[.int .i64 pa, .int .i64 0, .int .i64 pc] 28)) := HPB
    have hw0 : wf64 0 := HPW.out.2
    go_wp2_with (at_mapUpdate; refine wpList_MB (x := (0 : Int)) rfl rfl rfl rfl rfl HIA.out.map (by unfold maxLen; omega) hw0 ?_; intro w5 hm2 hg2; have HI5 := Aside0.mk (HIA.out.put hm2 hg2); have hc1 : w5.cell? ⟨wr.heap.size, 1, none⟩ = some (.int .i64 0) := (blk_cell ((hg2.block _ (blk_lt HPB.out) (fun e => by injection e with e; obtain ⟨es, cl, hmp⟩ := HIA.out.map.map; rw [← e, HPB.out] at hmp; cases hmp)).trans HPB.out) 1).trans rfl; have v0 := (HI5.out.below.cell (World.block_lt_of_cell? w2 _ HV01.out.1)).trans HV01.out.1; have v1 := (HI5.out.below.cell (World.block_lt_of_cell? w2 _ HV01.out.2)).trans HV01.out.2; have t0 := (blk_cell HI5.out.boxt 0).trans rfl; have t1 := (blk_cell HI5.out.boxt 1).trans rfl; have f0 := blk_frozen HI5.out.boxt 0; have f1 := blk_frozen HI5.out.boxt 1; clear hm2 hg2)
    have HI6 := Aside0.mk (HI5.out.set x)
    generalize (w5.setCell ⟨bt, 0, none⟩ (.int .i64 x.f0)).setCell ⟨bt, 1, none⟩ (.int .i64 x.f1) = w6 at HI6 ⊢
    go_roundg (ls.length - (k + 1))
    case measure => omega
    case rel => exact ⟨k + 1, by omega, by omega, by rw [HRT.out], by first | go_num | (congr 1; unfold wrap64; omega), by rw [HAB.out, HTT.out]; exact HI6⟩
   ·rw [if_neg hz] at HRT HTT
    have hzb : (p.f1 == 0) = false := by simpa using hz
    go_wp2_with (at_mapUpdate; refine wpList_MB (x := p.f1) rfl rfl rfl rfl rfl HIA.out.map (by unfold maxLen; omega) HPW.out.2 ?_; intro w5 hm2 hg2; have HI5 := Aside0.mk (HIA.out.put hm2 hg2); have hc1 : w5.cell? ⟨wr.heap.size, 1, none⟩ = some (.int .i64 p.f1) := (blk_cell ((hg2.block _ (blk_lt HPB.out) (fun e => by injection e with e; obtain ⟨es, cl, hmp⟩ := HIA.out.map.map; rw [← e, HPB.out] at hmp; cases hmp)).trans HPB.out) 1).trans rfl; clear hm2 hg2)
    go_roundg (ls.length - (k + 1))
    case measure => omega
    case rel => exact ⟨k + 1, by omega, by omega, by rw [HRT.out], by first | go_num | (congr 1; unfold wrap64; omega), by rw [HAB.out, HTT.out]; exact HI5⟩
  ·have hi : ¬ (k : Int) < (ls.length : Int) := by omega
   have ek : k = ls.length := by omega
   subst ek
   obtain ⟨rt, hrt⟩ : ∃ rt, rootsTo ls ls.length = rt := ⟨_, rfl⟩
   obtain ⟨tt, htt⟩ : ∃ tt, totTo ls b ls.length = tt := ⟨_, rfl⟩
   have HOK := Aside0.mk (show networkOk c ls b hs ↔ (0 ≤ c ∧ c ≤ 1000000000 ∧ rootsTo ls ls.length = 1 ∧ hs.length = (partsTo ls b ls.length).length ∧ homesB hs = true) from Iff.rfl)
   rw [hrt] at HOK ⊢
   rw [htt] at HNM HI
   clear hrt htt
   have HFB := Aside0.mk (show aboveB ls ls.length = aboveB ls ls.length from rfl)
   obtain ⟨fb, hfb⟩ : ∃ fb, aboveB ls ls.length = fb := ⟨_, rfl⟩
   have HPS := Aside0.mk (fun j => show partsTo ls b (j + 1) = if aboveB ls ls.length (rd_T28 ls j).f0 = true then partsTo ls b j else partsTo ls b j ++ [rd_T35 b j] from rfl)
   rw [hfb] at HI HPS
   clear hfb HFB
   have HWZ := Aside0.mk (HB.out.trans (HI.out.below.mono HB.out.size))
   go_wp2_with fail
   obtain ⟨wo, rfl⟩ : ∃ wo, wo = wr := ⟨wr, rfl⟩
   go_loopg [18, 53] ls.length (fun gg s18 s53 wq => ∃ j : Nat, j ≤ ls.length ∧ ls.length - j ≤ gg ∧ s53 = .int .i64 j ∧ Aside0 (Kd.R k35 35 wq wo.heap.size (fun _ => True) s18 (partsTo ls b j)) ∧ Aside0 (Below wo.heap.size wo wq))
   case atStart => exact ⟨0, Nat.zero_le _, by omega, rfl, ⟨Kd.R_nil _ _ _ _ _⟩, ⟨Below.refl _ _⟩⟩
   case round =>
    obtain ⟨j, hj, hgj, rfl, HO, HBJ⟩ := hrel
    by_cases hjt : j < ls.length
    ·have hji : (j : Int) < (ls.length : Int) := by omega
     have HPSJ := Aside0.mk (HPS.out j)
     have HPL := Aside0.mk (partsTo_length ls b j)
     obtain ⟨cur, hcur⟩ : ∃ cur, partsTo ls b j = cur := ⟨_, rfl⟩
     rw [hcur] at HO HPSJ HPL
     clear hcur
     obtain ⟨ad, e0, h0, h1, h2⟩ := at_T28 HR.out (j : Int) (by omega) hji
     cases e0
     obtain ⟨adv, e0, v0, v1⟩ := at_T35 HV.out (j : Int) (by omega) hji
     cases e0
     simp only [Int.toNat_natCast] at h0 h1 h2 v0 v1
     have HBW := Aside0.mk (HWZ.out.trans (HBJ.out.mono HWZ.out.size))
     replace h0 := (HBW.out.cell (World.block_lt_of_cell? w _ h0)).trans h0
     replace h1 := (HBW.out.cell (World.block_lt_of_cell? w _ h1)).trans h1
     replace h2 := (HBW.out.cell (World.block_lt_of_cell? w _ h2)).trans h2
     have hpw : wf64 (rd_T28 ls j).f0 ∧ wf64 (rd_T28 ls j).f1 := HWF.out _ (by show ls.getD j z28 ∈ ls; rw [List.getD_eq_getElem?_getD, List.getElem?_eq_getElem hjt]; exact List.getElem_mem hjt)
     generalize rd_T28 ls (j : Int) = p at h0 h1 h2 hpw HPSJ
     have HBA := Aside0.mk (HBJ.out.alloc HBJ.out.size (.cells #[.int .i64 p.f0, .int .i64 p.f1, .int .i64 p.f2] 28))
     have hlk := ((HI.out.map.below HBA.out)).look hpw.1
     obtain ⟨q, hq⟩ : ∃ q, fb p.f0 = q := ⟨_, rfl⟩
     rw [hq] at hlk HPSJ
     clear hq hpw
     have HBV := Aside0.mk (HI.out.below.trans (HBA.out.mono HI.out.below.size))
     replace v0 := (HBV.out.cell (World.block_lt_of_cell? w2 _ v0)).trans v0
     replace v1 := (HBV.out.cell (World.block_lt_of_cell? w2 _ v1)).trans v1
     generalize rd_T35 b (j : Int) = x at v0 v1 HPSJ
     have HOA := Aside0.mk (Kd.R_alloc HO.out (.cells #[.int .i64 p.f0, .int .i64 p.f1, .int .i64 p.f2] 28))
     clear HBW HBV HO
     cases q with
     | true =>
      rw [if_pos rfl] at HPSJ
      go_wp2
      go_roundg (ls.length - (j + 1))
      case measure => omega
      case rel => exact ⟨j + 1, by omega, by omega, by first | go_num | (congr 1; unfold wrap64; omega), by rw [HPSJ.out]; exact HOA, HBA⟩
     | false =>
      rw [if_neg (by simp)] at HPSJ
      obtain ⟨Ao, co, eo, hco, _⟩ := Kd.R_reads HOA.out
      subst eo
      have HLC := Aside0.mk (show cur.length ≤ 1000 by have := HPL.out; have := HM.out; omega)
      go_wp2_with (first | ((with_reducible refine gate_builtin (b := .append) (xs := #[.tmp 63, .tmp 68]) rfl ?_); at_builtin; refine Kd.R_append k35 (w0 := wo) wo.heap.size rfl (.tmp 63) (.tmp 68) 23 35 (.agg #[(.int .i64 0), (.int .i64 0)]) 16 rfl Try.underlying23 info35 rfl (by decide) (by omega) (.slice Ao cur.length co) cur x [.int .i64 x.f0, .int .i64 x.f1] (fun _ => True) (fun _ => False) rfl (by first | (go_simp; done) | (go_simp; rfl)) ?aP (fun _ hk => hk.elim) ?aF ?aO ?aB ?aS ?aL ?_; (case aP => exact k35_mkM _ _ _ x); (case aB => exact HBA.out); (case aF => exact (fun _ _ => trivial)); (case aO => exact HOA.out); (case aS => exact HBA.out.size); (case aL => have := HLC.out; omega); intro v7 w7 ho hb1 hg hat; have HO7 := Aside0.mk ho; have HB7 := Aside0.mk hb1; clear ho hb1 hg hat))
      go_roundg (ls.length - (j + 1))
      case measure => omega
      case rel => exact ⟨j + 1, by omega, by omega, by first | go_num | (congr 1; unfold wrap64; omega), by rw [HPSJ.out]; exact HO7, HB7⟩
    ·have hji : ¬ (j : Int) < (ls.length : Int) := by omega
     have ej : j = ls.length := by omega
     subst ej
     obtain ⟨ps, hps⟩ : ∃ ps, partsTo ls b ls.length = ps := ⟨_, rfl⟩
     have HPL := Aside0.mk (partsTo_length ls b ls.length)
     rw [hps] at HO HNM HOK HPL
     clear hps HPS
     obtain ⟨Ap, cpp, rfl, hcp, hpC⟩ := Kd.R_reads HO.out
     have HPC := Aside0.mk hpC
     clear hpC
     have HBZ := Aside0.mk (HWZ.out.trans (HBJ.out.mono HWZ.out.size))
     replace HI := Aside0.mk (HI.out.at_ HBJ.out)
     have t0 : wr.cell? ⟨bt, 0, none⟩ = some (.int .i64 tt.f0) := (blk_cell HI.out.boxt 0).trans rfl
     have t1 : wr.cell? ⟨bt, 1, none⟩ = some (.int .i64 tt.f1) := (blk_cell HI.out.boxt 1).trans rfl
     have hcase : decide (c < 0) = true ∨ (decide (c < 0) = false ∧ decide (1000000000 < c) = true) ∨ (decide (c < 0) = false ∧ decide (1000000000 < c) = false ∧ (rt == 1) = false) ∨ (decide (c < 0) = false ∧ decide (1000000000 < c) = false ∧ (rt == 1) = true ∧ (hs.length == ps.length) = false) ∨
       (decide (c < 0) = false ∧ decide (1000000000 < c) = false ∧ (rt == 1) = true ∧ (hs.length == ps.length) = true) := by
      generalize decide (c < 0) = b1
      generalize decide (1000000000 < c) = b2
      generalize (rt == 1) = b3
      generalize (hs.length == ps.length) = b4
      revert b1 b2 b3 b4
      decide
     rcases hcase with c1 | ⟨c1, c2⟩ | ⟨c1, c2, c3⟩ | ⟨c1, c2, c3, c4⟩ | ⟨c1, c2, c3, c4⟩
     case inr.inr.inr.inr =>
      have hln : hs.length = ps.length := by simpa using c4
      have c4i : ((hs.length : Int) == (ps.length : Int)) = true := by simp [hln]
      have c4n : ((hs.length : Int) != (ps.length : Int)) = false := by simp [hln]
      have c3n : (rt != 1) = false := by simp [bne, c3]
      have hr1 : rt = 1 := by simpa using c3
      have HC01 := Aside0.mk (show 0 ≤ c ∧ c ≤ 1000000000 by have := of_decide_eq_false c1; have := of_decide_eq_false c2; omega)
      have HHC := Aside0.mk (homes_calls Ah ch hs wr (Kd.C_below HH.out HBZ.out) HCH.out (by have := HN.out; omega))
      obtain ⟨hm, hhm⟩ : ∃ hm, homesB hs = hm := ⟨_, rfl⟩
      have HHM := Aside0.mk hhm
      rw [hhm] at HHC
      have HLE := Aside0.mk hln
      clear hln c3 c4
      subst hr1
      rw [HLE.out] at HHC c4i c4n ⊢
      go_wp2_with fail
      refine HHC.out.mono ?_
      rintro e w8 ⟨rfl, m, rfl⟩
      clear HHC c1 c2 c3n c4i c4n
      have HBE := Aside0.mk (pw_below_drewN HBZ.out m)
      replace HPC : Aside0 (Kd.C k35 (wr.drewN m) Ap ps.length ps) := ⟨Kd.C_drewN HPC.out m⟩
      replace t0 : (wr.drewN m).cell? ⟨bt, 0, none⟩ = some (.int .i64 tt.f0) := t0
      replace t1 : (wr.drewN m).cell? ⟨bt, 1, none⟩ = some (.int .i64 tt.f1) := t1
      generalize wr.drewN m = w9 at HBE HPC t0 t1 ⊢
      cases hm with
      | false =>
       rw [if_neg (by rw [HOK.out, HHM.out]; simp)] at HNM
       go_wp2
       rw [HNM.out]
       exact bodyPost_ret (v := .tuple #[.slice none 0 0, .int .i64 0, .int .i64 1]) (by simp [results, Try.results7, go_sem]) rfl ⟨_, rfl, Kd.R_nil _ _ _ _ _, HBE.out⟩
      | true =>
       rw [if_pos (HOK.out.2 ⟨HC01.out.1, HC01.out.2, trivial, HLE.out, HHM.out⟩)] at HNM
       obtain ⟨tlo, thi⟩ := tt
       simp only at t0 t1 HNM
       by_cases htt : tlo = thi
       case neg =>
        have k1 : (tlo == thi) = false := by simpa using htt
        have k2 : (tlo != thi) = true := by simpa using htt
        rw [if_neg (by intro h; exact htt h.1)] at HNM
        clear htt
        go_wp2
        rw [HNM.out]
        exact bodyPost_ret (v := .tuple #[.slice none 0 0, .int .i64 0, .int .i64 3]) (by simp [results, Try.results7, go_sem]) rfl ⟨_, rfl, Kd.R_nil _ _ _ _ _, HBE.out⟩
       subst htt
       by_cases ht0 : tlo = 0
       case pos =>
        subst ht0
        rw [if_neg (by simp)] at HNM
        go_wp2
        rw [HNM.out]
        exact bodyPost_ret (v := .tuple #[.slice none 0 0, .int .i64 0, .int .i64 3]) (by simp [results, Try.results7, go_sem]) rfl ⟨_, rfl, Kd.R_nil _ _ _ _ _, HBE.out⟩
       have k1 : (tlo == 0) = false := by simpa using ht0
       rw [if_pos ⟨by simp, ht0⟩] at HNM
       clear ht0
       have HSC := Aside0.mk (share_calls c tlo Ah ch hs Ap cpp ps w9 (Kd.C_below HH.out HBE.out) HCH.out HPC.out HN.out)
       rw [← HNM.out, HLE.out] at HSC
       go_wp2_with fail
       refine HSC.out.mono ?_
       rintro e w10 ⟨v, rfl, hv, hb⟩
       have HVF := Aside0.mk (Kd.R_lower hv HBE.out.size)
       have HBF := Aside0.mk (HBE.out.trans (hb.mono HBE.out.size))
       clear hv hb t0 t1
       go_wp2
       exact bodyPost_ret (v := .tuple #[v, .int .i64 nm.2.1, .int .i64 nm.2.2]) (by simp [results, Try.results7, go_sem]) rfl ⟨_, rfl, HVF.out, HBF.out⟩
     all_goals
      first | (have c3n : (rt != 1) = true := by simp [bne, c3]) | (have c3n : (rt != 1) = false := by simp [bne, c3]) | skip
      try (have hne : ¬ hs.length = ps.length := by simpa using c4)
      try (have c4i : ((hs.length : Int) == (ps.length : Int)) = false := by rw [beq_eq_false_iff_ne]; omega)
      try (have c4n : ((hs.length : Int) != (ps.length : Int)) = true := by rw [bne_iff_ne]; omega)
      try (have c4m : ¬ (hs.length : Int) = (ps.length : Int) := by omega)
      rw [if_neg (by rw [HOK.out]; simp only [decide_eq_true_eq, decide_eq_false_iff_not, beq_eq_false_iff_ne, beq_iff_eq] at *; omega)] at HNM
      go_wp2_with fail
      obtain rfl := HNM.out
      exact bodyPost_ret (v := .tuple #[.slice none 0 0, .int .i64 0, .int .i64 1]) (by simp [results, Try.results7, go_sem]) rfl ⟨_, rfl, Kd.R_nil _ _ _ _ _, HBZ.out⟩
end
section
-- The contracts of settle's isAmount and charges, where the charges are in order.
attribute [local go_sem] max2_int min2_int
set_option linter.unusedVariables false
abbrev T : Bool := true
abbrev F : Bool := false
set_option linter.unusedSimpArgs false
/-! ### rows that are written down -/
theorem flat_get {α : Type} {sz : Nat} (enc : α → List Value) (hl : ∀ x, (enc x).length = sz) : ∀ (xs : List α) (j i : Nat) (x : α), xs[j]? = some x → i < sz → ((xs.map enc).flatten)[j * sz + i]? = (enc x)[i]?
 | [], j, i, x, h, hi => by simp at h
 | y :: ys, 0, i, x, h, hi => by
  simp only [List.getElem?_cons_zero, Option.some.injEq] at h
  subst h
  rw [List.map_cons, List.flatten_cons, Nat.zero_mul, Nat.zero_add, List.getElem?_append_left (by rw [hl]; exact hi)]
 | y :: ys, j + 1, i, x, h, hi => by
  rw [List.getElem?_cons_succ] at h
  have ih := flat_get enc hl ys j i x h hi
  rw [List.map_cons, List.flatten_cons, List.getElem?_append_right (by rw [hl, Nat.succ_mul]; omega), hl, ← ih]
  congr 1
  rw [Nat.succ_mul]; omega
theorem C_row {α : Type} {d : Kd α} {W : World} {b e : Nat} {cs : Array Value} {xs : List α} (enc : α → List Value) (hK : ∀ x, d.K W x (enc x)) (hl : ∀ x, (enc x).length = d.sz) (hb : W.heap[b]? = some (.cells cs e (0, 0))) (hcs : cs = (xs.map enc).flatten.toArray) (hn : xs.length ≤ 1000) :
  Kd.C d W (some ⟨b, 0, none⟩) xs.length xs := by
 refine ⟨rfl, by omega, fun _ => ⟨⟨b, 0, none⟩, rfl, fun j x hj => ⟨enc x, hl x, hK x, fun i u hu => ?_⟩⟩⟩
 have hi : i < d.sz := by
  have := (List.getElem?_eq_some_iff.1 hu).1
  rwa [hl] at this
 have h := flat_get enc hl xs j i x hj hi
 have h2 : W.cell? ⟨b, j * d.sz + i, none⟩ = cs[j * d.sz + i]? := blk_cell hb _
 show W.cell? ((⟨b, 0, none⟩ : Addr).add (j * d.sz + i)) = some u
 have e : (⟨b, 0, none⟩ : Addr).add (j * d.sz + i) = ⟨b, j * d.sz + i, none⟩ := by
  simp [Addr.add]
  intro h1 h2
  rw [h1, h2]
 rw [e, h2, hcs, List.getElem?_toArray, h, hu]
def encI (x : Int) : List Value := [.int .i64 x]
def enc28 (x : S28) : List Value := [.int .i64 x.f0, .int .i64 x.f1, .int .i64 x.f2]
def enc35 (x : S35) : List Value := [.int .i64 x.f0, .int .i64 x.f1]
theorem isAmount_calls (A : Option Addr) (c : Nat) (xs : List Int) (w : World) (hr : Kd.C (Kd.int .i64) w A xs.length xs) :
  Calls Try.prog 21 #[.slice A xs.length c] w fun e w' => e = .returned (.bool (!xs.any amountB)) ∧ Below w.heap.size w w' := by
 have HC := Aside0.mk (containsN_calls 38 #[] amountB (enters_ Try.func38 (by kernel_rfl) rfl) A c xs w (fun x W _ => amount_calls x W) hr)
 clear hr
 generalize xs.any amountB = q at HC
 generalize xs.length = n at HC
 go_enter Try.func21, Try.ntmps21
 go_wp2_with fail
 refine HC.out.mono ?_
 rintro e w' ⟨rfl, hb⟩
 go_wp2
 go_ret
 exact ⟨rfl, hb⟩
def usedB (xs : List S46) : Nat → Int → Bool
 | 0 => fun _ => false
 | k + 1 => fun y => decide (y = (rd_T46 xs k).f0) || usedB xs k y
/-- The charge at k is in order, behind those ahead of it. -/
structure GoodC (xs : List S46) (k : Nat) : Prop where
 home : 1 ≤ (rd_T46 xs k).f0 ∧ (rd_T46 xs k).f0 ≤ 64
 fresh : usedB xs k (rd_T46 xs k).f0 = false
 lo : -1000000000 ≤ (rd_T46 xs k).f2.f0 ∧ (rd_T46 xs k).f2.f0 ≤ 1000000000
 hi : -1000000000 ≤ (rd_T46 xs k).f2.f1 ∧ (rd_T46 xs k).f2.f1 ≤ 1000000000
 ge : (rd_T46 xs k).f2.f0 ≤ (rd_T46 xs k).f1
 le : (rd_T46 xs k).f1 ≤ (rd_T46 xs k).f2.f1
 sure : (rd_T46 xs k).f3 = ((rd_T46 xs k).f2.f1 == (rd_T46 xs k).f2.f0)
set_option maxHeartbeats 8000000 in
set_option maxRecDepth 100000 in
theorem charges_calls (A : Option Addr) (c : Nat) (xs : List S46) (w : World) (hr : Kd.C k46 w A xs.length xs) (hn : xs.length ≤ 64) (hg : ∀ k : Nat, k < xs.length → GoodC xs k) :
  Calls Try.prog 34 #[.slice A xs.length c] w fun e w' => e = .returned (.bool true) ∧ Below w.heap.size w w' := by
 have HR := Aside0.mk hr
 have HG := Aside0.mk hg
 have HN := Aside0.mk hn
 have hmm := @run_makeMap Try.prog
 have hnI : (xs.length : Int) ≤ 64 := by omega
 have hu46 := Try.underlying46
 clear hr hg hn
 go_enter Try.func34, Try.ntmps34
 go_wp2_with fail
 have HM0 := Aside0.mk (MB.made w)
 have HB0 := Aside0.mk ((Below.refl _ w).alloc (Nat.le_refl _) (.map #[] 0))
 clear hmm
 generalize w.alloc (.map #[] 0) = w1 at HM0 HB0 ⊢
 obtain ⟨bm, hbm⟩ : ∃ bm, w.heap.size = bm := ⟨_, rfl⟩
 have HBM := Aside0.mk hbm
 rw [hbm] at HM0 ⊢
 clear hbm
 go_loopg [10] xs.length (fun gg s10 wr => ∃ k : Nat, k ≤ xs.length ∧ xs.length - k ≤ gg ∧ s10 = .int .i64 k ∧ Aside0 (MB wr bm k (usedB xs k)) ∧ Aside0 (Below w.heap.size w wr))
 case atStart => exact ⟨0, Nat.zero_le _, by omega, rfl, HM0, HB0⟩
 case round =>
  obtain ⟨k, hk, hgg, rfl, HMB, HB⟩ := hrel
  clear HM0 HB0
  by_cases hlt : k < xs.length
  ·have hi : (k : Int) < (xs.length : Int) := by omega
   obtain ⟨ad, e0, y0, y1, y2, y3, y4⟩ := at_T46 HR.out (k : Int) (by omega) hi
   cases e0
   simp only [Int.toNat_natCast] at y0 y1 y2 y3 y4
   replace y0 := (HB.out.cell (World.block_lt_of_cell? w _ y0)).trans y0
   replace y1 := (HB.out.cell (World.block_lt_of_cell? w _ y1)).trans y1
   replace y2 := (HB.out.cell (World.block_lt_of_cell? w _ y2)).trans y2
   replace y3 := (HB.out.cell (World.block_lt_of_cell? w _ y3)).trans y3
   replace y4 := (HB.out.cell (World.block_lt_of_cell? w _ y4)).trans y4
   have HGC := Aside0.mk (HG.out k hlt)
   have HUS := Aside0.mk (show usedB xs (k + 1) = (fun y => decide (y = (rd_T46 xs k).f0) || usedB xs k y) from rfl)
   obtain ⟨g1, g2, g3, g4, g5, g6, g7⟩ := HGC.out
   generalize rd_T46 xs (k : Int) = x at y0 y1 y2 y3 y4 HUS g1 g2 g3 g4 g5 g6 g7
   obtain ⟨a0, a1, ⟨lo, hi_⟩, su⟩ := x
   simp only at y0 y1 y2 y3 y4 HUS g1 g2 g3 g4 g5 g6 g7
   by_cases hse : hi_ = lo
   ·subst hse
    obtain rfl : su = true := by rw [g7]; simp
    clear g7
    have HGG := Aside0.mk (And.intro g2 (And.intro g3 g4))
    have hw0 : wf64 a0 := by unfold wf64; omega
    have d1 : decide (a0 < 1) = false := decide_eq_false (by omega)
    have d2 : decide (64 < a0) = false := decide_eq_false (by omega)
    have d3 : decide (a1 < hi_) = false := decide_eq_false (by omega)
    have d4 : decide (hi_ < a1) = false := decide_eq_false (by omega)
    clear HGC g1 g2 g3 g4 g5 g6
    go_wp2_with fail
    obtain ⟨wq, hwq⟩ : ∃ wq, (wr.alloc (.cells #[.int .i64 a0, .int .i64 a1, .int .i64 hi_, .int .i64 hi_, .bool true] 46)).alloc (.cells #[.int .i64 hi_, .int .i64 hi_] 35) = wq := ⟨_, rfl⟩
    have HX := Aside0.mk (show wq.heap[wr.heap.size]? = some (.cells #[.int .i64 a0, .int .i64 a1, .int .i64 hi_, .int .i64 hi_, .bool true] 46) by rw [← hwq]; exact blk_alloc (heap_alloc_new wr _) _)
    have HY := Aside0.mk (show wq.heap[wr.heap.size + 1]? = some (.cells #[.int .i64 hi_, .int .i64 hi_] 35) by rw [← hwq]; have h := heap_alloc_new (wr.alloc (.cells #[.int .i64 a0, .int .i64 a1, .int .i64 hi_, .int .i64 hi_, .bool true] 46)) (.cells #[.int .i64 hi_, .int .i64 hi_] 35); rwa [World.size_alloc] at h)
    have HBQ := Aside0.mk (show Below wr.heap.size wr wq by rw [← hwq]; exact ((Below.refl _ wr).alloc (Nat.le_refl _) _).alloc (by simp) _)
    rw [hwq]
    clear hwq y0 y1 y2 y3 y4
    have HMQ := Aside0.mk (HMB.out.below HBQ.out)
    have HBZ := Aside0.mk (HB.out.trans (HBQ.out.mono HB.out.size))
    generalize wr.heap.size + 1 = by_ at HY ⊢
    obtain ⟨bx, hbx⟩ : ∃ bx, wr.heap.size = bx := ⟨_, rfl⟩
    rw [hbx] at HX ⊢
    clear hbx
    have x0 : wq.cell? ⟨bx, 0, none⟩ = some (.int .i64 a0) := (blk_cell HX.out 0).trans rfl
    have x1 : wq.cell? ⟨bx, 1, none⟩ = some (.int .i64 a1) := (blk_cell HX.out 1).trans rfl
    have x3 : wq.cell? ⟨bx, 4, none⟩ = some (.bool true) := (blk_cell HX.out 4).trans rfl
    have z0 : wq.cell? ⟨by_, 0, none⟩ = some (.int .i64 hi_) := (blk_cell HY.out 0).trans rfl
    have z1 : wq.cell? ⟨by_, 1, none⟩ = some (.int .i64 hi_) := (blk_cell HY.out 1).trans rfl
    refine start_ (n := 49) (S := fun W' => Ext wq W' ∧ MB W' bm k (usedB xs k)) (ds := []) #[F, F, F, F, F, F, F, F, F, F, F, F, F, F, F, F, F, F, F, F, F, F, F, F, F, F, F, F, F, F, F, F, F, F, F, F, F, F, F, F, F, F, F, F, F, F, F, F, F] (by kernel_rfl) rfl (by rfl) ⟨fun _ _ h => h, HMQ.out.below (below_drew (Below.refl _ _))⟩ (fun hHeld => ?_)
    have HD := Aside0.mk (show Below wq.heap.size wq wq.drew from (Below.refl _ _).drew)
    generalize wq.drew = wa at HD hHeld ⊢
    refine pure_ (i := 0) (N := some 16) (v := ?_) (a' := ?_) #[T, F, F, F, F, F, F, F, F, F, F, F, F, F, F, F, F, F, F, F, F, F, F, F, F, F, F, F, F, F, F, F, F, F, F, F, F, F, F, F, F, F, F, F, F, F, F, F, F] rfl rfl (by kernel_rfl) (fun _ _ _ h => h) (Or.inl ⟨by rfl, ?_⟩) ?_ ?_
    rotate_left
    ·intro w'
     go_simp
     with_reducible rfl
    rotate_left
    ·simp only [Act.put, sA, sZ, sS, i64_w, i32_w]
     rfl
    refine take_ (i := 1) (N := some 17) (v := ?_) (a' := ?_) #[T, T, F, F, F, F, F, F, F, F, F, F, F, F, F, F, F, F, F, F, F, F, F, F, F, F, F, F, F, F, F, F, F, F, F, F, F, F, F, F, F, F, F, F, F, F, F, F, F] rfl rfl (by kernel_rfl) (fun _ _ _ h => h) (Or.inl ⟨by rfl, ?_⟩) hHeld ?_ ?_
    rotate_left
    ·intro w' hS
     obtain ⟨hS, hM⟩ := hS
     have q0 := hS _ _ x0
     have q1 := hS _ _ x1
     have q3 := hS _ _ x3
     have q4 := hS _ _ z0
     have q5 := hS _ _ z1
     have q6 := hM.look hw0
     rw [HGG.out.1] at q6
     clear hS hM
     go_simp
     with_reducible rfl
    rotate_left
    ·simp only [Act.put, sA, sZ, sS, i64_w, i32_w]
     rfl
    refine pure_ (i := 2) (N := some 18) (v := ?_) (a' := ?_) #[T, T, T, F, F, F, F, F, F, F, F, F, F, F, F, F, F, F, F, F, F, F, F, F, F, F, F, F, F, F, F, F, F, F, F, F, F, F, F, F, F, F, F, F, F, F, F, F, F] rfl rfl (by kernel_rfl) (fun _ _ _ h => h) (Or.inl ⟨by rfl, ?_⟩) ?_ ?_
    rotate_left
    ·intro w'
     go_simp
     with_reducible rfl
    rotate_left
    ·simp only [Act.put, sA, sZ, sS, i64_w, i32_w]
     rfl
    refine pure_ (i := 3) (N := some 19) (v := ?_) (a' := ?_) #[T, T, T, T, F, F, F, F, F, F, F, F, F, F, F, F, F, F, F, F, F, F, F, F, F, F, F, F, F, F, F, F, F, F, F, F, F, F, F, F, F, F, F, F, F, F, F, F, F] rfl rfl (by kernel_rfl) (fun _ _ _ h => h) (Or.inl ⟨by rfl, ?_⟩) ?_ ?_
    rotate_left
    ·intro w'
     go_simp
     with_reducible rfl
    rotate_left
    ·simp only [Act.put, sA, sZ, sS, i64_w, i32_w]
     rfl
    refine pure_ (i := 4) (N := some 20) (v := ?_) (a' := ?_) #[T, T, T, T, T, F, F, F, F, F, F, F, F, F, F, F, F, F, F, F, F, F, F, F, F, F, F, F, F, F, F, F, F, F, F, F, F, F, F, F, F, F, F, F, F, F, F, F, F] rfl rfl (by kernel_rfl) (fun _ _ _ h => h) (Or.inl ⟨by rfl, ?_⟩) ?_ ?_
    rotate_left
    ·intro w'
     go_simp
     with_reducible rfl
    rotate_left
    ·simp only [Act.put, sA, sZ, sS, i64_w, i32_w]
     rfl
    refine take_ (i := 5) (N := some 21) (v := ?_) (a' := ?_) #[T, T, T, T, T, T, F, F, F, F, F, F, F, F, F, F, F, F, F, F, F, F, F, F, F, F, F, F, F, F, F, F, F, F, F, F, F, F, F, F, F, F, F, F, F, F, F, F, F] rfl rfl (by kernel_rfl) (fun _ _ _ h => h) (Or.inl ⟨by rfl, ?_⟩) hHeld ?_ ?_
    rotate_left
    ·intro w' hS
     obtain ⟨hS, hM⟩ := hS
     have q0 := hS _ _ x0
     have q1 := hS _ _ x1
     have q3 := hS _ _ x3
     have q4 := hS _ _ z0
     have q5 := hS _ _ z1
     have q6 := hM.look hw0
     rw [HGG.out.1] at q6
     clear hS hM
     go_simp
     with_reducible rfl
    rotate_left
    ·simp only [Act.put, sA, sZ, sS, i64_w, i32_w]
     rfl
    refine pure_ (i := 6) (N := some 22) (v := ?_) (a' := ?_) #[T, T, T, T, T, T, T, F, F, F, F, F, F, F, F, F, F, F, F, F, F, F, F, F, F, F, F, F, F, F, F, F, F, F, F, F, F, F, F, F, F, F, F, F, F, F, F, F, F] rfl rfl (by kernel_rfl) (fun _ _ _ h => h) (Or.inl ⟨by rfl, ?_⟩) ?_ ?_
    rotate_left
    ·intro w'
     go_simp
     with_reducible rfl
    rotate_left
    ·simp only [Act.put, sA, sZ, sS, i64_w, i32_w]
     rfl
    refine pure_ (i := 7) (N := some 23) (v := ?_) (a' := ?_) #[T, T, T, T, T, T, T, T, F, F, F, F, F, F, F, F, F, F, F, F, F, F, F, F, F, F, F, F, F, F, F, F, F, F, F, F, F, F, F, F, F, F, F, F, F, F, F, F, F] rfl rfl (by kernel_rfl) (fun _ _ _ h => h) (Or.inl ⟨by rfl, ?_⟩) ?_ ?_
    rotate_left
    ·intro w'
     go_simp
     with_reducible rfl
    rotate_left
    ·simp only [Act.put, sA, sZ, sS, i64_w, i32_w]
     rfl
    refine pure_ (i := 8) (N := some 24) (v := ?_) (a' := ?_) #[T, T, T, T, T, T, T, T, T, F, F, F, F, F, F, F, F, F, F, F, F, F, F, F, F, F, F, F, F, F, F, F, F, F, F, F, F, F, F, F, F, F, F, F, F, F, F, F, F] rfl rfl (by kernel_rfl) (fun _ _ _ h => h) (Or.inl ⟨by rfl, ?_⟩) ?_ ?_
    rotate_left
    ·intro w'
     go_simp
     with_reducible rfl
    rotate_left
    ·simp only [Act.put, sA, sZ, sS, i64_w, i32_w]
     rfl
    refine pure_ (i := 9) (N := some 25) (v := ?_) (a' := ?_) #[T, T, T, T, T, T, T, T, T, T, F, F, F, F, F, F, F, F, F, F, F, F, F, F, F, F, F, F, F, F, F, F, F, F, F, F, F, F, F, F, F, F, F, F, F, F, F, F, F] rfl rfl (by kernel_rfl) (fun _ _ _ h => h) (Or.inl ⟨by rfl, ?_⟩) ?_ ?_
    rotate_left
    ·intro w'
     go_simp
     with_reducible rfl
    rotate_left
    ·simp only [Act.put, sA, sZ, sS, i64_w, i32_w]
     rfl
    refine pure_ (i := 10) (N := some 26) (v := ?_) (a' := ?_) #[T, T, T, T, T, T, T, T, T, T, T, F, F, F, F, F, F, F, F, F, F, F, F, F, F, F, F, F, F, F, F, F, F, F, F, F, F, F, F, F, F, F, F, F, F, F, F, F, F] rfl rfl (by kernel_rfl) (fun _ _ _ h => h) (Or.inl ⟨by rfl, ?_⟩) ?_ ?_
    rotate_left
    ·intro w'
     go_simp
     with_reducible rfl
    rotate_left
    ·simp only [Act.put, sA, sZ, sS, i64_w, i32_w]
     rfl
    refine take_ (i := 11) (N := some 27) (v := ?_) (a' := ?_) #[T, T, T, T, T, T, T, T, T, T, T, T, F, F, F, F, F, F, F, F, F, F, F, F, F, F, F, F, F, F, F, F, F, F, F, F, F, F, F, F, F, F, F, F, F, F, F, F, F] rfl rfl (by kernel_rfl) (fun _ _ _ h => h) (Or.inl ⟨by rfl, ?_⟩) hHeld ?_ ?_
    rotate_left
    ·intro w' hS
     obtain ⟨hS, hM⟩ := hS
     have q0 := hS _ _ x0
     have q1 := hS _ _ x1
     have q3 := hS _ _ x3
     have q4 := hS _ _ z0
     have q5 := hS _ _ z1
     have q6 := hM.look hw0
     rw [HGG.out.1] at q6
     clear hS hM
     go_simp
     with_reducible rfl
    rotate_left
    ·simp only [Act.put, sA, sZ, sS, i64_w, i32_w]
     rfl
    refine take_ (i := 12) (N := some 28) (v := ?_) (a' := ?_) #[T, T, T, T, T, T, T, T, T, T, T, T, T, F, F, F, F, F, F, F, F, F, F, F, F, F, F, F, F, F, F, F, F, F, F, F, F, F, F, F, F, F, F, F, F, F, F, F, F] rfl rfl (by kernel_rfl) (fun _ _ _ h => h) (Or.inl ⟨by rfl, ?_⟩) hHeld ?_ ?_
    rotate_left
    ·intro w' hS
     obtain ⟨hS, hM⟩ := hS
     have q0 := hS _ _ x0
     have q1 := hS _ _ x1
     have q3 := hS _ _ x3
     have q4 := hS _ _ z0
     have q5 := hS _ _ z1
     have q6 := hM.look hw0
     rw [HGG.out.1] at q6
     clear hS hM
     go_simp
     with_reducible rfl
    rotate_left
    ·simp only [Act.put, sA, sZ, sS, i64_w, i32_w]
     rfl
    refine pure_ (i := 13) (N := some 29) (v := ?_) (a' := ?_) #[T, T, T, T, T, T, T, T, T, T, T, T, T, T, F, F, F, F, F, F, F, F, F, F, F, F, F, F, F, F, F, F, F, F, F, F, F, F, F, F, F, F, F, F, F, F, F, F, F] rfl rfl (by kernel_rfl) (fun _ _ _ h => h) (Or.inl ⟨by rfl, ?_⟩) ?_ ?_
    rotate_left
    ·intro w'
     go_simp
     with_reducible rfl
    rotate_left
    ·simp only [Act.put, sA, sZ, sS, i64_w, i32_w]
     rfl
    refine pure_ (i := 14) (N := some 30) (v := ?_) (a' := ?_) #[T, T, T, T, T, T, T, T, T, T, T, T, T, T, T, F, F, F, F, F, F, F, F, F, F, F, F, F, F, F, F, F, F, F, F, F, F, F, F, F, F, F, F, F, F, F, F, F, F] rfl rfl (by kernel_rfl) (fun _ _ _ h => h) (Or.inl ⟨by rfl, ?_⟩) ?_ ?_
    rotate_left
    ·intro w'
     go_simp
     with_reducible rfl
    rotate_left
    ·simp only [Act.put, sA, sZ, sS, i64_w, i32_w]
     rfl
    refine pure_ (i := 15) (N := some 31) (v := ?_) (a' := ?_) #[T, T, T, T, T, T, T, T, T, T, T, T, T, T, T, T, F, F, F, F, F, F, F, F, F, F, F, F, F, F, F, F, F, F, F, F, F, F, F, F, F, F, F, F, F, F, F, F, F] rfl rfl (by kernel_rfl) (fun _ _ _ h => h) (Or.inl ⟨by rfl, ?_⟩) ?_ ?_
    rotate_left
    ·intro w'
     go_simp
     with_reducible rfl
    rotate_left
    ·simp only [Act.put, sA, sZ, sS, i64_w, i32_w]
     rfl
    refine pure_ (i := 17) (N := some 33) (v := ?_) (a' := ?_) #[T, T, T, T, T, T, T, T, T, T, T, T, T, T, T, T, F, T, F, F, F, F, F, F, F, F, F, F, F, F, F, F, F, F, F, F, F, F, F, F, F, F, F, F, F, F, F, F, F] rfl rfl (by kernel_rfl) (fun _ _ _ h => h) (Or.inl ⟨by rfl, ?_⟩) ?_ ?_
    rotate_left
    ·intro w'
     go_simp
     with_reducible rfl
    rotate_left
    ·simp only [Act.put, sA, sZ, sS, i64_w, i32_w]
     rfl
    refine take_ (i := 16) (N := some 32) (v := ?_) (a' := ?_) #[T, T, T, T, T, T, T, T, T, T, T, T, T, T, T, T, T, T, F, F, F, F, F, F, F, F, F, F, F, F, F, F, F, F, F, F, F, F, F, F, F, F, F, F, F, F, F, F, F] rfl rfl (by kernel_rfl) (fun _ _ _ h => h) (Or.inl ⟨by rfl, ?_⟩) hHeld ?_ ?_
    rotate_left
    ·intro w' hS
     obtain ⟨hS, hM⟩ := hS
     have q0 := hS _ _ x0
     have q1 := hS _ _ x1
     have q3 := hS _ _ x3
     have q4 := hS _ _ z0
     have q5 := hS _ _ z1
     have q6 := hM.look hw0
     rw [HGG.out.1] at q6
     clear hS hM
     go_simp
     with_reducible rfl
    rotate_left
    ·simp only [Act.put, sA, sZ, sS, i64_w, i32_w]
     rfl
    refine take_ (i := 18) (N := some 34) (v := ?_) (a' := ?_) #[T, T, T, T, T, T, T, T, T, T, T, T, T, T, T, T, T, T, T, F, F, F, F, F, F, F, F, F, F, F, F, F, F, F, F, F, F, F, F, F, F, F, F, F, F, F, F, F, F] rfl rfl (by kernel_rfl) (fun _ _ _ h => h) (Or.inl ⟨by rfl, ?_⟩) hHeld ?_ ?_
    rotate_left
    ·intro w' hS
     obtain ⟨hS, hM⟩ := hS
     have q0 := hS _ _ x0
     have q1 := hS _ _ x1
     have q3 := hS _ _ x3
     have q4 := hS _ _ z0
     have q5 := hS _ _ z1
     have q6 := hM.look hw0
     rw [HGG.out.1] at q6
     clear hS hM
     go_simp
     with_reducible rfl
    rotate_left
    ·simp only [Act.put, sA, sZ, sS, i64_w, i32_w]
     rfl
    refine one_ (i := 19) (N := some 35) #[T, T, T, T, T, T, T, T, T, T, T, T, T, T, T, T, T, T, T, T, F, F, F, F, F, F, F, F, F, F, F, F, F, F, F, F, F, F, F, F, F, F, F, F, F, F, F, F, F] rfl rfl (by kernel_rfl) (by decide) (fun K hK => ?_)
    refine value_ (v := .slice (some ⟨wa.heap.size, 0, none⟩) 2 2) (w1 := wa.alloc (.cells #[.int .i64 hi_, .int .i64 hi_] 3)) (by rfl) rfl (by first | (go_simp; done) | (go_simp; rfl)) ?_
    refine hK.out _ _ ⟨Ext.of_below hHeld.1 (below_alloc (Below.refl _ _) _), hHeld.2.below (below_alloc (Below.refl _ _) _)⟩ (fun hHeld => ?_)
    have HIC := Aside0.mk (isAmount_calls (some ⟨wa.heap.size, 0, none⟩) 2 [hi_, hi_] (wa.alloc (.cells #[.int .i64 hi_, .int .i64 hi_] 3)) (C_row encI (fun _ => rfl) (fun _ => rfl) (heap_alloc_new wa _) rfl (by simp)))
    rw [show [hi_, hi_].any amountB = false by have h := HGG.out.2; simp [amountB]; omega] at HIC
    replace HD := Aside0.mk (HD.out.alloc HD.out.size (.cells #[.int .i64 hi_, .int .i64 hi_] 3))
    generalize wa.alloc (.cells #[.int .i64 hi_, .int .i64 hi_] 3) = wb at HD hHeld HIC ⊢
    clear hK K
    refine norm_ (a' := ?_) ?_ ?_
    rotate_left
    ·show Act.put _ (some 35) _ = _
     simp only [Act.put, sA, sZ, sS, i64_w, i32_w]
     rfl
    refine one_ (i := 20) (N := some 36) #[T, T, T, T, T, T, T, T, T, T, T, T, T, T, T, T, T, T, T, T, T, F, F, F, F, F, F, F, F, F, F, F, F, F, F, F, F, F, F, F, F, F, F, F, F, F, F, F, F] rfl rfl (by kernel_rfl) (by decide) (fun K hK => ?_)
    refine goes_ Try.func21 (by kernel_rfl) rfl #[.slice (some ⟨wa.heap.size, 0, none⟩) 2 2] (by rfl) rfl rfl (by simp [Act.eval]; done) ?_
    refine HIC.out.mono ?_
    rintro e w4 ⟨rfl, hb⟩
    refine ⟨_, rfl, hK.out _ _ ⟨Ext.of_below hHeld.1 hb, hHeld.2.below hb⟩ (fun hHeld => ?_)⟩
    replace HD := Aside0.mk (HD.out.trans (hb.mono HD.out.size))
    clear hb hK K
    refine norm_ (a' := ?_) ?_ ?_
    rotate_left
    ·show Act.put _ (some 36) _ = _
     simp only [Act.put, sA, sZ, sS, i64_w, i32_w]
     rfl
    refine pure_ (i := 21) (N := some 37) (v := ?_) (a' := ?_) #[T, T, T, T, T, T, T, T, T, T, T, T, T, T, T, T, T, T, T, T, T, T, F, F, F, F, F, F, F, F, F, F, F, F, F, F, F, F, F, F, F, F, F, F, F, F, F, F, F] rfl rfl (by kernel_rfl) (fun _ _ _ h => h) (Or.inl ⟨by rfl, ?_⟩) ?_ ?_
    rotate_left
    ·intro w'
     go_simp
     with_reducible rfl
    rotate_left
    ·simp only [Act.put, sA, sZ, sS, i64_w, i32_w]
     rfl
    refine pure_ (i := 22) (N := some 38) (v := ?_) (a' := ?_) #[T, T, T, T, T, T, T, T, T, T, T, T, T, T, T, T, T, T, T, T, T, T, T, F, F, F, F, F, F, F, F, F, F, F, F, F, F, F, F, F, F, F, F, F, F, F, F, F, F] rfl rfl (by kernel_rfl) (fun _ _ _ h => h) (Or.inl ⟨by rfl, ?_⟩) ?_ ?_
    rotate_left
    ·intro w'
     go_simp
     with_reducible rfl
    rotate_left
    ·simp only [Act.put, sA, sZ, sS, i64_w, i32_w]
     rfl
    refine pure_ (i := 23) (N := some 39) (v := ?_) (a' := ?_) #[T, T, T, T, T, T, T, T, T, T, T, T, T, T, T, T, T, T, T, T, T, T, T, T, F, F, F, F, F, F, F, F, F, F, F, F, F, F, F, F, F, F, F, F, F, F, F, F, F] rfl rfl (by kernel_rfl) (fun _ _ _ h => h) (Or.inl ⟨by rfl, ?_⟩) ?_ ?_
    rotate_left
    ·intro w'
     go_simp
     with_reducible rfl
    rotate_left
    ·simp only [Act.put, sA, sZ, sS, i64_w, i32_w]
     rfl
    refine pure_ (i := 24) (N := some 40) (v := ?_) (a' := ?_) #[T, T, T, T, T, T, T, T, T, T, T, T, T, T, T, T, T, T, T, T, T, T, T, T, T, F, F, F, F, F, F, F, F, F, F, F, F, F, F, F, F, F, F, F, F, F, F, F, F] rfl rfl (by kernel_rfl) (fun _ _ _ h => h) (Or.inl ⟨by rfl, ?_⟩) ?_ ?_
    rotate_left
    ·intro w'
     go_simp
     with_reducible rfl
    rotate_left
    ·simp only [Act.put, sA, sZ, sS, i64_w, i32_w]
     rfl
    refine pure_ (i := 26) (N := some 42) (v := ?_) (a' := ?_) #[T, T, T, T, T, T, T, T, T, T, T, T, T, T, T, T, T, T, T, T, T, T, T, T, T, F, T, F, F, F, F, F, F, F, F, F, F, F, F, F, F, F, F, F, F, F, F, F, F] rfl rfl (by kernel_rfl) (fun _ _ _ h => h) (Or.inl ⟨by rfl, ?_⟩) ?_ ?_
    rotate_left
    ·intro w'
     go_simp
     with_reducible rfl
    rotate_left
    ·simp only [Act.put, sA, sZ, sS, i64_w, i32_w]
     rfl
    refine take_ (i := 25) (N := some 41) (v := ?_) (a' := ?_) #[T, T, T, T, T, T, T, T, T, T, T, T, T, T, T, T, T, T, T, T, T, T, T, T, T, T, T, F, F, F, F, F, F, F, F, F, F, F, F, F, F, F, F, F, F, F, F, F, F] rfl rfl (by kernel_rfl) (fun _ _ _ h => h) (Or.inl ⟨by rfl, ?_⟩) hHeld ?_ ?_
    rotate_left
    ·intro w' hS
     obtain ⟨hS, hM⟩ := hS
     have q0 := hS _ _ x0
     have q1 := hS _ _ x1
     have q3 := hS _ _ x3
     have q4 := hS _ _ z0
     have q5 := hS _ _ z1
     have q6 := hM.look hw0
     rw [HGG.out.1] at q6
     clear hS hM
     go_simp
     with_reducible rfl
    rotate_left
    ·simp only [Act.put, sA, sZ, sS, i64_w, i32_w]
     rfl
    refine take_ (i := 27) (N := some 43) (v := ?_) (a' := ?_) #[T, T, T, T, T, T, T, T, T, T, T, T, T, T, T, T, T, T, T, T, T, T, T, T, T, T, T, T, F, F, F, F, F, F, F, F, F, F, F, F, F, F, F, F, F, F, F, F, F] rfl rfl (by kernel_rfl) (fun _ _ _ h => h) (Or.inl ⟨by rfl, ?_⟩) hHeld ?_ ?_
    rotate_left
    ·intro w' hS
     obtain ⟨hS, hM⟩ := hS
     have q0 := hS _ _ x0
     have q1 := hS _ _ x1
     have q3 := hS _ _ x3
     have q4 := hS _ _ z0
     have q5 := hS _ _ z1
     have q6 := hM.look hw0
     rw [HGG.out.1] at q6
     clear hS hM
     go_simp
     with_reducible rfl
    rotate_left
    ·simp only [Act.put, sA, sZ, sS, i64_w, i32_w]
     rfl
    refine pure_ (i := 28) (N := some 44) (v := ?_) (a' := ?_) #[T, T, T, T, T, T, T, T, T, T, T, T, T, T, T, T, T, T, T, T, T, T, T, T, T, T, T, T, T, F, F, F, F, F, F, F, F, F, F, F, F, F, F, F, F, F, F, F, F] rfl rfl (by kernel_rfl) (fun _ _ _ h => h) (Or.inl ⟨by rfl, ?_⟩) ?_ ?_
    rotate_left
    ·intro w'
     go_simp
     with_reducible rfl
    rotate_left
    ·simp only [Act.put, sA, sZ, sS, i64_w, i32_w]
     rfl
    refine pure_ (i := 29) (N := some 45) (v := ?_) (a' := ?_) #[T, T, T, T, T, T, T, T, T, T, T, T, T, T, T, T, T, T, T, T, T, T, T, T, T, T, T, T, T, T, F, F, F, F, F, F, F, F, F, F, F, F, F, F, F, F, F, F, F] rfl rfl (by kernel_rfl) (fun _ _ _ h => h) (Or.inl ⟨by rfl, ?_⟩) ?_ ?_
    rotate_left
    ·intro w'
     go_simp
     with_reducible rfl
    rotate_left
    ·simp only [Act.put, sA, sZ, sS, i64_w, i32_w]
     rfl
    refine pure_ (i := 30) (N := some 46) (v := ?_) (a' := ?_) #[T, T, T, T, T, T, T, T, T, T, T, T, T, T, T, T, T, T, T, T, T, T, T, T, T, T, T, T, T, T, T, F, F, F, F, F, F, F, F, F, F, F, F, F, F, F, F, F, F] rfl rfl (by kernel_rfl) (fun _ _ _ h => h) (Or.inl ⟨by rfl, ?_⟩) ?_ ?_
    rotate_left
    ·intro w'
     go_simp
     with_reducible rfl
    rotate_left
    ·simp only [Act.put, sA, sZ, sS, i64_w, i32_w]
     rfl
    refine pure_ (i := 31) (N := some 47) (v := ?_) (a' := ?_) #[T, T, T, T, T, T, T, T, T, T, T, T, T, T, T, T, T, T, T, T, T, T, T, T, T, T, T, T, T, T, T, T, F, F, F, F, F, F, F, F, F, F, F, F, F, F, F, F, F] rfl rfl (by kernel_rfl) (fun _ _ _ h => h) (Or.inl ⟨by rfl, ?_⟩) ?_ ?_
    rotate_left
    ·intro w'
     go_simp
     with_reducible rfl
    rotate_left
    ·simp only [Act.put, sA, sZ, sS, i64_w, i32_w]
     rfl
    refine pure_ (i := 33) (N := some 49) (v := ?_) (a' := ?_) #[T, T, T, T, T, T, T, T, T, T, T, T, T, T, T, T, T, T, T, T, T, T, T, T, T, T, T, T, T, T, T, T, F, T, F, F, F, F, F, F, F, F, F, F, F, F, F, F, F] rfl rfl (by kernel_rfl) (fun _ _ _ h => h) (Or.inl ⟨by rfl, ?_⟩) ?_ ?_
    rotate_left
    ·intro w'
     go_simp
     with_reducible rfl
    rotate_left
    ·simp only [Act.put, sA, sZ, sS, i64_w, i32_w]
     rfl
    refine take_ (i := 32) (N := some 48) (v := ?_) (a' := ?_) #[T, T, T, T, T, T, T, T, T, T, T, T, T, T, T, T, T, T, T, T, T, T, T, T, T, T, T, T, T, T, T, T, T, T, F, F, F, F, F, F, F, F, F, F, F, F, F, F, F] rfl rfl (by kernel_rfl) (fun _ _ _ h => h) (Or.inl ⟨by rfl, ?_⟩) hHeld ?_ ?_
    rotate_left
    ·intro w' hS
     obtain ⟨hS, hM⟩ := hS
     have q0 := hS _ _ x0
     have q1 := hS _ _ x1
     have q3 := hS _ _ x3
     have q4 := hS _ _ z0
     have q5 := hS _ _ z1
     have q6 := hM.look hw0
     rw [HGG.out.1] at q6
     clear hS hM
     go_simp
     with_reducible rfl
    rotate_left
    ·simp only [Act.put, sA, sZ, sS, i64_w, i32_w]
     rfl
    refine take_ (i := 34) (N := some 50) (v := ?_) (a' := ?_) #[T, T, T, T, T, T, T, T, T, T, T, T, T, T, T, T, T, T, T, T, T, T, T, T, T, T, T, T, T, T, T, T, T, T, T, F, F, F, F, F, F, F, F, F, F, F, F, F, F] rfl rfl (by kernel_rfl) (fun _ _ _ h => h) (Or.inl ⟨by rfl, ?_⟩) hHeld ?_ ?_
    rotate_left
    ·intro w' hS
     obtain ⟨hS, hM⟩ := hS
     have q0 := hS _ _ x0
     have q1 := hS _ _ x1
     have q3 := hS _ _ x3
     have q4 := hS _ _ z0
     have q5 := hS _ _ z1
     have q6 := hM.look hw0
     rw [HGG.out.1] at q6
     clear hS hM
     go_simp
     with_reducible rfl
    rotate_left
    ·simp only [Act.put, sA, sZ, sS, i64_w, i32_w]
     rfl
    refine pure_ (i := 35) (N := some 51) (v := ?_) (a' := ?_) #[T, T, T, T, T, T, T, T, T, T, T, T, T, T, T, T, T, T, T, T, T, T, T, T, T, T, T, T, T, T, T, T, T, T, T, T, F, F, F, F, F, F, F, F, F, F, F, F, F] rfl rfl (by kernel_rfl) (fun _ _ _ h => h) (Or.inl ⟨by rfl, ?_⟩) ?_ ?_
    rotate_left
    ·intro w'
     go_simp
     with_reducible rfl
    rotate_left
    ·simp only [Act.put, sA, sZ, sS, i64_w, i32_w]
     rfl
    refine pure_ (i := 36) (N := some 52) (v := ?_) (a' := ?_) #[T, T, T, T, T, T, T, T, T, T, T, T, T, T, T, T, T, T, T, T, T, T, T, T, T, T, T, T, T, T, T, T, T, T, T, T, T, F, F, F, F, F, F, F, F, F, F, F, F] rfl rfl (by kernel_rfl) (fun _ _ _ h => h) (Or.inl ⟨by rfl, ?_⟩) ?_ ?_
    rotate_left
    ·intro w'
     go_simp
     with_reducible rfl
    rotate_left
    ·simp only [Act.put, sA, sZ, sS, i64_w, i32_w]
     rfl
    refine pure_ (i := 37) (N := some 53) (v := ?_) (a' := ?_) #[T, T, T, T, T, T, T, T, T, T, T, T, T, T, T, T, T, T, T, T, T, T, T, T, T, T, T, T, T, T, T, T, T, T, T, T, T, T, F, F, F, F, F, F, F, F, F, F, F] rfl rfl (by kernel_rfl) (fun _ _ _ h => h) (Or.inl ⟨by rfl, ?_⟩) ?_ ?_
    rotate_left
    ·intro w'
     go_simp
     with_reducible rfl
    rotate_left
    ·simp only [Act.put, sA, sZ, sS, i64_w, i32_w]
     rfl
    refine pure_ (i := 38) (N := some 54) (v := ?_) (a' := ?_) #[T, T, T, T, T, T, T, T, T, T, T, T, T, T, T, T, T, T, T, T, T, T, T, T, T, T, T, T, T, T, T, T, T, T, T, T, T, T, T, F, F, F, F, F, F, F, F, F, F] rfl rfl (by kernel_rfl) (fun _ _ _ h => h) (Or.inl ⟨by rfl, ?_⟩) ?_ ?_
    rotate_left
    ·intro w'
     go_simp
     with_reducible rfl
    rotate_left
    ·simp only [Act.put, sA, sZ, sS, i64_w, i32_w]
     rfl
    refine pure_ (i := 41) (N := some 57) (v := ?_) (a' := ?_) #[T, T, T, T, T, T, T, T, T, T, T, T, T, T, T, T, T, T, T, T, T, T, T, T, T, T, T, T, T, T, T, T, T, T, T, T, T, T, T, F, F, T, F, F, F, F, F, F, F] rfl rfl (by kernel_rfl) (fun _ _ _ h => h) (Or.inl ⟨by rfl, ?_⟩) ?_ ?_
    rotate_left
    ·intro w'
     go_simp
     with_reducible rfl
    rotate_left
    ·simp only [Act.put, sA, sZ, sS, i64_w, i32_w]
     rfl
    refine pure_ (i := 43) (N := some 59) (v := ?_) (a' := ?_) #[T, T, T, T, T, T, T, T, T, T, T, T, T, T, T, T, T, T, T, T, T, T, T, T, T, T, T, T, T, T, T, T, T, T, T, T, T, T, T, F, F, T, F, T, F, F, F, F, F] rfl rfl (by kernel_rfl) (fun _ _ _ h => h) (Or.inl ⟨by rfl, ?_⟩) ?_ ?_
    rotate_left
    ·intro w'
     go_simp
     with_reducible rfl
    rotate_left
    ·simp only [Act.put, sA, sZ, sS, i64_w, i32_w]
     rfl
    refine take_ (i := 39) (N := some 55) (v := ?_) (a' := ?_) #[T, T, T, T, T, T, T, T, T, T, T, T, T, T, T, T, T, T, T, T, T, T, T, T, T, T, T, T, T, T, T, T, T, T, T, T, T, T, T, T, F, T, F, T, F, F, F, F, F] rfl rfl (by kernel_rfl) (fun _ _ _ h => h) (Or.inl ⟨by rfl, ?_⟩) hHeld ?_ ?_
    rotate_left
    ·intro w' hS
     obtain ⟨hS, hM⟩ := hS
     have q0 := hS _ _ x0
     have q1 := hS _ _ x1
     have q3 := hS _ _ x3
     have q4 := hS _ _ z0
     have q5 := hS _ _ z1
     have q6 := hM.look hw0
     rw [HGG.out.1] at q6
     clear hS hM
     go_simp
     with_reducible rfl
    rotate_left
    ·simp only [Act.put, sA, sZ, sS, i64_w, i32_w]
     rfl
    refine take_ (i := 40) (N := some 56) (v := ?_) (a' := ?_) #[T, T, T, T, T, T, T, T, T, T, T, T, T, T, T, T, T, T, T, T, T, T, T, T, T, T, T, T, T, T, T, T, T, T, T, T, T, T, T, T, T, T, F, T, F, F, F, F, F] rfl rfl (by kernel_rfl) (fun _ _ _ h => h) (Or.inl ⟨by rfl, ?_⟩) hHeld ?_ ?_
    rotate_left
    ·intro w' hS
     obtain ⟨hS, hM⟩ := hS
     have q0 := hS _ _ x0
     have q1 := hS _ _ x1
     have q3 := hS _ _ x3
     have q4 := hS _ _ z0
     have q5 := hS _ _ z1
     have q6 := hM.look hw0
     rw [HGG.out.1] at q6
     clear hS hM
     go_simp
     with_reducible rfl
    rotate_left
    ·simp only [Act.put, sA, sZ, sS, i64_w, i32_w]
     rfl
    refine take_ (i := 42) (N := some 58) (v := ?_) (a' := ?_) #[T, T, T, T, T, T, T, T, T, T, T, T, T, T, T, T, T, T, T, T, T, T, T, T, T, T, T, T, T, T, T, T, T, T, T, T, T, T, T, T, T, T, T, T, F, F, F, F, F] rfl rfl (by kernel_rfl) (fun _ _ _ h => h) (Or.inl ⟨by rfl, ?_⟩) hHeld ?_ ?_
    rotate_left
    ·intro w' hS
     obtain ⟨hS, hM⟩ := hS
     have q0 := hS _ _ x0
     have q1 := hS _ _ x1
     have q3 := hS _ _ x3
     have q4 := hS _ _ z0
     have q5 := hS _ _ z1
     have q6 := hM.look hw0
     rw [HGG.out.1] at q6
     clear hS hM
     go_simp
     with_reducible rfl
    rotate_left
    ·simp only [Act.put, sA, sZ, sS, i64_w, i32_w]
     rfl
    refine take_ (i := 44) (N := some 60) (v := ?_) (a' := ?_) #[T, T, T, T, T, T, T, T, T, T, T, T, T, T, T, T, T, T, T, T, T, T, T, T, T, T, T, T, T, T, T, T, T, T, T, T, T, T, T, T, T, T, T, T, T, F, F, F, F] rfl rfl (by kernel_rfl) (fun _ _ _ h => h) (Or.inl ⟨by rfl, ?_⟩) hHeld ?_ ?_
    rotate_left
    ·intro w' hS
     obtain ⟨hS, hM⟩ := hS
     have q0 := hS _ _ x0
     have q1 := hS _ _ x1
     have q3 := hS _ _ x3
     have q4 := hS _ _ z0
     have q5 := hS _ _ z1
     have q6 := hM.look hw0
     rw [HGG.out.1] at q6
     clear hS hM
     go_simp
     with_reducible rfl
    rotate_left
    ·simp only [Act.put, sA, sZ, sS, i64_w, i32_w]
     rfl
    refine pure_ (i := 45) (N := some 61) (v := ?_) (a' := ?_) #[T, T, T, T, T, T, T, T, T, T, T, T, T, T, T, T, T, T, T, T, T, T, T, T, T, T, T, T, T, T, T, T, T, T, T, T, T, T, T, T, T, T, T, T, T, T, F, F, F] rfl rfl (by kernel_rfl) (fun _ _ _ h => h) (Or.inl ⟨by rfl, ?_⟩) ?_ ?_
    rotate_left
    ·intro w'
     go_simp
     with_reducible rfl
    rotate_left
    ·simp only [Act.put, sA, sZ, sS, i64_w, i32_w]
     rfl
    refine pure_ (i := 46) (N := some 62) (v := ?_) (a' := ?_) #[T, T, T, T, T, T, T, T, T, T, T, T, T, T, T, T, T, T, T, T, T, T, T, T, T, T, T, T, T, T, T, T, T, T, T, T, T, T, T, T, T, T, T, T, T, T, T, F, F] rfl rfl (by kernel_rfl) (fun _ _ _ h => h) (Or.inl ⟨by rfl, ?_⟩) ?_ ?_
    rotate_left
    ·intro w'
     go_simp
     with_reducible rfl
    rotate_left
    ·simp only [Act.put, sA, sZ, sS, i64_w, i32_w]
     rfl
    refine pure_ (i := 47) (N := some 63) (v := ?_) (a' := ?_) #[T, T, T, T, T, T, T, T, T, T, T, T, T, T, T, T, T, T, T, T, T, T, T, T, T, T, T, T, T, T, T, T, T, T, T, T, T, T, T, T, T, T, T, T, T, T, T, T, F] rfl rfl (by kernel_rfl) (fun _ _ _ h => h) (Or.inl ⟨by rfl, ?_⟩) ?_ ?_
    rotate_left
    ·intro w'
     go_simp
     with_reducible rfl
    rotate_left
    ·simp only [Act.put, sA, sZ, sS, i64_w, i32_w]
     rfl
    refine pure_ (i := 48) (N := some 64) (v := ?_) (a' := ?_) #[T, T, T, T, T, T, T, T, T, T, T, T, T, T, T, T, T, T, T, T, T, T, T, T, T, T, T, T, T, T, T, T, T, T, T, T, T, T, T, T, T, T, T, T, T, T, T, T, T] rfl rfl (by kernel_rfl) (fun _ _ _ h => h) (Or.inl ⟨by rfl, ?_⟩) ?_ ?_
    rotate_left
    ·intro w'
     go_simp
     with_reducible rfl
    rotate_left
    ·simp only [Act.put, sA, sZ, sS, i64_w, i32_w]
     rfl
    refine done_ (by kernel_rfl) ?_
    have hx0 : w4.cell? ⟨bx, 0, none⟩ = some (.int .i64 a0) := hHeld.1 _ _ x0
    have HM4 := Aside0.mk hHeld.2
    have HB4 := Aside0.mk (HBZ.out.trans (HD.out.mono HBZ.out.size))
    clear x0 x1 x3 z0 z1 hHeld d1 d2 d3 d4
    go_wp2_with (at_mapUpdate; refine wpList_MB (x := a0) rfl rfl rfl rfl rfl HM4.out (by unfold maxLen; omega) hw0 ?_; intro w5 hm2 hg2; have HM5 := Aside0.mk hm2; have HB5 := Aside0.mk (HB4.out.grown hg2 HB4.out.size (fun j e => by injection e with e; have := HBM.out; omega)); clear hm2 hg2)
    go_roundg (xs.length - (k + 1))
    case measure => omega
    case rel => exact ⟨k + 1, by omega, by omega, by first | go_num | (congr 1; unfold wrap64; omega), by rw [HUS.out]; exact HM5, HB5⟩
   ·obtain rfl : su = false := by rw [g7]; simpa using hse
    clear g7
    have HGG := Aside0.mk (And.intro g2 (And.intro g3 g4))
    have hw0 : wf64 a0 := by unfold wf64; omega
    have d1 : decide (a0 < 1) = false := decide_eq_false (by omega)
    have d2 : decide (64 < a0) = false := decide_eq_false (by omega)
    have d3 : decide (a1 < lo) = false := decide_eq_false (by omega)
    have d4 : decide (hi_ < a1) = false := decide_eq_false (by omega)
    clear HGC g1 g2 g3 g4 g5 g6
    go_wp2_with fail
    obtain ⟨wq, hwq⟩ : ∃ wq, (wr.alloc (.cells #[.int .i64 a0, .int .i64 a1, .int .i64 lo, .int .i64 hi_, .bool false] 46)).alloc (.cells #[.int .i64 lo, .int .i64 hi_] 35) = wq := ⟨_, rfl⟩
    have HX := Aside0.mk (show wq.heap[wr.heap.size]? = some (.cells #[.int .i64 a0, .int .i64 a1, .int .i64 lo, .int .i64 hi_, .bool false] 46) by rw [← hwq]; exact blk_alloc (heap_alloc_new wr _) _)
    have HY := Aside0.mk (show wq.heap[wr.heap.size + 1]? = some (.cells #[.int .i64 lo, .int .i64 hi_] 35) by rw [← hwq]; have h := heap_alloc_new (wr.alloc (.cells #[.int .i64 a0, .int .i64 a1, .int .i64 lo, .int .i64 hi_, .bool false] 46)) (.cells #[.int .i64 lo, .int .i64 hi_] 35); rwa [World.size_alloc] at h)
    have HBQ := Aside0.mk (show Below wr.heap.size wr wq by rw [← hwq]; exact ((Below.refl _ wr).alloc (Nat.le_refl _) _).alloc (by simp) _)
    rw [hwq]
    clear hwq y0 y1 y2 y3 y4
    have HMQ := Aside0.mk (HMB.out.below HBQ.out)
    have HBZ := Aside0.mk (HB.out.trans (HBQ.out.mono HB.out.size))
    generalize wr.heap.size + 1 = by_ at HY ⊢
    obtain ⟨bx, hbx⟩ : ∃ bx, wr.heap.size = bx := ⟨_, rfl⟩
    rw [hbx] at HX ⊢
    clear hbx
    have x0 : wq.cell? ⟨bx, 0, none⟩ = some (.int .i64 a0) := (blk_cell HX.out 0).trans rfl
    have x1 : wq.cell? ⟨bx, 1, none⟩ = some (.int .i64 a1) := (blk_cell HX.out 1).trans rfl
    have x3 : wq.cell? ⟨bx, 4, none⟩ = some (.bool false) := (blk_cell HX.out 4).trans rfl
    have z0 : wq.cell? ⟨by_, 0, none⟩ = some (.int .i64 lo) := (blk_cell HY.out 0).trans rfl
    have z1 : wq.cell? ⟨by_, 1, none⟩ = some (.int .i64 hi_) := (blk_cell HY.out 1).trans rfl
    refine start_ (n := 49) (S := fun W' => Ext wq W' ∧ MB W' bm k (usedB xs k)) (ds := []) #[F, F, F, F, F, F, F, F, F, F, F, F, F, F, F, F, F, F, F, F, F, F, F, F, F, F, F, F, F, F, F, F, F, F, F, F, F, F, F, F, F, F, F, F, F, F, F, F, F] (by kernel_rfl) rfl (by rfl) ⟨fun _ _ h => h, HMQ.out.below (below_drew (Below.refl _ _))⟩ (fun hHeld => ?_)
    have HD := Aside0.mk (show Below wq.heap.size wq wq.drew from (Below.refl _ _).drew)
    generalize wq.drew = wa at HD hHeld ⊢
    refine pure_ (i := 0) (N := some 16) (v := ?_) (a' := ?_) #[T, F, F, F, F, F, F, F, F, F, F, F, F, F, F, F, F, F, F, F, F, F, F, F, F, F, F, F, F, F, F, F, F, F, F, F, F, F, F, F, F, F, F, F, F, F, F, F, F] rfl rfl (by kernel_rfl) (fun _ _ _ h => h) (Or.inl ⟨by rfl, ?_⟩) ?_ ?_
    rotate_left
    ·intro w'
     go_simp
     with_reducible rfl
    rotate_left
    ·simp only [Act.put, sA, sZ, sS, i64_w, i32_w]
     rfl
    refine take_ (i := 1) (N := some 17) (v := ?_) (a' := ?_) #[T, T, F, F, F, F, F, F, F, F, F, F, F, F, F, F, F, F, F, F, F, F, F, F, F, F, F, F, F, F, F, F, F, F, F, F, F, F, F, F, F, F, F, F, F, F, F, F, F] rfl rfl (by kernel_rfl) (fun _ _ _ h => h) (Or.inl ⟨by rfl, ?_⟩) hHeld ?_ ?_
    rotate_left
    ·intro w' hS
     obtain ⟨hS, hM⟩ := hS
     have q0 := hS _ _ x0
     have q1 := hS _ _ x1
     have q3 := hS _ _ x3
     have q4 := hS _ _ z0
     have q5 := hS _ _ z1
     have q6 := hM.look hw0
     rw [HGG.out.1] at q6
     clear hS hM
     go_simp
     with_reducible rfl
    rotate_left
    ·simp only [Act.put, sA, sZ, sS, i64_w, i32_w]
     rfl
    refine pure_ (i := 2) (N := some 18) (v := ?_) (a' := ?_) #[T, T, T, F, F, F, F, F, F, F, F, F, F, F, F, F, F, F, F, F, F, F, F, F, F, F, F, F, F, F, F, F, F, F, F, F, F, F, F, F, F, F, F, F, F, F, F, F, F] rfl rfl (by kernel_rfl) (fun _ _ _ h => h) (Or.inl ⟨by rfl, ?_⟩) ?_ ?_
    rotate_left
    ·intro w'
     go_simp
     with_reducible rfl
    rotate_left
    ·simp only [Act.put, sA, sZ, sS, i64_w, i32_w]
     rfl
    refine pure_ (i := 3) (N := some 19) (v := ?_) (a' := ?_) #[T, T, T, T, F, F, F, F, F, F, F, F, F, F, F, F, F, F, F, F, F, F, F, F, F, F, F, F, F, F, F, F, F, F, F, F, F, F, F, F, F, F, F, F, F, F, F, F, F] rfl rfl (by kernel_rfl) (fun _ _ _ h => h) (Or.inl ⟨by rfl, ?_⟩) ?_ ?_
    rotate_left
    ·intro w'
     go_simp
     with_reducible rfl
    rotate_left
    ·simp only [Act.put, sA, sZ, sS, i64_w, i32_w]
     rfl
    refine pure_ (i := 4) (N := some 20) (v := ?_) (a' := ?_) #[T, T, T, T, T, F, F, F, F, F, F, F, F, F, F, F, F, F, F, F, F, F, F, F, F, F, F, F, F, F, F, F, F, F, F, F, F, F, F, F, F, F, F, F, F, F, F, F, F] rfl rfl (by kernel_rfl) (fun _ _ _ h => h) (Or.inl ⟨by rfl, ?_⟩) ?_ ?_
    rotate_left
    ·intro w'
     go_simp
     with_reducible rfl
    rotate_left
    ·simp only [Act.put, sA, sZ, sS, i64_w, i32_w]
     rfl
    refine take_ (i := 5) (N := some 21) (v := ?_) (a' := ?_) #[T, T, T, T, T, T, F, F, F, F, F, F, F, F, F, F, F, F, F, F, F, F, F, F, F, F, F, F, F, F, F, F, F, F, F, F, F, F, F, F, F, F, F, F, F, F, F, F, F] rfl rfl (by kernel_rfl) (fun _ _ _ h => h) (Or.inl ⟨by rfl, ?_⟩) hHeld ?_ ?_
    rotate_left
    ·intro w' hS
     obtain ⟨hS, hM⟩ := hS
     have q0 := hS _ _ x0
     have q1 := hS _ _ x1
     have q3 := hS _ _ x3
     have q4 := hS _ _ z0
     have q5 := hS _ _ z1
     have q6 := hM.look hw0
     rw [HGG.out.1] at q6
     clear hS hM
     go_simp
     with_reducible rfl
    rotate_left
    ·simp only [Act.put, sA, sZ, sS, i64_w, i32_w]
     rfl
    refine pure_ (i := 6) (N := some 22) (v := ?_) (a' := ?_) #[T, T, T, T, T, T, T, F, F, F, F, F, F, F, F, F, F, F, F, F, F, F, F, F, F, F, F, F, F, F, F, F, F, F, F, F, F, F, F, F, F, F, F, F, F, F, F, F, F] rfl rfl (by kernel_rfl) (fun _ _ _ h => h) (Or.inl ⟨by rfl, ?_⟩) ?_ ?_
    rotate_left
    ·intro w'
     go_simp
     with_reducible rfl
    rotate_left
    ·simp only [Act.put, sA, sZ, sS, i64_w, i32_w]
     rfl
    refine pure_ (i := 7) (N := some 23) (v := ?_) (a' := ?_) #[T, T, T, T, T, T, T, T, F, F, F, F, F, F, F, F, F, F, F, F, F, F, F, F, F, F, F, F, F, F, F, F, F, F, F, F, F, F, F, F, F, F, F, F, F, F, F, F, F] rfl rfl (by kernel_rfl) (fun _ _ _ h => h) (Or.inl ⟨by rfl, ?_⟩) ?_ ?_
    rotate_left
    ·intro w'
     go_simp
     with_reducible rfl
    rotate_left
    ·simp only [Act.put, sA, sZ, sS, i64_w, i32_w]
     rfl
    refine pure_ (i := 8) (N := some 24) (v := ?_) (a' := ?_) #[T, T, T, T, T, T, T, T, T, F, F, F, F, F, F, F, F, F, F, F, F, F, F, F, F, F, F, F, F, F, F, F, F, F, F, F, F, F, F, F, F, F, F, F, F, F, F, F, F] rfl rfl (by kernel_rfl) (fun _ _ _ h => h) (Or.inl ⟨by rfl, ?_⟩) ?_ ?_
    rotate_left
    ·intro w'
     go_simp
     with_reducible rfl
    rotate_left
    ·simp only [Act.put, sA, sZ, sS, i64_w, i32_w]
     rfl
    refine pure_ (i := 9) (N := some 25) (v := ?_) (a' := ?_) #[T, T, T, T, T, T, T, T, T, T, F, F, F, F, F, F, F, F, F, F, F, F, F, F, F, F, F, F, F, F, F, F, F, F, F, F, F, F, F, F, F, F, F, F, F, F, F, F, F] rfl rfl (by kernel_rfl) (fun _ _ _ h => h) (Or.inl ⟨by rfl, ?_⟩) ?_ ?_
    rotate_left
    ·intro w'
     go_simp
     with_reducible rfl
    rotate_left
    ·simp only [Act.put, sA, sZ, sS, i64_w, i32_w]
     rfl
    refine pure_ (i := 10) (N := some 26) (v := ?_) (a' := ?_) #[T, T, T, T, T, T, T, T, T, T, T, F, F, F, F, F, F, F, F, F, F, F, F, F, F, F, F, F, F, F, F, F, F, F, F, F, F, F, F, F, F, F, F, F, F, F, F, F, F] rfl rfl (by kernel_rfl) (fun _ _ _ h => h) (Or.inl ⟨by rfl, ?_⟩) ?_ ?_
    rotate_left
    ·intro w'
     go_simp
     with_reducible rfl
    rotate_left
    ·simp only [Act.put, sA, sZ, sS, i64_w, i32_w]
     rfl
    refine take_ (i := 11) (N := some 27) (v := ?_) (a' := ?_) #[T, T, T, T, T, T, T, T, T, T, T, T, F, F, F, F, F, F, F, F, F, F, F, F, F, F, F, F, F, F, F, F, F, F, F, F, F, F, F, F, F, F, F, F, F, F, F, F, F] rfl rfl (by kernel_rfl) (fun _ _ _ h => h) (Or.inl ⟨by rfl, ?_⟩) hHeld ?_ ?_
    rotate_left
    ·intro w' hS
     obtain ⟨hS, hM⟩ := hS
     have q0 := hS _ _ x0
     have q1 := hS _ _ x1
     have q3 := hS _ _ x3
     have q4 := hS _ _ z0
     have q5 := hS _ _ z1
     have q6 := hM.look hw0
     rw [HGG.out.1] at q6
     clear hS hM
     go_simp
     with_reducible rfl
    rotate_left
    ·simp only [Act.put, sA, sZ, sS, i64_w, i32_w]
     rfl
    refine take_ (i := 12) (N := some 28) (v := ?_) (a' := ?_) #[T, T, T, T, T, T, T, T, T, T, T, T, T, F, F, F, F, F, F, F, F, F, F, F, F, F, F, F, F, F, F, F, F, F, F, F, F, F, F, F, F, F, F, F, F, F, F, F, F] rfl rfl (by kernel_rfl) (fun _ _ _ h => h) (Or.inl ⟨by rfl, ?_⟩) hHeld ?_ ?_
    rotate_left
    ·intro w' hS
     obtain ⟨hS, hM⟩ := hS
     have q0 := hS _ _ x0
     have q1 := hS _ _ x1
     have q3 := hS _ _ x3
     have q4 := hS _ _ z0
     have q5 := hS _ _ z1
     have q6 := hM.look hw0
     rw [HGG.out.1] at q6
     clear hS hM
     go_simp
     with_reducible rfl
    rotate_left
    ·simp only [Act.put, sA, sZ, sS, i64_w, i32_w]
     rfl
    refine pure_ (i := 13) (N := some 29) (v := ?_) (a' := ?_) #[T, T, T, T, T, T, T, T, T, T, T, T, T, T, F, F, F, F, F, F, F, F, F, F, F, F, F, F, F, F, F, F, F, F, F, F, F, F, F, F, F, F, F, F, F, F, F, F, F] rfl rfl (by kernel_rfl) (fun _ _ _ h => h) (Or.inl ⟨by rfl, ?_⟩) ?_ ?_
    rotate_left
    ·intro w'
     go_simp
     with_reducible rfl
    rotate_left
    ·simp only [Act.put, sA, sZ, sS, i64_w, i32_w]
     rfl
    refine pure_ (i := 14) (N := some 30) (v := ?_) (a' := ?_) #[T, T, T, T, T, T, T, T, T, T, T, T, T, T, T, F, F, F, F, F, F, F, F, F, F, F, F, F, F, F, F, F, F, F, F, F, F, F, F, F, F, F, F, F, F, F, F, F, F] rfl rfl (by kernel_rfl) (fun _ _ _ h => h) (Or.inl ⟨by rfl, ?_⟩) ?_ ?_
    rotate_left
    ·intro w'
     go_simp
     with_reducible rfl
    rotate_left
    ·simp only [Act.put, sA, sZ, sS, i64_w, i32_w]
     rfl
    refine pure_ (i := 15) (N := some 31) (v := ?_) (a' := ?_) #[T, T, T, T, T, T, T, T, T, T, T, T, T, T, T, T, F, F, F, F, F, F, F, F, F, F, F, F, F, F, F, F, F, F, F, F, F, F, F, F, F, F, F, F, F, F, F, F, F] rfl rfl (by kernel_rfl) (fun _ _ _ h => h) (Or.inl ⟨by rfl, ?_⟩) ?_ ?_
    rotate_left
    ·intro w'
     go_simp
     with_reducible rfl
    rotate_left
    ·simp only [Act.put, sA, sZ, sS, i64_w, i32_w]
     rfl
    refine pure_ (i := 17) (N := some 33) (v := ?_) (a' := ?_) #[T, T, T, T, T, T, T, T, T, T, T, T, T, T, T, T, F, T, F, F, F, F, F, F, F, F, F, F, F, F, F, F, F, F, F, F, F, F, F, F, F, F, F, F, F, F, F, F, F] rfl rfl (by kernel_rfl) (fun _ _ _ h => h) (Or.inl ⟨by rfl, ?_⟩) ?_ ?_
    rotate_left
    ·intro w'
     go_simp
     with_reducible rfl
    rotate_left
    ·simp only [Act.put, sA, sZ, sS, i64_w, i32_w]
     rfl
    refine take_ (i := 16) (N := some 32) (v := ?_) (a' := ?_) #[T, T, T, T, T, T, T, T, T, T, T, T, T, T, T, T, T, T, F, F, F, F, F, F, F, F, F, F, F, F, F, F, F, F, F, F, F, F, F, F, F, F, F, F, F, F, F, F, F] rfl rfl (by kernel_rfl) (fun _ _ _ h => h) (Or.inl ⟨by rfl, ?_⟩) hHeld ?_ ?_
    rotate_left
    ·intro w' hS
     obtain ⟨hS, hM⟩ := hS
     have q0 := hS _ _ x0
     have q1 := hS _ _ x1
     have q3 := hS _ _ x3
     have q4 := hS _ _ z0
     have q5 := hS _ _ z1
     have q6 := hM.look hw0
     rw [HGG.out.1] at q6
     clear hS hM
     go_simp
     with_reducible rfl
    rotate_left
    ·simp only [Act.put, sA, sZ, sS, i64_w, i32_w]
     rfl
    refine take_ (i := 18) (N := some 34) (v := ?_) (a' := ?_) #[T, T, T, T, T, T, T, T, T, T, T, T, T, T, T, T, T, T, T, F, F, F, F, F, F, F, F, F, F, F, F, F, F, F, F, F, F, F, F, F, F, F, F, F, F, F, F, F, F] rfl rfl (by kernel_rfl) (fun _ _ _ h => h) (Or.inl ⟨by rfl, ?_⟩) hHeld ?_ ?_
    rotate_left
    ·intro w' hS
     obtain ⟨hS, hM⟩ := hS
     have q0 := hS _ _ x0
     have q1 := hS _ _ x1
     have q3 := hS _ _ x3
     have q4 := hS _ _ z0
     have q5 := hS _ _ z1
     have q6 := hM.look hw0
     rw [HGG.out.1] at q6
     clear hS hM
     go_simp
     with_reducible rfl
    rotate_left
    ·simp only [Act.put, sA, sZ, sS, i64_w, i32_w]
     rfl
    refine one_ (i := 19) (N := some 35) #[T, T, T, T, T, T, T, T, T, T, T, T, T, T, T, T, T, T, T, T, F, F, F, F, F, F, F, F, F, F, F, F, F, F, F, F, F, F, F, F, F, F, F, F, F, F, F, F, F] rfl rfl (by kernel_rfl) (by decide) (fun K hK => ?_)
    refine value_ (v := .slice (some ⟨wa.heap.size, 0, none⟩) 2 2) (w1 := wa.alloc (.cells #[.int .i64 lo, .int .i64 hi_] 3)) (by rfl) rfl (by first | (go_simp; done) | (go_simp; rfl)) ?_
    refine hK.out _ _ ⟨Ext.of_below hHeld.1 (below_alloc (Below.refl _ _) _), hHeld.2.below (below_alloc (Below.refl _ _) _)⟩ (fun hHeld => ?_)
    have HIC := Aside0.mk (isAmount_calls (some ⟨wa.heap.size, 0, none⟩) 2 [lo, hi_] (wa.alloc (.cells #[.int .i64 lo, .int .i64 hi_] 3)) (C_row encI (fun _ => rfl) (fun _ => rfl) (heap_alloc_new wa _) rfl (by simp)))
    rw [show [lo, hi_].any amountB = false by have h := HGG.out.2; simp [amountB]; omega] at HIC
    replace HD := Aside0.mk (HD.out.alloc HD.out.size (.cells #[.int .i64 lo, .int .i64 hi_] 3))
    generalize wa.alloc (.cells #[.int .i64 lo, .int .i64 hi_] 3) = wb at HD hHeld HIC ⊢
    clear hK K
    refine norm_ (a' := ?_) ?_ ?_
    rotate_left
    ·show Act.put _ (some 35) _ = _
     simp only [Act.put, sA, sZ, sS, i64_w, i32_w]
     rfl
    refine one_ (i := 20) (N := some 36) #[T, T, T, T, T, T, T, T, T, T, T, T, T, T, T, T, T, T, T, T, T, F, F, F, F, F, F, F, F, F, F, F, F, F, F, F, F, F, F, F, F, F, F, F, F, F, F, F, F] rfl rfl (by kernel_rfl) (by decide) (fun K hK => ?_)
    refine goes_ Try.func21 (by kernel_rfl) rfl #[.slice (some ⟨wa.heap.size, 0, none⟩) 2 2] (by rfl) rfl rfl (by simp [Act.eval]; done) ?_
    refine HIC.out.mono ?_
    rintro e w4 ⟨rfl, hb⟩
    refine ⟨_, rfl, hK.out _ _ ⟨Ext.of_below hHeld.1 hb, hHeld.2.below hb⟩ (fun hHeld => ?_)⟩
    replace HD := Aside0.mk (HD.out.trans (hb.mono HD.out.size))
    clear hb hK K
    refine norm_ (a' := ?_) ?_ ?_
    rotate_left
    ·show Act.put _ (some 36) _ = _
     simp only [Act.put, sA, sZ, sS, i64_w, i32_w]
     rfl
    refine pure_ (i := 21) (N := some 37) (v := ?_) (a' := ?_) #[T, T, T, T, T, T, T, T, T, T, T, T, T, T, T, T, T, T, T, T, T, T, F, F, F, F, F, F, F, F, F, F, F, F, F, F, F, F, F, F, F, F, F, F, F, F, F, F, F] rfl rfl (by kernel_rfl) (fun _ _ _ h => h) (Or.inl ⟨by rfl, ?_⟩) ?_ ?_
    rotate_left
    ·intro w'
     go_simp
     with_reducible rfl
    rotate_left
    ·simp only [Act.put, sA, sZ, sS, i64_w, i32_w]
     rfl
    refine pure_ (i := 22) (N := some 38) (v := ?_) (a' := ?_) #[T, T, T, T, T, T, T, T, T, T, T, T, T, T, T, T, T, T, T, T, T, T, T, F, F, F, F, F, F, F, F, F, F, F, F, F, F, F, F, F, F, F, F, F, F, F, F, F, F] rfl rfl (by kernel_rfl) (fun _ _ _ h => h) (Or.inl ⟨by rfl, ?_⟩) ?_ ?_
    rotate_left
    ·intro w'
     go_simp
     with_reducible rfl
    rotate_left
    ·simp only [Act.put, sA, sZ, sS, i64_w, i32_w]
     rfl
    refine pure_ (i := 23) (N := some 39) (v := ?_) (a' := ?_) #[T, T, T, T, T, T, T, T, T, T, T, T, T, T, T, T, T, T, T, T, T, T, T, T, F, F, F, F, F, F, F, F, F, F, F, F, F, F, F, F, F, F, F, F, F, F, F, F, F] rfl rfl (by kernel_rfl) (fun _ _ _ h => h) (Or.inl ⟨by rfl, ?_⟩) ?_ ?_
    rotate_left
    ·intro w'
     go_simp
     with_reducible rfl
    rotate_left
    ·simp only [Act.put, sA, sZ, sS, i64_w, i32_w]
     rfl
    refine pure_ (i := 24) (N := some 40) (v := ?_) (a' := ?_) #[T, T, T, T, T, T, T, T, T, T, T, T, T, T, T, T, T, T, T, T, T, T, T, T, T, F, F, F, F, F, F, F, F, F, F, F, F, F, F, F, F, F, F, F, F, F, F, F, F] rfl rfl (by kernel_rfl) (fun _ _ _ h => h) (Or.inl ⟨by rfl, ?_⟩) ?_ ?_
    rotate_left
    ·intro w'
     go_simp
     with_reducible rfl
    rotate_left
    ·simp only [Act.put, sA, sZ, sS, i64_w, i32_w]
     rfl
    refine pure_ (i := 26) (N := some 42) (v := ?_) (a' := ?_) #[T, T, T, T, T, T, T, T, T, T, T, T, T, T, T, T, T, T, T, T, T, T, T, T, T, F, T, F, F, F, F, F, F, F, F, F, F, F, F, F, F, F, F, F, F, F, F, F, F] rfl rfl (by kernel_rfl) (fun _ _ _ h => h) (Or.inl ⟨by rfl, ?_⟩) ?_ ?_
    rotate_left
    ·intro w'
     go_simp
     with_reducible rfl
    rotate_left
    ·simp only [Act.put, sA, sZ, sS, i64_w, i32_w]
     rfl
    refine take_ (i := 25) (N := some 41) (v := ?_) (a' := ?_) #[T, T, T, T, T, T, T, T, T, T, T, T, T, T, T, T, T, T, T, T, T, T, T, T, T, T, T, F, F, F, F, F, F, F, F, F, F, F, F, F, F, F, F, F, F, F, F, F, F] rfl rfl (by kernel_rfl) (fun _ _ _ h => h) (Or.inl ⟨by rfl, ?_⟩) hHeld ?_ ?_
    rotate_left
    ·intro w' hS
     obtain ⟨hS, hM⟩ := hS
     have q0 := hS _ _ x0
     have q1 := hS _ _ x1
     have q3 := hS _ _ x3
     have q4 := hS _ _ z0
     have q5 := hS _ _ z1
     have q6 := hM.look hw0
     rw [HGG.out.1] at q6
     clear hS hM
     go_simp
     with_reducible rfl
    rotate_left
    ·simp only [Act.put, sA, sZ, sS, i64_w, i32_w]
     rfl
    refine take_ (i := 27) (N := some 43) (v := ?_) (a' := ?_) #[T, T, T, T, T, T, T, T, T, T, T, T, T, T, T, T, T, T, T, T, T, T, T, T, T, T, T, T, F, F, F, F, F, F, F, F, F, F, F, F, F, F, F, F, F, F, F, F, F] rfl rfl (by kernel_rfl) (fun _ _ _ h => h) (Or.inl ⟨by rfl, ?_⟩) hHeld ?_ ?_
    rotate_left
    ·intro w' hS
     obtain ⟨hS, hM⟩ := hS
     have q0 := hS _ _ x0
     have q1 := hS _ _ x1
     have q3 := hS _ _ x3
     have q4 := hS _ _ z0
     have q5 := hS _ _ z1
     have q6 := hM.look hw0
     rw [HGG.out.1] at q6
     clear hS hM
     go_simp
     with_reducible rfl
    rotate_left
    ·simp only [Act.put, sA, sZ, sS, i64_w, i32_w]
     rfl
    refine pure_ (i := 28) (N := some 44) (v := ?_) (a' := ?_) #[T, T, T, T, T, T, T, T, T, T, T, T, T, T, T, T, T, T, T, T, T, T, T, T, T, T, T, T, T, F, F, F, F, F, F, F, F, F, F, F, F, F, F, F, F, F, F, F, F] rfl rfl (by kernel_rfl) (fun _ _ _ h => h) (Or.inl ⟨by rfl, ?_⟩) ?_ ?_
    rotate_left
    ·intro w'
     go_simp
     with_reducible rfl
    rotate_left
    ·simp only [Act.put, sA, sZ, sS, i64_w, i32_w]
     rfl
    refine pure_ (i := 29) (N := some 45) (v := ?_) (a' := ?_) #[T, T, T, T, T, T, T, T, T, T, T, T, T, T, T, T, T, T, T, T, T, T, T, T, T, T, T, T, T, T, F, F, F, F, F, F, F, F, F, F, F, F, F, F, F, F, F, F, F] rfl rfl (by kernel_rfl) (fun _ _ _ h => h) (Or.inl ⟨by rfl, ?_⟩) ?_ ?_
    rotate_left
    ·intro w'
     go_simp
     with_reducible rfl
    rotate_left
    ·simp only [Act.put, sA, sZ, sS, i64_w, i32_w]
     rfl
    refine pure_ (i := 30) (N := some 46) (v := ?_) (a' := ?_) #[T, T, T, T, T, T, T, T, T, T, T, T, T, T, T, T, T, T, T, T, T, T, T, T, T, T, T, T, T, T, T, F, F, F, F, F, F, F, F, F, F, F, F, F, F, F, F, F, F] rfl rfl (by kernel_rfl) (fun _ _ _ h => h) (Or.inl ⟨by rfl, ?_⟩) ?_ ?_
    rotate_left
    ·intro w'
     go_simp
     with_reducible rfl
    rotate_left
    ·simp only [Act.put, sA, sZ, sS, i64_w, i32_w]
     rfl
    refine pure_ (i := 31) (N := some 47) (v := ?_) (a' := ?_) #[T, T, T, T, T, T, T, T, T, T, T, T, T, T, T, T, T, T, T, T, T, T, T, T, T, T, T, T, T, T, T, T, F, F, F, F, F, F, F, F, F, F, F, F, F, F, F, F, F] rfl rfl (by kernel_rfl) (fun _ _ _ h => h) (Or.inl ⟨by rfl, ?_⟩) ?_ ?_
    rotate_left
    ·intro w'
     go_simp
     with_reducible rfl
    rotate_left
    ·simp only [Act.put, sA, sZ, sS, i64_w, i32_w]
     rfl
    refine pure_ (i := 33) (N := some 49) (v := ?_) (a' := ?_) #[T, T, T, T, T, T, T, T, T, T, T, T, T, T, T, T, T, T, T, T, T, T, T, T, T, T, T, T, T, T, T, T, F, T, F, F, F, F, F, F, F, F, F, F, F, F, F, F, F] rfl rfl (by kernel_rfl) (fun _ _ _ h => h) (Or.inl ⟨by rfl, ?_⟩) ?_ ?_
    rotate_left
    ·intro w'
     go_simp
     with_reducible rfl
    rotate_left
    ·simp only [Act.put, sA, sZ, sS, i64_w, i32_w]
     rfl
    refine take_ (i := 32) (N := some 48) (v := ?_) (a' := ?_) #[T, T, T, T, T, T, T, T, T, T, T, T, T, T, T, T, T, T, T, T, T, T, T, T, T, T, T, T, T, T, T, T, T, T, F, F, F, F, F, F, F, F, F, F, F, F, F, F, F] rfl rfl (by kernel_rfl) (fun _ _ _ h => h) (Or.inl ⟨by rfl, ?_⟩) hHeld ?_ ?_
    rotate_left
    ·intro w' hS
     obtain ⟨hS, hM⟩ := hS
     have q0 := hS _ _ x0
     have q1 := hS _ _ x1
     have q3 := hS _ _ x3
     have q4 := hS _ _ z0
     have q5 := hS _ _ z1
     have q6 := hM.look hw0
     rw [HGG.out.1] at q6
     clear hS hM
     go_simp
     with_reducible rfl
    rotate_left
    ·simp only [Act.put, sA, sZ, sS, i64_w, i32_w]
     rfl
    refine take_ (i := 34) (N := some 50) (v := ?_) (a' := ?_) #[T, T, T, T, T, T, T, T, T, T, T, T, T, T, T, T, T, T, T, T, T, T, T, T, T, T, T, T, T, T, T, T, T, T, T, F, F, F, F, F, F, F, F, F, F, F, F, F, F] rfl rfl (by kernel_rfl) (fun _ _ _ h => h) (Or.inl ⟨by rfl, ?_⟩) hHeld ?_ ?_
    rotate_left
    ·intro w' hS
     obtain ⟨hS, hM⟩ := hS
     have q0 := hS _ _ x0
     have q1 := hS _ _ x1
     have q3 := hS _ _ x3
     have q4 := hS _ _ z0
     have q5 := hS _ _ z1
     have q6 := hM.look hw0
     rw [HGG.out.1] at q6
     clear hS hM
     go_simp
     with_reducible rfl
    rotate_left
    ·simp only [Act.put, sA, sZ, sS, i64_w, i32_w]
     rfl
    refine pure_ (i := 35) (N := some 51) (v := ?_) (a' := ?_) #[T, T, T, T, T, T, T, T, T, T, T, T, T, T, T, T, T, T, T, T, T, T, T, T, T, T, T, T, T, T, T, T, T, T, T, T, F, F, F, F, F, F, F, F, F, F, F, F, F] rfl rfl (by kernel_rfl) (fun _ _ _ h => h) (Or.inl ⟨by rfl, ?_⟩) ?_ ?_
    rotate_left
    ·intro w'
     go_simp
     with_reducible rfl
    rotate_left
    ·simp only [Act.put, sA, sZ, sS, i64_w, i32_w]
     rfl
    refine pure_ (i := 36) (N := some 52) (v := ?_) (a' := ?_) #[T, T, T, T, T, T, T, T, T, T, T, T, T, T, T, T, T, T, T, T, T, T, T, T, T, T, T, T, T, T, T, T, T, T, T, T, T, F, F, F, F, F, F, F, F, F, F, F, F] rfl rfl (by kernel_rfl) (fun _ _ _ h => h) (Or.inl ⟨by rfl, ?_⟩) ?_ ?_
    rotate_left
    ·intro w'
     go_simp
     with_reducible rfl
    rotate_left
    ·simp only [Act.put, sA, sZ, sS, i64_w, i32_w]
     rfl
    refine pure_ (i := 37) (N := some 53) (v := ?_) (a' := ?_) #[T, T, T, T, T, T, T, T, T, T, T, T, T, T, T, T, T, T, T, T, T, T, T, T, T, T, T, T, T, T, T, T, T, T, T, T, T, T, F, F, F, F, F, F, F, F, F, F, F] rfl rfl (by kernel_rfl) (fun _ _ _ h => h) (Or.inl ⟨by rfl, ?_⟩) ?_ ?_
    rotate_left
    ·intro w'
     go_simp
     with_reducible rfl
    rotate_left
    ·simp only [Act.put, sA, sZ, sS, i64_w, i32_w]
     rfl
    refine pure_ (i := 38) (N := some 54) (v := ?_) (a' := ?_) #[T, T, T, T, T, T, T, T, T, T, T, T, T, T, T, T, T, T, T, T, T, T, T, T, T, T, T, T, T, T, T, T, T, T, T, T, T, T, T, F, F, F, F, F, F, F, F, F, F] rfl rfl (by kernel_rfl) (fun _ _ _ h => h) (Or.inl ⟨by rfl, ?_⟩) ?_ ?_
    rotate_left
    ·intro w'
     go_simp
     with_reducible rfl
    rotate_left
    ·simp only [Act.put, sA, sZ, sS, i64_w, i32_w]
     rfl
    refine pure_ (i := 41) (N := some 57) (v := ?_) (a' := ?_) #[T, T, T, T, T, T, T, T, T, T, T, T, T, T, T, T, T, T, T, T, T, T, T, T, T, T, T, T, T, T, T, T, T, T, T, T, T, T, T, F, F, T, F, F, F, F, F, F, F] rfl rfl (by kernel_rfl) (fun _ _ _ h => h) (Or.inl ⟨by rfl, ?_⟩) ?_ ?_
    rotate_left
    ·intro w'
     go_simp
     with_reducible rfl
    rotate_left
    ·simp only [Act.put, sA, sZ, sS, i64_w, i32_w]
     rfl
    refine pure_ (i := 43) (N := some 59) (v := ?_) (a' := ?_) #[T, T, T, T, T, T, T, T, T, T, T, T, T, T, T, T, T, T, T, T, T, T, T, T, T, T, T, T, T, T, T, T, T, T, T, T, T, T, T, F, F, T, F, T, F, F, F, F, F] rfl rfl (by kernel_rfl) (fun _ _ _ h => h) (Or.inl ⟨by rfl, ?_⟩) ?_ ?_
    rotate_left
    ·intro w'
     go_simp
     with_reducible rfl
    rotate_left
    ·simp only [Act.put, sA, sZ, sS, i64_w, i32_w]
     rfl
    refine take_ (i := 39) (N := some 55) (v := ?_) (a' := ?_) #[T, T, T, T, T, T, T, T, T, T, T, T, T, T, T, T, T, T, T, T, T, T, T, T, T, T, T, T, T, T, T, T, T, T, T, T, T, T, T, T, F, T, F, T, F, F, F, F, F] rfl rfl (by kernel_rfl) (fun _ _ _ h => h) (Or.inl ⟨by rfl, ?_⟩) hHeld ?_ ?_
    rotate_left
    ·intro w' hS
     obtain ⟨hS, hM⟩ := hS
     have q0 := hS _ _ x0
     have q1 := hS _ _ x1
     have q3 := hS _ _ x3
     have q4 := hS _ _ z0
     have q5 := hS _ _ z1
     have q6 := hM.look hw0
     rw [HGG.out.1] at q6
     clear hS hM
     go_simp
     with_reducible rfl
    rotate_left
    ·simp only [Act.put, sA, sZ, sS, i64_w, i32_w]
     rfl
    refine take_ (i := 40) (N := some 56) (v := ?_) (a' := ?_) #[T, T, T, T, T, T, T, T, T, T, T, T, T, T, T, T, T, T, T, T, T, T, T, T, T, T, T, T, T, T, T, T, T, T, T, T, T, T, T, T, T, T, F, T, F, F, F, F, F] rfl rfl (by kernel_rfl) (fun _ _ _ h => h) (Or.inl ⟨by rfl, ?_⟩) hHeld ?_ ?_
    rotate_left
    ·intro w' hS
     obtain ⟨hS, hM⟩ := hS
     have q0 := hS _ _ x0
     have q1 := hS _ _ x1
     have q3 := hS _ _ x3
     have q4 := hS _ _ z0
     have q5 := hS _ _ z1
     have q6 := hM.look hw0
     rw [HGG.out.1] at q6
     clear hS hM
     go_simp
     with_reducible rfl
    rotate_left
    ·simp only [Act.put, sA, sZ, sS, i64_w, i32_w]
     rfl
    refine take_ (i := 42) (N := some 58) (v := ?_) (a' := ?_) #[T, T, T, T, T, T, T, T, T, T, T, T, T, T, T, T, T, T, T, T, T, T, T, T, T, T, T, T, T, T, T, T, T, T, T, T, T, T, T, T, T, T, T, T, F, F, F, F, F] rfl rfl (by kernel_rfl) (fun _ _ _ h => h) (Or.inl ⟨by rfl, ?_⟩) hHeld ?_ ?_
    rotate_left
    ·intro w' hS
     obtain ⟨hS, hM⟩ := hS
     have q0 := hS _ _ x0
     have q1 := hS _ _ x1
     have q3 := hS _ _ x3
     have q4 := hS _ _ z0
     have q5 := hS _ _ z1
     have q6 := hM.look hw0
     rw [HGG.out.1] at q6
     clear hS hM
     go_simp
     with_reducible rfl
    rotate_left
    ·simp only [Act.put, sA, sZ, sS, i64_w, i32_w]
     rfl
    refine take_ (i := 44) (N := some 60) (v := ?_) (a' := ?_) #[T, T, T, T, T, T, T, T, T, T, T, T, T, T, T, T, T, T, T, T, T, T, T, T, T, T, T, T, T, T, T, T, T, T, T, T, T, T, T, T, T, T, T, T, T, F, F, F, F] rfl rfl (by kernel_rfl) (fun _ _ _ h => h) (Or.inl ⟨by rfl, ?_⟩) hHeld ?_ ?_
    rotate_left
    ·intro w' hS
     obtain ⟨hS, hM⟩ := hS
     have q0 := hS _ _ x0
     have q1 := hS _ _ x1
     have q3 := hS _ _ x3
     have q4 := hS _ _ z0
     have q5 := hS _ _ z1
     have q6 := hM.look hw0
     rw [HGG.out.1] at q6
     clear hS hM
     go_simp
     with_reducible rfl
    rotate_left
    ·simp only [Act.put, sA, sZ, sS, i64_w, i32_w]
     rfl
    refine pure_ (i := 45) (N := some 61) (v := ?_) (a' := ?_) #[T, T, T, T, T, T, T, T, T, T, T, T, T, T, T, T, T, T, T, T, T, T, T, T, T, T, T, T, T, T, T, T, T, T, T, T, T, T, T, T, T, T, T, T, T, T, F, F, F] rfl rfl (by kernel_rfl) (fun _ _ _ h => h) (Or.inl ⟨by rfl, ?_⟩) ?_ ?_
    rotate_left
    ·intro w'
     go_simp
     with_reducible rfl
    rotate_left
    ·simp only [Act.put, sA, sZ, sS, i64_w, i32_w]
     rfl
    refine pure_ (i := 46) (N := some 62) (v := ?_) (a' := ?_) #[T, T, T, T, T, T, T, T, T, T, T, T, T, T, T, T, T, T, T, T, T, T, T, T, T, T, T, T, T, T, T, T, T, T, T, T, T, T, T, T, T, T, T, T, T, T, T, F, F] rfl rfl (by kernel_rfl) (fun _ _ _ h => h) (Or.inl ⟨by rfl, ?_⟩) ?_ ?_
    rotate_left
    ·intro w'
     go_simp
     with_reducible rfl
    rotate_left
    ·simp only [Act.put, sA, sZ, sS, i64_w, i32_w]
     rfl
    refine pure_ (i := 47) (N := some 63) (v := ?_) (a' := ?_) #[T, T, T, T, T, T, T, T, T, T, T, T, T, T, T, T, T, T, T, T, T, T, T, T, T, T, T, T, T, T, T, T, T, T, T, T, T, T, T, T, T, T, T, T, T, T, T, T, F] rfl rfl (by kernel_rfl) (fun _ _ _ h => h) (Or.inl ⟨by rfl, ?_⟩) ?_ ?_
    rotate_left
    ·intro w'
     go_simp
     with_reducible rfl
    rotate_left
    ·simp only [Act.put, sA, sZ, sS, i64_w, i32_w]
     rfl
    refine pure_ (i := 48) (N := some 64) (v := ?_) (a' := ?_) #[T, T, T, T, T, T, T, T, T, T, T, T, T, T, T, T, T, T, T, T, T, T, T, T, T, T, T, T, T, T, T, T, T, T, T, T, T, T, T, T, T, T, T, T, T, T, T, T, T] rfl rfl (by kernel_rfl) (fun _ _ _ h => h) (Or.inl ⟨by rfl, ?_⟩) ?_ ?_
    rotate_left
    ·intro w'
     go_simp
     with_reducible rfl
    rotate_left
    ·simp only [Act.put, sA, sZ, sS, i64_w, i32_w]
     rfl
    refine done_ (by kernel_rfl) ?_
    have hx0 : w4.cell? ⟨bx, 0, none⟩ = some (.int .i64 a0) := hHeld.1 _ _ x0
    have HM4 := Aside0.mk hHeld.2
    have HB4 := Aside0.mk (HBZ.out.trans (HD.out.mono HBZ.out.size))
    clear x0 x1 x3 z0 z1 hHeld d1 d2 d3 d4
    go_wp2_with (at_mapUpdate; refine wpList_MB (x := a0) rfl rfl rfl rfl rfl HM4.out (by unfold maxLen; omega) hw0 ?_; intro w5 hm2 hg2; have HM5 := Aside0.mk hm2; have HB5 := Aside0.mk (HB4.out.grown hg2 HB4.out.size (fun j e => by injection e with e; have := HBM.out; omega)); clear hm2 hg2)
    go_roundg (xs.length - (k + 1))
    case measure => omega
    case rel => exact ⟨k + 1, by omega, by omega, by first | go_num | (congr 1; unfold wrap64; omega), by rw [HUS.out]; exact HM5, HB5⟩
  ·have hi : ¬ (k : Int) < (xs.length : Int) := by omega
   go_wp2
   go_ret
   exact ⟨by first | rfl | (simp; omega), HB.out⟩
end
section
-- The contracts of slices.EqualFunc over charges, and of settle's pairs, where the lists belong together.
attribute [local go_sem] max2_int min2_int
set_option linter.unusedVariables false
set_option linter.unusedSimpArgs false
set_option maxHeartbeats 4000000 in
set_option maxRecDepth 100000 in
theorem equal_calls (A : Option Addr) (c : Nat) (xs : List S46) (A1 : Option Addr) (c1 : Nat) (ys : List S46) (n : Nat) (w : World) (hx : Kd.C k46 w A n xs) (hy : Kd.C k46 w A1 n ys) (hn : n ≤ 64) (hh : ∀ k : Nat, k < n → (rd_T46 xs k).f0 = (rd_T46 ys k).f0) :
  Calls Try.prog 35 #[.slice A n c, .slice A1 n c1, .func (.func 33) #[] #[]] w fun e w' => e = .returned (.bool true) ∧ Below w.heap.size w w' := by
 have HX := Aside0.mk hx
 have HY := Aside0.mk hy
 have HH := Aside0.mk hh
 have hnI : (n : Int) ≤ 64 := by omega
 have he := enters_ Try.func33 (by kernel_rfl) rfl
 clear hx hy hh
 go_enter Try.func35, Try.ntmps35
 go_wp2_with fail
 go_loopg [17] n (fun gg s17 wr => ∃ k : Nat, k ≤ n ∧ n - k ≤ gg ∧ s17 = .int .i64 k ∧ Aside0 (Below w.heap.size w wr))
 case atStart => exact ⟨0, Nat.zero_le _, by omega, rfl, ⟨Below.refl _ _⟩⟩
 case round =>
  obtain ⟨k, hk, hgg, rfl, HB⟩ := hrel
  by_cases hlt : k < n
  ·have hi : (k : Int) < (n : Int) := by omega
   obtain ⟨ad, e0, y0, y1, y2, y3, y4⟩ := at_T46 HX.out (k : Int) (by omega) hi
   cases e0
   obtain ⟨ad1, e0, u0, u1, u2, u3, u4⟩ := at_T46 HY.out (k : Int) (by omega) hi
   cases e0
   simp only [Int.toNat_natCast] at y0 y1 y2 y3 y4 u0 u1 u2 u3 u4
   replace y0 := (HB.out.cell (World.block_lt_of_cell? w _ y0)).trans y0
   replace y1 := (HB.out.cell (World.block_lt_of_cell? w _ y1)).trans y1
   replace y2 := (HB.out.cell (World.block_lt_of_cell? w _ y2)).trans y2
   replace y3 := (HB.out.cell (World.block_lt_of_cell? w _ y3)).trans y3
   replace y4 := (HB.out.cell (World.block_lt_of_cell? w _ y4)).trans y4
   have HHK := Aside0.mk (HH.out k hlt)
   have HLU := Aside0.mk (And.intro u0 (And.intro u1 (And.intro u2 (And.intro u3 u4))))
   clear u0 u1 u2 u3 u4
   generalize rd_T46 xs (k : Int) = x at y0 y1 y2 y3 y4 HHK
   generalize rd_T46 ys (k : Int) = y at HLU HHK
   have HBA := Aside0.mk (HB.out.alloc HB.out.size (.cells #[.int .i64 x.f0, .int .i64 x.f1, .int .i64 x.f2.f0, .int .i64 x.f2.f1, .bool x.f3] 46))
   obtain ⟨u0, u1, u2, u3, u4⟩ := HLU.out
   replace u0 := (HB.out.cell (World.block_lt_of_cell? w _ u0)).trans u0
   replace u1 := (HB.out.cell (World.block_lt_of_cell? w _ u1)).trans u1
   replace u2 := (HB.out.cell (World.block_lt_of_cell? w _ u2)).trans u2
   replace u3 := (HB.out.cell (World.block_lt_of_cell? w _ u3)).trans u3
   replace u4 := (HB.out.cell (World.block_lt_of_cell? w _ u4)).trans u4
   have t0 := ((below_alloc (Below.refl _ wr) (.cells #[.int .i64 x.f0, .int .i64 x.f1, .int .i64 x.f2.f0, .int .i64 x.f2.f1, .bool x.f3] 46)).cell (World.block_lt_of_cell? wr _ u0)).trans u0
   have t1 := ((below_alloc (Below.refl _ wr) (.cells #[.int .i64 x.f0, .int .i64 x.f1, .int .i64 x.f2.f0, .int .i64 x.f2.f1, .bool x.f3] 46)).cell (World.block_lt_of_cell? wr _ u1)).trans u1
   have t2 := ((below_alloc (Below.refl _ wr) (.cells #[.int .i64 x.f0, .int .i64 x.f1, .int .i64 x.f2.f0, .int .i64 x.f2.f1, .bool x.f3] 46)).cell (World.block_lt_of_cell? wr _ u2)).trans u2
   have t3 := ((below_alloc (Below.refl _ wr) (.cells #[.int .i64 x.f0, .int .i64 x.f1, .int .i64 x.f2.f0, .int .i64 x.f2.f1, .bool x.f3] 46)).cell (World.block_lt_of_cell? wr _ u3)).trans u3
   have t4 := ((below_alloc (Below.refl _ wr) (.cells #[.int .i64 x.f0, .int .i64 x.f1, .int .i64 x.f2.f0, .int .i64 x.f2.f1, .bool x.f3] 46)).cell (World.block_lt_of_cell? wr _ u4)).trans u4
   clear u0 u1 u2 u3 u4 HLU
   go_wp2_with fail
   refine (sameHome_calls x y _).mono ?_
   rintro e w5 ⟨rfl, hb⟩
   rw [show (x.f0 == y.f0) = true by rw [HHK.out]; simp]
   have HB5 := Aside0.mk ((HBA.out.alloc HBA.out.size (.cells #[.int .i64 y.f0, .int .i64 y.f1, .int .i64 y.f2.f0, .int .i64 y.f2.f1, .bool y.f3] 46)).trans (hb.mono (HBA.out.alloc HBA.out.size _).size))
   clear hb y0 y1 y2 y3 y4 t0 t1 t2 t3 t4
   go_wp2
   go_roundg (n - (k + 1))
   case measure => omega
   case rel => exact ⟨k + 1, by omega, by omega, by first | go_num | (congr 1; unfold wrap64; omega), HB5⟩
  ·have hi : ¬ (k : Int) < (n : Int) := by omega
   go_wp2
   go_ret
   exact ⟨rfl, HB.out⟩
set_option maxHeartbeats 4000000 in
set_option maxRecDepth 100000 in
theorem pairs_calls (A : Option Addr) (c : Nat) (xs : List S46) (A1 : Option Addr) (c1 : Nat) (ys : List S46) (n : Nat) (w : World) (hx : Kd.C k46 w A n xs) (hy : Kd.C k46 w A1 n ys) (hn : n ≤ 64)
  (hgx : ∀ k : Nat, k < n → GoodC xs k) (hgy : ∀ k : Nat, k < n → GoodC ys k) (hh : ∀ k : Nat, k < n → (rd_T46 xs k).f0 = (rd_T46 ys k).f0) :
  Calls Try.prog 20 #[.slice A n c, .slice A1 n c1] w fun e w' => e = .returned (.tuple #[.func (.func 36) #[] #[.pointer (some ⟨w.heap.size, 0, none⟩), .pointer (some ⟨w.heap.size + 1, 0, none⟩)], .bool true]) ∧
   w'.heap[w.heap.size]? = some (.cells #[.slice A n c] 36) ∧ w'.heap[w.heap.size + 1]? = some (.cells #[.slice A1 n c1] 36) ∧ Below w.heap.size w w' := by
 have hxl := hx.1
 have hyl := hy.1
 have HC1 := Aside0.mk (fun W (hb : Below w.heap.size w W) => charges_calls A c xs W (by rw [hxl]; exact Kd.C_below hx hb) (by omega) (by rw [hxl]; exact hgx))
 have HC2 := Aside0.mk (fun W (hb : Below w.heap.size w W) => charges_calls A1 c1 ys W (by rw [hyl]; exact Kd.C_below hy hb) (by omega) (by rw [hyl]; exact hgy))
 have HC3 := Aside0.mk (fun W (hb : Below w.heap.size w W) => equal_calls A c xs A1 c1 ys n W (Kd.C_below hx hb) (Kd.C_below hy hb) hn hh)
 rw [hxl] at HC1
 rw [hyl] at HC2
 clear hx hy hgx hgy hh hxl hyl
 go_enter Try.func20, Try.ntmps20
 go_wp2_with fail
 obtain ⟨w1, hw1⟩ : ∃ w1, (w.alloc (.cells #[.slice A n c] 36)).alloc (.cells #[.slice A1 n c1] 36) = w1 := ⟨_, rfl⟩
 have HX := Aside0.mk (show w1.heap[w.heap.size]? = some (.cells #[.slice A n c] 36) by rw [← hw1]; exact blk_alloc (heap_alloc_new w _) _)
 have HY := Aside0.mk (show w1.heap[w.heap.size + 1]? = some (.cells #[.slice A1 n c1] 36) by rw [← hw1]; have h := heap_alloc_new (w.alloc (.cells #[.slice A n c] 36)) (.cells #[.slice A1 n c1] 36); rwa [World.size_alloc] at h)
 have HB := Aside0.mk (show Below w.heap.size w w1 by rw [← hw1]; exact ((Below.refl _ w).alloc (Nat.le_refl _) _).alloc (by simp) _)
 rw [hw1]
 clear hw1
 refine (HC1.out _ HB.out).mono ?_
 rintro e w2 ⟨rfl, hb⟩
 replace HX := Aside0.mk ((hb.block _ (blk_lt HX.out)).trans HX.out)
 replace HY := Aside0.mk ((hb.block _ (blk_lt HY.out)).trans HY.out)
 replace HB := Aside0.mk (HB.out.trans (hb.mono HB.out.size))
 clear hb
 have x0 : w2.cell? ⟨w.heap.size, 0, none⟩ = some (.slice A n c) := (blk_cell HX.out 0).trans rfl
 have y0 : w2.cell? ⟨w.heap.size + 1, 0, none⟩ = some (.slice A1 n c1) := (blk_cell HY.out 0).trans rfl
 go_wp2_with fail
 refine (HC2.out _ HB.out).mono ?_
 clear x0 y0
 rintro e w3 ⟨rfl, hb⟩
 replace HX := Aside0.mk ((hb.block _ (blk_lt HX.out)).trans HX.out)
 replace HY := Aside0.mk ((hb.block _ (blk_lt HY.out)).trans HY.out)
 replace HB := Aside0.mk (HB.out.trans (hb.mono HB.out.size))
 clear hb
 have x0 : w3.cell? ⟨w.heap.size, 0, none⟩ = some (.slice A n c) := (blk_cell HX.out 0).trans rfl
 have y0 : w3.cell? ⟨w.heap.size + 1, 0, none⟩ = some (.slice A1 n c1) := (blk_cell HY.out 0).trans rfl
 go_wp2_with fail
 refine (HC3.out _ HB.out).mono ?_
 clear x0 y0
 rintro e w4 ⟨rfl, hb⟩
 replace HX := Aside0.mk ((hb.block _ (blk_lt HX.out)).trans HX.out)
 replace HY := Aside0.mk ((hb.block _ (blk_lt HY.out)).trans HY.out)
 replace HB := Aside0.mk (HB.out.trans (hb.mono HB.out.size))
 clear hb
 go_wp2
 exact bodyPost_ret (v := .tuple #[.func (.func 36) #[] #[.pointer (some ⟨w.heap.size, 0, none⟩), .pointer (some ⟨w.heap.size + 1, 0, none⟩)], .bool true]) (by simp [results, Try.results20, go_sem]) rfl ⟨rfl, HX.out, HY.out, HB.out⟩
end
end Go.Proofs.Ytgjkhifhiggflaa.Own
