/- What w11Between makes, and the walk of TopBetween where there are no bounds, the law as a hypothesis. -/
import Derived.Test.YtgjkhifhiggflaaPTopBetweenx3
import Derived.Test.YtgjkhifhiggflaaPTopBetweenx4
import Derived.Test.YtgjkhifhiggflaaK4
import Derived.Test.YtgjkhifhiggflaaK5
namespace Go.Proofs.Ytgjkhifhiggflaa.Own
open Go.RowKit Go.Lib Go.Proofs.YtgjkhifhiggflaaW.PrintWords Go.Proofs.YtgjkhifhiggflaaW.PrintLast Go.Proofs.YtgjkhifhiggflaaW.PrintMore Go.Proofs.Ytgjkhifhiggflaa.PTopBetween
section
-- Small laws of TopBetween's own helpers: equal lists are found equal.
set_option linter.unusedVariables false
theorem sameCharges_l0 (xs : List S46) (hn : xs.length ≤ 1000000) : ∀ (d k i : Nat), i + d = xs.length → d < k → cohousingtop_w11SameCharges.l0 k xs xs (i : Int) = some true := by
 intro d
 induction d with
 | zero =>
  intro k i hi hk
  obtain ⟨k, rfl⟩ : ∃ m, k = m + 1 := ⟨k - 1, by omega⟩
  simp only [cohousingtop_w11SameCharges.l0]
  rw [if_neg (by omega)]
 | succ d ih =>
  intro k i hi hk
  obtain ⟨k, rfl⟩ : ∃ m, k = m + 1 := ⟨k - 1, by omega⟩
  simp only [cohousingtop_w11SameCharges.l0]
  rw [if_pos (by omega), if_pos (by omega), if_pos (by omega), if_neg (by simp)]
  have e : wrap64 ((i : Int) + 1) = ((i + 1 : Nat) : Int) := by unfold wrap64; omega
  rw [e]
  exact ih k (i + 1) (by omega) (by omega)
theorem sameCharges_f (xs : List S46) (hn : xs.length ≤ 1000000) : cohousingtop_w11SameCharges.f (xs.length + 1) xs xs = some true := by
 unfold cohousingtop_w11SameCharges.f
 rw [if_pos rfl]
 exact sameCharges_l0 xs hn xs.length (xs.length + 1) 0 (by omega) (by omega)
theorem sameInts_l0 (xs : List Int) (hn : xs.length ≤ 1000000) : ∀ (d k i : Nat), i + d = xs.length → d < k → cohousingref12_SameInts.l0 k xs xs (i : Int) = some true := by
 intro d
 induction d with
 | zero =>
  intro k i hi hk
  obtain ⟨k, rfl⟩ : ∃ m, k = m + 1 := ⟨k - 1, by omega⟩
  simp only [cohousingref12_SameInts.l0]
  rw [if_neg (by omega)]
 | succ d ih =>
  intro k i hi hk
  obtain ⟨k, rfl⟩ : ∃ m, k = m + 1 := ⟨k - 1, by omega⟩
  simp only [cohousingref12_SameInts.l0]
  rw [if_pos (by omega), if_pos (by omega), if_pos (by omega), if_pos trivial]
  have e : wrap64 ((i : Int) + 1) = ((i + 1 : Nat) : Int) := by unfold wrap64; omega
  rw [e]
  exact ih k (i + 1) (by omega) (by omega)
theorem sameInts_f (xs : List Int) (hn : xs.length ≤ 1000000) : cohousingref12_SameInts.f (xs.length + 1) xs xs = some true := by
 unfold cohousingref12_SameInts.f
 rw [if_pos rfl]
 exact sameInts_l0 xs hn xs.length (xs.length + 1) 0 (by omega) (by omega)
end
section
-- What w11Between makes of pipes.
set_option linter.unusedVariables false
/-- A pipe that is put in above pipe i; is there one? -/
def putIn (at_ : List Int) (i : Nat) : Bool := decide (i < at_.length) && decide (Int.tmod (rd at_ i) 2 = 1)
def bStep (ls : List S28) (known : List S35) (at_ : List Int) (i : Nat) (s : List S28 × List S35 × List Int) : List S28 × List S35 × List Int :=
 if putIn at_ i = true then
  ((s.1 ++ [⟨wrap64 ((wrap64 (2 * ((rd_T28 ls i).f0))) - 1), wrap64 (2 * ((rd_T28 ls i).f1)), 0⟩]) ++ [⟨wrap64 (2 * ((rd_T28 ls i).f0)), wrap64 ((wrap64 (2 * ((rd_T28 ls i).f0))) - 1), (rd_T28 ls i).f2⟩],
   (s.2.1 ++ [⟨0, 1000000000⟩]) ++ [⟨(rd_T35 known i).f0, (rd_T35 known i).f1⟩], s.2.2 ++ [((s.1 ++ [(⟨wrap64 ((wrap64 (2 * ((rd_T28 ls i).f0))) - 1), wrap64 (2 * ((rd_T28 ls i).f1)), 0⟩ : S28)]).length : Int)])
 else (s.1 ++ [⟨wrap64 (2 * ((rd_T28 ls i).f0)), wrap64 (2 * ((rd_T28 ls i).f1)), (rd_T28 ls i).f2⟩], s.2.1 ++ [⟨(rd_T35 known i).f0, (rd_T35 known i).f1⟩], s.2.2 ++ [(s.1.length : Int)])
def bTo (ls : List S28) (known : List S35) (at_ : List Int) : Nat → List S28 × List S35 × List Int
 | 0 => ([], [], [])
 | k + 1 => bStep ls known at_ k (bTo ls known at_ k)
theorem bTo_small (ls : List S28) (known : List S35) (at_ : List Int) : ∀ k, (bTo ls known at_ k).1.length ≤ 2 * k ∧ (bTo ls known at_ k).2.1.length ≤ 2 * k ∧ (bTo ls known at_ k).2.2.length = k
 | 0 => ⟨by simp [bTo], by simp [bTo], rfl⟩
 | k + 1 => by
  obtain ⟨h1, h2, h3⟩ := bTo_small ls known at_ k
  show (bStep ls known at_ k (bTo ls known at_ k)).1.length ≤ _ ∧ (bStep ls known at_ k (bTo ls known at_ k)).2.1.length ≤ _ ∧ (bStep ls known at_ k (bTo ls known at_ k)).2.2.length = _
  unfold bStep
  split <;> simp <;> omega
theorem between_l0 (ls : List S28) (known : List S35) (at_ : List Int) (hk : known.length = ls.length) (hn : ls.length ≤ 1000) : ∀ (d k i : Nat), i + d = ls.length → 2 * d + 1 < k →
  cohousingtop_w11Between.l0 k ls known at_ (bTo ls known at_ i).1 (bTo ls known at_ i).2.1 (bTo ls known at_ i).2.2 (i : Int) = some (bTo ls known at_ ls.length) := by
 intro d
 induction d with
 | zero =>
  intro k i hi hk2
  obtain ⟨k, rfl⟩ : ∃ m, k = m + 2 := ⟨k - 2, by omega⟩
  obtain rfl : i = ls.length := by omega
  simp only [cohousingtop_w11Between.l0]
  rw [if_neg (by omega)]
  simp only [cohousingtop_w11Between.j1]
  rw [if_neg (by simp)]
 | succ d ih =>
  intro k i hi hk2
  obtain ⟨k, rfl⟩ : ∃ m, k = m + 2 := ⟨k - 2, by omega⟩
  have e : wrap64 ((i : Int) + 1) = ((i + 1 : Nat) : Int) := by unfold wrap64; omega
  have ih2 := ih k (i + 1) (by omega) (by omega)
  have hs := bTo_small ls known at_ i
  have hst : bTo ls known at_ (i + 1) = bStep ls known at_ i (bTo ls known at_ i) := rfl
  rw [hst] at ih2
  generalize bTo ls known at_ i = s at hs ih2 ⊢
  simp only [cohousingtop_w11Between.l0]
  rw [if_pos (by omega)]
  simp only [cohousingtop_w11Between.j1]
  rw [if_pos (by rw [decide_eq_true_eq]; omega), if_pos (by omega), if_pos (by omega)]
  by_cases h1 : i < at_.length
  ·rw [if_pos (by omega)]
   by_cases h2 : Int.tmod (rd at_ i) 2 = 1
   ·have hp : putIn at_ i = true := by unfold putIn; simp [h1, h2]
    unfold bStep at ih2
    rw [if_pos hp] at ih2
    rw [if_pos h2, if_pos (by omega)]
    simp only [Option.bind_some]
    rw [if_pos (by omega), if_pos (by omega), if_pos (by simp; omega), if_pos (by omega), if_pos (by simp; omega), e]
    exact ih2
   ·have hp : ¬ putIn at_ i = true := by unfold putIn; simp [h2]
    unfold bStep at ih2
    rw [if_neg hp] at ih2
    rw [if_neg h2, if_pos (by omega), if_pos (by omega), if_pos (by omega), if_pos (by omega), e]
    exact ih2
  ·have hp : ¬ putIn at_ i = true := by unfold putIn; simp [h1]
   unfold bStep at ih2
   rw [if_neg hp] at ih2
   rw [if_neg (by omega), if_pos (by omega), if_pos (by omega), if_pos (by omega), if_pos (by omega), e]
   exact ih2
theorem between_f (ls : List S28) (known : List S35) (at_ : List Int) (hk : known.length = ls.length) (hn : ls.length ≤ 1000) : cohousingtop_w11Between.f (2 * ls.length + 2) ls known at_ = some (bTo ls known at_ ls.length) :=
 between_l0 ls known at_ hk hn ls.length (2 * ls.length + 2) 0 (by omega) (by omega)
end
section
-- What the law says of the longer network, in plain lists; how many charges there can be.
set_option linter.unusedVariables false
/-- Pipes that the code lets through. -/
def inOrder (ls : List S28) : Prop := ∀ k : Nat, k < ls.length → 1 ≤ (rd_T28 ls k).f0 ∧ (rd_T28 ls k).f0 ≤ 1000000 ∧ 0 ≤ (rd_T28 ls k).f1 ∧ (rd_T28 ls k).f1 ≤ 1000000
/-- What the law says of the longer network. -/
structure LawOk (c : Int) (ls : List S28) (known : List S35) (homes : List Int) (m : List S28) (ranges : List S35) (place : List Int) (v : Int) : Prop where
 len : ranges.length = m.length ∧ m.length ≤ 40 ∧ place.length = ls.length
 wf : ∀ p ∈ m, wf64 p.f0 ∧ wf64 p.f1
 at_ : ∀ i : Nat, i < ls.length → 0 ≤ rd place i ∧ rd place i < m.length
 flag : (boundsM m ranges).2 = (boundsM ls known).2
 same : (boundsM ls known).2 = 0 → ∀ i : Nat, i < ls.length → rd_T35 (boundsM ls known).1 i = rd_T35 (boundsM m ranges).1 (rd place i)
 new : (boundsM ls known).2 = 0 → ∀ i : Nat, i < ls.length → 0 < rd place i → (rd_T28 m (rd place i)).f1 = wrap64 ((rd_T28 m (rd place i)).f0 - 1) → (rd_T28 m (wrap64 (rd place i - 1))).f0 = (rd_T28 m (rd place i)).f1 →
  rd_T35 (boundsM m ranges).1 (wrap64 (rd place i - 1)) = rd_T35 (boundsM ls known).1 i
 net : networkM c m ranges homes = networkM c ls known homes
 flag2 : ∀ i : Nat, i < ls.length → (stateM m ranges (rd place i) v).2 = (stateM ls known i v).2
 state : ∀ i : Nat, i < ls.length → (stateM ls known i v).2 = 0 → (stateM m ranges (rd place i) v).1.length = m.length ∧ place.map (rd (stateM m ranges (rd place i) v).1) = (stateM ls known i v).1
 state0 : ∀ i : Nat, i < ls.length → (stateM ls known i v).2 ≠ 0 → (stateM ls known i v).1 = []
theorem shareM_small (c t : Int) (hs : List Int) (l : List S35) : (shareM c t hs l).1.length ≤ l.length := by
 unfold shareM
 split
 ·split
  ·split
   ·simp
   ·show (shareS c t hs l).1.length ≤ _
    unfold shareS
    rw [lowAll_length, List.length_map, List.length_range]
    exact Nat.le_refl _
  ·simp
 ·simp
theorem networkM_small (c : Int) (ls : List S28) (known : List S35) (hs : List Int) : (networkM c ls known hs).1.length ≤ ls.length := by
 unfold networkM
 split
 ·split
  ·split
   ·exact Nat.le_trans (shareM_small _ _ _ _) (partsTo_length _ _ _)
   ·simp
  ·simp
 ·simp
end
section
-- The walk of TopBetween where there are no bounds, the law's facts as hypotheses.
attribute [local go_sem] max2_int min2_int
set_option linter.unusedVariables false
set_option linter.unusedSimpArgs false
set_option maxHeartbeats 16000000 in
set_option maxRecDepth 100000 in
theorem top_other (c : Int) (A : Option Addr) (cp : Nat) (ls : List S28) (A1 : Option Addr) (c1 : Nat) (known : List S35) (Ah : Option Addr) (ch : Nat) (hs : List Int) (Aa : Option Addr) (ca : Nat) (at_ : List Int) (which v : Int) (w : World)
  (hr : Kd.C k28 w A ls.length ls) (hcp : ls.length ≤ cp) (hr1 : Kd.C k35 w A1 known.length known) (hc1 : known.length ≤ c1) (hh : Kd.C (Kd.int .i64) w Ah hs.length hs) (hch : hs.length ≤ ch) (ha : Kd.C (Kd.int .u8) w Aa at_.length at_) (hca : at_.length ≤ ca) (hwh : 0 ≤ which ∧ which ≤ 255)
  (hlaw : ls.length ≤ 20 → known.length = ls.length → hs.length ≤ 20 → inOrder ls → LawOk c ls known hs (bTo ls known at_ ls.length).1 (bTo ls known at_ ls.length).2.1 (bTo ls known at_ ls.length).2.2 v) (hl20 : ls.length ≤ 20) (hkl : known.length = ls.length) (hh20 : hs.length ≤ 20) (hz0 : (boundsM ls known).2 ≠ 0) :
  Calls Try.prog 3 #[.int .i64 c, .slice A ls.length cp, .slice A1 known.length c1, .slice Ah hs.length ch, .slice Aa at_.length ca, .int .u8 which, .int .i64 v] w fun e w' => e = .returned (.bool true) ∧ Below w.heap.size w w' := by
 have HR := Aside0.mk hr
 have HR1 := Aside0.mk hr1
 have HH := Aside0.mk hh
 have HA := Aside0.mk ha
 have HCP := Aside0.mk hcp
 have HC1 := Aside0.mk hc1
 have HCH := Aside0.mk hch
 have HCA := Aside0.mk hca
 have HWH := Aside0.mk hwh
 have HLAW := Aside0.mk hlaw
 have HPI := Aside0.mk (pipes_calls w)
 clear hr hr1 hh ha hcp hc1 hch hca hwh hlaw
 have HL20 := Aside0.mk hl20
 have HH20 := Aside0.mk hh20
 have HKL := Aside0.mk hkl
 have HZ0 := Aside0.mk hz0
 have i1 : decide ((20 : Int) < (ls.length : Int)) = false := decide_eq_false (by have := HL20.out; omega)
 have i3 : decide ((20 : Int) < (hs.length : Int)) = false := decide_eq_false (by have := HH20.out; omega)
 have hlI : (ls.length : Int) ≤ 20 := by have := HL20.out; omega
 rw [hkl] at HC1 HR1 ⊢
 clear hl20 hh20 hkl hz0
 go_enter Try.func3, Try.ntmps3
 go_wp2_with fail
 refine HPI.out.mono ?_
 clear HPI
 rintro e w1 ⟨rfl, hb⟩
 have HB := Aside0.mk hb
 clear hb
 go_wp2_with fail
 go_loopg [16] ls.length (fun gg s16 wr => ∃ k : Nat, k ≤ ls.length ∧ ls.length - k ≤ gg ∧ s16 = .int .i64 k ∧ Aside0 (∀ j : Nat, j < k → 1 ≤ (rd_T28 ls j).f0 ∧ (rd_T28 ls j).f0 ≤ 1000000 ∧ 0 ≤ (rd_T28 ls j).f1 ∧ (rd_T28 ls j).f1 ≤ 1000000) ∧ Aside0 (Below w.heap.size w wr))
 case atStart => exact ⟨0, Nat.zero_le _, by omega, rfl, ⟨fun j hj => by omega⟩, HB⟩
 case round =>
  obtain ⟨k, hk, hgg, rfl, HIN, HBR⟩ := hrel
  by_cases hlt : k < ls.length
  ·have hi : (k : Int) < (ls.length : Int) := by omega
   obtain ⟨ad, e0, h0, h1, _⟩ := at_T28 HR.out (k : Int) (by omega) hi
   cases e0
   simp only [Int.toNat_natCast] at h0 h1
   replace h0 := (HBR.out.cell (World.block_lt_of_cell? w _ h0)).trans h0
   replace h1 := (HBR.out.cell (World.block_lt_of_cell? w _ h1)).trans h1
   have HNX := Aside0.mk (fun (hg : 1 ≤ (rd_T28 ls k).f0 ∧ (rd_T28 ls k).f0 ≤ 1000000 ∧ 0 ≤ (rd_T28 ls k).f1 ∧ (rd_T28 ls k).f1 ≤ 1000000) => show ∀ j : Nat, j < k + 1 → 1 ≤ (rd_T28 ls j).f0 ∧ (rd_T28 ls j).f0 ≤ 1000000 ∧ 0 ≤ (rd_T28 ls j).f1 ∧ (rd_T28 ls j).f1 ≤ 1000000 from fun j hj => by
    by_cases e : j = k
    ·subst e; exact hg
    ·exact HIN.out j (by omega))
   generalize rd_T28 ls (k : Int) = p at h0 h1 HNX
   have hcase : decide (p.f0 < 1) = true ∨ (decide (p.f0 < 1) = false ∧ decide (1000000 < p.f0) = true) ∨ (decide (p.f0 < 1) = false ∧ decide (1000000 < p.f0) = false ∧ decide (p.f1 < 0) = true) ∨ (decide (p.f0 < 1) = false ∧ decide (1000000 < p.f0) = false ∧ decide (p.f1 < 0) = false ∧ decide (1000000 < p.f1) = true) ∨ (decide (p.f0 < 1) = false ∧ decide (1000000 < p.f0) = false ∧ decide (p.f1 < 0) = false ∧ decide (1000000 < p.f1) = false) := by
    generalize decide (p.f0 < 1) = b1
    generalize decide (1000000 < p.f0) = b2
    generalize decide (p.f1 < 0) = b3
    generalize decide (1000000 < p.f1) = b4
    revert b1 b2 b3 b4
    decide
   rcases hcase with d1 | ⟨d1, d2⟩ | ⟨d1, d2, d3⟩ | ⟨d1, d2, d3, d4⟩ | ⟨d1, d2, d3, d4⟩
   case inr.inr.inr.inr =>
    have hg : 1 ≤ p.f0 ∧ p.f0 ≤ 1000000 ∧ 0 ≤ p.f1 ∧ p.f1 ≤ 1000000 := by
     have := of_decide_eq_false d1; have := of_decide_eq_false d2; have := of_decide_eq_false d3; have := of_decide_eq_false d4
     omega
    have HG := Aside0.mk (HNX.out hg)
    clear hg
    go_wp2
    go_roundg (ls.length - (k + 1))
    case measure => omega
    case rel => exact ⟨k + 1, by omega, by omega, by first | go_num | (congr 1; unfold wrap64; omega), HG, HBR⟩
   all_goals
    go_wp2
    go_ret
    exact ⟨rfl, HBR.out⟩
  ·have hi : ¬ (k : Int) < (ls.length : Int) := by omega
   have ek : k = ls.length := by omega
   subst ek
   have HLW := Aside0.mk (HLAW.out HL20.out HKL.out HH20.out HIN.out)
   have HBW := Aside0.mk (cohousingtop_w11Between.calls (2 * ls.length + 2) A cp ls A1 c1 known Aa ca at_ (bTo ls known at_ ls.length).1 (bTo ls known at_ ls.length).2.1 (bTo ls known at_ ls.length).2.2 wr (Kd.C_below HR.out HBR.out) HCP.out (by rw [HKL.out]; exact Kd.C_below HR1.out HBR.out) (by rw [HKL.out]; exact HC1.out) (Kd.C_below HA.out HBR.out) HCA.out (between_f ls known at_ HKL.out (by have := HL20.out; omega)))
   rw [HKL.out] at HBW
   go_wp2_with fail
   refine HBW.out.mono ?_
   clear HBW
   rintro e w2 ⟨v0, v1, v2, rfl, hv0, hv1, hv2, hb⟩
   have HB2 := Aside0.mk (HBR.out.trans (hb.mono HBR.out.size))
   obtain ⟨m, hm⟩ : ∃ m, (bTo ls known at_ ls.length).1 = m := ⟨_, rfl⟩
   obtain ⟨ranges, hra⟩ : ∃ ranges, (bTo ls known at_ ls.length).2.1 = ranges := ⟨_, rfl⟩
   obtain ⟨place, hpl⟩ : ∃ place, (bTo ls known at_ ls.length).2.2 = place := ⟨_, rfl⟩
   rw [hm, hra, hpl] at HLW
   rw [hm] at hv0
   rw [hra] at hv1
   rw [hpl] at hv2
   clear hm hra hpl hb
   obtain ⟨Am, cm, rfl, hcm, hCm⟩ := Kd.R_reads hv0
   obtain ⟨Ag, cg, rfl, hcg, hCg⟩ := Kd.R_reads hv1
   obtain ⟨Ap, cpl, rfl, hcpl, hCp⟩ := Kd.R_reads hv2
   have HM := Aside0.mk (And.intro hcm hCm)
   have HGR := Aside0.mk (And.intro hcg hCg)
   have HP := Aside0.mk (And.intro hcpl hCp)
   clear hv0 hv1 hv2 hcm hCm hcg hCg hcpl hCp
   have HWFL := Aside0.mk (show ∀ p ∈ ls, wf64 p.f0 ∧ wf64 p.f1 from fun p hp => by
    obtain ⟨j, hj, rfl⟩ := List.getElem_of_mem hp
    have h := HIN.out j hj
    have e : rd_T28 ls (j : Int) = ls[j] := by show ls.getD (j : Int).toNat z28 = _; rw [Int.toNat_natCast, List.getD_eq_getElem?_getD, List.getElem?_eq_getElem hj]; rfl
    rw [e] at h
    unfold wf64; omega)
   go_wp2_with fail
   have HF1 := Aside0.mk (flowBounds_calls A cp ls A1 c1 known w2 (Kd.C_below HR.out HB2.out) (by rw [HKL.out]; exact Kd.C_below HR1.out HB2.out) (by rw [HKL.out]; exact HC1.out) HWFL.out (by have := HL20.out; omega) (by have := HL20.out; have := HKL.out; omega))
   rw [HKL.out] at HF1
   refine HF1.out.mono ?_
   clear HF1
   rintro e w3 ⟨va, rfl, hva, hb⟩
   replace HM := Aside0.mk (And.intro HM.out.1 (Kd.C_below HM.out.2 hb))
   replace HGR := Aside0.mk (And.intro HGR.out.1 (Kd.C_below HGR.out.2 hb))
   replace HP := Aside0.mk (And.intro HP.out.1 (Kd.C_below HP.out.2 hb))
   replace HB2 := Aside0.mk (HB2.out.trans (hb.mono HB2.out.size))
   obtain ⟨Ava, cva, rfl, hcva, hCva⟩ := Kd.R_reads hva
   have HVA := Aside0.mk (And.intro hcva hCva)
   clear hva hb hcva hCva
   go_wp2_with fail
   have HF2 := Aside0.mk (flowBounds_calls Am cm m Ag cg ranges w3 HM.out.2 HGR.out.2 HGR.out.1 HLW.out.wf (by have := HLW.out.len; omega) (by have := HLW.out.len; omega))
   refine HF2.out.mono ?_
   clear HF2
   rintro e w4 ⟨vb, rfl, hvb, hb⟩
   replace HM := Aside0.mk (And.intro HM.out.1 (Kd.C_below HM.out.2 hb))
   replace HGR := Aside0.mk (And.intro HGR.out.1 (Kd.C_below HGR.out.2 hb))
   replace HP := Aside0.mk (And.intro HP.out.1 (Kd.C_below HP.out.2 hb))
   replace HVA := Aside0.mk (And.intro HVA.out.1 (Kd.C_below HVA.out.2 hb))
   replace HB2 := Aside0.mk (HB2.out.trans (hb.mono HB2.out.size))
   obtain ⟨Avb, cvb, rfl, hcvb, hCvb⟩ := Kd.R_reads hvb
   have HVB := Aside0.mk (And.intro hcvb hCvb)
   clear hvb hb hcvb hCvb
   rw [HLW.out.flag]
   have HLA := Aside0.mk (fun h => boundsM_length ls known h)
   have HLB := Aside0.mk (fun (h : (boundsM ls known).2 = 0) => boundsM_length m ranges (HLW.out.flag.trans h))
   obtain ⟨EB, hEB⟩ : ∃ EB, (boundsM ls known).2 = EB := ⟨_, rfl⟩
   rw [hEB] at HLA HLB ⊢
   have HEB := Aside0.mk hEB
   clear hEB
   have hee : (EB == EB) = true := by simp
   have hen : (EB != EB) = false := by simp
   obtain ⟨hlen1, hlen2, hplen⟩ := HLW.out.len
   rw [hplen] at HP ⊢
   have HML := Aside0.mk (And.intro hlen1 hlen2)
   clear hlen1 hlen2 hplen
   have hz : EB ≠ 0 := by rw [← HEB.out]; exact HZ0.out
   have hz1 : (EB == 0) = false := by simpa using hz
   go_wp2_with fail
   go_loopg [24] 0 (fun gg s24 wr => s24 = .int .i64 0 ∧ wr = w4)
   case atStart => exact ⟨rfl, rfl⟩
   case round =>
    obtain ⟨rfl, rfl⟩ := hrel
    go_wp2_with fail
    have HBW := HB2
    have HN1 := Aside0.mk (network_calls c A cp ls A1 c1 known Ah ch hs wr (Kd.C_below HR.out HBW.out) (by rw [HKL.out]; exact Kd.C_below HR1.out HBW.out) (by rw [HKL.out]; exact HC1.out) (Kd.C_below HH.out HBW.out) HCH.out HWFL.out (by have := HL20.out; omega) (by have := HL20.out; have := HKL.out; omega) (by have := HH20.out; omega))
    rw [HKL.out] at HN1
    refine HN1.out.mono ?_
    clear HN1
    rintro e w5 ⟨vx, rfl, hvx, hb⟩
    replace HM := Aside0.mk (And.intro HM.out.1 (Kd.C_below HM.out.2 hb))
    replace HGR := Aside0.mk (And.intro HGR.out.1 (Kd.C_below HGR.out.2 hb))
    replace HP := Aside0.mk (And.intro HP.out.1 (Kd.C_below HP.out.2 hb))
    replace HBW := Aside0.mk (HBW.out.trans (hb.mono HBW.out.size))
    obtain ⟨Avx, cvx, rfl, hcvx, hCvx⟩ := Kd.R_reads hvx
    have HVX := Aside0.mk (And.intro hcvx hCvx)
    clear hvx hb hcvx hCvx
    go_wp2_with fail
    have HN2 := Aside0.mk (network_calls c Am cm m Ag cg ranges Ah ch hs w5 HM.out.2 HGR.out.2 HGR.out.1 (Kd.C_below HH.out HBW.out) HCH.out HLW.out.wf (by have := HML.out; omega) (by have := HML.out; omega) (by have := HH20.out; omega))
    refine HN2.out.mono ?_
    clear HN2
    rintro e w6 ⟨vy, rfl, hvy, hb⟩
    rw [HLW.out.net] at hvy ⊢
    replace HM := Aside0.mk (And.intro HM.out.1 (Kd.C_below HM.out.2 hb))
    replace HGR := Aside0.mk (And.intro HGR.out.1 (Kd.C_below HGR.out.2 hb))
    replace HP := Aside0.mk (And.intro HP.out.1 (Kd.C_below HP.out.2 hb))
    replace HVX := Aside0.mk (And.intro HVX.out.1 (Kd.C_below HVX.out.2 hb))
    replace HBW := Aside0.mk (HBW.out.trans (hb.mono HBW.out.size))
    obtain ⟨Avy, cvy, rfl, hcvy, hCvy⟩ := Kd.R_reads hvy
    have HVY := Aside0.mk (And.intro hcvy hCvy)
    clear hvy hb hcvy hCvy
    have HNS := Aside0.mk (networkM_small c ls known hs)
    generalize networkM c ls known hs = NM at HVX HVY HNS ⊢
    obtain ⟨N1, N2, N3⟩ := NM
    have hq2 : (N2 == N2) = true := by simp
    have hq3 : (N3 == N3) = true := by simp
    go_wp2_with fail
    have HSC := Aside0.mk (cohousingtop_w11SameCharges.calls (N1.length + 1) Avx cvx N1 Avy cvy N1 true w6 HVX.out.2 HVX.out.1 HVY.out.2 HVY.out.1 (sameCharges_f N1 (by have h1 : N1.length ≤ ls.length := HNS.out; have := HL20.out; omega)))
    refine HSC.out.mono ?_
    clear HSC
    rintro e w7 ⟨rfl, hd⟩
    have hb := hd.below
    replace HM := Aside0.mk (And.intro HM.out.1 (Kd.C_below HM.out.2 hb))
    replace HGR := Aside0.mk (And.intro HGR.out.1 (Kd.C_below HGR.out.2 hb))
    replace HP := Aside0.mk (And.intro HP.out.1 (Kd.C_below HP.out.2 hb))
    replace HBW := Aside0.mk (HBW.out.trans (hb.mono HBW.out.size))
    clear hd hb HVX HVY HNS
    have hcl : ((ls.length : Int) == 0) = true ∨ ((ls.length : Int) == 0) = false := by
     generalize ((ls.length : Int) == 0) = b
     cases b <;> simp
    rcases hcl with hl0 | hl0
    ·go_wp2
     go_ret
     exact ⟨rfl, HBW.out⟩
    have hln : ((ls.length : Int)) ≠ 0 := by simpa using hl0
    go_wp2_with fail
    obtain ⟨i, hi9, hie⟩ : ∃ i : Nat, i < ls.length ∧ (wrap64 which).tmod (ls.length : Int) = (i : Int) := by
     have h1 := HWH.out
     have ew : wrap64 which = which := by unfold wrap64; omega
     rw [ew]
     have h2 := Int.tmod_nonneg (ls.length : Int) (a := which) (by omega)
     have h3 := Int.tmod_lt_of_pos which (b := (ls.length : Int)) (by omega)
     exact ⟨(which.tmod ls.length).toNat, by omega, by omega⟩
    rw [hie]
    have HS1 := Aside0.mk (flowState_calls A cp ls A1 c1 known (i : Int) v w7 (Kd.C_below HR.out HBW.out) (by rw [HKL.out]; exact Kd.C_below HR1.out HBW.out) (by rw [HKL.out]; exact HC1.out) HWFL.out (by have := HL20.out; omega) (by have := HL20.out; have := HKL.out; omega))
    rw [HKL.out] at HS1
    refine HS1.out.mono ?_
    clear HS1
    rintro e w8 ⟨us, rfl, hus, hb⟩
    replace HM := Aside0.mk (And.intro HM.out.1 (Kd.C_below HM.out.2 hb))
    replace HGR := Aside0.mk (And.intro HGR.out.1 (Kd.C_below HGR.out.2 hb))
    replace HP := Aside0.mk (And.intro HP.out.1 (Kd.C_below HP.out.2 hb))
    replace HBW := Aside0.mk (HBW.out.trans (hb.mono HBW.out.size))
    obtain ⟨Aus, cus, rfl, hcus, hCus⟩ := Kd.R_reads hus
    have HUS := Aside0.mk (And.intro hcus hCus)
    clear hus hb hcus hCus
    have hi8 : (i : Int) < (ls.length : Int) := by omega
    obtain ⟨adq, e0, hpc9⟩ := Kd.at_int HP.out.2 (i : Int) (by omega) hi8
    subst e0
    simp only [Int.toNat_natCast] at hpc9
    go_wp2_with fail
    have HPA := Aside0.mk (HLW.out.at_ i hi9)
    have HS2 := Aside0.mk (flowState_calls Am cm m Ag cg ranges (rd place (i : Int)) v w8 HM.out.2 HGR.out.2 HGR.out.1 HLW.out.wf (by have := HML.out; omega) (by have := HML.out; omega))
    refine HS2.out.mono ?_
    clear HS2 hpc9
    rintro e w9 ⟨ut, rfl, hut, hb⟩
    rw [HLW.out.flag2 i hi9]
    replace HP := Aside0.mk (And.intro HP.out.1 (Kd.C_below HP.out.2 hb))
    replace HUS := Aside0.mk (And.intro HUS.out.1 (Kd.C_below HUS.out.2 hb))
    replace HBW := Aside0.mk (HBW.out.trans (hb.mono HBW.out.size))
    obtain ⟨Aut, cut_, rfl, hcut, hCut⟩ := Kd.R_reads hut
    have HUT := Aside0.mk (And.intro hcut hCut)
    clear hut hb hcut hCut
    have HST := Aside0.mk (fun h => HLW.out.state i hi9 h)
    have HS0 := Aside0.mk (fun h => HLW.out.state0 i hi9 h)
    generalize stateM ls known (i : Int) v = SM at HUS HST HS0 ⊢
    generalize (stateM m ranges (rd place (i : Int)) v).1 = T at HUT HST ⊢
    obtain ⟨SL, SE⟩ := SM
    have hqe : (SE == SE) = true := by simp
    by_cases hse : SE = 0
    case neg =>
     have hse1 : (SE == 0) = false := by simpa using hse
     obtain rfl : SL = [] := HS0.out hse
     go_wp2_with fail
     go_loopg [33, 34] 0 (fun gg s33 s34 W => s33 = .slice none 0 0 ∧ s34 = .int .i64 0 ∧ W = w9)
     case atStart => exact ⟨rfl, rfl, rfl⟩
     case round =>
      obtain ⟨rfl, rfl, rfl⟩ := hrel
      go_wp2_with fail
      have HSI := Aside0.mk (cohousingref12_SameInts.calls 1 Aus cus [] none 0 [] true wr HUS.out.2 HUS.out.1 (Kd.R_reads' (Kd.R_nil (Kd.int .i64) 3 wr 0 (fun _ => True))).2.2 (Nat.le_refl _) (sameInts_f [] (by simp)))
      refine HSI.out.mono ?_
      clear HSI
      rintro e w10 ⟨rfl, hd⟩
      have HBZ := Aside0.mk (HBW.out.trans (hd.below.mono HBW.out.size))
      clear hd
      go_wp2
      go_ret
      exact ⟨rfl, HBZ.out⟩
    subst hse
    obtain ⟨HT1, HT2⟩ := HST.out rfl
    have HTL := Aside0.mk HT1
    have HTM := Aside0.mk HT2
    clear HT1 HT2 HST HS0
    rw [HTL.out] at HUT ⊢
    go_wp2_with fail
    go_loopg [33, 34] ls.length (fun gg s33 s34 W => ∃ k : Nat, k ≤ ls.length ∧ ls.length - k ≤ gg ∧ s34 = .int .i64 k ∧ Aside0 (Kd.R (Kd.int .i64) 3 W w9.heap.size (fun _ => True) s33 ((place.take k).map (rd T))) ∧ Aside0 (Below w9.heap.size w9 W))
    case atStart => exact ⟨0, Nat.zero_le _, by omega, rfl, ⟨Kd.R_nil _ _ _ _ _⟩, ⟨Below.refl _ _⟩⟩
    case round =>
     obtain ⟨k, hk, hgg, rfl, HO, HB⟩ := hrel
     by_cases hlt : k < ls.length
     ·have hi : (k : Int) < (ls.length : Int) := by omega
      have hpa := HLW.out.at_ k hlt
      obtain ⟨hp0, hp1⟩ := hpa
      obtain ⟨adr, e0, hpc⟩ := Kd.at_int HP.out.2 (k : Int) (by omega) hi
      cases e0
      simp only [Int.toNat_natCast] at hpc
      have HTK := Aside0.mk (take_snoc 0 place k (by have := HLW.out.len; omega))
      have hx : rd place (k : Int) = place.getD k 0 := rfl
      rw [← hx] at HTK
      clear hx
      generalize rd place (k : Int) = pk at hp0 hp1 hpc HTK
      obtain ⟨adt, e0, htc⟩ := Kd.at_int HUT.out.2 pk hp0 hp1
      subst e0
      have hMS := Aside0.mk (show (place.take (k + 1)).map (rd T) = (place.take k).map (rd T) ++ [rd T pk] by rw [HTK.out, List.map_append]; rfl)
      have HLK := Aside0.mk (show ((place.take k).map (rd T)).length ≤ 20 by rw [List.length_map]; have := List.length_take_le k place; have := HL20.out; omega)
      generalize rd T pk = x at htc hMS
      generalize (place.take k).map (rd T) = cur at HO hMS HLK
      replace hpc := (HB.out.cell (World.block_lt_of_cell? w9 _ hpc)).trans hpc
      replace htc := (HB.out.cell (World.block_lt_of_cell? w9 _ htc)).trans htc
      clear HTK
      go_wp2_with (first | ((with_reducible refine gate_builtin (b := .append) (xs := #[.tmp 278, .tmp 286]) rfl ?_); at_builtin; refine Kd.R_append (Kd.int .i64) (w0 := w9) w9.heap.size rfl (.tmp 278) (.tmp 286) 24 3 (.int .i64 0) 8 rfl Try.underlying24 info3 rfl (by decide) (by omega) u33 cur x [.int .i64 x] (fun _ => True) (fun _ => False) rfl rfl ?aP (fun _ hk => hk.elim) ?aF ?aO ?aB ?aS ?aL ?_; (case aP => rfl); (case aB => exact HB.out); (case aF => exact (fun _ _ => trivial)); (case aO => exact HO.out); (case aS => exact HB.out.size); (case aL => have := HLK.out; omega); intro v1 w1 ho hb1 hg hat; have n0_ := Aside0.mk ho; have n1_ := Aside0.mk hb1; clear HO HB; have HO := n0_; have HB := n1_; clear n0_ n1_ ho hb1 hg hat))
      go_roundg (ls.length - (k + 1))
      case measure => omega
      case rel => exact ⟨k + 1, by omega, by omega, by first | go_num | (congr 1; unfold wrap64; omega), ⟨by rw [hMS.out]; exact HO.out⟩, HB⟩
     ·have hi : ¬ (k : Int) < (ls.length : Int) := by omega
      have ek : k = ls.length := by omega
      subst ek
      have HO2 := HO.out
      rw [List.take_of_length_le (by have := HLW.out.len; omega), HTM.out] at HO2
      obtain ⟨Au, cu, rfl, hcu, hCu⟩ := Kd.R_reads HO2
      have HU := Aside0.mk (And.intro hcu hCu)
      clear HO2 hcu hCu
      have HSLN := Aside0.mk (show SL.length ≤ 1000000 by rw [← HTM.out, List.length_map]; have := HLW.out.len; have := HL20.out; omega)
      have HSI := Aside0.mk (cohousingref12_SameInts.calls (SL.length + 1) Aus cus SL Au cu SL true wr (Kd.C_below HUS.out.2 HB.out) HUS.out.1 HU.out.2 HU.out.1 (sameInts_f SL HSLN.out))
      go_wp2_with fail
      refine HSI.out.mono ?_
      clear HSI
      rintro e w10 ⟨rfl, hd⟩
      have HBZ := Aside0.mk ((HBW.out.trans (HB.out.mono HBW.out.size)).trans (hd.below.mono (Nat.le_trans HBW.out.size HB.out.size)))
      clear hd
      go_wp2
      go_ret
      exact ⟨rfl, HBZ.out⟩
end
end Go.Proofs.Ytgjkhifhiggflaa.Own
