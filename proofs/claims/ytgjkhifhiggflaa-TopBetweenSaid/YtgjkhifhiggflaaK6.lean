/- The law in plain lists: bounds, states and charges of the longer network are those of the shorter. -/
import Derived.Test.YtgjkhifhiggflaaK1
import Derived.Test.YtgjkhifhiggflaaK2
import Derived.Test.YtgjkhifhiggflaaK8
namespace Go.Proofs.Ytgjkhifhiggflaa.Own
open Go.RowKit Go.Lib Go.Proofs.YtgjkhifhiggflaaW.PrintWords Go.Proofs.YtgjkhifhiggflaaW.PrintLast Go.Proofs.YtgjkhifhiggflaaW.PrintMore Go.Proofs.Ytgjkhifhiggflaa.PTopBetween
section
-- A row that was walked up, or down, as a relation of rows.
set_option linter.unusedVariables false
set_option linter.unusedSimpArgs false
/-- The pipes directly below one, by the pipe above each. -/
def kid (n : Nat) (par : Nat → Option Nat) (i : Nat) : List Nat := (List.range n).filter fun c => decide (par c = some i)
theorem mem_kid {n : Nat} {par : Nat → Option Nat} {i c : Nat} : c ∈ kid n par i ↔ c < n ∧ par c = some i := by simp [kid]
theorem kid_nodup (n : Nat) (par : Nat → Option Nat) (i : Nat) : (kid n par i).Nodup := List.nodup_range.sublist List.filter_sublist
def upV (n : Nat) (par : Nat → Option Nat) (loss : Nat → Int) (i : Nat) (x : S56) (R : Nat → S56) : S56 :=
 if kid n par i = [] then x else cutV x (tot S56.f0 ((kid n par i).map R)) (wrap64 (tot S56.f1 ((kid n par i).map R) + loss i))
def UpRel (n : Nat) (par : Nat → Option Nat) (loss : Nat → Int) (r R : Nat → S56) : Prop := ∀ i, i < n → R i = upV n par loss i (r i) R
def downV (n : Nat) (par : Nat → Option Nat) (loss : Nat → Int) (r : Nat → S56) (c i : Nat) (y : S56) : S56 :=
 cutV (r c) (wrap64 (wrap64 (y.f0 - loss i) - wrap64 (tot S56.f1 ((kid n par i).map r) - (r c).f1))) (wrap64 (y.f1 - wrap64 (tot S56.f0 ((kid n par i).map r) - (r c).f0)))
def DownRel (n : Nat) (par : Nat → Option Nat) (loss : Nat → Int) (r R : Nat → S56) : Prop :=
 ∀ c, c < n → (par c = none → R c = r c) ∧ ∀ i, par c = some i → R c = downV n par loss r c i (R i)
def rowF (rs : List S56) (j : Nat) : S56 := rd_T56 rs (j : Int)
def parN (ls : List S28) (c : Nat) : Option Nat := (idMap ls c (rd_T28 ls (c : Int)).f1).map Int.toNat
def lossN (ls : List S28) (i : Nat) : Int := (rd_T28 ls (i : Int)).f2
theorem par_lt (ls : List S28) (c i : Nat) (h : parN ls c = some i) : i < c := by
 unfold parN at h
 rw [Option.map_eq_some_iff] at h
 obtain ⟨a, ha, rfl⟩ := h
 have := idMap_lt ls c _ a ha
 omega
theorem kid_lt {ls : List S28} {n i c : Nat} (h : c ∈ kid n (parN ls) i) : i < c ∧ c < n := ⟨par_lt ls c i (mem_kid.1 h).2, (mem_kid.1 h).1⟩
theorem rowF_getD (rs : List S56) (j : Nat) : rowF rs j = rs.getD j z56 := by
 show rs.getD (j : Int).toNat z56 = _
 rw [Int.toNat_natCast]
theorem rowF_set (rs : List S56) (i : Nat) (x : S56) (hi : i < rs.length) (j : Nat) : rowF (rs.set i x) j = if j = i then x else rowF rs j := by
 rw [rowF_getD, rowF_getD, List.getD_eq_getElem?_getD, List.getD_eq_getElem?_getD]
 by_cases h : j = i
 ·subst h
  rw [List.getElem?_set_self hi, if_pos rfl]
  rfl
 ·rw [List.getElem?_set_ne (by omega), if_neg h]
theorem kids_len (ls : List S28) (n : Nat) : ∀ k, (kidsTo ls n k).length = n
 | 0 => by simp [kidsTo]
 | k + 1 => by
  have := kids_len ls n k
  show (kidsUp ls (kidsTo ls n k) k).length = n
  unfold kidsUp
  split
  ·rw [List.length_set]; exact this
  ·exact this
theorem kidsOf_set (ks : List (List Int)) (a : Nat) (x : List Int) (ha : a < ks.length) (i : Nat) : kidsOf (ks.set a x) (i : Int) = if i = a then x else kidsOf ks (i : Int) := by
 show (ks.set a x).getD (i : Int).toNat [] = if i = a then x else ks.getD (i : Int).toNat []
 rw [Int.toNat_natCast, List.getD_eq_getElem?_getD, List.getD_eq_getElem?_getD]
 by_cases h : i = a
 ·subst h
  rw [List.getElem?_set_self ha, if_pos rfl]
  rfl
 ·rw [List.getElem?_set_ne (by omega), if_neg h]
theorem kidsTo_eq (ls : List S28) (n : Nat) : ∀ (k : Nat), k ≤ n → ∀ i : Nat, kidsOf (kidsTo ls n k) (i : Int) = (kid k (parN ls) i).map fun c : Nat => (c : Int)
 | 0, _, i => by
  show (List.replicate n ([] : List Int)).getD (i : Int).toNat [] = _
  rw [Int.toNat_natCast, List.getD_eq_getElem?_getD, List.getElem?_replicate]
  by_cases h : i < n <;> simp [h, kid]
 | k + 1, hk, i => by
  have ih := kidsTo_eq ls n k (by omega)
  have hl := kids_len ls n k
  have e : kid (k + 1) (parN ls) i = kid k (parN ls) i ++ (if parN ls k = some i then [k] else []) := by
   simp only [kid, List.range_succ, List.filter_append]
   by_cases h : parN ls k = some i <;> simp [h]
  rw [e, List.map_append, ← ih i]
  show kidsOf (kidsUp ls (kidsTo ls n k) k) (i : Int) = _
  unfold kidsUp
  cases hm : idMap ls k (rd_T28 ls (k : Int)).f1 with
  | none =>
   have : parN ls k = none := by simp [parN, hm]
   simp [this]
  | some a =>
   have ha := idMap_lt ls k _ a hm
   have : parN ls k = some a.toNat := by simp [parN, hm]
   rw [this]
   have e1 : kidsOf (kidsTo ls n k) a = kidsOf (kidsTo ls n k) (a.toNat : Int) := by rw [Int.toNat_of_nonneg ha.1]
   show kidsOf ((kidsTo ls n k).set a.toNat (kidsOf (kidsTo ls n k) a ++ [(k : Int)])) (i : Int) = _
   rw [kidsOf_set _ _ _ (by rw [hl]; omega)]
   by_cases h : i = a.toNat
   ·subst h
    rw [e1]
    simp
   ·rw [if_neg h, if_neg (by simpa using Ne.symm h)]
    simp
theorem pick_kid (ls : List S28) (n : Nat) (rs : List S56) (i : Nat) : pickL rs (kidsOf (kidsTo ls n n) (i : Int)) = (kid n (parN ls) i).map (rowF rs) := by
 rw [kidsTo_eq ls n n (Nat.le_refl _)]
 unfold pickL
 rw [List.map_map]
 rfl
theorem kid_map_congr {n : Nat} {par : Nat → Option Nat} {i : Nat} {f g : Nat → S56} (h : ∀ c, c ∈ kid n par i → f c = g c) : (kid n par i).map f = (kid n par i).map g := List.map_congr_left h
theorem upV_congr {n : Nat} {par : Nat → Option Nat} {loss : Nat → Int} {i : Nat} {x : S56} {f g : Nat → S56} (h : ∀ c, c ∈ kid n par i → f c = g c) : upV n par loss i x f = upV n par loss i x g := by
 unfold upV
 rw [kid_map_congr h]
theorem upStep_row (ls : List S28) (n : Nat) (rs : List S56) (i : Nat) (hi : i < rs.length) (j : Nat) :
  rowF (upStep ls (kidsTo ls n n) rs i) j = if j = i then upV n (parN ls) (lossN ls) i (rowF rs i) (rowF rs) else rowF rs j := by
 unfold upStep upV
 rw [pick_kid]
 by_cases hk : kid n (parN ls) i = []
 ·rw [if_neg (by simp [hk]), if_pos hk]
  split
  ·rename_i h; rw [h]
  ·rfl
 ·rw [if_pos (by rw [List.length_map]; exact List.length_pos_iff.2 hk), if_neg hk, rowF_set _ _ _ hi]
  rfl
theorem upAll_part (ls : List S28) (rs : List S56) (n : Nat) (hn : rs.length = n) : ∀ k, k ≤ n →
  (∀ i, i < n - k → rowF (upAll ls (kidsTo ls n n) rs (dn n k)) i = rowF rs i) ∧
  ∀ i, n - k ≤ i → i < n → rowF (upAll ls (kidsTo ls n n) rs (dn n k)) i = upV n (parN ls) (lossN ls) i (rowF rs i) (rowF (upAll ls (kidsTo ls n n) rs (dn n k))) := by
 intro k
 induction k with
 | zero => exact fun _ => ⟨fun i _ => rfl, fun i h1 h2 => by omega⟩
 | succ k ih =>
  intro hk
  obtain ⟨h1, h2⟩ := ih (by omega)
  rw [dn_succ, upAll_snoc]
  have hl : (upAll ls (kidsTo ls n n) rs (dn n k)).length = n := by rw [upAll_length]; exact hn
  generalize upAll ls (kidsTo ls n n) rs (dn n k) = R at h1 h2 hl
  have hs := upStep_row ls n R (n - 1 - k) (by omega)
  constructor
  ·intro i hi
   rw [hs, if_neg (by omega), h1 i (by omega)]
  ·intro i hi hin
   have hc : ∀ c, c ∈ kid n (parN ls) i → rowF (upStep ls (kidsTo ls n n) R (n - 1 - k)) c = rowF R c := by
    intro c hc
    have := kid_lt hc
    rw [hs, if_neg (by omega)]
   rw [upV_congr hc, hs]
   by_cases e : i = n - 1 - k
   ·rw [if_pos e, ← e, h1 i (by omega)]
   ·rw [if_neg e, ← h2 i (by omega) hin]
theorem upAll_rel (ls : List S28) (rs : List S56) (n : Nat) (hn : rs.length = n) : UpRel n (parN ls) (lossN ls) (rowF rs) (rowF (upAll ls (kidsTo ls n n) rs (dn n n))) :=
 fun i hi => (upAll_part ls rs n hn n (Nat.le_refl _)).2 i (by omega) hi
theorem downKids_row (ls : List S28) (i : Nat) (lo hi : Int) : ∀ (ks : List Nat) (rs : List S56), ks.Nodup → (∀ c ∈ ks, i < c ∧ c < rs.length) → ∀ j,
  rowF ((ks.map fun c : Nat => (c : Int)).foldl (downKid ls (i : Int) lo hi) rs) j =
   if j ∈ ks then cutV (rowF rs j) (wrap64 (wrap64 ((rowF rs i).f0 - lossN ls i) - wrap64 (hi - (rowF rs j).f1))) (wrap64 ((rowF rs i).f1 - wrap64 (lo - (rowF rs j).f0))) else rowF rs j
 | [], rs, _, _, j => by simp
 | k :: ks, rs, hnd, hm, j => by
  rw [List.map_cons, List.foldl_cons]
  have hk := hm k (by simp)
  obtain ⟨hk1, hk2⟩ := List.nodup_cons.1 hnd
  have hst : ∀ j, rowF (downKid ls (i : Int) lo hi rs (k : Int)) j = if j = k then cutV (rowF rs k) (wrap64 (wrap64 ((rowF rs i).f0 - lossN ls i) - wrap64 (hi - (rowF rs k).f1))) (wrap64 ((rowF rs i).f1 - wrap64 (lo - (rowF rs k).f0))) else rowF rs j := by
   intro j
   unfold downKid
   rw [Int.toNat_natCast, rowF_set _ _ _ hk.2]
   rfl
  have hlen : (downKid ls (i : Int) lo hi rs (k : Int)).length = rs.length := by unfold downKid; rw [List.length_set]
  rw [downKids_row ls i lo hi ks _ hk2 (fun c hc => by rw [hlen]; exact hm c (by simp [hc])) j]
  rw [hst j, hst i, if_neg (show ¬ i = k by omega)]
  by_cases e : j = k
  ·subst e
   simp [hk1]
  ·simp [e]
theorem downStep_row (ls : List S28) (n : Nat) (rs : List S56) (hn : rs.length = n) (i : Nat) (j : Nat) :
  rowF (downStep ls (kidsTo ls n n) rs i) j = if j ∈ kid n (parN ls) i then downV n (parN ls) (lossN ls) (rowF rs) j i (rowF rs i) else rowF rs j := by
 unfold downStep
 rw [pick_kid, kidsTo_eq ls n n (Nat.le_refl _), downKids_row ls i _ _ _ rs (kid_nodup _ _ _) (fun c hc => by have := kid_lt hc; omega) j]
 rfl
theorem downV_congr {n : Nat} {par : Nat → Option Nat} {loss : Nat → Int} {c i : Nat} {x : S56} {f g : Nat → S56} (hc : c ∈ kid n par i) (h : ∀ c, c ∈ kid n par i → f c = g c) : downV n par loss f c i x = downV n par loss g c i x := by
 unfold downV
 rw [kid_map_congr h, h c hc]
theorem downTo_part (ls : List S28) (rs : List S56) (n : Nat) (hn : rs.length = n) : ∀ k, k ≤ n → ∀ c, c < n →
  (parN ls c = none → rowF (downTo ls (kidsTo ls n n) rs k) c = rowF rs c) ∧
  ∀ i, parN ls c = some i → rowF (downTo ls (kidsTo ls n n) rs k) c = if i < k then downV n (parN ls) (lossN ls) (rowF rs) c i (rowF (downTo ls (kidsTo ls n n) rs k) i) else rowF rs c := by
 intro k
 induction k with
 | zero => exact fun _ c _ => ⟨fun _ => rfl, fun i _ => by rw [if_neg (by omega)]; rfl⟩
 | succ k ih =>
  intro hk c hcn
  have ih := ih (by omega)
  rw [downTo_succ]
  have hl : (downTo ls (kidsTo ls n n) rs k).length = n := by rw [downTo_length]; exact hn
  generalize downTo ls (kidsTo ls n n) rs k = R at ih hl
  have hs := downStep_row ls n R hl k
  constructor
  ·intro hp
   rw [hs, if_neg (by rw [mem_kid, hp]; simp), (ih c hcn).1 hp]
  ·intro i hp
   have hi := par_lt ls c i hp
   by_cases e : i = k
   ·subst e
    have hc : c ∈ kid n (parN ls) i := mem_kid.2 ⟨hcn, hp⟩
    rw [if_pos (by omega), hs c, if_pos hc, hs i, if_neg (by rw [mem_kid]; intro h; have := par_lt ls _ _ h.2; omega)]
    exact downV_congr hc (fun d hd => by
     have h := (ih d (mem_kid.1 hd).1).2 i (mem_kid.1 hd).2
     rw [if_neg (by omega)] at h
     exact h)
   ·have h := (ih c hcn).2 i hp
    rw [hs c, if_neg (by rw [mem_kid, hp]; simp [e]), h]
    by_cases e2 : i < k
    ·rw [if_pos e2, if_pos (by omega), hs i, if_neg (by rw [mem_kid]; intro h; have := par_lt ls _ _ h.2; omega)]
    ·rw [if_neg e2, if_neg (by omega)]
theorem downTo_rel (ls : List S28) (rs : List S56) (n : Nat) (hn : rs.length = n) : DownRel n (parN ls) (lossN ls) (rowF rs) (rowF (downTo ls (kidsTo ls n n) rs n)) := by
 intro c hc
 obtain ⟨h1, h2⟩ := downTo_part ls rs n hn n (Nat.le_refl _) c hc
 refine ⟨h1, fun i hp => ?_⟩
 have hi := par_lt ls c i hp
 have h := h2 i hp
 rwa [if_pos (by omega)] at h
end
section
-- A row that is closed under a network's bounds.
set_option linter.unusedVariables false
set_option linter.unusedSimpArgs false
/-! ### sums -/
def sumI (f : Nat → Int) : List Nat → Int
 | [] => 0
 | k :: ks => f k + sumI f ks
theorem sumI_le {f g : Nat → Int} : ∀ {ks : List Nat}, (∀ k ∈ ks, f k ≤ g k) → sumI f ks ≤ sumI g ks
 | [], _ => Int.le_refl _
 | k :: ks, h => by
  have h1 := h k (by simp)
  have h2 := sumI_le (ks := ks) (fun d hd => h d (by simp [hd]))
  simp only [sumI]
  omega
theorem sumI_congr {f g : Nat → Int} {ks : List Nat} (h : ∀ k ∈ ks, f k = g k) : sumI f ks = sumI g ks :=
 Int.le_antisymm (sumI_le fun k hk => Int.le_of_eq (h k hk)) (sumI_le fun k hk => Int.le_of_eq (h k hk).symm)
theorem sumI_erase {f : Nat → Int} {c : Nat} : ∀ {ks : List Nat}, c ∈ ks → sumI f ks = f c + sumI f (ks.erase c)
 | k :: ks, h => by
  by_cases e : k = c
  ·subst e
   simp [sumI]
  ·have h2 : c ∈ ks := by
    rcases List.mem_cons.1 h with h | h
    ·exact absurd h.symm e
    ·exact h
   rw [List.erase_cons_tail (by simpa using e)]
   simp only [sumI]
   rw [sumI_erase h2]
   omega
theorem sumI_bound {f : Nat → Int} {b : Int} : ∀ {ks : List Nat}, (∀ k ∈ ks, 0 ≤ f k ∧ f k ≤ b) → 0 ≤ sumI f ks ∧ sumI f ks ≤ ks.length * b
 | [], _ => by simp [sumI]
 | k :: ks, h => by
  have h1 := h k (by simp)
  have h2 := sumI_bound (ks := ks) (fun d hd => h d (by simp [hd]))
  simp only [sumI, List.length_cons]
  have e : ((ks.length + 1 : Nat) : Int) * b = ks.length * b + b := by
   rw [show ((ks.length + 1 : Nat) : Int) = (ks.length : Int) + 1 from rfl, Int.add_mul, Int.one_mul]
  rw [e]
  omega
theorem tot_sum {f : S56 → Int} {R : Nat → S56} : ∀ (ks : List Nat) (a : Int), 0 ≤ a → (∀ k ∈ ks, 0 ≤ f (R k) ∧ f (R k) ≤ 1000000000) → a + ks.length * 1000000000 ≤ 9223372036854775807 →
  (ks.map R).foldl (fun n x => wrap64 (n + f x)) a = a + sumI (fun k => f (R k)) ks
 | [], a, _, _, _ => by simp [sumI]
 | k :: ks, a, ha, h, hb => by
  have h1 := h k (by simp)
  simp only [List.length_cons] at hb
  have e : wrap64 (a + f (R k)) = a + f (R k) := by unfold wrap64; omega
  rw [List.map_cons, List.foldl_cons, e, tot_sum ks _ (by omega) (fun d hd => h d (by simp [hd])) (by omega)]
  simp only [sumI]
  omega
theorem tot_eq {f : S56 → Int} {R : Nat → S56} {ks : List Nat} (h : ∀ k ∈ ks, 0 ≤ f (R k) ∧ f (R k) ≤ 1000000000) (hl : ks.length ≤ 1000) : tot f (ks.map R) = sumI (fun k => f (R k)) ks := by
 have := tot_sum ks 0 (Int.le_refl _) h (by omega)
 rw [Int.zero_add] at this
 exact this
/-! ### closed rows -/
theorem mx_le (a b : Int) : a ≤ mx a b ∧ b ≤ mx a b ∧ (mx a b = a ∨ mx a b = b) := by unfold mx; split <;> omega
theorem mn_le (a b : Int) : mn a b ≤ a ∧ mn a b ≤ b ∧ (mn a b = a ∨ mn a b = b) := by unfold mn; split <;> omega
theorem kid_length (n : Nat) (par : Nat → Option Nat) (i : Nat) : (kid n par i).length ≤ n := by
 have := List.length_filter_le (fun c => decide (par c = some i)) (List.range n)
 rwa [List.length_range] at this
def S0 (n : Nat) (par : Nat → Option Nat) (r : Nat → S56) (i : Nat) : Int := sumI (fun c => (r c).f0) (kid n par i)
def S1 (n : Nat) (par : Nat → Option Nat) (r : Nat → S56) (i : Nat) : Int := sumI (fun c => (r c).f1) (kid n par i)
/-- All intervals have volumes. -/
def Full (n : Nat) (r : Nat → S56) : Prop := ∀ i, i < n → 0 ≤ (r i).f0 ∧ (r i).f0 ≤ (r i).f1 ∧ (r i).f1 ≤ 1000000000
def UpC (n : Nat) (par : Nat → Option Nat) (loss : Nat → Int) (r : Nat → S56) : Prop :=
 Full n r ∧ ∀ i, i < n → kid n par i ≠ [] → S0 n par r i ≤ (r i).f0 ∧ (r i).f1 ≤ S1 n par r i + loss i
def DnC (n : Nat) (par : Nat → Option Nat) (loss : Nat → Int) (r : Nat → S56) : Prop :=
 ∀ i c, i < n → c ∈ kid n par i → (r i).f0 - loss i - (S1 n par r i - (r c).f1) ≤ (r c).f0 ∧ (r c).f1 ≤ (r i).f1 - (S0 n par r i - (r c).f0)
/-- A network's numbers are small. -/
structure Sane (n : Nat) (par : Nat → Option Nat) (loss : Nat → Int) : Prop where
 small : n ≤ 200
 up : ∀ c i, par c = some i → i < c
 loss : ∀ i, i < n → 0 ≤ loss i ∧ loss i ≤ 1000000000
section
variable {n : Nat} {par : Nat → Option Nat} {loss : Nat → Int} {r R R' : Nat → S56}
theorem Full.tots (h : Full n r) (hs : n ≤ 200) (i : Nat) : tot S56.f0 ((kid n par i).map r) = S0 n par r i ∧ tot S56.f1 ((kid n par i).map r) = S1 n par r i ∧ 0 ≤ S0 n par r i ∧ S0 n par r i ≤ S1 n par r i ∧ S1 n par r i ≤ 200000000000 := by
 have hl := kid_length n par i
 have hb := sumI_bound (f := fun c => (r c).f1) (b := 1000000000) (ks := kid n par i) (fun k hk => by have := h k (mem_kid.1 hk).1; constructor <;> omega)
 have hb0 := sumI_bound (f := fun c => (r c).f0) (b := 1000000000) (ks := kid n par i) (fun k hk => by have := h k (mem_kid.1 hk).1; constructor <;> omega)
 refine ⟨tot_eq (fun k hk => by have := h k (mem_kid.1 hk).1; constructor <;> omega) (by omega), tot_eq (fun k hk => by have := h k (mem_kid.1 hk).1; constructor <;> omega) (by omega), hb0.1, ?_, ?_⟩
 ·exact sumI_le fun k hk => (h k (mem_kid.1 hk).1).2.1
 ·have := hb.2
  show sumI _ _ ≤ _
  omega
theorem Full.rest (h : Full n r) {i c : Nat} (hc : c ∈ kid n par i) : S0 n par r i = (r c).f0 + sumI (fun c => (r c).f0) ((kid n par i).erase c) ∧ S1 n par r i = (r c).f1 + sumI (fun c => (r c).f1) ((kid n par i).erase c) ∧
  0 ≤ sumI (fun c => (r c).f0) ((kid n par i).erase c) ∧ sumI (fun c => (r c).f0) ((kid n par i).erase c) ≤ sumI (fun c => (r c).f1) ((kid n par i).erase c) := by
 refine ⟨sumI_erase hc, sumI_erase hc, ?_, ?_⟩
 ·exact (sumI_bound (b := 1000000000) fun k hk => by have := h k (mem_kid.1 (List.mem_of_mem_erase hk)).1; constructor <;> omega).1
 ·exact sumI_le fun k hk => (h k (mem_kid.1 (List.mem_of_mem_erase hk)).1).2.1
theorem UpRel.upC (h : UpRel n par loss r R) (hs : Sane n par loss) (hr : ∀ i, i < n → 0 ≤ (r i).f0 ∧ (r i).f1 ≤ 1000000000) (hne : ∀ i, i < n → (R i).f0 ≤ (R i).f1) : UpC n par loss R := by
 have hf : Full n R := by
  intro i hi
  have h1 := h i hi
  have h2 := hr i hi
  have h3 := hne i hi
  unfold upV at h1
  split at h1
  ·rw [h1] at h3 ⊢
   omega
  ·have a := mx_le (r i).f0 (tot S56.f0 ((kid n par i).map R))
   have b := mn_le (r i).f1 (wrap64 (tot S56.f1 ((kid n par i).map R) + loss i))
   have e0 : (R i).f0 = mx (r i).f0 (tot S56.f0 ((kid n par i).map R)) := by rw [h1]; rfl
   have e1 : (R i).f1 = mn (r i).f1 (wrap64 (tot S56.f1 ((kid n par i).map R) + loss i)) := by rw [h1]; rfl
   omega
 refine ⟨hf, fun i hi hk => ?_⟩
 have h1 := h i hi
 unfold upV at h1
 rw [if_neg hk] at h1
 have ht := hf.tots (par := par) hs.small i
 rw [ht.1, ht.2.1] at h1
 have hl := hs.loss i hi
 have ew : wrap64 (S1 n par R i + loss i) = S1 n par R i + loss i := by unfold wrap64; omega
 rw [ew] at h1
 have a := mx_le (r i).f0 (S0 n par R i)
 have b := mn_le (r i).f1 (S1 n par R i + loss i)
 have e0 : (R i).f0 = mx (r i).f0 (S0 n par R i) := by rw [h1]; rfl
 have e1 : (R i).f1 = mn (r i).f1 (S1 n par R i + loss i) := by rw [h1]; rfl
 omega
theorem S56.ext_ {x y : S56} (h0 : x.f0 = y.f0) (h1 : x.f1 = y.f1) : x = y := by
 cases x; cases y; simp at h0 h1; rw [h0, h1]
theorem UpC.upRel (h : UpC n par loss r) (hs : Sane n par loss) : UpRel n par loss r r := by
 intro i hi
 unfold upV
 split
 ·rfl
 ·rename_i hk
  have ht := h.1.tots (par := par) hs.small i
  have h2 := h.2 i hi hk
  have hl := hs.loss i hi
  rw [ht.1, ht.2.1]
  have ew : wrap64 (S1 n par r i + loss i) = S1 n par r i + loss i := by unfold wrap64; omega
  rw [ew]
  apply S56.ext_
  ·show (r i).f0 = mx _ _
   unfold mx; split <;> omega
  ·show (r i).f1 = mn _ _
   unfold mn; split <;> omega
theorem UpRel.unique (h : UpRel n par loss r R) (h' : UpRel n par loss r R') (hup : ∀ c i, par c = some i → i < c) : ∀ i, i < n → R i = R' i := by
 have : ∀ d i, n - i ≤ d → i < n → R i = R' i := by
  intro d
  induction d with
  | zero => intro i h1 h2; omega
  | succ d ih =>
   intro i h1 h2
   rw [h i h2, h' i h2]
   exact upV_congr fun c hc => by
    have hc := mem_kid.1 hc
    have := hup c i hc.2
    exact ih c (by omega) hc.1
 exact fun i hi => this (n - i) i (Nat.le_refl _) hi
theorem DownRel.unique (h : DownRel n par loss r R) (h' : DownRel n par loss r R') (hup : ∀ c i, par c = some i → i < c) : ∀ i, i < n → R i = R' i := by
 intro i
 induction i using Nat.strongRecOn with
 | _ i ih =>
  intro hi
  cases hp : par i with
  | none => rw [(h i hi).1 hp, (h' i hi).1 hp]
  | some a =>
   have ha := hup i a hp
   rw [(h i hi).2 a hp, (h' i hi).2 a hp, ih a ha (by omega)]
theorem downV_plain (hs : Sane n par loss) (hf : Full n r) {i c : Nat} (hi : i < n) (hc : c ∈ kid n par i) {y : S56} (hy : 0 ≤ y.f0 ∧ y.f0 ≤ 1000000000 ∧ 0 ≤ y.f1 ∧ y.f1 ≤ 1000000000) :
  downV n par loss r c i y = cutV (r c) (y.f0 - loss i - (S1 n par r i - (r c).f1)) (y.f1 - (S0 n par r i - (r c).f0)) := by
 have ht := hf.tots (par := par) hs.small i
 have hl := hs.loss i hi
 have hcc := hf c (mem_kid.1 hc).1
 have hr := hf.rest hc
 unfold downV
 rw [ht.1, ht.2.1]
 have e1 : wrap64 (y.f0 - loss i) = y.f0 - loss i := by unfold wrap64; omega
 have e2 : wrap64 (S1 n par r i - (r c).f1) = S1 n par r i - (r c).f1 := by unfold wrap64; omega
 have e3 : wrap64 (S0 n par r i - (r c).f0) = S0 n par r i - (r c).f0 := by unfold wrap64; omega
 rw [e1, e2, e3]
 have e4 : wrap64 (y.f0 - loss i - (S1 n par r i - (r c).f1)) = y.f0 - loss i - (S1 n par r i - (r c).f1) := by unfold wrap64; omega
 have e5 : wrap64 (y.f1 - (S0 n par r i - (r c).f0)) = y.f1 - (S0 n par r i - (r c).f0) := by unfold wrap64; omega
 rw [e4, e5]
theorem kid_ne {i c : Nat} (hc : c ∈ kid n par i) : kid n par i ≠ [] := by intro h; rw [h] at hc; cases hc
/-- Walked down, a row that is closed upwards stays full, and shrinks. -/
theorem DownRel.within (h : DownRel n par loss r R) (hs : Sane n par loss) (hu : UpC n par loss r) : ∀ i, i < n → (r i).f0 ≤ (R i).f0 ∧ (R i).f0 ≤ (R i).f1 ∧ (R i).f1 ≤ (r i).f1 := by
 intro c
 induction c using Nat.strongRecOn with
 | _ c ih =>
  intro hcn
  have hfc := hu.1 c hcn
  cases hp : par c with
  | none => rw [(h c hcn).1 hp]; omega
  | some i =>
   have hic := hs.up c i hp
   have hc : c ∈ kid n par i := mem_kid.2 ⟨hcn, hp⟩
   have hi := ih i hic (by omega)
   have hfi := hu.1 i (by omega)
   have e := (h c hcn).2 i hp
   rw [downV_plain hs hu.1 (by omega) hc (by omega)] at e
   have hui := hu.2 i (by omega) (kid_ne hc)
   have hr := hu.1.rest hc
   have hl := hs.loss i (by omega)
   have a := mx_le (r c).f0 ((R i).f0 - loss i - (S1 n par r i - (r c).f1))
   have b := mn_le (r c).f1 ((R i).f1 - (S0 n par r i - (r c).f0))
   have e0 : (R c).f0 = mx (r c).f0 ((R i).f0 - loss i - (S1 n par r i - (r c).f1)) := by rw [e]; rfl
   have e1 : (R c).f1 = mn (r c).f1 ((R i).f1 - (S0 n par r i - (r c).f0)) := by rw [e]; rfl
   omega
theorem DownRel.kids (h : DownRel n par loss r R) (hs : Sane n par loss) (hu : UpC n par loss r) {i c : Nat} (hi : i < n) (hc : c ∈ kid n par i) :
  (R c).f0 = mx (r c).f0 ((R i).f0 - loss i - (S1 n par r i - (r c).f1)) ∧ (R c).f1 = mn (r c).f1 ((R i).f1 - (S0 n par r i - (r c).f0)) := by
 have hw := h.within hs hu i hi
 have hf := hu.1 i hi
 have e := (h c (mem_kid.1 hc).1).2 i (mem_kid.1 hc).2
 rw [downV_plain hs hu.1 hi hc (by omega)] at e
 rw [e]
 exact ⟨rfl, rfl⟩
theorem DownRel.closed (h : DownRel n par loss r R) (hs : Sane n par loss) (hu : UpC n par loss r) : UpC n par loss R ∧ DnC n par loss R := by
 have hw := h.within hs hu
 have hf : Full n R := fun i hi => by have := hw i hi; have := hu.1 i hi; omega
 refine ⟨⟨hf, fun i hi hk => ?_⟩, fun i c hi hc => ?_⟩
 ·have hui := hu.2 i hi hk
  have hwi := hw i hi
  have hl := hs.loss i hi
  constructor
  ·by_cases hall : ∀ c ∈ kid n par i, (R c).f0 = (r c).f0
   ·have : S0 n par R i = S0 n par r i := sumI_congr hall
    omega
   ·have ⟨c, hx⟩ := Classical.not_forall.1 hall
    have ⟨hc, hne⟩ := Classical.not_imp.1 hx
    have hk := (h.kids hs hu hi hc).1
    have a := mx_le (r c).f0 ((R i).f0 - loss i - (S1 n par r i - (r c).f1))
    have r1 := hf.rest hc
    have r2 := hu.1.rest hc
    have r3 : sumI (fun c => (R c).f0) ((kid n par i).erase c) ≤ sumI (fun c => (r c).f1) ((kid n par i).erase c) := sumI_le fun d hd => by
     have := hw d (mem_kid.1 (List.mem_of_mem_erase hd)).1
     show (R d).f0 ≤ (r d).f1
     omega
    omega
  ·by_cases hall : ∀ c ∈ kid n par i, (R c).f1 = (r c).f1
   ·have : S1 n par R i = S1 n par r i := sumI_congr hall
    omega
   ·have ⟨c, hx⟩ := Classical.not_forall.1 hall
    have ⟨hc, hne⟩ := Classical.not_imp.1 hx
    have hk := (h.kids hs hu hi hc).2
    have a := mn_le (r c).f1 ((R i).f1 - (S0 n par r i - (r c).f0))
    have r1 := hf.rest hc
    have r2 := hu.1.rest hc
    have r3 : sumI (fun c => (r c).f0) ((kid n par i).erase c) ≤ sumI (fun c => (R c).f1) ((kid n par i).erase c) := sumI_le fun d hd => by
     have := hw d (mem_kid.1 (List.mem_of_mem_erase hd)).1
     show (r d).f0 ≤ (R d).f1
     omega
    omega
 ·have hwi := hw i hi
  have hwc := hw c (mem_kid.1 hc).1
  have hl := hs.loss i hi
  have hkc := h.kids hs hu hi hc
  have a := mx_le (r c).f0 ((R i).f0 - loss i - (S1 n par r i - (r c).f1))
  have a' := mn_le (r c).f1 ((R i).f1 - (S0 n par r i - (r c).f0))
  have r1 := hf.rest hc
  have r2 := hu.1.rest hc
  constructor
  ·by_cases hall : ∀ d ∈ (kid n par i).erase c, (R d).f1 = (r d).f1
   ·have : sumI (fun c => (R c).f1) ((kid n par i).erase c) = sumI (fun c => (r c).f1) ((kid n par i).erase c) := sumI_congr hall
    omega
   ·have ⟨d, hx⟩ := Classical.not_forall.1 hall
    have ⟨hd, hne⟩ := Classical.not_imp.1 hx
    have hd' := List.mem_of_mem_erase hd
    have hkd := (h.kids hs hu hi hd').2
    have b := mn_le (r d).f1 ((R i).f1 - (S0 n par r i - (r d).f0))
    have s1 : sumI (fun c => (R c).f1) ((kid n par i).erase c) = (R d).f1 + sumI (fun c => (R c).f1) (((kid n par i).erase c).erase d) := sumI_erase hd
    have s2 : sumI (fun c => (r c).f0) ((kid n par i).erase c) = (r d).f0 + sumI (fun c => (r c).f0) (((kid n par i).erase c).erase d) := sumI_erase hd
    have s3 : sumI (fun c => (r c).f0) (((kid n par i).erase c).erase d) ≤ sumI (fun c => (R c).f1) (((kid n par i).erase c).erase d) := sumI_le fun e he => by
     have := hw e (mem_kid.1 (List.mem_of_mem_erase (List.mem_of_mem_erase he))).1
     show (r e).f0 ≤ (R e).f1
     omega
    omega
  ·by_cases hall : ∀ d ∈ (kid n par i).erase c, (R d).f0 = (r d).f0
   ·have : sumI (fun c => (R c).f0) ((kid n par i).erase c) = sumI (fun c => (r c).f0) ((kid n par i).erase c) := sumI_congr hall
    omega
   ·have ⟨d, hx⟩ := Classical.not_forall.1 hall
    have ⟨hd, hne⟩ := Classical.not_imp.1 hx
    have hd' := List.mem_of_mem_erase hd
    have hkd := (h.kids hs hu hi hd').1
    have b := mx_le (r d).f0 ((R i).f0 - loss i - (S1 n par r i - (r d).f1))
    have s1 : sumI (fun c => (R c).f0) ((kid n par i).erase c) = (R d).f0 + sumI (fun c => (R c).f0) (((kid n par i).erase c).erase d) := sumI_erase hd
    have s2 : sumI (fun c => (r c).f1) ((kid n par i).erase c) = (r d).f1 + sumI (fun c => (r c).f1) (((kid n par i).erase c).erase d) := sumI_erase hd
    have s3 : sumI (fun c => (R c).f0) (((kid n par i).erase c).erase d) ≤ sumI (fun c => (r c).f1) (((kid n par i).erase c).erase d) := sumI_le fun e he => by
     have := hw e (mem_kid.1 (List.mem_of_mem_erase (List.mem_of_mem_erase he))).1
     show (R e).f0 ≤ (r e).f1
     omega
    omega
theorem DnC.downRel (hd : DnC n par loss r) (hu : UpC n par loss r) (hs : Sane n par loss) : DownRel n par loss r r := by
 intro c hcn
 refine ⟨fun _ => rfl, fun i hp => ?_⟩
 have hic := hs.up c i hp
 have hc : c ∈ kid n par i := mem_kid.2 ⟨hcn, hp⟩
 have hfi := hu.1 i (by omega)
 rw [downV_plain hs hu.1 (by omega) hc (by omega)]
 have h := hd i c (by omega) hc
 apply S56.ext_
 ·show (r c).f0 = mx _ _
  unfold mx; split <;> omega
 ·show (r c).f1 = mn _ _
  unfold mn; split <;> omega
/-- One interval of a closed row is cut to its least volume, those above being single volumes. -/
theorem UpC.cut (hu : UpC n par loss r) (hd : DnC n par loss r) (hs : Sane n par loss) {k : Nat} (hk : k < n) (h1 : ∀ j, j < k → (r j).f0 = (r j).f1) :
  UpC n par loss (fun j => if j = k then ⟨(r k).f0, (r k).f0⟩ else r j) := by
 have hfk := hu.1 k hk
 refine ⟨fun i hi => ?_, fun i hi hne => ?_⟩
 ·have := hu.1 i hi
  by_cases e : i = k
  ·subst e
   simp only [if_true]
   omega
  ·simp only [if_neg e]
   omega
 ·have h2 := hu.2 i hi hne
  have e0 : S0 n par (fun j => if j = k then ⟨(r k).f0, (r k).f0⟩ else r j) i = S0 n par r i := sumI_congr fun c hc => by
   by_cases e : c = k
   ·subst e; simp
   ·simp only [if_neg e]
  rw [e0]
  by_cases hki : k ∈ kid n par i
  ·have hik := hs.up k i (mem_kid.1 hki).2
   have hsi := h1 i hik
   have hdi := hd i k hi hki
   have e1 : S1 n par (fun j => if j = k then ⟨(r k).f0, (r k).f0⟩ else r j) i = (r k).f0 + sumI (fun c => (r c).f1) ((kid n par i).erase k) := by
    show sumI _ _ = _
    rw [sumI_erase hki]
    simp only [if_true]
    rw [sumI_congr (g := fun c => (r c).f1)]
    intro c hc
    have := (List.Nodup.mem_erase_iff (kid_nodup n par i)).1 hc
    simp only [if_neg this.1]
   have r1 := hu.1.rest hki
   rw [e1]
   simp only [if_neg (show ¬ i = k by omega)]
   omega
  ·have e1 : S1 n par (fun j => if j = k then ⟨(r k).f0, (r k).f0⟩ else r j) i = S1 n par r i := sumI_congr fun c hc => by
    by_cases e : c = k
    ·subst e; exact absurd hc hki
    ·simp only [if_neg e]
   rw [e1]
   by_cases e : i = k
   ·subst e
    simp only [if_true]
    omega
   ·simp only [if_neg e]
    omega
end
end
section
-- Pipes that are put in between: a row of the longer network follows one of the shorter.
set_option linter.unusedVariables false
set_option linter.unusedSimpArgs false
/-! ### places -/
def stA (ins : Nat → Bool) : Nat → Nat
 | 0 => 0
 | i + 1 => stA ins i + (if ins i then 2 else 1)
def plA (ins : Nat → Bool) (i : Nat) : Nat := stA ins i + (if ins i then 1 else 0)
theorem stA_next (ins : Nat → Bool) (i : Nat) : stA ins (i + 1) = plA ins i + 1 := by
 show stA ins i + _ = stA ins i + _ + 1
 split <;> omega
theorem pl_of (ins : Nat → Bool) (i : Nat) : (ins i = true ∧ plA ins i = stA ins i + 1) ∨ (ins i = false ∧ plA ins i = stA ins i) := by
 unfold plA
 cases ins i <;> simp
theorem stA_lt (ins : Nat → Bool) {i j : Nat} (h : i < j) : plA ins i < stA ins j := by
 induction j with
 | zero => omega
 | succ j ih =>
  rw [stA_next]
  by_cases e : i = j
  ·subst e; omega
  ·have := ih (by omega)
   have := pl_of ins j
   omega
theorem stA_cover (ins : Nat → Bool) : ∀ n j, j < stA ins n → ∃ i, i < n ∧ (j = stA ins i ∨ (ins i = true ∧ j = plA ins i))
 | 0, j, h => by simp [stA] at h
 | n + 1, j, h => by
  rw [stA_next] at h
  have hp := pl_of ins n
  by_cases e : j < stA ins n
  ·obtain ⟨i, hi, hj⟩ := stA_cover ins n j e
   exact ⟨i, by omega, hj⟩
  ·refine ⟨n, by omega, ?_⟩
   rcases hp with ⟨h1, h2⟩ | ⟨h1, h2⟩
   ·by_cases e2 : j = stA ins n
    ·exact Or.inl e2
    ·exact Or.inr ⟨h1, by omega⟩
   ·exact Or.inl (by omega)
theorem stA_inj (ins : Nat → Bool) {i j : Nat} (h : stA ins i = stA ins j) : i = j := by
 rcases Nat.lt_trichotomy i j with e | e | e
 ·have := stA_lt ins e; have := pl_of ins i; omega
 ·exact e
 ·have := stA_lt ins e; have := pl_of ins j; omega
theorem plA_inj (ins : Nat → Bool) {i j : Nat} (h : plA ins i = plA ins j) : i = j := by
 rcases Nat.lt_trichotomy i j with e | e | e
 ·have := stA_lt ins e; have := pl_of ins j; omega
 ·exact e
 ·have := stA_lt ins e; have := pl_of ins i; omega
theorem pl_ne_st (ins : Nat → Bool) {i j : Nat} (hi : ins i = true) : stA ins i ≠ plA ins j := by
 have := pl_of ins i
 rcases Nat.lt_trichotomy i j with e | e | e
 ·have := stA_lt ins e; have := pl_of ins j; omega
 ·subst e; rcases this with ⟨_, h⟩ | ⟨h, _⟩
  ·omega
  ·rw [h] at hi; cases hi
 ·have := stA_lt ins e; omega
theorem sorted_ext : ∀ (l1 l2 : List Nat), l1.Pairwise (· < ·) → l2.Pairwise (· < ·) → (∀ x, x ∈ l1 ↔ x ∈ l2) → l1 = l2
 | [], [], _, _, _ => rfl
 | [], b :: _, _, _, h => by have := (h b).2 (by simp); cases this
 | a :: _, [], _, _, h => by have := (h a).1 (by simp); cases this
 | a :: l1, b :: l2, h1, h2, h => by
  obtain ⟨ha, h3⟩ := List.pairwise_cons.1 h1
  obtain ⟨hb, h4⟩ := List.pairwise_cons.1 h2
  have e : a = b := by
   rcases List.mem_cons.1 ((h a).1 (by simp)) with e | e
   ·exact e
   ·rcases List.mem_cons.1 ((h b).2 (by simp)) with f | f
    ·exact f.symm
    ·have := ha b f; have := hb a e; omega
  subst e
  rw [sorted_ext l1 l2 h3 h4 fun x => ?_]
  constructor
  ·intro hx
   rcases List.mem_cons.1 ((h x).1 (by simp [hx])) with e | e
   ·have := ha x hx; omega
   ·exact e
  ·intro hx
   rcases List.mem_cons.1 ((h x).2 (by simp [hx])) with e | e
   ·have := hb x hx; omega
   ·exact e
theorem kid_sorted (n : Nat) (par : Nat → Option Nat) (i : Nat) : (kid n par i).Pairwise (· < ·) := List.pairwise_lt_range.sublist List.filter_sublist
/-- A longer network: pipes are put in directly above some. -/
structure Longer (n : Nat) (ins : Nat → Bool) (par : Nat → Option Nat) (loss : Nat → Int) (Par : Nat → Option Nat) (Loss : Nat → Int) : Prop where
 up : ∀ c i, par c = some i → i < c
 par : ∀ i, i < n → Par (stA ins i) = (par i).map (plA ins)
 parIn : ∀ i, i < n → ins i = true → Par (plA ins i) = some (stA ins i)
 loss : ∀ i, i < n → Loss (plA ins i) = loss i
 lossIn : ∀ i, i < n → ins i = true → Loss (stA ins i) = 0
section
variable {n : Nat} {ins : Nat → Bool} {par : Nat → Option Nat} {loss : Nat → Int} {Par : Nat → Option Nat} {Loss : Nat → Int}
theorem Longer.kids (h : Longer n ins par loss Par Loss) {i : Nat} (hi : i < n) : kid (stA ins n) Par (plA ins i) = (kid n par i).map (stA ins) := by
 apply sorted_ext _ _ (kid_sorted _ _ _)
 ·rw [List.pairwise_map]
  exact (kid_sorted n par i).imp fun {a b} hab => by have := stA_lt ins hab; have := pl_of ins a; omega
 ·intro x
  rw [mem_kid, List.mem_map]
  constructor
  ·rintro ⟨hx, hp⟩
   obtain ⟨k, hk, e | ⟨e1, e⟩⟩ := stA_cover ins n x hx
   ·subst e
    rw [h.par k hk, Option.map_eq_some_iff] at hp
    obtain ⟨a, ha, e2⟩ := hp
    have := plA_inj ins e2
    subst this
    exact ⟨k, mem_kid.2 ⟨hk, ha⟩, rfl⟩
   ·subst e
    rw [h.parIn k hk e1] at hp
    exact absurd (Option.some.inj hp) (pl_ne_st ins e1)
  ·rintro ⟨k, hk, rfl⟩
   have hk := mem_kid.1 hk
   refine ⟨by have := stA_lt ins hk.1; have := pl_of ins k; omega, ?_⟩
   rw [h.par k hk.1, hk.2]
   rfl
theorem Longer.kidsIn (h : Longer n ins par loss Par Loss) {i : Nat} (hi : i < n) (hin : ins i = true) : kid (stA ins n) Par (stA ins i) = [plA ins i] := by
 apply sorted_ext _ _ (kid_sorted _ _ _) (by simp)
 intro x
 rw [mem_kid, List.mem_singleton]
 constructor
 ·rintro ⟨hx, hp⟩
  obtain ⟨k, hk, e | ⟨e1, e⟩⟩ := stA_cover ins n x hx
  ·subst e
   rw [h.par k hk, Option.map_eq_some_iff] at hp
   obtain ⟨a, ha, e2⟩ := hp
   exact absurd e2.symm (pl_ne_st ins hin)
  ·subst e
   rw [h.parIn k hk e1] at hp
   rw [stA_inj ins (Option.some.inj hp)]
 ·rintro rfl
  exact ⟨stA_lt ins hi, h.parIn i hi hin⟩
def wfV (x : S56) : Prop := wf64 x.f0 ∧ wf64 x.f1
def Rel0 (n : Nat) (ins : Nat → Bool) (r R : Nat → S56) : Prop := ∀ i, i < n → wfV (R (plA ins i)) ∧ wfV (R (stA ins i)) ∧ (ins i = false → R (plA ins i) = r i) ∧ (ins i = true → r i = cutV (R (stA ins i)) (R (plA ins i)).f0 (R (plA ins i)).f1)
def Rel1 (n : Nat) (ins : Nat → Bool) (r R : Nat → S56) : Prop := ∀ i, i < n → wfV (R (plA ins i)) ∧ wfV (R (stA ins i)) ∧ R (stA ins i) = r i ∧ (R (plA ins i)).f0 ≤ (r i).f0 ∧ (r i).f1 ≤ (R (plA ins i)).f1
def Rel2 (n : Nat) (ins : Nat → Bool) (r R : Nat → S56) : Prop := ∀ i, i < n → wfV (r i) ∧ R (stA ins i) = r i ∧ R (plA ins i) = r i
theorem wrap_wf (x : Int) : wf64 (wrap64 x) := by unfold wf64 wrap64; omega
theorem wrap_of {x : Int} (h : wf64 x) : wrap64 x = x := by unfold wf64 at h; unfold wrap64; omega
theorem tot_wf (f : S56 → Int) (xs : List S56) : wf64 (tot f xs) := by
 have : ∀ (xs : List S56) (a : Int), wf64 a → wf64 (xs.foldl (fun n x => wrap64 (n + f x)) a) := by
  intro xs
  induction xs with
  | nil => exact fun a h => h
  | cons x xs ih => exact fun a _ => ih _ (wrap_wf _)
 exact this xs 0 (by unfold wf64; omega)
theorem cut_wf {x : S56} {a b : Int} (hx : wfV x) (ha : wf64 a) (hb : wf64 b) : wfV (cutV x a b) := by
 unfold wfV at *
 have h1 := (mx_le x.f0 a).2.2
 have h2 := (mn_le x.f1 b).2.2
 constructor
 ·show wf64 (mx x.f0 a)
  rcases h1 with h | h <;> rw [h]
  ·exact hx.1
  ·exact ha
 ·show wf64 (mn x.f1 b)
  rcases h2 with h | h <;> rw [h]
  ·exact hx.2
  ·exact hb
theorem up_wf {N : Nat} {i : Nat} {x : S56} {R : Nat → S56} (hx : wfV x) : wfV (upV N Par Loss i x R) := by
 unfold upV
 split
 ·exact hx
 ·exact cut_wf hx (tot_wf _ _) (wrap_wf _)
theorem down_wf {N : Nat} {i c : Nat} {y : S56} {R : Nat → S56} (hx : wfV (R c)) : wfV (downV N Par Loss R c i y) := cut_wf hx (wrap_wf _) (wrap_wf _)
theorem cut_cut (q p : S56) (a b : Int) : cutV (cutV q p.f0 p.f1) a b = cutV q (cutV p a b).f0 (cutV p a b).f1 := by
 apply S56.ext_
 ·show mx (mx _ _) _ = mx _ (mx _ _)
  unfold mx
  repeat' split
  all_goals omega
 ·show mn (mn _ _) _ = mn _ (mn _ _)
  unfold mn
  repeat' split
  all_goals omega
theorem cut_le (x : S56) (a b : Int) : x.f0 ≤ (cutV x a b).f0 ∧ a ≤ (cutV x a b).f0 ∧ (cutV x a b).f1 ≤ x.f1 ∧ (cutV x a b).f1 ≤ b := by
 have := mx_le x.f0 a
 have := mn_le x.f1 b
 show _ ≤ mx x.f0 a ∧ _ ≤ mx x.f0 a ∧ mn x.f1 b ≤ _ ∧ mn x.f1 b ≤ _
 omega
theorem cut_id {x : S56} {a b : Int} (h0 : a ≤ x.f0) (h1 : x.f1 ≤ b) : cutV x a b = x := by
 apply S56.ext_
 ·show mx _ _ = _
  unfold mx; split <;> omega
 ·show mn _ _ = _
  unfold mn; split <;> omega
theorem cut_to {x y : S56} (h0 : x.f0 ≤ y.f0) (h1 : y.f1 ≤ x.f1) : cutV x y.f0 y.f1 = y := by
 apply S56.ext_
 ·show mx _ _ = _
  unfold mx; split <;> omega
 ·show mn _ _ = _
  unfold mn; split <;> omega
theorem Longer.upSim (h : Longer n ins par loss Par Loss) {r r' R R' : Nat → S56} (hr : UpRel n par loss r r') (hR : UpRel (stA ins n) Par Loss R R') (h0 : Rel0 n ins r R) : Rel1 n ins r' R' := by
 have key : ∀ d i, n - i ≤ d → i < n → wfV (R' (plA ins i)) ∧ wfV (R' (stA ins i)) ∧ R' (stA ins i) = r' i ∧ (R' (plA ins i)).f0 ≤ (r' i).f0 ∧ (r' i).f1 ≤ (R' (plA ins i)).f1 := by
  intro d
  induction d with
  | zero => intro i h1 h2; omega
  | succ d ih =>
   intro i h1 hi
   obtain ⟨w1, w2, hn, hy⟩ := h0 i hi
   have eP := hR (plA ins i) (stA_lt ins hi)
   have er := hr i hi
   have hw : wfV (R' (plA ins i)) := by rw [eP]; exact up_wf w1
   have ek : (kid (stA ins n) Par (plA ins i)).map R' = (kid n par i).map r' := by
    rw [h.kids hi, List.map_map]
    exact kid_map_congr fun c hc => by
     have hc := mem_kid.1 hc
     have := h.up c i hc.2
     exact (ih c (by omega) hc.1).2.2.1
   have en : kid (stA ins n) Par (plA ins i) = [] ↔ kid n par i = [] := by rw [h.kids hi, List.map_eq_nil_iff]
   have eP2 : R' (plA ins i) = upV n par loss i (R (plA ins i)) r' := by
    rw [eP]
    unfold upV
    rw [ek, h.loss i hi]
    by_cases hk : kid n par i = []
    ·rw [if_pos hk, if_pos (en.2 hk)]
    ·rw [if_neg hk, if_neg (fun x => hk (en.1 x))]
   rcases pl_of ins i with ⟨hin, hp⟩ | ⟨hin, hp⟩
   ·have eQ := hR (stA ins i) (by have := stA_lt ins hi; omega)
    unfold upV at eQ
    rw [h.kidsIn hi hin, if_neg (by simp), h.lossIn i hi hin] at eQ
    have t0 : ∀ f : S56 → Int, wf64 (f (R' (plA ins i))) → tot f ([plA ins i].map R') = f (R' (plA ins i)) := by
     intro f hf
     show wrap64 (0 + f (R' (plA ins i))) = _
     rw [Int.zero_add, wrap_of hf]
    rw [t0 _ hw.1, t0 _ hw.2, Int.add_zero, wrap_of hw.2] at eQ
    have e2 : r' i = R' (stA ins i) := by
     rw [er, eQ, eP2, hy hin]
     unfold upV
     split
     ·rfl
     ·exact cut_cut _ _ _ _
    have := cut_le (R (stA ins i)) (R' (plA ins i)).f0 (R' (plA ins i)).f1
    rw [← eQ, ← e2] at this
    refine ⟨hw, ?_, e2.symm, this.2.1, this.2.2.2⟩
    rw [eQ]
    exact cut_wf w2 hw.1 hw.2
   ·have e2 : R' (plA ins i) = r' i := by rw [eP2, er, hn hin]
    rw [← hp]
    refine ⟨hw, hw, e2, ?_, ?_⟩ <;> rw [e2] <;> exact Int.le_refl _
 exact fun i hi => key (n - i) i (Nat.le_refl _) hi
theorem down_in {r : Nat → S56} {N : Nat} {c i : Nat} (y : S56) : (r c).f0 ≤ (downV N Par Loss r c i y).f0 ∧ (downV N Par Loss r c i y).f1 ≤ (r c).f1 := by
 have := cut_le (r c) (wrap64 (wrap64 (y.f0 - Loss i) - wrap64 (tot S56.f1 ((kid N Par i).map r) - (r c).f1))) (wrap64 (y.f1 - wrap64 (tot S56.f0 ((kid N Par i).map r) - (r c).f0)))
 exact ⟨this.1, this.2.2.1⟩
theorem Longer.downSim (h : Longer n ins par loss Par Loss) {r r' R R' : Nat → S56} (hr : DownRel n par loss r r') (hR : DownRel (stA ins n) Par Loss R R') (h0 : Rel1 n ins r R) : Rel2 n ins r' R' := by
 intro i
 induction i using Nat.strongRecOn with
 | _ i ih =>
  intro hi
  have ih := fun a ha => ih a ha (by omega)
  obtain ⟨w1, w2, he, hl, hh⟩ := h0 i hi
  have hsi : stA ins i < stA ins n := by have := stA_lt ins hi; have := pl_of ins i; omega
  have e1 : R' (stA ins i) = r' i ∧ wfV (r' i) ∧ (r i).f0 ≤ (r' i).f0 ∧ (r' i).f1 ≤ (r i).f1 := by
   cases hp : par i with
   | none =>
    rw [(hr i hi).1 hp, (hR _ hsi).1 (by rw [h.par i hi, hp]; rfl), he]
    exact ⟨rfl, by rw [← he]; exact w2, Int.le_refl _, Int.le_refl _⟩
   | some a =>
    have ha := h.up i a hp
    have e2 := (hR _ hsi).2 (plA ins a) (by rw [h.par i hi, hp]; rfl)
    have e3 := (hr i hi).2 a hp
    rw [(ih a ha).2.2] at e2
    have ek : (kid (stA ins n) Par (plA ins a)).map R = (kid n par a).map r := by
     rw [h.kids (by omega), List.map_map]
     exact kid_map_congr fun c hc => (h0 c (mem_kid.1 hc).1).2.2.1
    have e4 : R' (stA ins i) = downV n par loss r i a (r' a) := by
     rw [e2]
     unfold downV
     rw [ek, he, h.loss a (by omega)]
    rw [e4, e3]
    refine ⟨rfl, down_wf (by rw [← he]; exact w2), ?_⟩
    exact down_in _
  refine ⟨e1.2.1, e1.1, ?_⟩
  rcases pl_of ins i with ⟨hin, hp⟩ | ⟨hin, hp⟩
  ·have e2 := (hR _ (stA_lt ins hi)).2 (stA ins i) (h.parIn i hi hin)
   unfold downV at e2
   have t0 : ∀ f : S56 → Int, wf64 (f (R (plA ins i))) → tot f ([plA ins i].map R) = f (R (plA ins i)) := by
    intro f hf
    show wrap64 (0 + f (R (plA ins i))) = _
    rw [Int.zero_add, wrap_of hf]
   have z : wrap64 0 = 0 := by unfold wrap64; omega
   rw [h.kidsIn hi hin, t0 _ w1.1, t0 _ w1.2, h.lossIn i hi hin, Int.sub_self, Int.sub_self, z, Int.sub_zero, Int.sub_zero, Int.sub_zero, e1.1, wrap_of e1.2.1.1, wrap_of e1.2.1.1, wrap_of e1.2.1.2] at e2
   rw [e2]
   exact cut_to (by omega) (by omega)
  ·rw [hp]
   exact e1.1
theorem Rel1.none_empty {r R : Nat → S56} (h : Rel1 n ins r R) : (∀ j, j < stA ins n → (R j).f0 ≤ (R j).f1) ↔ ∀ i, i < n → (r i).f0 ≤ (r i).f1 := by
 constructor
 ·intro hj i hi
  have := hj (stA ins i) (by have := stA_lt ins hi; have := pl_of ins i; omega)
  rwa [(h i hi).2.2.1] at this
 ·intro hi j hj
  obtain ⟨i, hin, e | ⟨_, e⟩⟩ := stA_cover ins n j hj
  ·rw [e, (h i hin).2.2.1]
   exact hi i hin
  ·have h1 := h i hin
   have := hi i hin
   rw [e]
   omega
theorem Rel2.none_empty {r R : Nat → S56} (h : Rel2 n ins r R) : (∀ j, j < stA ins n → (R j).f0 ≤ (R j).f1) ↔ ∀ i, i < n → (r i).f0 ≤ (r i).f1 := by
 constructor
 ·intro hj i hi
  have := hj (stA ins i) (by have := stA_lt ins hi; have := pl_of ins i; omega)
  rwa [(h i hi).2.1] at this
 ·intro hi j hj
  obtain ⟨i, hin, e | ⟨_, e⟩⟩ := stA_cover ins n j hj
  ·rw [e, (h i hin).2.1]
   exact hi i hin
  ·rw [e, (h i hin).2.2]
   exact hi i hin
theorem Rel2.rel0 {r R : Nat → S56} (h : Rel2 n ins r R) : Rel0 n ins r R := by
 intro i hi
 obtain ⟨w, e1, e2⟩ := h i hi
 rw [e1, e2]
 exact ⟨w, w, fun _ => rfl, fun _ => (cut_id (Int.le_refl _) (Int.le_refl _)).symm⟩
end
end
section
-- The bounds, and the rounds of State, of the longer network follow those of the shorter.
set_option linter.unusedVariables false
set_option linter.unusedSimpArgs false
theorem rowF_lt {rs : List S56} {i : Nat} (h : i < rs.length) : rowF rs i = rs[i] := by
 rw [rowF_getD, List.getD_eq_getElem?_getD, List.getElem?_eq_getElem h]
 rfl
theorem row_ext {a b : List S56} (hl : a.length = b.length) (h : ∀ i, i < a.length → rowF a i = rowF b i) : a = b := by
 apply List.ext_getElem hl
 intro i h1 h2
 rw [← rowF_lt h1, ← rowF_lt h2]
 exact h i h1
theorem any_empty (rs : List S56) : rs.any emptyB = false ↔ ∀ i, i < rs.length → (rowF rs i).f0 ≤ (rowF rs i).f1 := by
 rw [List.any_eq_false]
 constructor
 ·intro h i hi
  have := h rs[i] (List.getElem_mem hi)
  rw [rowF_lt hi]
  simp [emptyB] at this
  exact this
 ·intro h x hx
  obtain ⟨i, hi, rfl⟩ := List.getElem_of_mem hx
  have := h i hi
  rw [rowF_lt hi] at this
  simp [emptyB]
  exact this
theorem boundsF_len (ls : List S28) (kids : List (List Int)) (rs : List S56) (n : Nat) : (boundsF ls kids rs n).2.length = rs.length := by
 unfold boundsF
 split
 ·exact upAll_length _ _ _ _
 ·show (downTo _ _ _ _).length = _
  rw [downTo_length, upAll_length]
section
variable {ls : List S28} {rs : List S56} {n : Nat}
theorem boundsF_parts (hn : rs.length = n) : ∃ U D : List S56, U.length = n ∧ D.length = n ∧ UpRel n (parN ls) (lossN ls) (rowF rs) (rowF U) ∧ DownRel n (parN ls) (lossN ls) (rowF U) (rowF D) ∧
  boundsF ls (kidsTo ls n n) rs n = if U.any emptyB = true then (false, U) else (!D.any emptyB, D) := by
 refine ⟨upAll ls (kidsTo ls n n) rs (dn n n), downTo ls (kidsTo ls n n) (upAll ls (kidsTo ls n n) rs (dn n n)) n, ?_, ?_, upAll_rel ls rs n hn, downTo_rel ls _ n ?_, rfl⟩
 ·rw [upAll_length]; exact hn
 ·rw [downTo_length, upAll_length]; exact hn
 ·rw [upAll_length]; exact hn
theorem boundsF_ok (hn : rs.length = n) (hs : Sane n (parN ls) (lossN ls)) (hr : ∀ i, i < n → 0 ≤ (rowF rs i).f0 ∧ (rowF rs i).f1 ≤ 1000000000) (h : (boundsF ls (kidsTo ls n n) rs n).1 = true) :
  UpC n (parN ls) (lossN ls) (rowF (boundsF ls (kidsTo ls n n) rs n).2) ∧ DnC n (parN ls) (lossN ls) (rowF (boundsF ls (kidsTo ls n n) rs n).2) := by
 obtain ⟨U, D, hU, hD, hu, hd, e⟩ := boundsF_parts (ls := ls) hn
 rw [e] at h ⊢
 by_cases hz : U.any emptyB = true
 ·rw [if_pos hz] at h; cases h
 ·rw [if_neg hz]
  have hz2 := (any_empty U).1 (by simpa using hz)
  rw [hU] at hz2
  exact hd.closed hs (hu.upC hs hr hz2)
theorem boundsF_up (hn : rs.length = n) (hs : Sane n (parN ls) (lossN ls)) (hu : UpC n (parN ls) (lossN ls) (rowF rs)) :
  (boundsF ls (kidsTo ls n n) rs n).1 = true ∧ DownRel n (parN ls) (lossN ls) (rowF rs) (rowF (boundsF ls (kidsTo ls n n) rs n).2) := by
 obtain ⟨U, D, hU, hD, hu', hd, e⟩ := boundsF_parts (ls := ls) hn
 have eU : U = rs := row_ext (by omega) (fun i hi => hu'.unique (hu.upRel hs) hs.up i (by omega))
 subst eU
 have hz : U.any emptyB = false := (any_empty U).2 (fun i hi => (hu.1 i (by omega)).2.1)
 have hw := hd.within hs hu
 have hzD : D.any emptyB = false := (any_empty D).2 (fun i hi => (hw i (by omega)).2.1)
 rw [e, hz, hzD]
 exact ⟨rfl, hd⟩
theorem boundsF_closed (hn : rs.length = n) (hs : Sane n (parN ls) (lossN ls)) (hu : UpC n (parN ls) (lossN ls) (rowF rs)) (hd : DnC n (parN ls) (lossN ls) (rowF rs)) :
  boundsF ls (kidsTo ls n n) rs n = (true, rs) := by
 obtain ⟨h1, h2⟩ := boundsF_up hn hs hu
 have e : (boundsF ls (kidsTo ls n n) rs n).2 = rs := row_ext (by rw [boundsF_len]) (fun i hi => h2.unique (hd.downRel hu hs) hs.up i (by rw [boundsF_len] at hi; omega))
 exact Prod.ext h1 e
variable {ins : Nat → Bool} {m : List S28} {Rs : List S56}
theorem bounds_sim (hL : Longer n ins (parN ls) (lossN ls) (parN m) (lossN m)) (hn : rs.length = n) (hN : Rs.length = stA ins n) (h0 : Rel0 n ins (rowF rs) (rowF Rs)) :
  (boundsF m (kidsTo m (stA ins n) (stA ins n)) Rs (stA ins n)).1 = (boundsF ls (kidsTo ls n n) rs n).1 ∧
   ((boundsF ls (kidsTo ls n n) rs n).1 = true → Rel2 n ins (rowF (boundsF ls (kidsTo ls n n) rs n).2) (rowF (boundsF m (kidsTo m (stA ins n) (stA ins n)) Rs (stA ins n)).2)) := by
 obtain ⟨U, D, hU, hD, hu, hd, e⟩ := boundsF_parts (ls := ls) hn
 obtain ⟨U', D', hU', hD', hu', hd', e'⟩ := boundsF_parts (ls := m) hN
 have h1 := hL.upSim hu hu' h0
 have h2 := hL.downSim hd hd' h1
 have q1 : U'.any emptyB = U.any emptyB := by
  rw [Bool.eq_iff_iff, ← Decidable.not_iff_not, Bool.not_eq_true, Bool.not_eq_true, any_empty, any_empty, hU, hU']
  exact h1.none_empty
 have q2 : D'.any emptyB = D.any emptyB := by
  rw [Bool.eq_iff_iff, ← Decidable.not_iff_not, Bool.not_eq_true, Bool.not_eq_true, any_empty, any_empty, hD, hD']
  exact h2.none_empty
 rw [e, e', q1, q2]
 by_cases hz : U.any emptyB = true
 ·rw [if_pos hz, if_pos hz]
  exact ⟨rfl, fun h => by cases h⟩
 ·rw [if_neg hz, if_neg hz]
  exact ⟨rfl, fun _ => h2⟩
/-- Where both are in a round of State. -/
structure StI (ls : List S28) (n : Nat) (ins : Nat → Bool) (i : Nat) (a A : List S56) : Prop where
 len : a.length = n ∧ A.length = stA ins n
 rel : Rel2 n ins (rowF a) (rowF A)
 up : UpC n (parN ls) (lossN ls) (rowF a)
 down : DnC n (parN ls) (lossN ls) (rowF a)
 one : ∀ j, j < i → (rowF a j).f0 = (rowF a j).f1
theorem stR_len (ls : List S28) (kids : List (List Int)) (r1 : List S56) (n : Nat) : ∀ j, (stR ls kids r1 n j).length = r1.length
 | 0 => rfl
 | j + 1 => by
  show (boundsF _ _ _ _).2.length = _
  rw [boundsF_len, List.length_set]
  exact stR_len ls kids r1 n j
theorem stR_next (ls : List S28) (kids : List (List Int)) (r1 : List S56) (n j : Nat) : stR ls kids r1 n (j + 1) = (boundsF ls kids ((stR ls kids r1 n j).set j ⟨(rowF (stR ls kids r1 n j) j).f0, (rowF (stR ls kids r1 n j) j).f0⟩) n).2 := rfl
theorem StI.next (hL : Longer n ins (parN ls) (lossN ls) (parN m) (lossN m)) (hs : Sane n (parN ls) (lossN ls)) {i : Nat} (hi : i < n)
  (h : StI ls n ins i (stR ls (kidsTo ls n n) rs n i) (stR m (kidsTo m (stA ins n) (stA ins n)) Rs (stA ins n) (stA ins i))) :
  StI ls n ins (i + 1) (stR ls (kidsTo ls n n) rs n (i + 1)) (stR m (kidsTo m (stA ins n) (stA ins n)) Rs (stA ins n) (stA ins (i + 1))) ∧
   stX m (kidsTo m (stA ins n) (stA ins n)) Rs (stA ins n) (plA ins i) = stX ls (kidsTo ls n n) rs n i := by
 have ea : stR ls (kidsTo ls n n) rs n (i + 1) = _ := stR_next _ _ _ _ _
 have eA : stR m (kidsTo m (stA ins n) (stA ins n)) Rs (stA ins n) (stA ins i + 1) = _ := stR_next _ _ _ _ _
 have xa : stX ls (kidsTo ls n n) rs n i = (rowF (stR ls (kidsTo ls n n) rs n i) i).f0 := rfl
 have xA : stX m (kidsTo m (stA ins n) (stA ins n)) Rs (stA ins n) (stA ins i) = (rowF (stR m (kidsTo m (stA ins n) (stA ins n)) Rs (stA ins n) (stA ins i)) (stA ins i)).f0 := rfl
 rw [ea, xa]
 generalize stR ls (kidsTo ls n n) rs n i = a at *
 generalize hAe : stR m (kidsTo m (stA ins n) (stA ins n)) Rs (stA ins n) (stA ins i) = A at *
 obtain ⟨⟨la, lA⟩, hrel, hup, hdn, hone⟩ := h
 have hst : stA ins i < stA ins n := by have := stA_lt ins hi; have := pl_of ins i; omega
 obtain ⟨wi, es, ep⟩ := hrel i hi
 have hfi := hup.1 i hi
 rw [es] at eA xA
 -- the shorter
 have hb : rowF (a.set i ⟨(rowF a i).f0, (rowF a i).f0⟩) = fun j => if j = i then ⟨(rowF a i).f0, (rowF a i).f0⟩ else rowF a j := by
  funext j
  rw [rowF_set _ _ _ (by omega)]
 have hcut := hup.cut hdn hs hi hone
 rw [← hb] at hcut
 have lb : (a.set i ⟨(rowF a i).f0, (rowF a i).f0⟩).length = n := by rw [List.length_set]; exact la
 obtain ⟨bt, bd⟩ := boundsF_up lb hs hcut
 have hcl := bd.closed hs hcut
 have hw := bd.within hs hcut
 have hone2 : ∀ j, j < i + 1 → (rowF (boundsF ls (kidsTo ls n n) (a.set i ⟨(rowF a i).f0, (rowF a i).f0⟩) n).2 j).f0 = (rowF (boundsF ls (kidsTo ls n n) (a.set i ⟨(rowF a i).f0, (rowF a i).f0⟩) n).2 j).f1 := by
  intro j hj
  have := hw j (by omega)
  rw [hb] at this
  by_cases e : j = i
  ·simp only [if_pos e] at this
   omega
  ·simp only [if_neg e] at this
   have := hone j (by omega)
   omega
 have hx2 : rowF (boundsF ls (kidsTo ls n n) (a.set i ⟨(rowF a i).f0, (rowF a i).f0⟩) n).2 i = ⟨(rowF a i).f0, (rowF a i).f0⟩ := by
  have := hw i hi
  rw [hb] at this
  simp only [if_true] at this
  apply S56.ext_
  ·show _ = (rowF a i).f0
   omega
  ·show _ = (rowF a i).f0
   omega
 have lB : (A.set (stA ins i) ⟨(rowF a i).f0, (rowF a i).f0⟩).length = stA ins n := by rw [List.length_set]; exact lA
 have wx : wfV ⟨(rowF a i).f0, (rowF a i).f0⟩ := ⟨wi.1, wi.1⟩
 have h0 : Rel0 n ins (rowF (a.set i ⟨(rowF a i).f0, (rowF a i).f0⟩)) (rowF (A.set (stA ins i) ⟨(rowF a i).f0, (rowF a i).f0⟩)) := by
  intro k hk
  rw [rowF_set _ _ _ (by omega), rowF_set _ _ _ (by omega), rowF_set _ _ _ (by omega)]
  by_cases e : k = i
  ·subst e
   rw [if_pos rfl, if_pos rfl]
   rcases pl_of ins k with ⟨hin, hp⟩ | ⟨hin, hp⟩
   ·rw [if_neg (by omega), ep]
    refine ⟨wi, wx, fun h => (by rw [hin] at h; cases h), fun _ => (cut_id (Int.le_refl _) hfi.2.1).symm⟩
   ·rw [if_pos hp]
    exact ⟨wx, wx, fun _ => rfl, fun h => by rw [hin] at h; cases h⟩
  ·have n1 : stA ins k ≠ stA ins i := fun h => e (stA_inj ins h)
   have n2 : plA ins k ≠ stA ins i := by
    intro h
    rcases Nat.lt_trichotomy k i with l | l | l
    ·have := stA_lt ins l; omega
    ·exact e l
    ·have := stA_lt ins l; have := pl_of ins k; have := pl_of ins i; omega
   rw [if_neg e, if_neg n1, if_neg n2]
   exact hrel.rel0 k hk
 obtain ⟨_, g2⟩ := bounds_sim hL lb lB h0
 have g2 := g2 bt
 rw [← eA] at g2
 have lA1 : (stR m (kidsTo m (stA ins n) (stA ins n)) Rs (stA ins n) (stA ins i + 1)).length = stA ins n := by rw [eA, boundsF_len]; exact lB
 have lb1 : (boundsF ls (kidsTo ls n n) (a.set i ⟨(rowF a i).f0, (rowF a i).f0⟩) n).2.length = n := by rw [boundsF_len]; exact lb
 rcases pl_of ins i with ⟨hin, hp⟩ | ⟨hin, hp⟩
 ·have es2 : stA ins (i + 1) = stA ins i + 1 + 1 := by rw [stA_next, hp]
  rw [es2, hp]
  have e3 : stR m (kidsTo m (stA ins n) (stA ins n)) Rs (stA ins n) (stA ins i + 1 + 1) = _ := stR_next _ _ _ _ _
  have x3 : stX m (kidsTo m (stA ins n) (stA ins n)) Rs (stA ins n) (stA ins i + 1) = (rowF (stR m (kidsTo m (stA ins n) (stA ins n)) Rs (stA ins n) (stA ins i + 1)) (stA ins i + 1)).f0 := rfl
  rw [e3, x3]
  generalize stR m (kidsTo m (stA ins n) (stA ins n)) Rs (stA ins n) (stA ins i + 1) = A1 at *
  generalize boundsF ls (kidsTo ls n n) (a.set i ⟨(rowF a i).f0, (rowF a i).f0⟩) n = b at *
  have e4 := (g2 i hi).2.2
  rw [hp, hx2] at e4
  have e5 : A1.set (stA ins i + 1) ⟨(rowF A1 (stA ins i + 1)).f0, (rowF A1 (stA ins i + 1)).f0⟩ = A1 := by
   apply row_ext (by rw [List.length_set])
   intro j hj
   rw [List.length_set] at hj
   rw [rowF_set _ _ _ (by have := stA_lt ins hi; omega)]
   by_cases e : j = stA ins i + 1
   ·rw [if_pos e, e, e4]
   ·rw [if_neg e]
  have hc := boundsF_closed lb1 hs hcl.1 hcl.2
  obtain ⟨_, g4⟩ := bounds_sim hL lb1 lA1 g2.rel0
  rw [hc] at g4
  have g4 := g4 rfl
  rw [e5, e4]
  exact ⟨⟨⟨lb1, by rw [boundsF_len]; exact lA1⟩, g4, hcl.1, hcl.2, hone2⟩, rfl⟩
 ·have es2 : stA ins (i + 1) = stA ins i + 1 := by rw [stA_next, hp]
  rw [es2, hp, xA]
  exact ⟨⟨⟨lb1, lA1⟩, g2, hcl.1, hcl.2, hone2⟩, rfl⟩
theorem StI.all (hL : Longer n ins (parN ls) (lossN ls) (parN m) (lossN m)) (hs : Sane n (parN ls) (lossN ls)) (h : StI ls n ins 0 rs Rs) : ∀ i, i ≤ n →
  StI ls n ins i (stR ls (kidsTo ls n n) rs n i) (stR m (kidsTo m (stA ins n) (stA ins n)) Rs (stA ins n) (stA ins i))
 | 0, _ => h
 | i + 1, hi => (StI.next hL hs (by omega) (StI.all hL hs h i (by omega))).1
theorem st_sim (hL : Longer n ins (parN ls) (lossN ls) (parN m) (lossN m)) (hs : Sane n (parN ls) (lossN ls)) (h : StI ls n ins 0 rs Rs) (i : Nat) (hi : i < n) :
  stX m (kidsTo m (stA ins n) (stA ins n)) Rs (stA ins n) (plA ins i) = stX ls (kidsTo ls n n) rs n i := (StI.next hL hs hi (StI.all hL hs h i (by omega))).2
end
end
section
-- What w11Between makes, read: the places of the pipes, and the longer network.
set_option linter.unusedVariables false
set_option linter.unusedSimpArgs false
theorem getD_snoc_lt {α : Type} (z : α) (xs : List α) (y : α) (i : Nat) (h : i < xs.length) : (xs ++ [y]).getD i z = xs.getD i z := by
 rw [List.getD_eq_getElem?_getD, List.getD_eq_getElem?_getD, List.getElem?_append_left h]
theorem getD_snoc_eq {α : Type} (z : α) (xs : List α) (y : α) (i : Nat) (h : i = xs.length) : (xs ++ [y]).getD i z = y := by
 rw [List.getD_eq_getElem?_getD, h, List.getElem?_append_right (Nat.le_refl _), Nat.sub_self]
 rfl
/-- The pipe that is put in, and the pipe below it, of pipe i. -/
def pipeIn (p : S28) : S28 := ⟨wrap64 ((wrap64 (2 * p.f0)) - 1), wrap64 (2 * p.f1), 0⟩
def pipeOn (b : Bool) (p : S28) : S28 := ⟨wrap64 (2 * p.f0), if b then wrap64 ((wrap64 (2 * p.f0)) - 1) else wrap64 (2 * p.f1), p.f2⟩
structure BRead (ls : List S28) (known : List S35) (at_ : List Int) (k : Nat) (s : List S28 × List S35 × List Int) : Prop where
 len1 : s.1.length = stA (putIn at_) k
 len2 : s.2.1.length = stA (putIn at_) k
 len3 : s.2.2.length = k
 on : ∀ i, i < k → s.1.getD (plA (putIn at_) i) z28 = pipeOn (putIn at_ i) (rd_T28 ls (i : Int))
 put : ∀ i, i < k → putIn at_ i = true → s.1.getD (stA (putIn at_) i) z28 = pipeIn (rd_T28 ls (i : Int))
 kn : ∀ i, i < k → s.2.1.getD (plA (putIn at_) i) z35 = rd_T35 known (i : Int)
 free : ∀ i, i < k → putIn at_ i = true → s.2.1.getD (stA (putIn at_) i) z35 = ⟨0, 1000000000⟩
 pl : ∀ i, i < k → s.2.2.getD i 0 = (plA (putIn at_) i : Int)
theorem bTo_read (ls : List S28) (known : List S35) (at_ : List Int) : ∀ k, BRead ls known at_ k (bTo ls known at_ k)
 | 0 => ⟨rfl, rfl, rfl, fun i h => by omega, fun i h => by omega, fun i h => by omega, fun i h => by omega, fun i h => by omega⟩
 | k + 1 => by
  have ih := bTo_read ls known at_ k
  show BRead ls known at_ (k + 1) (bStep ls known at_ k (bTo ls known at_ k))
  generalize bTo ls known at_ k = s at ih
  obtain ⟨l1, l2, l3, h1, h2, h3, h4, h5⟩ := ih
  have hp := pl_of (putIn at_) k
  have hn := stA_next (putIn at_) k
  have hlt : ∀ i, i < k → plA (putIn at_) i < stA (putIn at_) k ∧ stA (putIn at_) i < stA (putIn at_) k := fun i hi => by
   have := stA_lt (putIn at_) hi
   have := pl_of (putIn at_) i
   omega
  unfold bStep
  by_cases hb : putIn at_ k = true
  ·rw [if_pos hb]
   have hpk : plA (putIn at_) k = stA (putIn at_) k + 1 := by
    rcases hp with ⟨_, h⟩ | ⟨h, _⟩
    ·exact h
    ·rw [h] at hb; cases hb
   refine ⟨?_, ?_, ?_, ?_, ?_, ?_, ?_, ?_⟩
   ·show ((s.1 ++ [_]) ++ [_]).length = _
    rw [List.length_append, List.length_append, l1, hn, hpk]; rfl
   ·show ((s.2.1 ++ [_]) ++ [_]).length = _
    rw [List.length_append, List.length_append, l2, hn, hpk]; rfl
   ·show (s.2.2 ++ [_]).length = _
    rw [List.length_append, l3]; rfl
   ·intro i hi
    show ((s.1 ++ [_]) ++ [_]).getD _ _ = _
    by_cases e : i = k
    ·subst e
     rw [getD_snoc_eq _ _ _ _ (by rw [List.length_append, l1, hpk]; rfl), hb]
     rfl
    ·have := hlt i (by omega)
     rw [getD_snoc_lt _ _ _ _ (by rw [List.length_append, l1]; omega), getD_snoc_lt _ _ _ _ (by omega)]
     exact h1 i (by omega)
   ·intro i hi hin
    show ((s.1 ++ [_]) ++ [_]).getD _ _ = _
    by_cases e : i = k
    ·subst e
     rw [getD_snoc_lt _ _ _ _ (by rw [List.length_append, l1]; show _ < _ + 1; omega), getD_snoc_eq _ _ _ _ l1.symm]
     rfl
    ·have := hlt i (by omega)
     rw [getD_snoc_lt _ _ _ _ (by rw [List.length_append, l1]; omega), getD_snoc_lt _ _ _ _ (by omega)]
     exact h2 i (by omega) hin
   ·intro i hi
    show ((s.2.1 ++ [_]) ++ [_]).getD _ _ = _
    by_cases e : i = k
    ·subst e
     rw [getD_snoc_eq _ _ _ _ (by rw [List.length_append, l2, hpk]; rfl)]
    ·have := hlt i (by omega)
     rw [getD_snoc_lt _ _ _ _ (by rw [List.length_append, l2]; omega), getD_snoc_lt _ _ _ _ (by omega)]
     exact h3 i (by omega)
   ·intro i hi hin
    show ((s.2.1 ++ [_]) ++ [_]).getD _ _ = _
    by_cases e : i = k
    ·subst e
     rw [getD_snoc_lt _ _ _ _ (by rw [List.length_append, l2]; show _ < _ + 1; omega), getD_snoc_eq _ _ _ _ l2.symm]
    ·have := hlt i (by omega)
     rw [getD_snoc_lt _ _ _ _ (by rw [List.length_append, l2]; omega), getD_snoc_lt _ _ _ _ (by omega)]
     exact h4 i (by omega) hin
   ·intro i hi
    show (s.2.2 ++ [_]).getD _ _ = _
    by_cases e : i = k
    ·subst e
     rw [getD_snoc_eq _ _ _ _ l3.symm, List.length_append, l1, hpk]
     rfl
    ·rw [getD_snoc_lt _ _ _ _ (by omega)]
     exact h5 i (by omega)
  ·rw [if_neg hb]
   have hpk : plA (putIn at_) k = stA (putIn at_) k := by
    rcases hp with ⟨h, _⟩ | ⟨_, h⟩
    ·exact absurd h hb
    ·exact h
   have hbf : putIn at_ k = false := Bool.eq_false_iff.2 hb
   refine ⟨?_, ?_, ?_, ?_, ?_, ?_, ?_, ?_⟩
   ·show (s.1 ++ [_]).length = _
    rw [List.length_append, l1, hn, hpk]; rfl
   ·show (s.2.1 ++ [_]).length = _
    rw [List.length_append, l2, hn, hpk]; rfl
   ·show (s.2.2 ++ [_]).length = _
    rw [List.length_append, l3]; rfl
   ·intro i hi
    show (s.1 ++ [_]).getD _ _ = _
    by_cases e : i = k
    ·subst e
     rw [getD_snoc_eq _ _ _ _ (by omega), hbf]
     rfl
    ·have := hlt i (by omega)
     rw [getD_snoc_lt _ _ _ _ (by omega)]
     exact h1 i (by omega)
   ·intro i hi hin
    show (s.1 ++ [_]).getD _ _ = _
    by_cases e : i = k
    ·subst e
     exact absurd hin hb
    ·have := hlt i (by omega)
     rw [getD_snoc_lt _ _ _ _ (by omega)]
     exact h2 i (by omega) hin
   ·intro i hi
    show (s.2.1 ++ [_]).getD _ _ = _
    by_cases e : i = k
    ·subst e
     rw [getD_snoc_eq _ _ _ _ (by omega)]
    ·have := hlt i (by omega)
     rw [getD_snoc_lt _ _ _ _ (by omega)]
     exact h3 i (by omega)
   ·intro i hi hin
    show (s.2.1 ++ [_]).getD _ _ = _
    by_cases e : i = k
    ·subst e
     exact absurd hin hb
    ·have := hlt i (by omega)
     rw [getD_snoc_lt _ _ _ _ (by omega)]
     exact h4 i (by omega) hin
   ·intro i hi
    show (s.2.2 ++ [_]).getD _ _ = _
    by_cases e : i = k
    ·subst e
     rw [getD_snoc_eq _ _ _ _ l3.symm, l1, hpk]
    ·rw [getD_snoc_lt _ _ _ _ (by omega)]
     exact h5 i (by omega)
end
section
-- The longer network that w11Between makes: which pipe lies above which, and what is valid.
set_option linter.unusedVariables false
set_option linter.unusedSimpArgs false
theorem rd28_nat (xs : List S28) (i : Nat) : rd_T28 xs (i : Int) = xs.getD i z28 := by
 show xs.getD (i : Int).toNat z28 = _
 rw [Int.toNat_natCast]
theorem rd35_nat (xs : List S35) (i : Nat) : rd_T35 xs (i : Int) = xs.getD i z35 := by
 show xs.getD (i : Int).toNat z35 = _
 rw [Int.toNat_natCast]
/-- Pipes m that are what w11Between makes of pipes, written without wraps. -/
structure BOk (ls m : List S28) (n : Nat) (ins : Nat → Bool) : Prop where
 num : ∀ i, i < n → 1 ≤ (rd_T28 ls (i : Int)).f0 ∧ (rd_T28 ls (i : Int)).f0 ≤ 1000000 ∧ 0 ≤ (rd_T28 ls (i : Int)).f1 ∧ (rd_T28 ls (i : Int)).f1 ≤ 1000000
 on0 : ∀ i, i < n → (rd_T28 m (plA ins i : Nat)).f0 = 2 * (rd_T28 ls (i : Int)).f0
 on2 : ∀ i, i < n → (rd_T28 m (plA ins i : Nat)).f2 = (rd_T28 ls (i : Int)).f2
 top1 : ∀ i, i < n → (rd_T28 m (stA ins i : Nat)).f1 = 2 * (rd_T28 ls (i : Int)).f1
 on1 : ∀ i, i < n → ins i = true → (rd_T28 m (plA ins i : Nat)).f1 = 2 * (rd_T28 ls (i : Int)).f0 - 1
 put0 : ∀ i, i < n → ins i = true → (rd_T28 m (stA ins i : Nat)).f0 = 2 * (rd_T28 ls (i : Int)).f0 - 1
 put2 : ∀ i, i < n → ins i = true → (rd_T28 m (stA ins i : Nat)).f2 = 0
theorem bOk_of (ls : List S28) (known : List S35) (at_ : List Int) (hin : ∀ k : Nat, k < ls.length → 1 ≤ (rd_T28 ls k).f0 ∧ (rd_T28 ls k).f0 ≤ 1000000 ∧ 0 ≤ (rd_T28 ls k).f1 ∧ (rd_T28 ls k).f1 ≤ 1000000) :
  BOk ls (bTo ls known at_ ls.length).1 ls.length (putIn at_) := by
 have hr := bTo_read ls known at_ ls.length
 generalize (bTo ls known at_ ls.length) = s at hr ⊢
 have w1 : ∀ i, i < ls.length → wrap64 (2 * (rd_T28 ls (i : Int)).f0) = 2 * (rd_T28 ls (i : Int)).f0 ∧ wrap64 (2 * (rd_T28 ls (i : Int)).f1) = 2 * (rd_T28 ls (i : Int)).f1 ∧ wrap64 (2 * (rd_T28 ls (i : Int)).f0 - 1) = 2 * (rd_T28 ls (i : Int)).f0 - 1 := fun i hi => by
  have := hin i hi
  unfold wrap64
  omega
 refine ⟨hin, ?_, ?_, ?_, ?_, ?_, ?_⟩
 ·intro i hi
  rw [rd28_nat, hr.on i hi]
  exact (w1 i hi).1
 ·intro i hi
  rw [rd28_nat, hr.on i hi]
  rfl
 ·intro i hi
  rcases pl_of (putIn at_) i with ⟨h, hp⟩ | ⟨h, hp⟩
  ·rw [rd28_nat, hr.put i hi h]
   exact (w1 i hi).2.1
  ·rw [← hp, rd28_nat, hr.on i hi, h]
   exact (w1 i hi).2.1
 ·intro i hi h
  rw [rd28_nat, hr.on i hi, h]
  show wrap64 (wrap64 _ - 1) = _
  rw [(w1 i hi).1, (w1 i hi).2.2]
 ·intro i hi h
  rw [rd28_nat, hr.put i hi h]
  show wrap64 (wrap64 _ - 1) = _
  rw [(w1 i hi).1, (w1 i hi).2.2]
 ·intro i hi h
  rw [rd28_nat, hr.put i hi h]
  rfl
section
variable {ls m : List S28} {n : Nat} {ins : Nat → Bool}
theorem BOk.maps (h : BOk ls m n ins) (z : Int) : ∀ k, k ≤ n → idMap m (stA ins k) (2 * z) = (idMap ls k z).map fun a => (plA ins a.toNat : Int)
 | 0, _ => rfl
 | k + 1, hk => by
  have ih := BOk.maps h z k (by omega)
  have e0 := h.on0 k (by omega)
  have e : idMap m (plA ins k) (2 * z) = idMap m (stA ins k) (2 * z) := by
   rcases pl_of ins k with ⟨hin, hp⟩ | ⟨hin, hp⟩
   ·rw [hp]
    show (if 2 * z = (rd_T28 m (stA ins k : Nat)).f0 then _ else idMap m (stA ins k) (2 * z)) = _
    rw [h.put0 k (by omega) hin, if_neg (by omega)]
   ·rw [hp]
  rw [stA_next]
  show (if 2 * z = (rd_T28 m (plA ins k : Nat)).f0 then some ((plA ins k : Nat) : Int) else idMap m (plA ins k) (2 * z)) = Option.map _ (if z = (rd_T28 ls (k : Int)).f0 then some (k : Int) else idMap ls k z)
  rw [e, e0, ih]
  by_cases hz : z = (rd_T28 ls (k : Int)).f0
  ·rw [if_pos hz, if_pos (by omega), Option.map_some, Int.toNat_natCast]
  ·rw [if_neg hz, if_neg (by omega)]
theorem BOk.mapIn (h : BOk ls m n ins) (k : Nat) (hk : k < n) (hin : ins k = true) : idMap m (plA ins k) (2 * (rd_T28 ls (k : Int)).f0 - 1) = some (stA ins k : Int) := by
 rcases pl_of ins k with ⟨_, hp⟩ | ⟨hf, _⟩
 ·rw [hp]
  show (if _ = (rd_T28 m (stA ins k : Nat)).f0 then some ((stA ins k : Nat) : Int) else _) = _
  rw [h.put0 k hk hin, if_pos rfl]
 ·rw [hf] at hin; cases hin
theorem BOk.longer (h : BOk ls m n ins) : Longer n ins (parN ls) (lossN ls) (parN m) (lossN m) := by
 refine ⟨par_lt ls, ?_, ?_, ?_, ?_⟩
 ·intro i hi
  unfold parN
  rw [h.top1 i hi, h.maps _ i (by omega), Option.map_map, Option.map_map]
  rfl
 ·intro i hi hin
  unfold parN
  rw [h.on1 i hi hin, h.mapIn i hi hin]
  show some _ = _
  rw [Int.toNat_natCast]
 ·exact fun i hi => h.on2 i hi
 ·exact fun i hi hin => h.put2 i hi hin
theorem badAt_iff (ls : List S28) (k : Nat) : badAt ls k = true ↔ (rd_T28 ls k).f0 < 1 ∨ (0 < k ∧ (rd_T28 ls k).f0 ≤ (rd_T28 ls ((k : Int) - 1)).f0) ∨ volB (rd_T28 ls k).f2 = false ∨ ((rd_T28 ls k).f1 ≠ 0 ∧ idMap ls k (rd_T28 ls k).f1 = none) := by
 unfold badAt
 cases idMap ls k (rd_T28 ls k).f1 <;> simp
theorem BOk.bad (h : BOk ls m n ins) (k : Nat) (hk : k < n) : badAt ls k = true ↔ badAt m (stA ins k) = true ∨ (ins k = true ∧ badAt m (plA ins k) = true) := by
 have hn := h.num k hk
 have hid := h.maps (rd_T28 ls (k : Int)).f1 k (by omega)
 have hprev : ∀ q : Int, (0 < k ∧ q ≤ (rd_T28 ls ((k : Int) - 1)).f0) ↔ (0 < stA ins k ∧ 2 * q ≤ (rd_T28 m ((stA ins k : Int) - 1)).f0) := by
  intro q
  cases k with
  | zero => simp [stA]
  | succ k =>
   have e1 : ((stA ins (k + 1) : Nat) : Int) - 1 = (plA ins k : Nat) := by rw [stA_next]; omega
   have e2 : (((k + 1 : Nat) : Int)) - 1 = (k : Nat) := by omega
   have := stA_next ins k
   rw [e1, e2, h.on0 k (by omega)]
   omega
 have hnone : idMap m (stA ins k) (2 * (rd_T28 ls (k : Int)).f1) = none ↔ idMap ls k (rd_T28 ls (k : Int)).f1 = none := by
  rw [hid, Option.map_eq_none_iff]
 have v0 : volB 0 = true := by decide
 rcases pl_of ins k with ⟨hin, hp⟩ | ⟨hin, hp⟩
 ·have b2 : badAt m (plA ins k) = true ↔ volB (rd_T28 ls (k : Int)).f2 = false := by
   rw [badAt_iff, h.on0 k hk, h.on1 k hk hin, h.on2 k hk, h.mapIn k hk hin]
   have e1 : ((plA ins k : Nat) : Int) - 1 = (stA ins k : Nat) := by omega
   rw [e1, h.put0 k hk hin]
   constructor
   ·rintro (h1 | ⟨_, h1⟩ | h1 | ⟨_, h1⟩)
    ·omega
    ·omega
    ·exact h1
    ·cases h1
   ·exact fun h1 => .inr (.inr (.inl h1))
  rw [b2, badAt_iff, badAt_iff, h.put0 k hk hin, h.top1 k hk, h.put2 k hk hin, v0, hnone]
  have hp1 := hprev (rd_T28 ls (k : Int)).f0
  have hp2 : (0 < stA ins k ∧ 2 * (rd_T28 ls (k : Int)).f0 - 1 ≤ (rd_T28 m ((stA ins k : Int) - 1)).f0) ↔ (0 < stA ins k ∧ 2 * (rd_T28 ls (k : Int)).f0 ≤ (rd_T28 m ((stA ins k : Int) - 1)).f0) := by
   cases k with
   | zero => simp [stA]
   | succ k =>
    have e1 : ((stA ins (k + 1) : Nat) : Int) - 1 = (plA ins k : Nat) := by rw [stA_next]; omega
    rw [e1, h.on0 k (by omega)]
    omega
  rw [hp2, ← hp1]
  constructor
  ·rintro (h1 | h1 | h1 | ⟨h1, h2⟩)
   ·omega
   ·exact .inl (.inr (.inl h1))
   ·exact .inr ⟨hin, h1⟩
   ·exact .inl (.inr (.inr (.inr ⟨by omega, h2⟩)))
  ·rintro ((h1 | h1 | h1 | ⟨h1, h2⟩) | ⟨_, h1⟩)
   ·omega
   ·exact .inr (.inl h1)
   ·cases h1
   ·exact .inr (.inr (.inr ⟨by omega, h2⟩))
   ·exact .inr (.inr (.inl h1))
 ·have e0 := h.on0 k hk
  have e2 := h.on2 k hk
  rw [hp] at e0 e2
  rw [badAt_iff, badAt_iff, e0, h.top1 k hk, e2, hnone, ← hprev, hin]
  constructor
  ·rintro (h1 | h1 | h1 | ⟨h1, h2⟩)
   ·omega
   ·exact .inl (.inr (.inl h1))
   ·exact .inl (.inr (.inr (.inl h1)))
   ·exact .inl (.inr (.inr (.inr ⟨by omega, h2⟩)))
  ·rintro ((h1 | h1 | h1 | ⟨h1, h2⟩) | ⟨h1, _⟩)
   ·omega
   ·exact .inr (.inl h1)
   ·exact .inr (.inr (.inl h1))
   ·exact .inr (.inr (.inr ⟨by omega, h2⟩))
   ·cases h1
theorem BOk.opens (h : BOk ls m n ins) : ∀ k, k ≤ n → openOk m (stA ins k) = openOk ls k
 | 0, _ => rfl
 | k + 1, hk => by
  have ih := BOk.opens h k (by omega)
  have hb := h.bad k (by omega)
  rw [stA_next, openOk_succ, openOk_succ, ← ih]
  rcases pl_of ins k with ⟨hin, hp⟩ | ⟨hin, hp⟩
  ·have e : openOk m (plA ins k) = (openOk m (stA ins k) && !badAt m (stA ins k)) := by rw [hp, openOk_succ]
   rw [e]
   rw [hin] at hb
   generalize badAt ls k = b1 at hb
   generalize badAt m (stA ins k) = b2 at hb
   generalize badAt m (plA ins k) = b3 at hb
   generalize openOk m (stA ins k) = b4
   revert hb
   cases b1 <;> cases b2 <;> cases b3 <;> cases b4 <;> simp
  ·rw [hp]
   rw [hin] at hb
   generalize badAt ls k = b1 at hb
   generalize badAt m (stA ins k) = b2 at hb
   generalize openOk m (stA ins k) = b4
   revert hb
   cases b1 <;> cases b2 <;> cases b4 <;> simp
theorem openOk_loss (ls : List S28) (n : Nat) (h : openOk ls n = true) (i : Nat) (hi : i < n) : 0 ≤ lossN ls i ∧ lossN ls i ≤ 1000000000 := by
 unfold openOk at h
 rw [List.all_eq_true] at h
 have h1 := h i (List.mem_range.2 hi)
 have h2 : badAt ls i = false := by simpa using h1
 have h3 : ¬ volB (rd_T28 ls (i : Int)).f2 = false := fun hv => by
  have : badAt ls i = true := (badAt_iff ls i).2 (.inr (.inr (.inl hv)))
  rw [h2] at this
  cases this
 have h4 : volB (lossN ls i) = true := by
  unfold lossN
  simpa using h3
 unfold volB at h4
 exact of_decide_eq_true h4
theorem sane_of (h : openOk ls n = true) (hn : n ≤ 200) : Sane n (parN ls) (lossN ls) := ⟨hn, par_lt ls, openOk_loss ls n h⟩
end
end
section
-- The law: bounds, states and charges of the longer network are those of the shorter.
set_option linter.unusedVariables false
set_option linter.unusedSimpArgs false
theorem getD_lt {α : Type} (z : α) (xs : List α) (i : Nat) (h : i < xs.length) : xs.getD i z = xs[i] := by
 rw [List.getD_eq_getElem?_getD, List.getElem?_eq_getElem h]
 rfl
theorem getD_map {α β : Type} (z : α) (y : β) (f : α → β) (xs : List α) (i : Nat) (h : i < xs.length) : (xs.map f).getD i y = f (xs.getD i z) := by
 rw [getD_lt _ _ _ (by rw [List.length_map]; exact h), getD_lt _ _ _ h, List.getElem_map]
theorem any_getD {α : Type} (z : α) (p : α → Bool) (xs : List α) : xs.any p = true ↔ ∃ i, i < xs.length ∧ p (xs.getD i z) = true := by
 rw [List.any_eq_true]
 constructor
 ·rintro ⟨x, hx, hp⟩
  obtain ⟨i, hi, rfl⟩ := List.getElem_of_mem hx
  exact ⟨i, hi, by rw [getD_lt _ _ _ hi]; exact hp⟩
 ·rintro ⟨i, hi, hp⟩
  rw [getD_lt _ _ _ hi] at hp
  exact ⟨_, List.getElem_mem hi, hp⟩
theorem rowF_iv (known : List S35) (i : Nat) (h : i < known.length) : rowF (known.map ivOf) i = ivOf (known.getD i z35) := by
 rw [rowF_getD]
 exact getD_map z35 z56 ivOf known i h
/-- All that the longer network, its ranges and places are. -/
structure BAll (ls : List S28) (known : List S35) (m : List S28) (ranges : List S35) (place : List Int) (n : Nat) (ins : Nat → Bool) : Prop where
 ok : BOk ls m n ins
 small : n ≤ 20
 lenL : ls.length = n
 lenK : known.length = n
 lenM : m.length = stA ins n
 lenR : ranges.length = stA ins n
 lenP : place.length = n
 wf : ∀ p ∈ m, wf64 p.f0 ∧ wf64 p.f1
 kn : ∀ i, i < n → ranges.getD (plA ins i) z35 = known.getD i z35
 free : ∀ i, i < n → ins i = true → ranges.getD (stA ins i) z35 = ⟨0, 1000000000⟩
 pl : ∀ i, i < n → place.getD i 0 = (plA ins i : Int)
theorem bAll_of (ls : List S28) (known : List S35) (at_ : List Int) (h20 : ls.length ≤ 20) (hkl : known.length = ls.length) (hin : inOrder ls) :
  BAll ls known (bTo ls known at_ ls.length).1 (bTo ls known at_ ls.length).2.1 (bTo ls known at_ ls.length).2.2 ls.length (putIn at_) := by
 have hok := bOk_of ls known at_ hin
 have hr := bTo_read ls known at_ ls.length
 generalize (bTo ls known at_ ls.length) = s at hr hok ⊢
 refine ⟨hok, h20, rfl, hkl, hr.len1, hr.len2, hr.len3, ?_, ?_, hr.free, hr.pl⟩
 ·intro p hp
  obtain ⟨j, hj, rfl⟩ := List.getElem_of_mem hp
  have hj2 := hj
  rw [hr.len1] at hj2
  obtain ⟨i, hi, e | ⟨e1, e⟩⟩ := stA_cover _ _ j hj2
  ·rcases pl_of (putIn at_) i with ⟨h1, h2⟩ | ⟨h1, h2⟩
   ·have := hr.put i hi h1
    rw [← e, getD_lt _ _ _ hj] at this
    rw [this]
    exact ⟨wrap_wf _, wrap_wf _⟩
   ·have := hr.on i hi
    rw [h2, ← e, getD_lt _ _ _ hj] at this
    rw [this, h1]
    exact ⟨wrap_wf _, wrap_wf _⟩
  ·have := hr.on i hi
   rw [← e, getD_lt _ _ _ hj] at this
   rw [this, e1]
   exact ⟨wrap_wf _, wrap_wf _⟩
 ·intro i hi
  rw [hr.kn i hi, rd35_nat]
theorem stA_le (ins : Nat → Bool) : ∀ k, stA ins k ≤ 2 * k
 | 0 => Nat.le_refl _
 | k + 1 => by
  have := stA_le ins k
  show stA ins k + _ ≤ _
  split <;> omega
theorem st_lt (ins : Nat → Bool) {i n : Nat} (h : i < n) : stA ins i < stA ins n ∧ plA ins i < stA ins n := by
 have := stA_lt ins h
 have := pl_of ins i
 omega
section
variable {ls : List S28} {known : List S35} {m : List S28} {ranges : List S35} {place : List Int} {n : Nat} {ins : Nat → Bool}
theorem BAll.belongs (h : BAll ls known m ranges place n ins) : belongsB ranges m.length = belongsB known ls.length := by
 unfold belongsB
 rw [h.lenR, h.lenM, h.lenK, h.lenL]
 have e : ranges.any oddB = known.any oddB := by
  rw [Bool.eq_iff_iff, any_getD z35, any_getD z35, h.lenR, h.lenK]
  constructor
  ·rintro ⟨j, hj, hp⟩
   obtain ⟨i, hi, e | ⟨e1, e⟩⟩ := stA_cover ins n j hj
   ·rcases pl_of ins i with ⟨h1, h2⟩ | ⟨h1, h2⟩
    ·rw [e, h.free i hi h1] at hp
     exact absurd hp (by decide)
    ·rw [e, ← h2, h.kn i hi] at hp
     exact ⟨i, hi, hp⟩
   ·rw [e, h.kn i hi] at hp
    exact ⟨i, hi, hp⟩
  ·rintro ⟨i, hi, hp⟩
   exact ⟨plA ins i, (st_lt ins hi).2, by rw [h.kn i hi]; exact hp⟩
 rw [e]
 simp
theorem belongs_vol (h : belongsB known n = true) (hl : known.length = n) (i : Nat) (hi : i < n) : 0 ≤ (known.getD i z35).f0 ∧ (known.getD i z35).f0 ≤ (known.getD i z35).f1 ∧ (known.getD i z35).f1 ≤ 1000000000 := by
 unfold belongsB at h
 have h2 : ¬ known.any oddB = true := by
  intro h3
  rw [h3] at h
  simp at h
 rw [any_getD z35] at h2
 have h4 : ¬ oddB (known.getD i z35) = true := fun hp => h2 ⟨i, by omega, hp⟩
 generalize known.getD i z35 = x at h4
 unfold oddB volB at h4
 simp at h4
 omega
theorem BAll.rel0 (h : BAll ls known m ranges place n ins) (hb : belongsB known n = true) : Rel0 n ins (rowF (known.map ivOf)) (rowF (ranges.map ivOf)) := by
 intro i hi
 have hv := belongs_vol hb h.lenK i hi
 have hlt := st_lt ins hi
 have eR : rowF (ranges.map ivOf) (plA ins i) = ivOf (known.getD i z35) := by rw [rowF_iv _ _ (by rw [h.lenR]; exact hlt.2), h.kn i hi]
 have er : rowF (known.map ivOf) i = ivOf (known.getD i z35) := rowF_iv _ _ (by rw [h.lenK]; exact hi)
 rw [eR, er]
 generalize known.getD i z35 = x at hv eR er
 have wx : wfV (ivOf x) := by
  show wf64 x.f0 ∧ wf64 x.f1
  unfold wf64
  omega
 refine ⟨wx, ?_, fun _ => rfl, fun hin => ?_⟩
 ·rcases pl_of ins i with ⟨h1, h2⟩ | ⟨h1, h2⟩
  ·rw [rowF_iv _ _ (by rw [h.lenR]; exact hlt.1), h.free i hi h1]
   show wf64 0 ∧ wf64 1000000000
   unfold wf64
   omega
  ·rw [← h2, eR]
   exact wx
 ·rw [rowF_iv _ _ (by rw [h.lenR]; exact hlt.1), h.free i hi hin]
  exact (cut_to (show (0 : Int) ≤ x.f0 from hv.1) (show x.f1 ≤ 1000000000 from hv.2.2)).symm
theorem BAll.goodB (h : BAll ls known m ranges place n ins) : (openOk m m.length = true ∧ m.length ≤ 200 ∧ belongsB ranges m.length = true) ↔ (openOk ls ls.length = true ∧ ls.length ≤ 200 ∧ belongsB known ls.length = true) := by
 have h1 := h.ok.opens n (Nat.le_refl _)
 have h2 := stA_le ins n
 have h3 := h.small
 rw [h.belongs, h.lenM, h.lenL, h1]
 constructor
 ·rintro ⟨a, _, b⟩
  exact ⟨a, by omega, b⟩
 ·rintro ⟨a, _, b⟩
  exact ⟨a, by omega, b⟩
/-- What both answer. -/
theorem BAll.bounds (h : BAll ls known m ranges place n ins) : (boundsM m ranges).2 = (boundsM ls known).2 ∧
  ((boundsM ls known).2 = 0 → ∀ i, i < n → (boundsM m ranges).1.getD (stA ins i) z35 = (boundsM ls known).1.getD i z35 ∧ (boundsM m ranges).1.getD (plA ins i) z35 = (boundsM ls known).1.getD i z35) := by
 have hg := h.goodB
 unfold boundsM
 by_cases hc : openOk ls ls.length = true ∧ ls.length ≤ 200 ∧ belongsB known ls.length = true
 ·rw [if_pos hc, if_pos (hg.2 hc)]
  rw [h.lenL] at hc
  rw [h.lenL, h.lenM]
  have hL := h.ok.longer
  have hr0 := h.rel0 hc.2.2
  obtain ⟨e1, e2⟩ := bounds_sim hL (by rw [List.length_map]; exact h.lenK) (by rw [List.length_map]; exact h.lenR) hr0
  have l1 := boundsF_len ls (kidsTo ls n n) (known.map ivOf) n
  have l2 := boundsF_len m (kidsTo m (stA ins n) (stA ins n)) (ranges.map ivOf) (stA ins n)
  rw [List.length_map, h.lenK] at l1
  rw [List.length_map, h.lenR] at l2
  rw [e1]
  generalize boundsF m (kidsTo m (stA ins n) (stA ins n)) (ranges.map ivOf) (stA ins n) = B at e1 e2 l2
  generalize boundsF ls (kidsTo ls n n) (known.map ivOf) n = b at e1 e2 l1
  by_cases hb : b.1 = true
  ·rw [if_pos hb, if_pos hb]
   refine ⟨rfl, fun _ i hi => ?_⟩
   have hlt := st_lt ins hi
   have hrel := e2 hb i hi
   show (B.2.map rgOf).getD _ _ = (b.2.map rgOf).getD _ _ ∧ (B.2.map rgOf).getD _ _ = (b.2.map rgOf).getD _ _
   rw [getD_map z56 z35 rgOf B.2 (stA ins i) (by rw [l2]; exact hlt.1), getD_map z56 z35 rgOf B.2 (plA ins i) (by rw [l2]; exact hlt.2), getD_map z56 z35 rgOf b.2 i (by rw [l1]; exact hi)]
   rw [← rowF_getD, ← rowF_getD, ← rowF_getD, hrel.2.1, hrel.2.2]
   exact ⟨rfl, rfl⟩
  ·rw [if_neg hb, if_neg hb]
   exact ⟨rfl, fun h => by cases h⟩
 ·rw [if_neg hc, if_neg (fun x => hc (hg.1 x))]
  exact ⟨rfl, fun h => by cases h⟩
/-- A row whose interval i is cut to one volume. -/
theorem BAll.cutRow (h : BAll ls known m ranges place n ins) (hb : belongsB known n = true) (i : Nat) (hi : i < n) (v : Int)
  (hne : emptyB (cutV (ivOf (known.getD i z35)) v v) = false) :
  Rel0 n ins (rowF ((known.map ivOf).set i (cutV (ivOf (known.getD i z35)) v v))) (rowF ((ranges.map ivOf).set (plA ins i) (cutV (ivOf (known.getD i z35)) v v))) ∧
   ∀ j, j < n → 0 ≤ (rowF ((known.map ivOf).set i (cutV (ivOf (known.getD i z35)) v v)) j).f0 ∧ (rowF ((known.map ivOf).set i (cutV (ivOf (known.getD i z35)) v v)) j).f1 ≤ 1000000000 := by
 have hr0 := h.rel0 hb
 have hvi := belongs_vol hb h.lenK i hi
 have lk : (known.map ivOf).length = n := by rw [List.length_map]; exact h.lenK
 have lr : (ranges.map ivOf).length = stA ins n := by rw [List.length_map]; exact h.lenR
 have hcl := cut_le (ivOf (known.getD i z35)) v v
 have hx : (cutV (ivOf (known.getD i z35)) v v).f0 ≤ (cutV (ivOf (known.getD i z35)) v v).f1 := by
  unfold emptyB at hne
  have := of_decide_eq_false hne
  omega
 have e0 : (ivOf (known.getD i z35)).f0 = (known.getD i z35).f0 := rfl
 have e1 : (ivOf (known.getD i z35)).f1 = (known.getD i z35).f1 := rfl
 rw [e0, e1] at hcl
 have er : ∀ j, j < n → rowF (known.map ivOf) j = ivOf (known.getD j z35) := fun j hj => rowF_iv _ _ (by rw [h.lenK]; exact hj)
 generalize cutV (ivOf (known.getD i z35)) v v = x at hcl hx
 have wx : wfV x := by
  unfold wfV wf64
  omega
 constructor
 ·intro k hk
  have hlk := st_lt ins hk
  have hli := st_lt ins hi
  rw [rowF_set _ _ _ (by omega), rowF_set _ _ _ (by omega), rowF_set _ _ _ (by omega)]
  have hk0 := hr0 k hk
  by_cases e : k = i
  ·subst e
   rw [if_pos rfl, if_pos rfl]
   rcases pl_of ins k with ⟨hin, hp⟩ | ⟨hin, hp⟩
   ·rw [if_neg (by omega)]
    refine ⟨wx, hk0.2.1, fun hh => absurd (hin.symm.trans hh) (by decide), fun _ => ?_⟩
    rw [rowF_iv _ _ (by rw [h.lenR]; exact hlk.1), h.free k hk hin]
    refine (cut_to ?_ ?_).symm
    ·show (0 : Int) ≤ x.f0
     omega
    ·show x.f1 ≤ (1000000000 : Int)
     omega
   ·rw [if_pos hp.symm]
    refine ⟨wx, wx, fun _ => rfl, fun h => ?_⟩
    rw [hin] at h
    cases h
  ·have n1 : stA ins k ≠ plA ins i := by
    intro hh
    rcases Nat.lt_trichotomy k i with l | l | l
    ·have := stA_lt ins l; have := pl_of ins k; have := pl_of ins i; omega
    ·exact e l
    ·have := stA_lt ins l; omega
   have n2 : plA ins k ≠ plA ins i := fun hh => e (plA_inj ins hh)
   rw [if_neg e, if_neg n1, if_neg n2]
   exact hk0
 ·intro j hj
  rw [rowF_set _ _ _ (by omega)]
  by_cases e : j = i
  ·rw [if_pos e]
   omega
  ·rw [if_neg e, er j hj]
   have := belongs_vol hb h.lenK j hj
   exact ⟨this.1, this.2.2⟩
theorem BAll.state (h : BAll ls known m ranges place n ins) (i : Nat) (hi : i < n) (v : Int) : (stateM m ranges (plA ins i : Nat) v).2 = (stateM ls known (i : Nat) v).2 ∧
  ((stateM ls known (i : Nat) v).2 = 0 → (stateM m ranges (plA ins i : Nat) v).1.length = stA ins n ∧ (stateM ls known (i : Nat) v).1.length = n ∧ ∀ k, k < n → (stateM m ranges (plA ins i : Nat) v).1.getD (plA ins k) 0 = (stateM ls known (i : Nat) v).1.getD k 0) := by
 have hg := h.goodB
 have hlt := st_lt ins hi
 unfold stateM
 by_cases hc : openOk ls ls.length = true ∧ ls.length ≤ 200 ∧ belongsB known ls.length = true
 ·have hc2 := hg.2 hc
  have q2 : openOk m m.length = true ∧ m.length ≤ 200 ∧ belongsB ranges m.length = true ∧ 0 ≤ ((plA ins i : Nat) : Int) ∧ ((plA ins i : Nat) : Int) < m.length := ⟨hc2.1, hc2.2.1, hc2.2.2, by omega, by rw [h.lenM]; omega⟩
  have q1 : openOk ls ls.length = true ∧ ls.length ≤ 200 ∧ belongsB known ls.length = true ∧ 0 ≤ ((i : Nat) : Int) ∧ ((i : Nat) : Int) < ls.length := ⟨hc.1, hc.2.1, hc.2.2, by omega, by rw [h.lenL]; omega⟩
  rw [if_pos q2, if_pos q1]
  rw [h.lenL] at hc
  rw [h.lenL, h.lenM]
  have lk : (known.map ivOf).length = n := by rw [List.length_map]; exact h.lenK
  have lr : (ranges.map ivOf).length = stA ins n := by rw [List.length_map]; exact h.lenR
  have a1 : rd_T56 (known.map ivOf) (i : Int) = ivOf (known.getD i z35) := rowF_iv _ _ (by rw [h.lenK]; exact hi)
  have a2 : rd_T56 (ranges.map ivOf) ((plA ins i : Nat) : Int) = ivOf (known.getD i z35) := (rowF_iv _ _ (by rw [h.lenR]; exact hlt.2)).trans (by rw [h.kn i hi])
  have b1 : rd_T56 ((known.map ivOf).set i (cutV (ivOf (known.getD i z35)) v v)) (i : Int) = cutV (ivOf (known.getD i z35)) v v := by
   show rowF _ i = _
   rw [rowF_set _ _ _ (by omega), if_pos rfl]
  have b2 : rd_T56 ((ranges.map ivOf).set (plA ins i) (cutV (ivOf (known.getD i z35)) v v)) ((plA ins i : Nat) : Int) = cutV (ivOf (known.getD i z35)) v v := by
   show rowF _ (plA ins i) = _
   rw [rowF_set _ _ _ (by omega), if_pos rfl]
  rw [a1, a2, Int.toNat_natCast, Int.toNat_natCast, b1, b2]
  by_cases hne : emptyB (cutV (ivOf (known.getD i z35)) v v) = false
  ·obtain ⟨r0, rb⟩ := h.cutRow hc.2.2 i hi v hne
   have hL := h.ok.longer
   have hs := sane_of hc.1 hc.2.1
   have c1 : ((known.map ivOf).set i (cutV (ivOf (known.getD i z35)) v v)).length = n := by rw [List.length_set]; exact lk
   have c2 : ((ranges.map ivOf).set (plA ins i) (cutV (ivOf (known.getD i z35)) v v)).length = stA ins n := by rw [List.length_set]; exact lr
   generalize (known.map ivOf).set i (cutV (ivOf (known.getD i z35)) v v) = b at r0 rb c1 ⊢
   generalize (ranges.map ivOf).set (plA ins i) (cutV (ivOf (known.getD i z35)) v v) = B at r0 c2 ⊢
   obtain ⟨e1, e2⟩ := bounds_sim hL c1 c2 r0
   rw [e1]
   by_cases hb : (boundsF ls (kidsTo ls n n) b n).1 = true
   ·rw [if_pos ⟨hne, hb⟩, if_pos ⟨hne, hb⟩]
    refine ⟨rfl, fun _ => ?_⟩
    have hcl := boundsF_ok c1 hs rb hb
    have hst : StI ls n ins 0 (boundsF ls (kidsTo ls n n) b n).2 (boundsF m (kidsTo m (stA ins n) (stA ins n)) B (stA ins n)).2 :=
     ⟨⟨by rw [boundsF_len]; exact c1, by rw [boundsF_len]; exact c2⟩, e2 hb, hcl.1, hcl.2, fun j hj => by omega⟩
    refine ⟨by show (List.map _ _).length = _; rw [List.length_map, List.length_range], by show (List.map _ _).length = _; rw [List.length_map, List.length_range], fun k hk => ?_⟩
    have hsim := st_sim hL hs hst k hk
    show (List.map _ _).getD _ _ = (List.map _ _).getD _ _
    have hlk := st_lt ins hk
    rw [getD_map 0 0 _ _ _ (by rw [List.length_range]; exact hlk.2), getD_map 0 0 _ _ _ (by rw [List.length_range]; exact hk)]
    rw [getD_lt _ _ _ (by rw [List.length_range]; exact hlk.2), getD_lt _ _ _ (by rw [List.length_range]; exact hk), List.getElem_range, List.getElem_range]
    exact hsim
   ·rw [if_neg (fun x => hb x.2), if_neg (fun x => hb x.2)]
    exact ⟨rfl, fun h => by cases h⟩
  ·rw [if_neg (fun x => hne x.1), if_neg (fun x => hne x.1)]
   exact ⟨rfl, fun h => by cases h⟩
 ·rw [if_neg (fun x => hc (hg.1 ⟨x.1, x.2.1, x.2.2.1⟩)), if_neg (fun x => hc ⟨x.1, x.2.1, x.2.2.1⟩)]
  exact ⟨rfl, fun h => by cases h⟩
/-! ### charges -/
theorem BOk.roots (h : BOk ls m n ins) : ∀ k, k ≤ n → rootsTo m (stA ins k) = rootsTo ls k
 | 0, _ => rfl
 | k + 1, hk => by
  have ih := BOk.roots h k (by omega)
  have hn := h.num k (by omega)
  have h1 := h.top1 k (by omega)
  have st : rootsTo m (stA ins k + 1) = rootsTo ls (k + 1) := by
   show (if (rd_T28 m (stA ins k : Nat)).f1 = 0 then wrap64 (rootsTo m (stA ins k) + 1) else rootsTo m (stA ins k)) = if (rd_T28 ls (k : Int)).f1 = 0 then wrap64 (rootsTo ls k + 1) else rootsTo ls k
   rw [h1, ih]
   by_cases hz : (rd_T28 ls (k : Int)).f1 = 0
   ·rw [if_pos hz, if_pos (by omega)]
   ·rw [if_neg hz, if_neg (by omega)]
  rw [stA_next]
  rcases pl_of ins k with ⟨hin, hp⟩ | ⟨hin, hp⟩
  ·have h2 := h.on1 k (by omega) hin
   show (if (rd_T28 m (plA ins k : Nat)).f1 = 0 then wrap64 (rootsTo m (plA ins k) + 1) else rootsTo m (plA ins k)) = _
   rw [h2, if_neg (by omega), hp, st]
  ·rw [hp, st]
theorem BOk.tots (h : BOk ls m n ins) {b B : List S35} (hB : ∀ i, i < n → B.getD (stA ins i) z35 = b.getD i z35) : ∀ k, k ≤ n → totTo m B (stA ins k) = totTo ls b k
 | 0, _ => rfl
 | k + 1, hk => by
  have ih := BOk.tots h hB k (by omega)
  have hn := h.num k (by omega)
  have h1 := h.top1 k (by omega)
  have st : totTo m B (stA ins k + 1) = totTo ls b (k + 1) := by
   show (if (rd_T28 m (stA ins k : Nat)).f1 = 0 then rd_T35 B (stA ins k : Nat) else totTo m B (stA ins k)) = if (rd_T28 ls (k : Int)).f1 = 0 then rd_T35 b (k : Int) else totTo ls b k
   rw [h1, ih, rd35_nat, rd35_nat, hB k (by omega)]
   by_cases hz : (rd_T28 ls (k : Int)).f1 = 0
   ·rw [if_pos hz, if_pos (by omega)]
   ·rw [if_neg hz, if_neg (by omega)]
  rw [stA_next]
  rcases pl_of ins k with ⟨hin, hp⟩ | ⟨hin, hp⟩
  ·have h2 := h.on1 k (by omega) hin
   show (if (rd_T28 m (plA ins k : Nat)).f1 = 0 then rd_T35 B (plA ins k : Nat) else totTo m B (plA ins k)) = _
   rw [h2, if_neg (by omega), hp, st]
  ·rw [hp, st]
theorem above_iff (ls : List S28) (y : Int) : ∀ k, aboveB ls k y = true ↔ ∃ j, j < k ∧ y = (rd_T28 ls (j : Int)).f1
 | 0 => by simp [aboveB]
 | k + 1 => by
  have ih := above_iff ls y k
  show (decide (y = (rd_T28 ls (k : Int)).f1) || aboveB ls k y) = true ↔ _
  rw [Bool.or_eq_true, ih, decide_eq_true_iff]
  constructor
  ·rintro (h | ⟨j, hj, h⟩)
   ·exact ⟨k, by omega, h⟩
   ·exact ⟨j, by omega, h⟩
  ·rintro ⟨j, hj, h⟩
   by_cases e : j = k
   ·subst e; exact .inl h
   ·exact .inr ⟨j, by omega, h⟩
theorem BOk.above (h : BOk ls m n ins) (z : Int) : aboveB m (stA ins n) (2 * z) = aboveB ls n z := by
 rw [Bool.eq_iff_iff, above_iff, above_iff]
 constructor
 ·rintro ⟨j, hj, e⟩
  obtain ⟨i, hi, e1 | ⟨e0, e1⟩⟩ := stA_cover ins n j hj
  ·rw [e1, h.top1 i hi] at e
   exact ⟨i, hi, by omega⟩
  ·rw [e1, h.on1 i hi e0] at e
   omega
 ·rintro ⟨i, hi, e⟩
  exact ⟨stA ins i, (st_lt ins hi).1, by rw [h.top1 i hi, e]⟩
theorem BOk.parts (h : BOk ls m n ins) (hl : ls.length = n) (hm : m.length = stA ins n) {b B : List S35} (hB : ∀ i, i < n → B.getD (plA ins i) z35 = b.getD i z35) : ∀ k, k ≤ n → partsTo m B (stA ins k) = partsTo ls b k
 | 0, _ => rfl
 | k + 1, hk => by
  have ih := BOk.parts h hl hm hB k (by omega)
  have e : partsTo m B (plA ins k) = partsTo m B (stA ins k) := by
   rcases pl_of ins k with ⟨hin, hp⟩ | ⟨hin, hp⟩
   ·rw [hp]
    show (if aboveB m m.length (rd_T28 m (stA ins k : Nat)).f0 = true then partsTo m B (stA ins k) else _) = _
    rw [if_pos]
    rw [h.put0 k (by omega) hin, hm, above_iff]
    exact ⟨plA ins k, (st_lt ins (show k < n by omega)).2, (h.on1 k (by omega) hin).symm⟩
   ·rw [hp]
  rw [stA_next]
  show (if aboveB m m.length (rd_T28 m (plA ins k : Nat)).f0 = true then partsTo m B (plA ins k) else partsTo m B (plA ins k) ++ [rd_T35 B (plA ins k : Nat)]) = if aboveB ls ls.length (rd_T28 ls (k : Int)).f0 = true then partsTo ls b k else partsTo ls b k ++ [rd_T35 b (k : Int)]
  rw [e, ih, h.on0 k (by omega), hm, hl, h.above, rd35_nat, rd35_nat, hB k (by omega)]
theorem BAll.net (h : BAll ls known m ranges place n ins) (c : Int) (hs : List Int) : networkM c m ranges hs = networkM c ls known hs := by
 obtain ⟨hf, hb⟩ := h.bounds
 unfold networkM
 rw [hf]
 by_cases hz : (boundsM ls known).2 = 0
 ·have hb := hb hz
  have e1 := h.ok.roots n (Nat.le_refl _)
  have e2 := h.ok.tots (fun i hi => (hb i hi).1) n (Nat.le_refl _)
  have e3 := h.ok.parts h.lenL h.lenM (fun i hi => (hb i hi).2) n (Nat.le_refl _)
  rw [if_pos hz, if_pos hz]
  rw [← h.lenM, ← h.lenL] at e1 e2 e3
  have e4 : networkOk c m (boundsM m ranges).1 hs ↔ networkOk c ls (boundsM ls known).1 hs := by
   unfold networkOk
   rw [e1, e3]
  rw [e2, e3]
  by_cases hk : networkOk c ls (boundsM ls known).1 hs
  ·rw [if_pos hk, if_pos (e4.2 hk)]
  ·rw [if_neg hk, if_neg (fun x => hk (e4.1 x))]
 ·rw [if_neg hz, if_neg hz]
theorem BAll.placed (h : BAll ls known m ranges place n ins) (i : Nat) (hi : i < n) : rd place (i : Int) = (plA ins i : Nat) := by
 show place.getD (i : Int).toNat 0 = _
 rw [Int.toNat_natCast]
 exact h.pl i hi
theorem BAll.law (h : BAll ls known m ranges place n ins) (c : Int) (hs : List Int) (v : Int) : LawOk c ls known hs m ranges place v := by
 obtain ⟨hf, hb⟩ := h.bounds
 have hn : ls.length = n := h.lenL
 refine ⟨⟨?_, ?_, ?_⟩, h.wf, ?_, hf, ?_, ?_, h.net c hs, ?_, ?_, ?_⟩
 ·rw [h.lenR, h.lenM]
 ·have := stA_le ins n
  have := h.small
  rw [h.lenM]
  omega
 ·rw [h.lenP, hn]
 ·intro i hi
  have := (st_lt ins (show i < n by omega)).2
  rw [h.placed i (by omega), h.lenM]
  omega
 ·intro hz i hi
  rw [h.placed i (by omega), rd35_nat, rd35_nat, (hb hz i (by omega)).2]
 ·intro hz i hi h0 h1 h2
  rw [h.placed i (by omega)] at h0 h1 h2 ⊢
  have hnum := h.ok.num i (by omega)
  have ho := h.ok.on0 i (by omega)
  rw [ho] at h1
  have ew : wrap64 (2 * (rd_T28 ls (i : Int)).f0 - 1) = 2 * (rd_T28 ls (i : Int)).f0 - 1 := by unfold wrap64; omega
  rw [ew] at h1
  rcases pl_of ins i with ⟨hin, hp⟩ | ⟨hin, hp⟩
  ·have hlt := (st_lt ins (show i < n by omega)).2
   have := stA_le ins n
   have := h.small
   have ep : wrap64 (((plA ins i : Nat) : Int) - 1) = (stA ins i : Nat) := by unfold wrap64; omega
   rw [ep, rd35_nat, rd35_nat, (hb hz i (by omega)).1]
  ·have := h.ok.top1 i (by omega)
   rw [hp, this] at h1
   omega
 ·intro i hi
  rw [h.placed i (by omega)]
  exact (h.state i (by omega) v).1
 ·intro i hi hz
  rw [h.placed i (by omega)]
  obtain ⟨s1, s2, s3⟩ := (h.state i (by omega) v).2 hz
  refine ⟨by rw [s1, h.lenM], ?_⟩
  apply List.ext_getElem (by rw [List.length_map, h.lenP, s2])
  intro k h1 h2
  rw [List.length_map, h.lenP] at h1
  rw [List.getElem_map, ← getD_lt 0 _ _ h2, ← s3 k h1]
  have e : place[k]'(by rw [h.lenP]; exact h1) = ((plA ins k : Nat) : Int) := by rw [← getD_lt 0 _ _ (by rw [h.lenP]; exact h1)]; exact h.pl k h1
  rw [e]
  show (stateM m ranges (plA ins i : Nat) v).1.getD ((plA ins k : Nat) : Int).toNat 0 = _
  rw [Int.toNat_natCast]
 ·intro i hi hz
  unfold stateM at hz ⊢
  split
  ·rename_i hc
   rw [if_pos hc] at hz
   split
   ·rename_i hd
    rw [if_pos hd] at hz
    exact absurd rfl hz
   ·rfl
  ·rfl
end
theorem law_ok (c : Int) (ls : List S28) (known : List S35) (hs : List Int) (at_ : List Int) (v : Int) (h20 : ls.length ≤ 20) (hkl : known.length = ls.length) (hin : inOrder ls) :
  LawOk c ls known hs (bTo ls known at_ ls.length).1 (bTo ls known at_ ls.length).2.1 (bTo ls known at_ ls.length).2.2 v := (bAll_of ls known at_ h20 hkl hin).law c hs v
end
end Go.Proofs.Ytgjkhifhiggflaa.Own
