/- Proved: whatever the cents, pipes, ranges, homes, places, which pipe and volume, TopBetween returns true, and each argument reads behind the call as it read before. No condition. -/
import Derived.Test.YtgjkhifhiggflaaK9
import Derived.Test.YtgjkhifhiggflaaK6
import Derived.Test.YtgjkhifhiggflaaRows
import Derived.WalkKit
import Derived.ProofKit
import Derived.OpenShut
import Derived.ChangeOld
import Derived.Below
import Derived.SizedLaws
import Derived.Deep.Slices
namespace Go.Proofs.Ytgjkhifhiggflaa.Own
open Go.ChangeShapes Go.WideShapes Go.ChangeAt Go.RowKit Go.Deep
open Go.Proofs.YtgjkhifhiggflaaW.PrintWords Go.Proofs.YtgjkhifhiggflaaW.PrintLast Go.Proofs.YtgjkhifhiggflaaW.PrintMore Go.Proofs.Ytgjkhifhiggflaa.PTopBetween
set_option linter.unusedVariables false
theorem top_true (c : Int) (A : Option Addr) (cp : Nat) (ls : List S28) (A1 : Option Addr) (c1 : Nat) (known : List S35) (Ah : Option Addr) (ch : Nat) (hs : List Int) (Aa : Option Addr) (ca : Nat) (at_ : List Int) (which v : Int) (w : World)
  (hr : Kd.C k28 w A ls.length ls) (hcp : ls.length ≤ cp) (hr1 : Kd.C k35 w A1 known.length known) (hc1 : known.length ≤ c1) (hh : Kd.C (Kd.int .i64) w Ah hs.length hs) (hch : hs.length ≤ ch) (ha : Kd.C (Kd.int .u8) w Aa at_.length at_) (hca : at_.length ≤ ca) (hwh : 0 ≤ which ∧ which ≤ 255) :
  Calls Try.prog 3 #[.int .i64 c, .slice A ls.length cp, .slice A1 known.length c1, .slice Ah hs.length ch, .slice Aa at_.length ca, .int .u8 which, .int .i64 v] w fun e w' => e = .returned (.bool true) ∧ Below w.heap.size w w' :=
 top_calls c A cp ls A1 c1 known Ah ch hs Aa ca at_ which v w hr hcp hr1 hc1 hh hch ha hca hwh (fun h1 h2 _ h3 => law_ok c ls known hs at_ v h1 h2 h3)
/-! ### a slice that came in, read as a list -/
theorem list_of {α : Type} (p : Nat → α → Prop) : ∀ n, (∀ i, i < n → ∃ x, p i x) → ∃ xs : List α, xs.length = n ∧ ∀ i x, xs[i]? = some x → p i x
 | 0, _ => ⟨[], rfl, fun i x h => by simp at h⟩
 | n + 1, h => by
  obtain ⟨xs, hl, hx⟩ := list_of p n (fun i hi => h i (by omega))
  obtain ⟨y, hy⟩ := h n (by omega)
  refine ⟨xs ++ [y], by rw [List.length_append, hl]; rfl, fun i x hi => ?_⟩
  by_cases e : i < xs.length
  ·rw [List.getElem?_append_left e] at hi
   exact hx i x hi
  ·rw [List.getElem?_append_right (by omega)] at hi
   have e2 : i - xs.length = 0 := by
    by_cases e3 : i - xs.length = 0
    ·exact e3
    ·rw [List.getElem?_eq_none (by simp; omega)] at hi
     cases hi
   rw [e2] at hi
   have e4 : i = n := by omega
   subst e4
   obtain rfl : y = x := by simpa using hi
   exact hy
section
variable {H : Type} {enc : TypeId × Value → H} {P : Program} {w : World} {base : Nat} {spare : Nat → Bool} {held : Bool}
theorem list_of_slice {α : Type} (d : Kd α) {t e : TypeId} (ht : P.underlying t = some (.slice e)) (hsz : P.cellsOf e = d.sz)
  (hel : ∀ (n : Nat) (cs : List Value) (y : DataW H × List MemPlace), cs.length = d.sz → DataW.trod enc P w base spare held n e cs = some y → ∃ p : α, d.K w p cs)
  {A : Option Addr} {len cap fuel : Nat} {y : DataW H × List MemPlace} (h : DataW.trod enc P w base spare held fuel t [.slice A len cap] = some y) :
  ∃ xs : List α, len = xs.length ∧ xs.length ≤ cap ∧ Kd.C d w A xs.length xs := by
 rcases open_slice ht h with ⟨h1, _⟩ | ⟨a, l, c, m, n, D, Pl, h1, _, hl, hm, hmm, _, hi⟩
 ·simp only [List.cons.injEq, Value.slice.injEq, and_true] at h1
  obtain ⟨rfl, rfl, rfl⟩ := h1
  exact ⟨[], rfl, Nat.le_refl _, rfl, by simp, fun h => absurd h (by simp)⟩
 ·simp only [List.cons.injEq, Value.slice.injEq, and_true] at h1
  obtain ⟨rfl, rfl, rfl⟩ := h1
  have hlm : len ≤ m := by rw [hmm]; split <;> omega
  obtain ⟨xs, hx, hp⟩ := list_of (fun i (p : α) => ∃ cs : List Value, cs.length = d.sz ∧ d.K w p cs ∧ ∀ j u, cs[j]? = some u → w.cell? (a.add (i * d.sz + j)) = some u) len (fun i hil => by
   obtain ⟨cs, hc, hd⟩ := hi i (by omega)
   obtain ⟨_, hcl, hat⟩ := World.cells?_some hc
   rw [hsz] at hcl hat
   obtain ⟨p, hp⟩ := hel n cs _ hcl hd
   refine ⟨p, cs, hcl, hp, fun j u hj => ?_⟩
   have hjl : j < d.sz := by
    have := (List.getElem?_eq_some_iff.1 hj).1
    omega
   rw [← Go.Deep.add_add, hat j hjl]
   exact hj)
  subst hx
  refine ⟨xs, rfl, hl, rfl, ?_, fun _ => ⟨a, rfl, hp⟩⟩
  have : maxLen ≤ 9223372036854775807 := by decide
  omega
theorem one_int {k : IntKind} {t : TypeId} (ht : P.underlying t = some (.int k)) (n : Nat) (cs : List Value) (y : DataW H × List MemPlace) (h : DataW.trod enc P w base spare held n t cs = some y) : ∃ x : Int, cs = [.int k x] := by
 obtain ⟨x, hx, _⟩ := DataW.trod_int ht h
 exact ⟨x, hx⟩
end
theorem three_of {α : Type} : ∀ {cs : List α}, cs.length = 3 → ∃ a b c, cs = [a, b, c]
 | [a, b, c], _ => ⟨a, b, c, rfl⟩
theorem two_of {α : Type} : ∀ {cs : List α}, cs.length = 2 → ∃ a b, cs = [a, b]
 | [a, b], _ => ⟨a, b, rfl⟩
theorem el_pipe {H : Type} {enc : TypeId × Value → H} {w : World} {base : Nat} {spare : Nat → Bool} {held : Bool} (n : Nat) (cs : List Value) (y : DataW H × List MemPlace) (hl : cs.length = 3)
  (h : DataW.trod enc Try.prog w base spare held n 28 cs = some y) : ∃ p : S28, k28.K w p cs := by
 obtain ⟨a, b, c, rfl⟩ := three_of hl
 obtain ⟨ys, q, _, _, _, hyl, hf⟩ := DataW.trod_struct Try.underlying28 h
 obtain ⟨y0, y1, y2, rfl⟩ := three_of hyl
 have s3 : Try.prog.cellsOf 3 = 1 := by kernel_rfl
 have g0 : DataW.trod enc Try.prog w base spare held q 3 (List.take (Try.prog.cellsOf 3) (List.drop 0 [a, b, c])) = some y0 := hf 0 _ rfl
 have g1 : DataW.trod enc Try.prog w base spare held q 3 (List.take (Try.prog.cellsOf 3) (List.drop 1 [a, b, c])) = some y1 := hf 1 _ rfl
 have g2 : DataW.trod enc Try.prog w base spare held q 3 (List.take (Try.prog.cellsOf 3) (List.drop 2 [a, b, c])) = some y2 := hf 2 _ rfl
 rw [s3] at g0 g1 g2
 obtain ⟨x0, e0⟩ := one_int Try.underlying3 q _ _ g0
 obtain ⟨x1, e1⟩ := one_int Try.underlying3 q _ _ g1
 obtain ⟨x2, e2⟩ := one_int Try.underlying3 q _ _ g2
 simp only [List.drop_zero, List.drop_succ_cons, List.take_succ_cons, List.take_zero, List.cons.injEq, and_true] at e0 e1 e2
 subst e0 e1 e2
 exact ⟨⟨x0, x1, x2⟩, k28_mk w ⟨x0, x1, x2⟩⟩
theorem el_range {H : Type} {enc : TypeId × Value → H} {w : World} {base : Nat} {spare : Nat → Bool} {held : Bool} (n : Nat) (cs : List Value) (y : DataW H × List MemPlace) (hl : cs.length = 2)
  (h : DataW.trod enc Try.prog w base spare held n 35 cs = some y) : ∃ p : S35, k35.K w p cs := by
 obtain ⟨a, b, rfl⟩ := two_of hl
 obtain ⟨ys, q, _, _, _, hyl, hf⟩ := DataW.trod_struct Try.underlying35 h
 obtain ⟨y0, y1, rfl⟩ := two_of hyl
 have s3 : Try.prog.cellsOf 3 = 1 := by kernel_rfl
 have g0 : DataW.trod enc Try.prog w base spare held q 3 (List.take (Try.prog.cellsOf 3) (List.drop 0 [a, b])) = some y0 := hf 0 _ rfl
 have g1 : DataW.trod enc Try.prog w base spare held q 3 (List.take (Try.prog.cellsOf 3) (List.drop 1 [a, b])) = some y1 := hf 1 _ rfl
 rw [s3] at g0 g1
 obtain ⟨x0, e0⟩ := one_int Try.underlying3 q _ _ g0
 obtain ⟨x1, e1⟩ := one_int Try.underlying3 q _ _ g1
 simp only [List.drop_zero, List.drop_succ_cons, List.take_succ_cons, List.take_zero, List.cons.injEq, and_true] at e0 e1
 subst e0 e1
 exact ⟨⟨x0, x1⟩, k35_mk w ⟨x0, x1⟩⟩
theorem el_int {H : Type} {enc : TypeId × Value → H} {w : World} {base : Nat} {spare : Nat → Bool} {held : Bool} {k : IntKind} {t : TypeId} (ht : Try.prog.underlying t = some (.int k)) (n : Nat) (cs : List Value) (y : DataW H × List MemPlace) (hl : cs.length = 1)
  (h : DataW.trod enc Try.prog w base spare held n t cs = some y) : ∃ p : Int, (Kd.int k).K w p cs := by
 obtain ⟨x, rfl⟩ := one_int ht n cs y h
 exact ⟨x, rfl⟩
/-! ### the row -/
theorem own : ownKnob Try.prog.godebug = none := by kernel_rfl
theorem laidOut : laidOutB Try.prog = true := by kernel_rfl
theorem cells28 : Try.prog.cellsOf 28 = 3 := by kernel_rfl
theorem cells35 : Try.prog.cellsOf 35 = 2 := by kernel_rfl
theorem cells3 : Try.prog.cellsOf 3 = 1 := by kernel_rfl
theorem cells5 : Try.prog.cellsOf 5 = 1 := by kernel_rfl
set_option maxRecDepth 100000 in
theorem lifted (os : Os) (started : os.Started) (H : Type) (enc : TypeId × Value → H) :
  ReturnsInHanded {} Try.checked os 3 .any (Rows.topBetweenSpec.pre6 enc Try.prog Try.f3 Rows.topBetweenRow.domain false) (Rows.topBetweenSpec.post enc Try.prog Try.f3 false true false false) := by
 refine returnsInHanded_of_change (C := Try.checked) own started (by kernel_rfl) Try.func3
  (ChangeSpec.witness6 (enc := enc) (C := Try.checked) false ⟨#[], #[.int .i64 0, .slice none 0 0, .slice none 0 0, .slice none 0 0, .slice none 0 0, .int .u8 0, .int .i64 0], []⟩ 8 (by kernel_rfl) (by kernel_rfl) (by kernel_rfl) (by kernel_rfl)) ?_
 intro W base args ds gs before hval0 hW hcnd _
 have hval : ∀ (j : Nat) t v, Try.f3.params[j]? = some t → args[j]? = some v → Value.okWide Try.prog W .any base t v := hval0
 have hW' := hW
 obtain ⟨p, q, hA0, hV, rfl, hfz, hnd⟩ := hW
 have hA : DataW.TrodAll enc Try.prog W 0 (fun _ => true) true Try.f3.params.toList args.toList ds p := hA0
 rw [Try.params3] at hA hval
 obtain ⟨v0, vs0, d0, ds0, p0, q0, hargs, rfl, rfl, h0, r0⟩ := trodAll_cons hA
 obtain ⟨v1, vs1, d1, ds1, p1, q1, rfl, rfl, rfl, h1, r1⟩ := trodAll_cons r0
 obtain ⟨v2, vs2, d2, ds2, p2, q2, rfl, rfl, rfl, h2, r2⟩ := trodAll_cons r1
 obtain ⟨v3, vs3, d3, ds3, p3, q3, rfl, rfl, rfl, h3, r3⟩ := trodAll_cons r2
 obtain ⟨v4, vs4, d4, ds4, p4, q4, rfl, rfl, rfl, h4, r4⟩ := trodAll_cons r3
 obtain ⟨v5, vs5, d5, ds5, p5, q5, rfl, rfl, rfl, h5, r5⟩ := trodAll_cons r4
 obtain ⟨v6, vs6, d6, ds6, p6, q6, rfl, rfl, rfl, h6, r6⟩ := trodAll_cons r5
 obtain ⟨rfl, rfl, rfl⟩ := trodAll_nil r6
 obtain rfl : args = #[v0, v1, v2, v3, v4, v5, v6] := by cases args; simp_all
 obtain ⟨rfl, rfl⟩ := trodVars_none hV
 obtain ⟨a0, rfl, rfl, rfl, w0⟩ := open_int Try.underlying3 (hval 0 3 v0 rfl rfl) h0
 obtain ⟨a1, len1, cap1, rfl⟩ := okWide_slice Try.underlying22 (hval 1 22 v1 rfl rfl)
 obtain ⟨a2, len2, cap2, rfl⟩ := okWide_slice Try.underlying23 (hval 2 23 v2 rfl rfl)
 obtain ⟨a3, len3, cap3, rfl⟩ := okWide_slice Try.underlying24 (hval 3 24 v3 rfl rfl)
 obtain ⟨a4, len4, cap4, rfl⟩ := okWide_slice Try.underlying25 (hval 4 25 v4 rfl rfl)
 obtain ⟨a5, rfl, rfl, rfl, w5⟩ := open_int Try.underlying5 (hval 5 5 v5 rfl rfl) h5
 obtain ⟨a6, rfl, rfl, rfl, w6⟩ := open_int Try.underlying3 (hval 6 3 v6 rfl rfl) h6
 have k1 := h1
 have k2 := h2
 have k3 := h3
 have k4 := h4
 have lt1 : ∀ x ∈ p1, x.block < W.heap.size := by obtain ⟨m, hm⟩ := k1; exact DataW.trod_lt m _ _ _ hm
 have lt2 : ∀ x ∈ p2, x.block < W.heap.size := by obtain ⟨m, hm⟩ := k2; exact DataW.trod_lt m _ _ _ hm
 have lt3 : ∀ x ∈ p3, x.block < W.heap.size := by obtain ⟨m, hm⟩ := k3; exact DataW.trod_lt m _ _ _ hm
 have lt4 : ∀ x ∈ p4, x.block < W.heap.size := by obtain ⟨m, hm⟩ := k4; exact DataW.trod_lt m _ _ _ hm
 obtain ⟨l1, e1, c1, g1⟩ : ∃ xs : List S28, len1 = xs.length ∧ xs.length ≤ cap1 ∧ Kd.C k28 W a1 xs.length xs := by
  obtain ⟨fuel, hf⟩ := h1
  exact list_of_slice k28 Try.underlying22 cells28 (fun n cs y hl h => el_pipe n cs y hl h) hf
 obtain ⟨l2, e2, c2, g2⟩ : ∃ xs : List S35, len2 = xs.length ∧ xs.length ≤ cap2 ∧ Kd.C k35 W a2 xs.length xs := by
  obtain ⟨fuel, hf⟩ := h2
  exact list_of_slice k35 Try.underlying23 cells35 (fun n cs y hl h => el_range n cs y hl h) hf
 obtain ⟨l3, e3, c3, g3⟩ : ∃ xs : List Int, len3 = xs.length ∧ xs.length ≤ cap3 ∧ Kd.C (Kd.int .i64) W a3 xs.length xs := by
  obtain ⟨fuel, hf⟩ := h3
  exact list_of_slice (Kd.int .i64) Try.underlying24 cells3 (fun n cs y hl h => el_int Try.underlying3 n cs y hl h) hf
 obtain ⟨l4, e4, c4, g4⟩ : ∃ xs : List Int, len4 = xs.length ∧ xs.length ≤ cap4 ∧ Kd.C (Kd.int .u8) W a4 xs.length xs := by
  obtain ⟨fuel, hf⟩ := h4
  exact list_of_slice (Kd.int .u8) Try.underlying25 cells5 (fun n cs y hl h => el_int Try.underlying5 n cs y hl h) hf
 subst e1 e2 e3 e4
 have b5 : 0 ≤ a5 ∧ a5 ≤ 255 := by
  have m0 : IntKind.u8.min = 0 := by decide
  have m1 : IntKind.u8.max = 255 := by decide
  simp [Lit.wf, m0, m1] at w5
  omega
 clear hA0 hval0
 refine (top_true a0 a1 cap1 l1 a2 cap2 l2 a3 cap3 l3 a4 cap4 l4 a5 a6 W g1 c1 g2 c2 g3 c3 g4 c4 b5).mono fun e W' ⟨he, bel⟩ => ?_
 subst he
 exact ⟨_, rfl, _, _, _, [], _, [], hW', trodAll_mk1 (shut_bool Try.underlying4 _),
  (trodAll_cons_mk (shut_int Try.underlying3 w0) (trodAll_cons_mk (Below.trod laidOut (by kernel_rfl) (of_decide_eq_true (by kernel_rfl)) k1 bel lt1) (trodAll_cons_mk (Below.trod laidOut (by kernel_rfl) (of_decide_eq_true (by kernel_rfl)) k2 bel lt2) (trodAll_cons_mk (Below.trod laidOut (by kernel_rfl) (of_decide_eq_true (by kernel_rfl)) k3 bel lt3) (trodAll_cons_mk (Below.trod laidOut (by kernel_rfl) (of_decide_eq_true (by kernel_rfl)) k4 bel lt4) (trodAll_cons_mk (shut_int Try.underlying5 w5) (trodAll_cons_mk (shut_int Try.underlying3 w6) trodAll_mk0))))))), rfl, bel.frame _, fun h => by cases h⟩
theorem over : Rows.topBetweenRow.holds Try.pinned (OpenSpec.ofChange Rows.topBetweenSpec) :=
 OpenClaim.holds_of_wide 3 Try.f3 rfl rfl rfl rfl rfl rfl rfl ⟨rfl, rfl, rfl, rfl, rfl⟩ rfl rfl rfl rfl rfl (by kernel_rfl) Try.func3 (by kernel_rfl)
  (of_decide_eq_true (by kernel_rfl)) (by unfold Func.isWrapper; first | (rw [if_pos (by decide +kernel)]; kernel_rfl) | (rw [if_neg (by decide +kernel)]; exact ⟨rfl, rfl⟩))
  (fun os started H enc _ => lifted os started H enc)
end Go.Proofs.Ytgjkhifhiggflaa.Own
namespace Go.Proofs.Ytgjkhifhiggflaa
theorem topBetween_holds : Rows.TopBetweenSaid := Own.over
#print axioms topBetween_holds
end Go.Proofs.Ytgjkhifhiggflaa
