/- The row of the law PlanTells: for every input that the row lets in the call returns true and leaves its arguments as they were. No condition of this text's own. Written by a program of this session. -/
import Derived.Test.YthbebfjoennmfaaRows
import Derived.Test.YthbebfjoennmfaaPPlanTellsx
import Derived.Test.YthbebfjoennmfaaPurePlanTells
import Derived.WalkKit
import Derived.ProofKit
import Derived.OpenShut
import Derived.ShutString
import Derived.ChangeOld
import Derived.Below
import Derived.SizedLaws
import Derived.ChangeSlices
import Derived.SliceStrings
import Derived.Deep.Slices
import Derived.Deep.Fields
import Derived.ChangeSame
import Derived.Lib.SmallJoins
import Derived.Test.YthbebfjoennmfaaWSized
namespace Go.Proofs.Ythbebfjoennmfaa.planTells
open Go.ChangeShapes Go.WideShapes Go.ChangeAt Go.RowKit Go.Deep Go.Joins Go.Proofs.YthbebfjoennmfaaW.PrintWords Go.Proofs.Ythbebfjoennmfaa.PPlanTells
open Go.ChangeMaps (open_string shut_string)
set_option linter.unusedVariables false
theorem own : ownKnob Try.prog.godebug = none := by kernel_rfl
theorem laidOut : laidOutB Try.prog = true := by kernel_rfl
theorem list_of {α : Type} {Q : Nat → α → Prop} : ∀ (n : Nat), (∀ i, i < n → ∃ x, Q i x) → ∃ l : List α, l.length = n ∧ ∀ i x, l[i]? = some x → Q i x
  | 0, _ => ⟨[], rfl, fun i x h => by simp at h⟩
  | n + 1, h => by
    obtain ⟨l, hl, hq⟩ := list_of n (fun i hi => h i (by omega))
    obtain ⟨x, hx⟩ := h n (by omega)
    refine ⟨l ++ [x], by simp [hl], fun i y hy => ?_⟩
    by_cases hi : i < l.length
    · rw [List.getElem?_append_left hi] at hy
      exact hq i y hy
    · have hi2 : i = n := by
        have := (List.getElem?_eq_some_iff.1 hy).1
        rw [List.length_append, List.length_singleton] at this
        omega
      subst hi2
      rw [← hl] at hy
      have : x = y := by simpa using hy
      subst this
      exact hx
def IsRow (k : IntKind) (w : World) (a : Option Addr) (len cap : Nat) (zs : List Int) : Prop :=
  (a = none ∧ len = 0 ∧ cap = 0 ∧ zs = []) ∨
  ∃ x, a = some x ∧ len ≤ cap ∧ cap ≤ maxLen ∧ zs.length = cap ∧ (∀ i, i < zs.length → w.cell? (x.add i) = some (.int k (zs.getD i 0))) ∧ ∀ n ∈ zs, (Lit.int k n).wf = true
section
variable {H : Type} {enc : TypeId × Value → H} {P : Program} {w : World} {base : Nat} {spare : Nat → Bool} {held : Bool}
theorem open_slice_fields {t e : TypeId} {fs : Array Field} {fuel : Nat} {cs : List Value} {x : DataW H × List MemPlace} (ht : P.underlying t = some (.slice e)) (he : P.underlying e = some (.struct fs))
    (hone : oneCellFields P fs = true) (hC : P.cellsOf e = fs.size) (h : DataW.trod enc P w base spare held fuel t cs = some x) :
    (cs = [.slice none 0 0] ∧ x = (.nil, [])) ∨
    ∃ (a : Addr) (len cap m : Nat) (D : Nat → DataW H) (Pl : Nat → List MemPlace), cs = [.slice (some a) len cap] ∧ base ≤ a.block ∧ len ≤ cap ∧ cap ≤ maxLen ∧ m = (if spare a.block then cap else len) ∧
      x = (.slice ((List.range len).map D) ((List.range (m - len)).map fun j => D (len + j)), MemPlace.row a (m * fs.size) ++ (List.range m).flatMap Pl) ∧
      ∀ i, i < m → ∃ (ys : List (DataW H × List MemPlace)) (n : Nat), D i = .agg (ys.map (·.1)) ∧ Pl i = ys.flatMap (·.2) ∧ ys.length = fs.size ∧
        ∀ (j : Nat) (f : Field), fs[j]? = some f → ∃ (v : Value) (y : DataW H × List MemPlace), w.cell? (a.add (i * fs.size + j)) = some v ∧ ys[j]? = some y ∧ DataW.trod enc P w base spare held n f.type [v] = some y := by
  rcases open_slice ht h with h0 | ⟨a, len, cap, m, n, D, Pl, hcs, hb, hl, hm, hmm, hx, hi⟩
  · exact .inl h0
  · refine .inr ⟨a, len, cap, m, D, Pl, hcs, hb, hl, hm, hmm, by rw [hC] at hx; exact hx, fun i him => ?_⟩
    obtain ⟨cs', hc, ht'⟩ := hi i him
    rw [hC] at hc
    obtain ⟨ys, n', hn', hy, hlen, hyl, hf⟩ := DataW.trod_struct he ht'
    obtain ⟨_, hcl, hat⟩ := World.cells?_some hc
    simp only [Prod.mk.injEq] at hy
    refine ⟨ys, n', hy.1, hy.2, hyl, fun j f hj => ?_⟩
    obtain ⟨ho, hk⟩ := hone_of hone j f hj
    have hjl : j < fs.size := (Array.getElem?_eq_some_iff.1 hj).1
    have hcell := hat j hjl
    have hv : cs'[j]? = some (cs'[j]'(by omega)) := List.getElem?_eq_getElem (by omega)
    have h1 := hf j f hj
    rw [ho, hk] at h1
    have hone' : (cs'.drop j).take 1 = [cs'[j]'(by omega)] := by
      rw [List.drop_eq_getElem_cons (by omega)]
      rfl
    rw [hone'] at h1
    have hys : ys[j]? = some (ys[j]'(by omega)) := List.getElem?_eq_getElem (by omega)
    refine ⟨_, _, ?_, hys, h1.trans hys⟩
    rw [← Go.Deep.add_add, hcell, hv]
end
section
variable {H : Type} {enc : TypeId × Value → H} {P : Program} {w : World} {base : Nat} {spare : Nat → Bool} {held : Bool}
theorem open_agg5 {r : Reach} {b0 : Nat} {t : TypeId} {f0 f1 f2 f3 f4 : Field} {v : Value} {d : DataW H} {p : List MemPlace} (hs : P.underlying t = some (.struct #[f0, f1, f2, f3, f4])) (hone : oneCellFields P #[f0, f1, f2, f3, f4] = true) (hC : P.cellsOf t = 5)
    (hv : Value.okWide P w r b0 t v) (h : DataW.Trod enc P w base spare held t v d p) :
    ∃ (v0 v1 v2 v3 v4 : Value) (y0 y1 y2 y3 y4 : DataW H × List MemPlace) (n : Nat), v = .agg #[v0, v1, v2, v3, v4] ∧ d = .agg [y0.1, y1.1, y2.1, y3.1, y4.1] ∧ p = y0.2 ++ (y1.2 ++ (y2.2 ++ (y3.2 ++ y4.2))) ∧
      DataW.trod enc P w base spare held n f0.type [v0] = some y0 ∧ DataW.trod enc P w base spare held n f1.type [v1] = some y1 ∧ DataW.trod enc P w base spare held n f2.type [v2] = some y2 ∧ DataW.trod enc P w base spare held n f3.type [v3] = some y3 ∧ DataW.trod enc P w base spare held n f4.type [v4] = some y4 := by
  obtain ⟨cs, rfl, hsz⟩ := okWide_struct hs hv
  obtain ⟨l⟩ := cs
  match l, hsz.trans hC with
  | [c0, c1, c2, c3, c4], _ =>
    obtain ⟨fuel, hf⟩ := h
    obtain ⟨xs, n, _, hx, _, hlen, hg⟩ := DataW.trod_struct hs hf
    obtain ⟨o0, k0⟩ := hone_of hone 0 f0 rfl
    obtain ⟨o1, k1⟩ := hone_of hone 1 f1 rfl
    obtain ⟨o2, k2⟩ := hone_of hone 2 f2 rfl
    obtain ⟨o3, k3⟩ := hone_of hone 3 f3 rfl
    obtain ⟨o4, k4⟩ := hone_of hone 4 f4 rfl
    match xs, hlen with
    | [y0, y1, y2, y3, y4], _ =>
      simp only [Prod.mk.injEq] at hx
      exact ⟨c0, c1, c2, c3, c4, y0, y1, y2, y3, y4, n, rfl, by simpa using hx.1, by simpa using hx.2, by simpa [Value.cells, o0, k0] using hg 0 f0 rfl, by simpa [Value.cells, o1, k1] using hg 1 f1 rfl, by simpa [Value.cells, o2, k2] using hg 2 f2 rfl, by simpa [Value.cells, o3, k3] using hg 3 f3 rfl, by simpa [Value.cells, o4, k4] using hg 4 f4 rfl⟩

theorem open_agg6 {r : Reach} {b0 : Nat} {t : TypeId} {f0 f1 f2 f3 f4 f5 : Field} {v : Value} {d : DataW H} {p : List MemPlace} (hs : P.underlying t = some (.struct #[f0, f1, f2, f3, f4, f5])) (hone : oneCellFields P #[f0, f1, f2, f3, f4, f5] = true) (hC : P.cellsOf t = 6)
    (hv : Value.okWide P w r b0 t v) (h : DataW.Trod enc P w base spare held t v d p) :
    ∃ (v0 v1 v2 v3 v4 v5 : Value) (y0 y1 y2 y3 y4 y5 : DataW H × List MemPlace) (n : Nat), v = .agg #[v0, v1, v2, v3, v4, v5] ∧ d = .agg [y0.1, y1.1, y2.1, y3.1, y4.1, y5.1] ∧ p = y0.2 ++ (y1.2 ++ (y2.2 ++ (y3.2 ++ (y4.2 ++ y5.2)))) ∧
      DataW.trod enc P w base spare held n f0.type [v0] = some y0 ∧ DataW.trod enc P w base spare held n f1.type [v1] = some y1 ∧ DataW.trod enc P w base spare held n f2.type [v2] = some y2 ∧ DataW.trod enc P w base spare held n f3.type [v3] = some y3 ∧ DataW.trod enc P w base spare held n f4.type [v4] = some y4 ∧ DataW.trod enc P w base spare held n f5.type [v5] = some y5 := by
  obtain ⟨cs, rfl, hsz⟩ := okWide_struct hs hv
  obtain ⟨l⟩ := cs
  match l, hsz.trans hC with
  | [c0, c1, c2, c3, c4, c5], _ =>
    obtain ⟨fuel, hf⟩ := h
    obtain ⟨xs, n, _, hx, _, hlen, hg⟩ := DataW.trod_struct hs hf
    obtain ⟨o0, k0⟩ := hone_of hone 0 f0 rfl
    obtain ⟨o1, k1⟩ := hone_of hone 1 f1 rfl
    obtain ⟨o2, k2⟩ := hone_of hone 2 f2 rfl
    obtain ⟨o3, k3⟩ := hone_of hone 3 f3 rfl
    obtain ⟨o4, k4⟩ := hone_of hone 4 f4 rfl
    obtain ⟨o5, k5⟩ := hone_of hone 5 f5 rfl
    match xs, hlen with
    | [y0, y1, y2, y3, y4, y5], _ =>
      simp only [Prod.mk.injEq] at hx
      exact ⟨c0, c1, c2, c3, c4, c5, y0, y1, y2, y3, y4, y5, n, rfl, by simpa using hx.1, by simpa using hx.2, by simpa [Value.cells, o0, k0] using hg 0 f0 rfl, by simpa [Value.cells, o1, k1] using hg 1 f1 rfl, by simpa [Value.cells, o2, k2] using hg 2 f2 rfl, by simpa [Value.cells, o3, k3] using hg 3 f3 rfl, by simpa [Value.cells, o4, k4] using hg 4 f4 rfl, by simpa [Value.cells, o5, k5] using hg 5 f5 rfl⟩
end
set_option maxRecDepth 100000 in
theorem lifted (os : Os) (started : os.Started) (H : Type) (enc : TypeId × Value → H) :
    ReturnsInHanded {} Try.checked os 6 .any (Rows.planTellsSpec.pre6 enc Try.prog Try.f6 Rows.planTellsRow.domain false) (Rows.planTellsSpec.post enc Try.prog Try.f6 false true false false) := by
  refine returnsInHanded_of_change_sized (C := Try.checked) own started (by kernel_rfl) Try.func6
    (ChangeSpec.witness6 (enc := enc) (C := Try.checked) false ⟨#[], #[.slice none 0 0, .slice none 0 0, .slice none 0 0], []⟩ 8 (by kernel_rfl) (by kernel_rfl) (by kernel_rfl) (by kernel_rfl)) ?_
  intro W base args ds gs before hval0 hW hcnd hsz0 _
  have hsz : (DataW.weightsEach Try.prog (Try.f6.params.toList ++ Rows.planTellsSpec.plain.varTypes Try.prog) (ds ++ gs)).all (· ≤ reachBytes) = true := hsz0
  have hval : ∀ (j : Nat) t v, Try.f6.params[j]? = some t → args[j]? = some v → Value.okWide Try.prog W .any base t v := hval0
  have hW' := hW
  obtain ⟨p, q, hA0, hV, rfl, hfz, hnd⟩ := hW
  have hA : DataW.TrodAll enc Try.prog W 0 (fun _ => true) true Try.f6.params.toList args.toList ds p := hA0
  rw [Try.params6] at hA hval hsz
  obtain ⟨v0, vs0, d0, ds0, p0, q0, hargs, rfl, rfl, h0, r0⟩ := trodAll_cons hA
  obtain ⟨v1, vs1, d1, ds1, p1, q1, rfl, rfl, rfl, h1, r1⟩ := trodAll_cons r0
  obtain ⟨v2, vs2, d2, ds2, p2, q2, rfl, rfl, rfl, h2, r2⟩ := trodAll_cons r1
  obtain ⟨rfl, rfl, rfl⟩ := trodAll_nil r2
  obtain rfl : args = #[v0, v1, v2] := by cases args; simp_all
  obtain ⟨rfl, rfl⟩ := trodVars_none hV
  have k0 := h0
  have lt0 : ∀ x ∈ p0, x.block < W.heap.size := by obtain ⟨m, hm⟩ := k0; exact DataW.trod_lt m _ _ _ hm
  obtain ⟨a0, len0, cap0, rfl⟩ := okWide_slice Try.underlying22 (hval 0 22 v0 rfl rfl)
  obtain ⟨l0, hl0, hm0, hr0', hc0, hw0⟩ : ∃ l : List S52, len0 = l.length ∧ l.length ≤ maxLen ∧ Kd.C k52 W a0 l.length l ∧ l.length ≤ cap0 ∧ ∀ x ∈ l, x.f0.size ≤ maxLen ∧ (Lit.int .i64 x.f1).wf = true := by
    obtain ⟨fuel, hf⟩ := h0
    rcases open_slice_fields Try.underlying22 Try.underlying52 (by kernel_rfl) (by kernel_rfl) hf with ⟨hcs, _⟩ | ⟨x, l, c, mm, DD, Pl, hcs, _, hl, hm, hmm, _, hall⟩
    · simp [Value.cells] at hcs
      obtain ⟨rfl, rfl, rfl⟩ := hcs
      exact ⟨[], rfl, Nat.zero_le _, Kd.C_nil _ _, Nat.le_refl _, fun x hx => by simp at hx⟩
    · simp [Value.cells] at hcs
      obtain ⟨rfl, rfl, rfl⟩ := hcs
      have hmm' : mm = cap0 := by simpa using hmm
      obtain ⟨l, hlen, hq⟩ := list_of (α := S52) (Q := fun q x_ => (∀ i u, ([.string x_.f0, .int .i64 x_.f1] : List Value)[i]? = some u → W.cell? (x.add (q * 2 + i)) = some u) ∧ (x_.f0.size ≤ maxLen ∧ (Lit.int .i64 x_.f1).wf = true)) len0 (fun q hq => by
        obtain ⟨ys, nn, _, _, _, hf⟩ := hall q (by omega)
        obtain ⟨c0, y0, hc0, _, t0⟩ := hf 0 _ rfl
        obtain ⟨b0, e_b0, f_b0, wb0⟩ := DataW.trod_string Try.underlying9 t0
        obtain rfl : c0 = .string b0 := by simpa using e_b0
        obtain ⟨c1, y1, hc1, _, t1⟩ := hf 1 _ rfl
        obtain ⟨b1, e_b1, f_b1, wb1⟩ := DataW.trod_int Try.underlying3 t1
        obtain rfl : c1 = .int .i64 b1 := by simpa using e_b1
        refine ⟨⟨b0, b1⟩, fun i u hu => ?_, wb0, wb1⟩
        match i, hu with
        | 0, hu => rw [← Option.some.inj hu]; exact hc0
        | 1, hu => rw [← Option.some.inj hu]; exact hc1
        | _ + 2, hu => simp at hu)
      refine ⟨l, hlen.symm, by omega, ⟨rfl, by unfold maxLen at hm; omega, fun _ => ⟨x, rfl, fun j p hj => ⟨[.string p.f0, .int .i64 p.f1], rfl, k52_mk _ _, (hq j p hj).1⟩⟩⟩, by omega, fun p hp => ?_⟩
      obtain ⟨j, hj⟩ := List.getElem?_of_mem hp
      exact (hq j p hj).2
  subst hl0
  have k1 := h1
  have lt1 : ∀ x ∈ p1, x.block < W.heap.size := by obtain ⟨m, hm⟩ := k1; exact DataW.trod_lt m _ _ _ hm
  obtain ⟨a1, len1, cap1, rfl⟩ := okWide_slice Try.underlying22 (hval 1 22 v1 rfl rfl)
  obtain ⟨l1, hl1, hm1, hr1', hc1, hw1⟩ : ∃ l : List S52, len1 = l.length ∧ l.length ≤ maxLen ∧ Kd.C k52 W a1 l.length l ∧ l.length ≤ cap1 ∧ ∀ x ∈ l, x.f0.size ≤ maxLen ∧ (Lit.int .i64 x.f1).wf = true := by
    obtain ⟨fuel, hf⟩ := h1
    rcases open_slice_fields Try.underlying22 Try.underlying52 (by kernel_rfl) (by kernel_rfl) hf with ⟨hcs, _⟩ | ⟨x, l, c, mm, DD, Pl, hcs, _, hl, hm, hmm, _, hall⟩
    · simp [Value.cells] at hcs
      obtain ⟨rfl, rfl, rfl⟩ := hcs
      exact ⟨[], rfl, Nat.zero_le _, Kd.C_nil _ _, Nat.le_refl _, fun x hx => by simp at hx⟩
    · simp [Value.cells] at hcs
      obtain ⟨rfl, rfl, rfl⟩ := hcs
      have hmm' : mm = cap1 := by simpa using hmm
      obtain ⟨l, hlen, hq⟩ := list_of (α := S52) (Q := fun q x_ => (∀ i u, ([.string x_.f0, .int .i64 x_.f1] : List Value)[i]? = some u → W.cell? (x.add (q * 2 + i)) = some u) ∧ (x_.f0.size ≤ maxLen ∧ (Lit.int .i64 x_.f1).wf = true)) len1 (fun q hq => by
        obtain ⟨ys, nn, _, _, _, hf⟩ := hall q (by omega)
        obtain ⟨c0, y0, hc0, _, t0⟩ := hf 0 _ rfl
        obtain ⟨b0, e_b0, f_b0, wb0⟩ := DataW.trod_string Try.underlying9 t0
        obtain rfl : c0 = .string b0 := by simpa using e_b0
        obtain ⟨c1, y1, hc1, _, t1⟩ := hf 1 _ rfl
        obtain ⟨b1, e_b1, f_b1, wb1⟩ := DataW.trod_int Try.underlying3 t1
        obtain rfl : c1 = .int .i64 b1 := by simpa using e_b1
        refine ⟨⟨b0, b1⟩, fun i u hu => ?_, wb0, wb1⟩
        match i, hu with
        | 0, hu => rw [← Option.some.inj hu]; exact hc0
        | 1, hu => rw [← Option.some.inj hu]; exact hc1
        | _ + 2, hu => simp at hu)
      refine ⟨l, hlen.symm, by omega, ⟨rfl, by unfold maxLen at hm; omega, fun _ => ⟨x, rfl, fun j p hj => ⟨[.string p.f0, .int .i64 p.f1], rfl, k52_mk _ _, (hq j p hj).1⟩⟩⟩, by omega, fun p hp => ?_⟩
      obtain ⟨j, hj⟩ := List.getElem?_of_mem hp
      exact (hq j p hj).2
  subst hl1
  have k2 := h2
  have lt2 : ∀ x ∈ p2, x.block < W.heap.size := by obtain ⟨m, hm⟩ := k2; exact DataW.trod_lt m _ _ _ hm
  obtain ⟨a2, len2, cap2, rfl⟩ := okWide_slice Try.underlying24 (hval 2 24 v2 rfl rfl)
  obtain ⟨l2, hl2, hm2, hr2', hc2, hw2⟩ : ∃ l : List S36, len2 = l.length ∧ l.length ≤ maxLen ∧ Kd.C k36 W a2 l.length l ∧ l.length ≤ cap2 ∧ ∀ x ∈ l, x.f0.size ≤ maxLen ∧ (Lit.int .i64 x.f1).wf = true ∧ (Lit.int .i64 x.f2).wf = true := by
    obtain ⟨fuel, hf⟩ := h2
    rcases open_slice_fields Try.underlying24 Try.underlying36 (by kernel_rfl) (by kernel_rfl) hf with ⟨hcs, _⟩ | ⟨x, l, c, mm, DD, Pl, hcs, _, hl, hm, hmm, _, hall⟩
    · simp [Value.cells] at hcs
      obtain ⟨rfl, rfl, rfl⟩ := hcs
      exact ⟨[], rfl, Nat.zero_le _, Kd.C_nil _ _, Nat.le_refl _, fun x hx => by simp at hx⟩
    · simp [Value.cells] at hcs
      obtain ⟨rfl, rfl, rfl⟩ := hcs
      have hmm' : mm = cap2 := by simpa using hmm
      obtain ⟨l, hlen, hq⟩ := list_of (α := S36) (Q := fun q x_ => (∀ i u, ([.string x_.f0, .int .i64 x_.f1, .int .i64 x_.f2] : List Value)[i]? = some u → W.cell? (x.add (q * 3 + i)) = some u) ∧ (x_.f0.size ≤ maxLen ∧ (Lit.int .i64 x_.f1).wf = true ∧ (Lit.int .i64 x_.f2).wf = true)) len2 (fun q hq => by
        obtain ⟨ys, nn, _, _, _, hf⟩ := hall q (by omega)
        obtain ⟨c0, y0, hc0, _, t0⟩ := hf 0 _ rfl
        obtain ⟨b0, e_b0, f_b0, wb0⟩ := DataW.trod_string Try.underlying9 t0
        obtain rfl : c0 = .string b0 := by simpa using e_b0
        obtain ⟨c1, y1, hc1, _, t1⟩ := hf 1 _ rfl
        obtain ⟨b1, e_b1, f_b1, wb1⟩ := DataW.trod_int Try.underlying3 t1
        obtain rfl : c1 = .int .i64 b1 := by simpa using e_b1
        obtain ⟨c2, y2, hc2, _, t2⟩ := hf 2 _ rfl
        obtain ⟨b2, e_b2, f_b2, wb2⟩ := DataW.trod_int Try.underlying3 t2
        obtain rfl : c2 = .int .i64 b2 := by simpa using e_b2
        refine ⟨⟨b0, b1, b2⟩, fun i u hu => ?_, wb0, wb1, wb2⟩
        match i, hu with
        | 0, hu => rw [← Option.some.inj hu]; exact hc0
        | 1, hu => rw [← Option.some.inj hu]; exact hc1
        | 2, hu => rw [← Option.some.inj hu]; exact hc2
        | _ + 3, hu => simp at hu)
      refine ⟨l, hlen.symm, by omega, ⟨rfl, by unfold maxLen at hm; omega, fun _ => ⟨x, rfl, fun j p hj => ⟨[.string p.f0, .int .i64 p.f1, .int .i64 p.f2], rfl, k36_mk _ _, (hq j p hj).1⟩⟩⟩, by omega, fun p hp => ?_⟩
      obtain ⟨j, hj⟩ := List.getElem?_of_mem hp
      exact (hq j p hj).2
  subst hl2
  clear hA0 hval0 hsz0 hsz
  obtain ⟨k, h⟩ := Pure.PlanTells l0 l1 l2 hm0 hw0 hm1 hw1 hm2 hw2
  refine (tattlelaw15_PlanTells.calls k _ _ l0 _ _ l1 _ _ l2 true W hr0' hc0 hr1' hc1 hr2' hc2 h).mono fun e W' ⟨he, bel0⟩ => ?_
  have bel : Below W.heap.size W W' := bel0
  subst he
  exact ⟨_, rfl, _, _, _, [], _, [], hW', trodAll_mk1 (shut_bool Try.underlying4 _), (trodAll_cons_mk (Below.trod laidOut (by kernel_rfl) (of_decide_eq_true (by kernel_rfl)) k0 bel lt0) (trodAll_cons_mk (Below.trod laidOut (by kernel_rfl) (of_decide_eq_true (by kernel_rfl)) k1 bel lt1) (trodAll_cons_mk (Below.trod laidOut (by kernel_rfl) (of_decide_eq_true (by kernel_rfl)) k2 bel lt2) trodAll_mk0))), rfl, bel.frame _, fun h => by cases h⟩
theorem over : Rows.planTellsRow.holds Try.pinned (OpenSpec.ofChange Rows.planTellsSpec) :=
  OpenClaim.holds_of_wide 6 Try.f6 rfl rfl rfl rfl rfl rfl rfl ⟨rfl, rfl, rfl, rfl, rfl⟩ rfl rfl rfl rfl rfl (by kernel_rfl) Try.func6 (by kernel_rfl)
    (of_decide_eq_true (by kernel_rfl)) (by unfold Func.isWrapper; first | (rw [if_pos (by decide +kernel)]; kernel_rfl) | (rw [if_neg (by decide +kernel)]; exact ⟨rfl, rfl⟩))
    (fun os started H enc _ => lifted os started H enc)
theorem proved : Rows.PlanTellsSaid := over
#print axioms proved
end Go.Proofs.Ythbebfjoennmfaa.planTells
namespace Go.Proofs.Ythbebfjoennmfaa
theorem planTells_holds : Rows.PlanTellsSaid := planTells.proved
end Go.Proofs.Ythbebfjoennmfaa
