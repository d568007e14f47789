-- The plain side of the law PlanTells: what may be, what differs, what is applied; lists in order.
import Derived.Test.YthbebfjoennmfaaPPlanTellsx
namespace Go.Proofs.Ythbebfjoennmfaa.PPlanTells
open Go.RowKit Go.Proofs.YthbebfjoennmfaaW.PrintWords Go.Proofs.YthbebfjoennmfaaW.PrintLast Go.Proofs.YthbebfjoennmfaaW.PrintMore
set_option linter.unusedVariables false
set_option linter.unusedSimpArgs false
/-! ### Tasks' order -/
theorem ba_inj {a b : ByteArray} (h : a.toList = b.toList) : a = b := by
  rw [ByteArray.toList_eq, ByteArray.toList_eq] at h
  cases a; cases b
  simp only [ByteArray.mk.injEq]
  exact Array.toList_inj.1 h
theorem ba_iff {a b : ByteArray} : a.toList = b.toList ↔ a = b := ⟨ba_inj, fun h => by rw [h]⟩
def lt (a b : ByteArray) : Prop := Op.bytesLess a.toList b.toList = true
theorem lt_irrefl (a : ByteArray) : ¬ lt a a := by unfold lt; rw [bytesLess_irrefl]; exact Bool.false_ne_true
theorem lt_trans {a b c : ByteArray} (h : lt a b) (k : lt b c) : lt a c := bytesLess_trans _ _ _ h k
theorem lt_asymm {a b : ByteArray} (h : lt a b) : ¬ lt b a := fun k => lt_irrefl a (lt_trans h k)
theorem lt_total {a b : ByteArray} (h : a ≠ b) (k : ¬ lt b a) : lt a b := bytesLess_total _ _ (fun e => h (ba_inj e)) (by unfold lt at k; simpa using k)
theorem lt_ne {a b : ByteArray} (h : lt a b) : a ≠ b := fun e => by rw [e] at h; exact lt_irrefl _ h
/-- Two lists in order that have the same members are one. -/
theorem sorted_ext {α : Type} {f : α → ByteArray} : ∀ {l1 l2 : List α}, l1.Pairwise (fun x y => lt (f x) (f y)) → l2.Pairwise (fun x y => lt (f x) (f y)) → (∀ x, x ∈ l1 ↔ x ∈ l2) → l1 = l2
  | [], [], _, _, _ => rfl
  | [], y :: l2, _, _, h => by have := (h y).2 (List.mem_cons_self ..); simp at this
  | x :: l1, [], _, _, h => by have := (h x).1 (List.mem_cons_self ..); simp at this
  | x :: l1, y :: l2, h1, h2, h => by
    rw [List.pairwise_cons] at h1 h2
    have e : x = y := by
      rcases List.mem_cons.1 ((h x).1 (List.mem_cons_self ..)) with e | hx
      · exact e
      · rcases List.mem_cons.1 ((h y).2 (List.mem_cons_self ..)) with e | hy
        · exact e.symm
        · exact absurd (h2.1 x hx) (lt_asymm (h1.1 y hy))
    subst e
    congr 1
    refine sorted_ext h1.2 h2.2 (fun z => ⟨fun hz => ?_, fun hz => ?_⟩)
    · rcases List.mem_cons.1 ((h z).1 (List.mem_cons_of_mem _ hz)) with e | hz'
      · subst e; exact absurd (h1.1 z hz) (lt_irrefl _)
      · exact hz'
    · rcases List.mem_cons.1 ((h z).2 (List.mem_cons_of_mem _ hz)) with e | hz'
      · subst e; exact absurd (h2.1 z hz) (lt_irrefl _)
      · exact hz'
def SortP (l : List S52) : Prop := l.Pairwise (fun x y => lt x.f0 y.f0)
def SortM (l : List S36) : Prop := l.Pairwise (fun x y => lt x.f0 y.f0)
/-- A task's node; -1: none. -/
def atP : List S52 → ByteArray → Int
  | [], _ => -1
  | x :: l, t => if x.f0 = t then x.f1 else atP l t
/-- A task's move. -/
def fnd : List S36 → ByteArray → Option S36
  | [], _ => none
  | x :: l, t => if x.f0 = t then some x else fnd l t
theorem atP_not {l : List S52} {t : ByteArray} (h : ∀ x ∈ l, x.f0 ≠ t) : atP l t = -1 := by
  induction l with
  | nil => rfl
  | cons x l ih => rw [atP, if_neg (h x (List.mem_cons_self ..))]; exact ih (fun y hy => h y (List.mem_cons_of_mem _ hy))
theorem atP_mem {l : List S52} (hs : SortP l) {x : S52} (h : x ∈ l) : atP l x.f0 = x.f1 := by
  induction l with
  | nil => simp at h
  | cons y l ih =>
    unfold SortP at hs
    rw [List.pairwise_cons] at hs
    rcases List.mem_cons.1 h with e | h
    · subst e; rw [atP, if_pos rfl]
    · rw [atP, if_neg (lt_ne (hs.1 x h)), ih hs.2 h]
theorem atP_ex {l : List S52} {t : ByteArray} (h : atP l t ≠ -1) : ∃ x ∈ l, x.f0 = t ∧ x.f1 = atP l t := by
  induction l with
  | nil => exact absurd rfl h
  | cons y l ih =>
    by_cases e : y.f0 = t
    · exact ⟨y, List.mem_cons_self .., e, by rw [atP, if_pos e]⟩
    · rw [atP, if_neg e] at h ⊢
      obtain ⟨x, hx, h1, h2⟩ := ih h
      exact ⟨x, List.mem_cons_of_mem _ hx, h1, h2⟩
def Nn (l : List S52) : Prop := ∀ x ∈ l, 0 ≤ x.f1
theorem mem_atP {l : List S52} (hs : SortP l) (hn : Nn l) (x : S52) : x ∈ l ↔ x.f1 = atP l x.f0 ∧ x.f1 ≠ -1 := by
  constructor
  · intro h
    exact ⟨(atP_mem hs h).symm, by have := hn x h; omega⟩
  · rintro ⟨h1, h2⟩
    obtain ⟨y, hy, e1, e2⟩ := atP_ex (t := x.f0) (l := l) (by rw [← h1]; exact h2)
    have : x = y := by cases x; cases y; simp only [S52.mk.injEq] at *; exact ⟨e1.symm, by rw [h1, e2]⟩
    rw [this]; exact hy
theorem puts_ext {l1 l2 : List S52} (h1 : SortP l1) (h2 : SortP l2) (n1 : Nn l1) (n2 : Nn l2) (h : ∀ t, atP l1 t = atP l2 t) : l1 = l2 :=
  sorted_ext (f := fun x : S52 => x.f0) h1 h2 (fun x => by rw [mem_atP h1 n1, mem_atP h2 n2, h])
theorem fnd_mem {l : List S36} (hs : SortM l) {x : S36} (h : x ∈ l) : fnd l x.f0 = some x := by
  induction l with
  | nil => simp at h
  | cons y l ih =>
    unfold SortM at hs
    rw [List.pairwise_cons] at hs
    rcases List.mem_cons.1 h with e | h
    · subst e; rw [fnd, if_pos rfl]
    · rw [fnd, if_neg (lt_ne (hs.1 x h)), ih hs.2 h]
theorem fnd_ex {l : List S36} {t : ByteArray} {x : S36} (h : fnd l t = some x) : x ∈ l ∧ x.f0 = t := by
  induction l with
  | nil => cases h
  | cons y l ih =>
    by_cases e : y.f0 = t
    · rw [fnd, if_pos e] at h
      cases h
      exact ⟨List.mem_cons_self .., e⟩
    · rw [fnd, if_neg e] at h
      exact ⟨List.mem_cons_of_mem _ (ih h).1, (ih h).2⟩
theorem fnd_not {l : List S36} {t : ByteArray} (h : fnd l t = none) : ∀ x ∈ l, x.f0 ≠ t := by
  induction l with
  | nil => intro x hx; simp at hx
  | cons y l ih =>
    by_cases e : y.f0 = t
    · rw [fnd, if_pos e] at h; cases h
    · rw [fnd, if_neg e] at h
      intro x hx
      rcases List.mem_cons.1 hx with h' | h'
      · subst h'; exact e
      · exact ih h x h'
/-! ### What both yields -/
theorem both_task : ∀ (k : Nat) (xs ys : List S52) (m : S36), m ∈ bothL k xs ys → (∃ x ∈ xs, x.f0 = m.f0) ∨ (∃ y ∈ ys, y.f0 = m.f0)
  | 0, _, _, _ => by simp [bothL]
  | _ + 1, [], [], _ => by simp [bothL]
  | k + 1, a :: xs, [], m => by
    simp only [bothL, List.mem_cons]
    rintro (rfl | h)
    · exact .inl ⟨a, .inl rfl, rfl⟩
    · exact (both_task k xs [] m h).imp (fun ⟨x, hx, e⟩ => ⟨x, .inr hx, e⟩) (fun ⟨x, hx, e⟩ => by simp at hx)
  | k + 1, [], b :: ys, m => by
    simp only [bothL, List.mem_cons]
    rintro (rfl | h)
    · exact .inr ⟨b, .inl rfl, rfl⟩
    · exact (both_task k [] ys m h).imp (fun ⟨x, hx, e⟩ => by simp at hx) (fun ⟨x, hx, e⟩ => ⟨x, .inr hx, e⟩)
  | k + 1, a :: xs, b :: ys, m => by
    unfold bothL
    split
    · simp only [List.mem_cons]
      rintro (rfl | h)
      · exact .inr ⟨b, .inl rfl, rfl⟩
      · exact (both_task k (a :: xs) ys m h).imp (fun ⟨x, hx, e⟩ => ⟨x, by simpa using hx, e⟩) (fun ⟨x, hx, e⟩ => ⟨x, .inr hx, e⟩)
    · split
      · simp only [List.mem_cons]
        rintro (rfl | h)
        · exact .inl ⟨a, .inl rfl, rfl⟩
        · exact (both_task k xs ys m h).imp (fun ⟨x, hx, e⟩ => ⟨x, .inr hx, e⟩) (fun ⟨x, hx, e⟩ => ⟨x, .inr hx, e⟩)
      · simp only [List.mem_cons]
        rintro (rfl | h)
        · exact .inl ⟨a, .inl rfl, rfl⟩
        · exact (both_task k xs (b :: ys) m h).imp (fun ⟨x, hx, e⟩ => ⟨x, .inr hx, e⟩) (fun ⟨x, hx, e⟩ => ⟨x, by simpa using hx, e⟩)
def Both (a b : List S52) (m : S36) : Prop := m.f1 = atP a m.f0 ∧ m.f2 = atP b m.f0 ∧ (m.f1 ≠ -1 ∨ m.f2 ≠ -1)
/-- One element taken off: the head's task t lies ahead of all others in the lists that are left. -/
theorem both_cons {a b a' b' : List S52} {t : ByteArray} {u v : Int} {L : List S36} (hu : atP a t = u) (hv : atP b t = v) (ha' : atP a' t = -1) (hb' : atP b' t = -1) (hne : u ≠ -1 ∨ v ≠ -1)
    (ha : ∀ s, s ≠ t → atP a s = atP a' s) (hb : ∀ s, s ≠ t → atP b s = atP b' s) (hL : ∀ m, m ∈ L ↔ Both a' b' m) (m : S36) : m ∈ (⟨t, u, v⟩ : S36) :: L ↔ Both a b m := by
  rw [List.mem_cons, hL]
  unfold Both
  by_cases e : m.f0 = t
  · constructor
    · rintro (rfl | ⟨h1, h2, h3⟩)
      · exact ⟨hu.symm, hv.symm, hne⟩
      · rw [e, ha'] at h1
        rw [e, hb'] at h2
        rw [h1, h2] at h3
        simp at h3
    · rintro ⟨h1, h2, h3⟩
      left
      rw [e, hu] at h1
      rw [e, hv] at h2
      cases m
      simp only [S36.mk.injEq] at *
      exact ⟨e, h1, h2⟩
  · rw [ha _ e, hb _ e]
    constructor
    · rintro (rfl | h)
      · exact absurd rfl e
      · exact h
    · intro h
      exact .inr h
theorem atP_cons_ne {x : S52} {l : List S52} {s : ByteArray} (h : s ≠ x.f0) : atP (x :: l) s = atP l s := by rw [atP, if_neg (fun e => h e.symm)]
theorem atP_head {x : S52} {l : List S52} : atP (x :: l) x.f0 = x.f1 := by rw [atP, if_pos rfl]
theorem atP_behind {l : List S52} {t : ByteArray} (h : ∀ x ∈ l, lt t x.f0) : atP l t = -1 := atP_not (fun x hx e => lt_irrefl t (by have := h x hx; rwa [e] at this))
theorem both_spec : ∀ (k : Nat) (xs ys : List S52), xs.length + ys.length < k → SortP xs → SortP ys → Nn xs → Nn ys → SortM (bothL k xs ys) ∧ ∀ m, m ∈ bothL k xs ys ↔ Both xs ys m
  | 0, _, _, h, _, _, _, _ => by omega
  | k + 1, [], [], _, _, _, _, _ => by
    refine ⟨List.Pairwise.nil, fun m => ?_⟩
    simp only [bothL, Both, atP]
    constructor
    · intro h; simp at h
    · rintro ⟨h1, h2, h3⟩; omega
  | k + 1, a :: xs, [], h, hx, hy, nx, ny => by
    have hx' := hx
    unfold SortP at hx'
    rw [List.pairwise_cons] at hx'
    obtain ⟨s, hm⟩ := both_spec k xs [] (by simp at h ⊢; omega) hx'.2 hy (fun x h => nx x (List.mem_cons_of_mem _ h)) ny
    have na := nx a (List.mem_cons_self ..)
    refine ⟨?_, fun m => ?_⟩
    · simp only [bothL]
      refine List.pairwise_cons.2 ⟨fun m hm' => ?_, s⟩
      rcases both_task _ _ _ _ hm' with ⟨x, hx1, e⟩ | ⟨x, hx1, e⟩
      · rw [← e]; exact hx'.1 x hx1
      · simp at hx1
    · simp only [bothL]
      exact both_cons atP_head rfl (atP_behind hx'.1) rfl (.inl (by omega)) (fun s hs => atP_cons_ne hs) (fun s hs => rfl) hm m
  | k + 1, [], b :: ys, h, hx, hy, nx, ny => by
    have hy' := hy
    unfold SortP at hy'
    rw [List.pairwise_cons] at hy'
    obtain ⟨s, hm⟩ := both_spec k [] ys (by simp at h ⊢; omega) hx hy'.2 nx (fun x h => ny x (List.mem_cons_of_mem _ h))
    have nb := ny b (List.mem_cons_self ..)
    refine ⟨?_, fun m => ?_⟩
    · simp only [bothL]
      refine List.pairwise_cons.2 ⟨fun m hm' => ?_, s⟩
      rcases both_task _ _ _ _ hm' with ⟨x, hx1, e⟩ | ⟨x, hx1, e⟩
      · simp at hx1
      · rw [← e]; exact hy'.1 x hx1
    · simp only [bothL]
      exact both_cons rfl atP_head rfl (atP_behind hy'.1) (.inr (by omega)) (fun s hs => rfl) (fun s hs => atP_cons_ne hs) hm m
  | k + 1, a :: xs, b :: ys, h, hx, hy, nx, ny => by
    have hx' := hx
    unfold SortP at hx'
    rw [List.pairwise_cons] at hx'
    have hy' := hy
    unfold SortP at hy'
    rw [List.pairwise_cons] at hy'
    have nx' : Nn xs := fun x h => nx x (List.mem_cons_of_mem _ h)
    have ny' : Nn ys := fun x h => ny x (List.mem_cons_of_mem _ h)
    have na := nx a (List.mem_cons_self ..)
    have nb := ny b (List.mem_cons_self ..)
    simp only [List.length_cons] at h
    by_cases hlt : Op.bytesLess b.f0.toList a.f0.toList = true
    · have hl : lt b.f0 a.f0 := hlt
      have hall : ∀ x ∈ a :: xs, lt b.f0 x.f0 := fun x hx1 => by
        rcases List.mem_cons.1 hx1 with e | hx1
        · rw [e]; exact hl
        · exact lt_trans hl (hx'.1 x hx1)
      obtain ⟨s, hm⟩ := both_spec k (a :: xs) ys (by simp; omega) hx hy'.2 nx ny'
      rw [bothL, if_pos hlt]
      refine ⟨List.pairwise_cons.2 ⟨fun m hm' => ?_, s⟩, fun m => both_cons (atP_behind hall) atP_head (atP_behind hall) (atP_behind hy'.1) (.inr (by omega)) (fun s hs => rfl) (fun s hs => atP_cons_ne hs) hm m⟩
      rcases both_task _ _ _ _ hm' with ⟨x, hx1, e⟩ | ⟨x, hx1, e⟩
      · rw [← e]; exact hall x hx1
      · rw [← e]; exact hy'.1 x hx1
    · by_cases heq : a.f0.toList = b.f0.toList
      · have e0 := ba_inj heq
        obtain ⟨s, hm⟩ := both_spec k xs ys (by omega) hx'.2 hy'.2 nx' ny'
        rw [bothL, if_neg hlt, if_pos heq]
        refine ⟨List.pairwise_cons.2 ⟨fun m hm' => ?_, s⟩, fun m => both_cons atP_head (by rw [e0]; exact atP_head) (atP_behind hx'.1) (atP_behind (by rw [e0]; exact hy'.1)) (.inl (by omega)) (fun s hs => atP_cons_ne hs) (fun s hs => atP_cons_ne (by rw [← e0]; exact hs)) hm m⟩
        rcases both_task _ _ _ _ hm' with ⟨x, hx1, e⟩ | ⟨x, hx1, e⟩
        · rw [← e]; exact hx'.1 x hx1
        · rw [← e]; show lt a.f0 x.f0; rw [e0]; exact hy'.1 x hx1
      · have hl : lt a.f0 b.f0 := lt_total (fun e => heq (by rw [e])) hlt
        have hall : ∀ x ∈ b :: ys, lt a.f0 x.f0 := fun x hx1 => by
          rcases List.mem_cons.1 hx1 with e | hx1
          · rw [e]; exact hl
          · exact lt_trans hl (hy'.1 x hx1)
        obtain ⟨s, hm⟩ := both_spec k xs (b :: ys) (by simp; omega) hx'.2 hy nx' ny
        rw [bothL, if_neg hlt, if_neg heq]
        refine ⟨List.pairwise_cons.2 ⟨fun m hm' => ?_, s⟩, fun m => both_cons atP_head (atP_behind hall) (atP_behind hx'.1) (atP_behind hall) (.inl (by omega)) (fun s hs => atP_cons_ne hs) (fun s hs => rfl) hm m⟩
        rcases both_task _ _ _ _ hm' with ⟨x, hx1, e⟩ | ⟨x, hx1, e⟩
        · rw [← e]; exact hx'.1 x hx1
        · rw [← e]; exact hall x hx1
theorem diff_spec {a b : List S52} (ha : SortP a) (hb : SortP b) (na : Nn a) (nb : Nn b) : SortM (diffL a b) ∧ ∀ m, m ∈ diffL a b ↔ m.f1 = atP a m.f0 ∧ m.f2 = atP b m.f0 ∧ m.f1 ≠ m.f2 := by
  obtain ⟨s, hm⟩ := both_spec (a.length + b.length + 1) a b (by omega) ha hb na nb
  refine ⟨List.Pairwise.filter _ s, fun m => ?_⟩
  unfold diffL
  rw [List.mem_filter, hm]
  unfold Both moved
  simp only [ne_eq, decide_not, Bool.not_eq_true', decide_eq_false_iff_not]
  constructor
  · rintro ⟨⟨h1, h2, _⟩, h3⟩; exact ⟨h1, h2, h3⟩
  · rintro ⟨h1, h2, h3⟩; exact ⟨⟨h1, h2, by omega⟩, h3⟩
/-! ### What Apply makes -/
def target (a : List S52) (l : List S36) (t : ByteArray) : Int := match fnd l t with
  | some m => m.f2
  | none => atP a t
theorem target_some {a : List S52} {l : List S36} {t : ByteArray} {m : S36} (h : fnd l t = some m) : target a l t = m.f2 := by unfold target; rw [h]
theorem target_none {a : List S52} {l : List S36} {t : ByteArray} (h : fnd l t = none) : target a l t = atP a t := by unfold target; rw [h]
theorem rd36 (l : List S36) (j : Nat) (h : j < l.length) : rd_T36 l (j : Int) = l[j] := by
  unfold rd_T36
  rw [Int.toNat_natCast, List.getD_eq_getElem?_getD, List.getElem?_eq_getElem h]; rfl
theorem places_sorted {l : List S36} (hs : SortM l) : SortP (placesL l) := by
  unfold SortP placesL placesUpto
  rw [List.pairwise_map]
  rw [List.pairwise_iff_getElem]
  intro i j hi hj hij
  have hi' : i < l.length := by simpa using hi
  have hj' : j < l.length := by simpa using hj
  simp only [List.getElem_range]
  rw [rd36 l i hi', rd36 l j hj']
  exact (List.pairwise_iff_getElem.1 hs) i j _ _ hij
theorem places_nn (l : List S36) : Nn (placesL l) := by
  intro x hx
  unfold placesL placesUpto at hx
  rw [List.mem_map] at hx
  obtain ⟨j, _, rfl⟩ := hx
  simp
theorem places_at {l : List S36} (hs : SortM l) (t : ByteArray) : (fnd l t = none ∧ atP (placesL l) t = -1) ∨ ∃ m, fnd l t = some m ∧ atP (placesL l) t ≠ -1 ∧ rd_T36 l (atP (placesL l) t) = m := by
  cases h : fnd l t with
  | none =>
    refine .inl ⟨rfl, atP_not (fun x hx => ?_)⟩
    unfold placesL placesUpto at hx
    rw [List.mem_map] at hx
    obtain ⟨j, hj, rfl⟩ := hx
    rw [List.mem_range] at hj
    show (rd_T36 l (j : Int)).f0 ≠ t
    rw [rd36 l j hj]
    exact fnd_not h _ (List.getElem_mem hj)
  | some m =>
    obtain ⟨hm, e⟩ := fnd_ex h
    obtain ⟨j, hj, e2⟩ := List.getElem_of_mem hm
    have hx : (⟨(rd_T36 l (j : Int)).f0, (j : Int)⟩ : S52) ∈ placesL l := by
      unfold placesL placesUpto
      rw [List.mem_map]
      exact ⟨j, List.mem_range.2 hj, rfl⟩
    have h2 := atP_mem (places_sorted hs) hx
    have e3 : (rd_T36 l (j : Int)).f0 = t := by rw [rd36 l j hj, e2, e]
    simp only [e3] at h2
    exact .inr ⟨m, rfl, by rw [h2]; omega, by rw [h2, rd36 l j hj, e2]⟩
theorem applyTo_all (l : List S36) (g : S36 → List S52) : ∀ ms : List S36, (∀ m ∈ ms, stepA l m = some (g m)) → applyTo l ms = some (ms.flatMap g)
  | [], _ => rfl
  | m :: ms, h => by
    rw [applyTo, h m (List.mem_cons_self ..), Option.bind_some, applyTo_all l g ms (fun x hx => h x (List.mem_cons_of_mem _ hx))]
    simp
theorem applyTo_bad (l : List S36) : ∀ ms : List S36, (∃ m ∈ ms, stepA l m = none) → applyTo l ms = none
  | [], h => by obtain ⟨m, hm, _⟩ := h; simp at hm
  | m :: ms, h => by
    rw [applyTo]
    cases h1 : stepA l m with
    | none => rfl
    | some p =>
      obtain ⟨x, hx, e⟩ := h
      rcases List.mem_cons.1 hx with e2 | hx
      · subst e2; rw [h1] at e; cases e
      · rw [Option.bind_some, applyTo_bad l ms ⟨x, hx, e⟩]; rfl
def one (a : List S52) (l : List S36) (t : ByteArray) : List S52 := if target a l t = -1 then [] else [⟨t, target a l t⟩]
theorem stepA_good {a : List S52} {l : List S36} (hs : SortM l) {m : S36} (hm : Both a (placesL l) m) (hg : ∀ x, fnd l m.f0 = some x → x.f1 = atP a m.f0) : stepA l m = some (one a l m.f0) := by
  obtain ⟨h1, h2, _⟩ := hm
  unfold stepA one
  rcases places_at hs m.f0 with ⟨e, e2⟩ | ⟨x, e, e2, e3⟩
  · rw [h2, if_pos e2, target_none e, ← h1]
    by_cases c : m.f1 = -1
    · rw [if_pos c, if_pos c]
    · rw [if_neg c, if_neg c]
  · rw [h2, if_neg e2, e3, target_some e, h1, if_pos (hg x e)]
    by_cases c : x.f2 = -1
    · rw [if_pos c, if_pos c]
    · rw [if_neg c, if_neg c]
theorem stepA_bad {a : List S52} {l : List S36} (hs : SortM l) {m x : S36} (hm : Both a (placesL l) m) (hx : fnd l m.f0 = some x) (hb : x.f1 ≠ atP a m.f0) : stepA l m = none := by
  obtain ⟨h1, h2, _⟩ := hm
  unfold stepA
  rcases places_at hs m.f0 with ⟨e, e2⟩ | ⟨y, e, e2, e3⟩
  · rw [hx] at e; cases e
  · rw [hx] at e
    cases e
    rw [h2, if_neg e2, e3, h1, if_neg hb]
theorem flat_sorted {a : List S52} {l : List S36} : ∀ ms : List S36, SortM ms → SortP (ms.flatMap fun m => one a l m.f0)
  | [], _ => List.Pairwise.nil
  | m :: ms, h => by
    unfold SortM at h
    rw [List.pairwise_cons] at h
    rw [List.flatMap_cons]
    unfold SortP
    rw [List.pairwise_append]
    refine ⟨?_, flat_sorted ms h.2, fun x hx y hy => ?_⟩
    · unfold one; split <;> simp
    · rw [List.mem_flatMap] at hy
      obtain ⟨z, hz, hy⟩ := hy
      have e1 : x.f0 = m.f0 := by unfold one at hx; split at hx <;> simp at hx; rw [hx]
      have e2 : y.f0 = z.f0 := by unfold one at hy; split at hy <;> simp at hy; rw [hy]
      rw [e1, e2]
      exact h.1 z hz
theorem apply_bad {a : List S52} {l : List S36} (ha : SortP a) (na : Nn a) (hs : SortM l) {x : S36} (hx : x ∈ l) (hb : x.f1 ≠ atP a x.f0) : applyL a l = none := by
  obtain ⟨s, hm⟩ := both_spec (a.length + (placesL l).length + 1) a (placesL l) (by omega) ha (places_sorted hs) na (places_nn l)
  have hf := fnd_mem hs hx
  have h2 : atP (placesL l) x.f0 ≠ -1 := by
    rcases places_at hs x.f0 with ⟨e, _⟩ | ⟨_, _, e, _⟩
    · rw [hf] at e; cases e
    · exact e
  have hin : Both a (placesL l) ⟨x.f0, atP a x.f0, atP (placesL l) x.f0⟩ := ⟨rfl, rfl, .inr h2⟩
  exact applyTo_bad l _ ⟨_, (hm _).2 hin, stepA_bad hs hin hf hb⟩
theorem apply_good {a : List S52} {l : List S36} (ha : SortP a) (na : Nn a) (hs : SortM l) (hg : ∀ x ∈ l, x.f1 = atP a x.f0) : ∃ o, applyL a l = some o ∧ SortP o ∧ ∀ p, p ∈ o ↔ p.f1 = target a l p.f0 ∧ p.f1 ≠ -1 := by
  obtain ⟨s, hm⟩ := both_spec (a.length + (placesL l).length + 1) a (placesL l) (by omega) ha (places_sorted hs) na (places_nn l)
  refine ⟨_, applyTo_all l (fun m => one a l m.f0) _ (fun m h => stepA_good hs ((hm m).1 h) (fun x hx => ?_)), flat_sorted _ s, fun p => ?_⟩
  · have := fnd_ex hx
    rw [hg x this.1, this.2]
  · rw [List.mem_flatMap]
    constructor
    · rintro ⟨m, _, hp⟩
      unfold one at hp
      split at hp
      · simp at hp
      · rename_i c
        rw [List.mem_singleton] at hp
        subst hp
        exact ⟨rfl, c⟩
    · rintro ⟨h1, h2⟩
      refine ⟨⟨p.f0, atP a p.f0, atP (placesL l) p.f0⟩, (hm _).2 ⟨rfl, rfl, ?_⟩, ?_⟩
      · rcases places_at hs p.f0 with ⟨e, _⟩ | ⟨_, _, e, _⟩
        · rw [target_none e] at h1
          exact .inl (by rw [← h1]; exact h2)
        · exact .inr e
      · unfold one
        rw [if_neg (by rw [← h1]; exact h2), List.mem_singleton]
        cases p
        simp only at h1
        rw [h1]
theorem target_of {a o : List S52} {l : List S36} (so : SortP o) (ho : ∀ p, p ∈ o ↔ p.f1 = target a l p.f0 ∧ p.f1 ≠ -1) (t : ByteArray) : atP o t = target a l t := by
  by_cases h : target a l t = -1
  · rw [h]
    refine atP_not (fun x hx e => ?_)
    have := (ho x).1 hx
    rw [e, h] at this
    exact this.2 this.1
  · have := (ho ⟨t, target a l t⟩).2 ⟨rfl, h⟩
    exact atP_mem so this
/-! ### What may be -/
def okFrom : Option ByteArray → List ByteArray → Bool
  | _, [] => true
  | p, x :: l => nameB x && ((match p with | none => true | some q => Op.bytesLess q.toList x.toList) && okFrom (some x) l)
theorem okFrom_some : ∀ (l : List ByteArray) (q : ByteArray), okFrom (some q) l = true ↔ (∀ x ∈ l, nameB x = true) ∧ (q :: l).Pairwise lt
  | [], q => by simp [okFrom]
  | x :: l, q => by
    rw [okFrom, Bool.and_eq_true, Bool.and_eq_true, okFrom_some l x]
    constructor
    · rintro ⟨h1, h2, h3, h4⟩
      refine ⟨fun y hy => ?_, ?_⟩
      · rcases List.mem_cons.1 hy with e | hy
        · rw [e]; exact h1
        · exact h3 y hy
      · refine List.pairwise_cons.2 ⟨fun y hy => ?_, h4⟩
        rcases List.mem_cons.1 hy with e | hy
        · rw [e]; exact h2
        · exact lt_trans h2 ((List.pairwise_cons.1 h4).1 y hy)
    · rintro ⟨h1, h2⟩
      rw [List.pairwise_cons] at h2
      exact ⟨h1 x (List.mem_cons_self ..), h2.1 x (List.mem_cons_self ..), fun y hy => h1 y (List.mem_cons_of_mem _ hy), h2.2⟩
theorem okFrom_none (l : List ByteArray) : okFrom none l = true ↔ (∀ x ∈ l, nameB x = true) ∧ l.Pairwise lt := by
  cases l with
  | nil => simp [okFrom]
  | cons x l =>
    rw [okFrom, Bool.and_eq_true, Bool.and_eq_true, okFrom_some]
    constructor
    · rintro ⟨h1, _, h3, h4⟩
      refine ⟨fun y hy => ?_, h4⟩
      rcases List.mem_cons.1 hy with e | hy
      · rw [e]; exact h1
      · exact h3 y hy
    · rintro ⟨h1, h2⟩
      exact ⟨h1 x (List.mem_cons_self ..), rfl, fun y hy => h1 y (List.mem_cons_of_mem _ hy), h2⟩
def nodeP (x : S52) : Bool := decide (0 ≤ x.f1) && decide (x.f1 ≤ 63)
def nodeM (m : S36) : Bool := (decide (-1 ≤ m.f1) && decide (m.f1 ≤ 63)) && ((decide (-1 ≤ m.f2) && decide (m.f2 ≤ 63)) && decide (m.f1 ≠ m.f2))
def tasksB (l : List ByteArray) : Bool := decide (l.length ≤ 100) && okFrom none l
def mayP (l : List S52) : Bool := l.all nodeP && tasksB (l.map (·.f0))
def mayM (l : List S36) : Bool := l.all nodeM && tasksB (l.map (·.f0))
theorem tasksB_iff (l : List ByteArray) : tasksB l = true ↔ l.length ≤ 100 ∧ (∀ x ∈ l, nameB x = true) ∧ l.Pairwise lt := by
  unfold tasksB
  rw [Bool.and_eq_true, decide_eq_true_eq, okFrom_none]
theorem mayP_iff (l : List S52) : mayP l = true ↔ (∀ x ∈ l, 0 ≤ x.f1 ∧ x.f1 ≤ 63) ∧ l.length ≤ 100 ∧ (∀ x ∈ l, nameB x.f0 = true) ∧ SortP l := by
  unfold mayP SortP
  rw [Bool.and_eq_true, tasksB_iff, List.all_eq_true, List.length_map, List.pairwise_map]
  simp [nodeP]
theorem mayM_iff (l : List S36) : mayM l = true ↔ (∀ x ∈ l, -1 ≤ x.f1 ∧ x.f1 ≤ 63 ∧ -1 ≤ x.f2 ∧ x.f2 ≤ 63 ∧ x.f1 ≠ x.f2) ∧ l.length ≤ 100 ∧ (∀ x ∈ l, nameB x.f0 = true) ∧ SortM l := by
  unfold mayM SortM
  rw [Bool.and_eq_true, tasksB_iff, List.all_eq_true, List.length_map, List.pairwise_map]
  simp [nodeM, and_assoc]
def swapM (m : S36) : S36 := ⟨m.f0, m.f2, m.f1⟩
/-! ### The functions' answers -/
def diffV (a b : List S52) : List S36 × Int := if mayP a = true then (if mayP b = true then (if (diffL a b).length > 100 then ([], 9) else (diffL a b, 0)) else ([], 1)) else ([], 1)
def applyV (a : List S52) (l : List S36) : List S52 × Int := if mayP a = true then (if mayM l = true then (match applyL a l with | none => ([], 8) | some o => if o.length > 100 then ([], 9) else (o, 0)) else ([], 1)) else ([], 1)
def backV (l : List S36) : List S36 × Int := if mayM l = true then (l.map swapM, 0) else ([], 1)
structure GoodP (l : List S52) : Prop where
  node : ∀ x ∈ l, 0 ≤ x.f1 ∧ x.f1 ≤ 63
  len : l.length ≤ 100
  name : ∀ x ∈ l, nameB x.f0 = true
  sort : SortP l
theorem GoodP.nn {l : List S52} (h : GoodP l) : Nn l := fun x hx => (h.node x hx).1
structure GoodM (l : List S36) : Prop where
  node : ∀ x ∈ l, -1 ≤ x.f1 ∧ x.f1 ≤ 63 ∧ -1 ≤ x.f2 ∧ x.f2 ≤ 63 ∧ x.f1 ≠ x.f2
  len : l.length ≤ 100
  name : ∀ x ∈ l, nameB x.f0 = true
  sort : SortM l
theorem goodP {l : List S52} (h : mayP l = true) : GoodP l := by obtain ⟨h1, h2, h3, h4⟩ := (mayP_iff l).1 h; exact ⟨h1, h2, h3, h4⟩
theorem GoodP.may {l : List S52} (h : GoodP l) : mayP l = true := (mayP_iff l).2 ⟨h.node, h.len, h.name, h.sort⟩
theorem goodM {l : List S36} (h : mayM l = true) : GoodM l := by obtain ⟨h1, h2, h3, h4⟩ := (mayM_iff l).1 h; exact ⟨h1, h2, h3, h4⟩
theorem GoodM.may {l : List S36} (h : GoodM l) : mayM l = true := (mayM_iff l).2 ⟨h.node, h.len, h.name, h.sort⟩
theorem atP_range {l : List S52} (h : GoodP l) (t : ByteArray) : -1 ≤ atP l t ∧ atP l t ≤ 63 := by
  by_cases e : atP l t = -1
  · omega
  · obtain ⟨x, hx, _, h2⟩ := atP_ex e
    have := h.node x hx
    omega
theorem diffV_ok {a b : List S52} {d : List S36} {e : Int} (h : diffV a b = (d, e)) : (e = 0 ∧ GoodP a ∧ GoodP b ∧ d = diffL a b ∧ GoodM d ∧ (∀ m, m ∈ d ↔ m.f1 = atP a m.f0 ∧ m.f2 = atP b m.f0 ∧ m.f1 ≠ m.f2)) ∨ (e ≠ 0 ∧ d = []) := by
  unfold diffV at h
  by_cases ha : mayP a = true
  · by_cases hb : mayP b = true
    · rw [if_pos ha, if_pos hb] at h
      by_cases hl : (diffL a b).length > 100
      · rw [if_pos hl] at h; cases h; exact .inr ⟨by omega, rfl⟩
      · rw [if_neg hl] at h
        cases h
        have ga := goodP ha
        have gb := goodP hb
        obtain ⟨s, hm⟩ := diff_spec ga.sort gb.sort ga.nn gb.nn
        refine .inl ⟨rfl, ga, gb, rfl, ⟨fun m hx => ?_, by omega, fun m hx => ?_, s⟩, hm⟩
        · obtain ⟨h1, h2, h3⟩ := (hm m).1 hx
          have := atP_range ga m.f0
          have := atP_range gb m.f0
          omega
        · obtain ⟨h1, h2, h3⟩ := (hm m).1 hx
          by_cases e : atP a m.f0 = -1
          · obtain ⟨y, hy, e2, _⟩ := atP_ex (l := b) (t := m.f0) (by omega)
            rw [← e2]; exact gb.name y hy
          · obtain ⟨y, hy, e2, _⟩ := atP_ex e
            rw [← e2]; exact ga.name y hy
    · rw [if_pos ha, if_neg hb] at h; cases h; exact .inr ⟨by omega, rfl⟩
  · rw [if_neg ha] at h; cases h; exact .inr ⟨by omega, rfl⟩
theorem fnd_name {l : List S36} (h : GoodM l) {t : ByteArray} {m : S36} (hf : fnd l t = some m) : nameB t = true := by
  obtain ⟨hm, e⟩ := fnd_ex hf
  rw [← e]; exact h.name m hm
/-- Apply, where the moves are where they are to be. -/
theorem applyV_good {a : List S52} {l : List S36} (ga : GoodP a) (gl : GoodM l) (hg : ∀ x ∈ l, x.f1 = atP a x.f0) : ∃ o, SortP o ∧ Nn o ∧ (∀ t, atP o t = target a l t) ∧ (∀ p ∈ o, p.f1 ≤ 63 ∧ nameB p.f0 = true) ∧ applyL a l = some o ∧ applyV a l = if o.length > 100 then ([], 9) else (o, 0) := by
  obtain ⟨o, h1, so, hm⟩ := apply_good ga.sort ga.nn gl.sort hg
  have hr : ∀ t, -1 ≤ target a l t ∧ target a l t ≤ 63 := fun t => by
    cases h : fnd l t with
    | none => rw [target_none h]; exact atP_range ga t
    | some m => rw [target_some h]; have := gl.node m (fnd_ex h).1; omega
  have hb : ∀ p ∈ o, p.f1 ≤ 63 ∧ nameB p.f0 = true := fun p hp => by
    obtain ⟨e1, e2⟩ := (hm p).1 hp
    refine ⟨by have := hr p.f0; omega, ?_⟩
    cases h : fnd l p.f0 with
    | some m => exact fnd_name gl h
    | none =>
      rw [target_none h] at e1
      obtain ⟨y, hy, e3, _⟩ := atP_ex (l := a) (t := p.f0) (by omega)
      rw [← e3]; exact ga.name y hy
  refine ⟨o, so, fun p hp => ?_, target_of so hm, hb, h1, ?_⟩
  · obtain ⟨e1, e2⟩ := (hm p).1 hp
    have := hr p.f0
    omega
  · unfold applyV
    rw [if_pos ga.may, if_pos gl.may, h1]
theorem applyV_bad {a : List S52} {l : List S36} (ga : GoodP a) (gl : GoodM l) {x : S36} (hx : x ∈ l) (hb : x.f1 ≠ atP a x.f0) : applyV a l = ([], 8) := by
  unfold applyV
  rw [if_pos ga.may, if_pos gl.may, apply_bad ga.sort ga.nn gl.sort hx hb]
theorem applyV_ok {a : List S52} {l : List S36} {o : List S52} {e : Int} (h : applyV a l = (o, e)) : (e = 0 ∧ GoodP a ∧ GoodM l ∧ GoodP o ∧ (∀ x ∈ l, x.f1 = atP a x.f0) ∧ (∀ t, atP o t = target a l t)) ∨ (e ≠ 0 ∧ o = []) := by
  by_cases ha : mayP a = true
  · by_cases hl : mayM l = true
    · have ga := goodP ha
      have gl := goodM hl
      by_cases hg : ∀ x ∈ l, x.f1 = atP a x.f0
      · obtain ⟨q, so, nn, ht, hb, h1, h2⟩ := applyV_good ga gl hg
        rw [h2] at h
        by_cases hc : q.length > 100
        · rw [if_pos hc] at h; cases h; exact .inr ⟨by omega, rfl⟩
        · rw [if_neg hc] at h
          cases h
          exact .inl ⟨rfl, ga, gl, ⟨fun p hp => ⟨nn p hp, (hb p hp).1⟩, by omega, fun p hp => (hb p hp).2, so⟩, hg, ht⟩
      · have : ∃ x, x ∈ l ∧ x.f1 ≠ atP a x.f0 := Classical.byContradiction fun hn => hg (fun x hx => Classical.byContradiction fun hc => hn ⟨x, hx, hc⟩)
        obtain ⟨x, hx, hb⟩ := this
        rw [applyV_bad ga gl hx hb] at h
        cases h
        exact .inr ⟨by omega, rfl⟩
    · unfold applyV at h
      rw [if_pos ha, if_neg hl] at h; cases h; exact .inr ⟨by omega, rfl⟩
  · unfold applyV at h
    rw [if_neg ha] at h; cases h; exact .inr ⟨by omega, rfl⟩
theorem GoodP.ext {a b : List S52} (ga : GoodP a) (gb : GoodP b) (h : ∀ t, atP a t = atP b t) : a = b := puts_ext ga.sort gb.sort ga.nn gb.nn h
/-- What is sorted, has no more than another one's names, and is where they are, is no longer than it. -/
theorem nodup_len {α : Type} [DecidableEq α] : ∀ {l m : List α}, l.Nodup → (∀ x ∈ l, x ∈ m) → l.length ≤ m.length
  | [], _, _, _ => by simp
  | x :: l, m, hd, hs => by
    rw [List.nodup_cons] at hd
    have hx : x ∈ m := hs x (List.mem_cons_self ..)
    have := nodup_len (m := m.erase x) hd.2 (fun y hy => (List.mem_erase_of_ne (fun e => hd.1 (by rw [← e]; exact hy))).2 (hs y (List.mem_cons_of_mem _ hy)))
    rw [List.length_erase_of_mem hx] at this
    have hp : 0 < m.length := List.length_pos_of_mem hx
    simp
    omega
/-! ### Rounds: from some number of rounds on -/
def E {α : Type} (g : Nat → Option α) (r : α) : Prop := ∃ K, ∀ k, K ≤ k → g k = some r
theorem E.pure {α : Type} (r : α) : E (fun _ => some r) r := ⟨0, fun _ _ => rfl⟩
theorem E.bind {α β : Type} {g : Nat → Option α} {f : Nat → α → Option β} {r : α} {q : β} (h : E g r) (h' : E (fun k => f k r) q) : E (fun k => (g k).bind (f k)) q := by
  obtain ⟨K, hK⟩ := h
  obtain ⟨K', hK'⟩ := h'
  exact ⟨max K K', fun k hk => by show (g k).bind (f k) = some q; rw [hK k (by omega)]; exact hK' k (by omega)⟩
theorem E.succ {α : Type} {g : Nat → Option α} {r : α} (h : E (fun k => g (k + 1)) r) : E g r := by
  obtain ⟨K, hK⟩ := h
  exact ⟨K + 1, fun k hk => by obtain ⟨j, rfl⟩ : ∃ j, k = j + 1 := ⟨k - 1, by omega⟩; exact hK j (by omega)⟩
theorem E.congr {α : Type} {g h : Nat → Option α} {r : α} (e : ∀ k, g k = h k) (k : E h r) : E g r := by
  obtain ⟨K, hK⟩ := k
  exact ⟨K, fun k hk => (e k).trans (hK k hk)⟩
theorem E.pos {α : Type} {c : Prop} [Decidable c] {g h : Nat → Option α} {r : α} (hc : c) (k : E g r) : E (fun k => if c then g k else h k) r := E.congr (fun _ => if_pos hc) k
theorem E.neg {α : Type} {c : Prop} [Decidable c] {g h : Nat → Option α} {r : α} (hc : ¬ c) (k : E h r) : E (fun k => if c then g k else h k) r := E.congr (fun _ => if_neg hc) k
theorem E.ex {α : Type} {g : Nat → Option α} {r : α} (h : E g r) : ∃ k, g k = some r := by obtain ⟨K, hK⟩ := h; exact ⟨K, hK K (Nat.le_refl _)⟩
theorem wrap_n {i : Int} (h0 : 0 ≤ i) (h : i < 9223372036854775807) : wrap64 (i + 1) = i + 1 := by unfold wrap64; omega
theorem wrap_p {i : Int} (h0 : 0 ≤ i) (h : i < 1000000000) : wrap64 (i - 1) = i - 1 := by unfold wrap64; omega
theorem drop_at {α : Type} {l : List α} {i : Nat} (h : i < l.length) : l.drop i = l[i] :: l.drop (i + 1) := List.drop_eq_getElem_cons h
theorem rdOf_n {α : Type} (d : α) {l : List α} {i : Nat} (h : i < l.length) : rdOf d l (i : Int) = l[i] := by
  unfold rdOf
  rw [Int.toNat_natCast, List.getD_eq_getElem?_getD, List.getElem?_eq_getElem h]; rfl
theorem rd52 {l : List S52} {i : Nat} (h : i < l.length) : rd_T52 l (i : Int) = l[i] := by
  unfold rd_T52
  rw [Int.toNat_natCast, List.getD_eq_getElem?_getD, List.getElem?_eq_getElem h]; rfl
def prevOf (l : List ByteArray) (i : Nat) : Option ByteArray := match i with
  | 0 => none
  | j + 1 => some (rdOf ByteArray.empty l (j : Int))
theorem tasks_loop (xs : List ByteArray) (hn : xs.length < 1000000) : ∀ (d i : Nat), i + d = xs.length → E (fun k => load_Tasks.l0 k xs xs (xs.length : Int) (i : Int)) (if okFrom (prevOf xs i) (xs.drop i) = true then 0 else 1)
  | 0, i, h => by
    refine E.succ ?_
    simp only [load_Tasks.l0]
    refine E.neg (by omega) ?_
    rw [List.drop_of_length_le (by omega)]
    exact E.pure _
  | d + 1, i, h => by
    have hi : i < xs.length := by omega
    have ih := tasks_loop xs hn d (i + 1) (by omega)
    rw [drop_at hi]
    simp only [okFrom]
    have e1 : prevOf xs (i + 1) = some xs[i] := by rw [prevOf, rdOf_n _ hi]
    rw [e1] at ih
    refine E.succ ?_
    simp only [load_Tasks.l0, rdOf_n _ hi, wrap_n (i := (i : Int)) (by omega) (by omega)]
    refine E.pos (by omega) (E.pos (by omega) (E.pos (by omega) ?_))
    refine E.bind (r := nameB xs[i]) (by unfold msg_Name.f; exact E.pure _) ?_
    by_cases hb : nameB xs[i] = true
    · refine E.pos hb ?_
      simp only [hb, Bool.true_and]
      cases i with
      | zero =>
        refine E.neg (by decide) ?_
        simpa [prevOf] using ih
      | succ j =>
        have e2 : ((j + 1 : Nat) : Int) - 1 = (j : Int) := by omega
        have e3 : wrap64 (((j + 1 : Nat) : Int) - 1) = (j : Int) := by rw [wrap_p (by omega) (by omega), e2]
        refine E.pos (by omega) ?_
        simp only [e3]
        refine E.pos (by omega) (E.pos (by omega) ?_)
        simp only [prevOf]
        by_cases c : Op.bytesLess (rdOf ByteArray.empty xs (j : Int)).toList xs[j + 1].toList = true
        · refine E.pos c ?_
          simp only [c, Bool.true_and]
          simpa using ih
        · refine E.neg c ?_
          have c' : Op.bytesLess (rdOf ByteArray.empty xs (j : Int)).toList xs[j + 1].toList = false := by simpa using c
          simp only [c', Bool.false_and]
          exact E.pure _
    · refine E.neg hb ?_
      have hb' : nameB xs[i] = false := by simpa using hb
      simp only [hb', Bool.false_and]
      exact E.pure _
theorem tasks_f (xs : List ByteArray) (hn : xs.length < 1000000) : E (fun k => load_Tasks.f k xs) (if tasksB xs = true then 0 else 1) := by
  unfold load_Tasks.f tasksB
  by_cases c : (xs.length : Int) > 100
  · refine E.pos c ?_
    have : decide (xs.length ≤ 100) = false := decide_eq_false (by omega)
    rw [this]
    exact E.pure _
  · refine E.neg c ?_
    have : decide (xs.length ≤ 100) = true := decide_eq_true (by omega)
    rw [this]
    have := tasks_loop xs hn xs.length 0 (by omega)
    simpa [prevOf] using this
theorem check_loop (l : List S52) (hn : l.length < 1000000) : ∀ (d i : Nat) (acc : List ByteArray), i + d = l.length → acc.length = i → E (fun k => load_Check.l0 k acc l (l.length : Int) (i : Int)) (if ((l.drop i).all nodeP && tasksB (acc ++ (l.drop i).map (·.f0))) = true then 0 else 1)
  | 0, i, acc, h, ha => by
    refine E.succ ?_
    simp only [load_Check.l0]
    refine E.neg (by omega) ?_
    rw [List.drop_of_length_le (by omega)]
    have := tasks_f acc (by omega)
    simpa using E.bind this (E.pure _)
  | d + 1, i, acc, h, ha => by
    have hi : i < l.length := by omega
    have ih := check_loop l hn d (i + 1) (acc ++ [l[i].f0]) (by omega) (by simp [ha])
    rw [drop_at hi]
    refine E.succ ?_
    simp only [load_Check.l0, rd52 hi, wrap_n (i := (i : Int)) (by omega) (by omega)]
    refine E.pos (by omega) (E.pos (by omega) (E.pos (by omega) ?_))
    by_cases c1 : l[i].f1 < 0
    · refine E.pos c1 ?_
      have : nodeP l[i] = false := by unfold nodeP; rw [decide_eq_false (by omega)]; rfl
      simp only [List.all_cons, this, Bool.false_and]
      exact E.pure _
    · refine E.neg c1 ?_
      by_cases c2 : l[i].f1 ≥ 64
      · refine E.pos c2 ?_
        have : nodeP l[i] = false := by unfold nodeP; rw [decide_eq_false (p := l[i].f1 ≤ 63) (by omega)]; simp
        simp only [List.all_cons, this, Bool.false_and]
        exact E.pure _
      · refine E.neg c2 (E.pos (by omega) ?_)
        have : nodeP l[i] = true := by unfold nodeP; rw [decide_eq_true (p := l[i].f1 ≤ 63) (by omega), decide_eq_true (by omega)]; rfl
        simp only [List.all_cons, this, Bool.true_and, List.map_cons]
        rw [List.append_assoc, List.singleton_append] at ih
        simpa using ih
theorem check_f (l : List S52) (hn : l.length < 1000000) : E (fun k => load_Check.f k l) (if mayP l = true then 0 else 1) := by
  have := check_loop l hn l.length 0 [] (by omega) rfl
  simpa [load_Check.f, mayP] using this
theorem node_f (a : Int) : plan_node.f a = some (decide (-1 ≤ a) && decide (a ≤ 63)) := by
  unfold plan_node.f
  by_cases c : a ≥ -1
  · rw [if_pos c, decide_eq_true (p := -1 ≤ a) c]
    congr 1
    simp only [Bool.true_and, decide_eq_decide]
    omega
  · rw [if_neg c, decide_eq_false (p := -1 ≤ a) c]; rfl
theorem pcheck_loop (l : List S36) (hn : l.length < 1000000) : ∀ (d i : Nat) (acc : List ByteArray), i + d = l.length → acc.length = i → E (fun k => plan_Check.l0 k acc l (l.length : Int) (i : Int)) (if ((l.drop i).all nodeM && tasksB (acc ++ (l.drop i).map (·.f0))) = true then 0 else 1)
  | 0, i, acc, h, ha => by
    refine E.succ ?_
    simp only [plan_Check.l0]
    refine E.neg (by omega) ?_
    rw [List.drop_of_length_le (by omega)]
    have := tasks_f acc (by omega)
    simpa using E.bind this (E.pure _)
  | d + 1, i, acc, h, ha => by
    have hi : i < l.length := by omega
    have ih := pcheck_loop l hn d (i + 1) (acc ++ [l[i].f0]) (by omega) (by simp [ha])
    rw [drop_at hi]
    refine E.succ ?_
    simp only [plan_Check.l0, rd36 l i hi, wrap_n (i := (i : Int)) (by omega) (by omega), node_f, Option.bind_some]
    refine E.pos (by omega) (E.pos (by omega) (E.pos (by omega) ?_))
    cases c1 : (decide (-1 ≤ l[i].f1) && decide (l[i].f1 ≤ 63)) with
    | false =>
      refine E.neg (by decide) ?_
      have : nodeM l[i] = false := by unfold nodeM; rw [c1]; rfl
      simp only [List.all_cons, this, Bool.false_and]
      exact E.pure _
    | true =>
      refine E.pos rfl ?_
      cases c2 : (decide (-1 ≤ l[i].f2) && decide (l[i].f2 ≤ 63)) with
      | false =>
        refine E.neg (by decide) ?_
        have : nodeM l[i] = false := by unfold nodeM; rw [c1, c2]; rfl
        simp only [List.all_cons, this, Bool.false_and]
        exact E.pure _
      | true =>
        refine E.pos rfl ?_
        by_cases c3 : l[i].f1 = l[i].f2
        · refine E.pos c3 ?_
          have : nodeM l[i] = false := by unfold nodeM; rw [c1, c2, decide_eq_false (by simp [c3])]; rfl
          simp only [List.all_cons, this, Bool.false_and]
          exact E.pure _
        · refine E.neg c3 (E.pos (by omega) ?_)
          have : nodeM l[i] = true := by unfold nodeM; rw [c1, c2, decide_eq_true c3]; rfl
          simp only [List.all_cons, this, Bool.true_and, List.map_cons]
          rw [List.append_assoc, List.singleton_append] at ih
          simpa using ih
theorem pcheck_f (l : List S36) (hn : l.length < 1000000) : E (fun k => plan_Check.f k l) (if mayM l = true then 0 else 1) := by
  have := pcheck_loop l hn l.length 0 [] (by omega) rfl
  simpa [plan_Check.f, mayM] using this
theorem diff_f (a b : List S52) (hn : a.length + b.length < 1000000) : E (fun k => plan_Diff.f k a b) (diffV a b) := by
  unfold plan_Diff.f diffV
  refine E.pos hn (E.bind (check_f a (by omega)) ?_)
  by_cases ha : mayP a = true
  · simp only [if_pos ha]
    refine E.pos (by simp) (E.bind (check_f b (by omega)) ?_)
    by_cases hb : mayP b = true
    · simp only [if_pos hb]
      refine E.pos (by simp) ?_
      by_cases hc : (diffL a b).length > 100
      · simp only [if_pos hc]; exact E.pure _
      · simp only [if_neg hc]; exact E.pure _
    · simp only [if_neg hb]
      exact E.neg (by decide) (E.pure _)
  · simp only [if_neg ha]
    exact E.neg (by decide) (E.pure _)
theorem apply_f (a : List S52) (l : List S36) (hn : a.length + l.length < 1000000) : E (fun k => plan_Apply.f k a l) (applyV a l) := by
  unfold plan_Apply.f applyV
  refine E.pos hn (E.bind (check_f a (by omega)) ?_)
  by_cases ha : mayP a = true
  · simp only [if_pos ha]
    refine E.pos (by simp) (E.bind (pcheck_f l (by omega)) ?_)
    by_cases hb : mayM l = true
    · simp only [if_pos hb]
      refine E.pos (by simp) ?_
      cases applyL a l with
      | none => exact E.pure _
      | some o =>
        by_cases hc : o.length > 100
        · simp only [if_pos hc]; exact E.pure _
        · simp only [if_neg hc]; exact E.pure _
    · simp only [if_neg hb]
      exact E.neg (by decide) (E.pure _)
  · simp only [if_neg ha]
    exact E.neg (by decide) (E.pure _)
theorem back_loop (l : List S36) (hn : l.length < 1000000) : ∀ (d i : Nat) (acc : List S36), i + d = l.length → acc.length = i → E (fun k => plan_Back.l0 k acc l (l.length : Int) (i : Int)) (acc ++ (l.drop i).map swapM, 0)
  | 0, i, acc, h, ha => by
    refine E.succ ?_
    simp only [plan_Back.l0]
    refine E.neg (by omega) ?_
    rw [List.drop_of_length_le (by omega)]
    simpa using E.pure _
  | d + 1, i, acc, h, ha => by
    have hi : i < l.length := by omega
    have ih := back_loop l hn d (i + 1) (acc ++ [swapM l[i]]) (by omega) (by simp [ha])
    rw [drop_at hi]
    refine E.succ ?_
    simp only [plan_Back.l0, rd36 l i hi, wrap_n (i := (i : Int)) (by omega) (by omega)]
    refine E.pos (by omega) (E.pos (by omega) (E.pos (by omega) (E.pos (by omega) ?_)))
    rw [List.append_assoc, List.singleton_append, show ((i + 1 : Nat) : Int) = (i : Int) + 1 by omega] at ih
    exact ih
theorem back_f (l : List S36) (hn : l.length < 1000000) : E (fun k => plan_Back.f k l) (backV l) := by
  unfold plan_Back.f backV
  refine E.bind (pcheck_f l hn) ?_
  by_cases hb : mayM l = true
  · simp only [if_pos hb]
    refine E.pos (by simp) ?_
    have := back_loop l hn l.length 0 [] (by omega) rfl
    simpa using this
  · simp only [if_neg hb]
    exact E.neg (by decide) (E.pure _)
theorem S52_eq {x y : S52} : x = y ↔ x.f0 = y.f0 ∧ x.f1 = y.f1 := by cases x; cases y; simp
theorem same14_loop (a b : List S52) (hl : a.length = b.length) (hn : a.length < 1000000) : ∀ (d i : Nat), i + d = a.length → (a.drop i = b.drop i → E (fun k => tattleref14_Same.l0 k a b (i : Int)) true) ∧ (a.drop i ≠ b.drop i → E (fun k => tattleref14_Same.l0 k a b (i : Int)) false)
  | 0, i, h => by
    refine ⟨fun _ => ?_, fun hne => ?_⟩
    · refine E.succ ?_
      simp only [tattleref14_Same.l0]
      exact E.neg (by omega) (E.pure _)
    · rw [List.drop_of_length_le (by omega), List.drop_of_length_le (by omega)] at hne
      exact absurd rfl hne
  | d + 1, i, h => by
    have hi : i < a.length := by omega
    have hj : i < b.length := by omega
    obtain ⟨ih1, ih2⟩ := same14_loop a b hl hn d (i + 1) (by omega)
    rw [drop_at hi, drop_at hj]
    by_cases e : a[i] = b[i]
    · have hc : ¬ ((!((a[i].f0).toList == (b[i].f0).toList) || (!(a[i].f1 == b[i].f1))) = true) := by rw [e]; simp
      have go : ∀ r, E (fun k => tattleref14_Same.l0 k a b ((i + 1 : Nat) : Int)) r → E (fun k => tattleref14_Same.l0 k a b (i : Int)) r := fun r hr => by
        refine E.succ ?_
        simp only [tattleref14_Same.l0, rd52 hi, rd52 hj, wrap_n (i := (i : Int)) (by omega) (by omega)]
        refine E.pos (by omega) (E.pos (by omega) (E.pos (by omega) (E.neg hc ?_)))
        simpa using hr
      refine ⟨fun he => go _ (ih1 (by rw [e] at he; exact (List.cons.inj he).2)), fun he => go _ (ih2 (fun h2 => he (by rw [e, h2])))⟩
    · have hc : (!((a[i].f0).toList == (b[i].f0).toList) || (!(a[i].f1 == b[i].f1))) = true := by
        have : ¬ (a[i].f0 = b[i].f0 ∧ a[i].f1 = b[i].f1) := fun h => e (S52_eq.2 h)
        by_cases c : a[i].f0.toList = b[i].f0.toList
        · have c2 : a[i].f1 ≠ b[i].f1 := fun h => this ⟨ba_inj c, h⟩
          simp [c2]
        · simp [c]
      refine ⟨fun he => absurd (List.cons.inj he).1 e, fun _ => ?_⟩
      refine E.succ ?_
      simp only [tattleref14_Same.l0, rd52 hi, rd52 hj]
      exact E.pos (by omega) (E.pos (by omega) (E.pos (by omega) (E.pos hc (E.pure _))))
theorem same14_eq {a b : List S52} (h : a = b) (hn : a.length < 1000000) : E (fun k => tattleref14_Same.f k a b) true := by
  subst h
  unfold tattleref14_Same.f
  exact E.pos rfl ((same14_loop a a rfl hn a.length 0 (by omega)).1 rfl)
theorem same14_ne {a b : List S52} (h : a ≠ b) (hn : a.length < 1000000) : E (fun k => tattleref14_Same.f k a b) false := by
  unfold tattleref14_Same.f
  by_cases c : (a.length : Int) = (b.length : Int)
  · refine E.pos c ?_
    exact (same14_loop a b (by omega) hn a.length 0 (by omega)).2 (by simpa using h)
  · exact E.neg c (E.pure _)
theorem S36_eq {x y : S36} : x = y ↔ x.f0 = y.f0 ∧ x.f1 = y.f1 ∧ x.f2 = y.f2 := by cases x; cases y; simp
theorem same15_loop (a : List S36) (hn : a.length < 1000000) : ∀ (d i : Nat), i + d = a.length → E (fun k => tattleref15_Same.l0 k a a (i : Int)) true
  | 0, i, h => by
    refine E.succ ?_
    simp only [tattleref15_Same.l0]
    exact E.neg (by omega) (E.pure _)
  | d + 1, i, h => by
    have ih := same15_loop a hn d (i + 1) (by omega)
    refine E.succ ?_
    simp only [tattleref15_Same.l0, wrap_n (i := (i : Int)) (by omega) (by omega)]
    refine E.pos (by omega) (E.pos (by omega) (E.pos (by omega) (E.neg (by simp) ?_)))
    simpa using ih
theorem same15_eq {a b : List S36} (h : a = b) (hn : a.length < 1000000) : E (fun k => tattleref15_Same.f k a b) true := by
  subst h
  unfold tattleref15_Same.f
  exact E.pos rfl (same15_loop a hn a.length 0 (by omega))
theorem puts_f (l : List S52) : tattlelaw15_Puts.f l = some (l.take 101) := by
  unfold tattlelaw15_Puts.f
  by_cases c : (l.length : Int) > 101
  · rw [if_pos c, if_pos (by omega)]
  · rw [if_neg c, List.take_of_length_le (by omega)]
theorem moves_f (l : List S36) : tattlelaw15_Moves.f l = some (l.take 101) := by
  unfold tattlelaw15_Moves.f
  by_cases c : (l.length : Int) > 101
  · rw [if_pos c, if_pos (by omega)]
  · rw [if_neg c, List.take_of_length_le (by omega)]
/-! ### The chapter's examples -/
theorem t97 : (⟨#[97]⟩ : ByteArray).toList = [97] := by rw [ByteArray.toList_eq]
theorem t98 : (⟨#[98]⟩ : ByteArray).toList = [98] := by rw [ByteArray.toList_eq]
theorem t99 : (⟨#[99]⟩ : ByteArray).toList = [99] := by rw [ByteArray.toList_eq]
def exA : List S52 := [⟨⟨#[97]⟩, 1⟩, ⟨⟨#[98]⟩, 2⟩]
def exB : List S52 := [⟨⟨#[97]⟩, 1⟩, ⟨⟨#[99]⟩, 2⟩]
def exM : List S36 := [⟨⟨#[98]⟩, 1, 2⟩]
theorem n97 : nameB ⟨#[97]⟩ = true := by decide
theorem n98 : nameB ⟨#[98]⟩ = true := by decide
theorem n99 : nameB ⟨#[99]⟩ = true := by decide
theorem exA_may : mayP exA = true := by simp [mayP, exA, nodeP, tasksB, okFrom, n97, n98, t97, t98, Op.bytesLess]
theorem exB_may : mayP exB = true := by simp [mayP, exB, nodeP, tasksB, okFrom, n97, n99, t97, t99, Op.bytesLess]
theorem exM_may : mayM exM = true := by simp [mayM, exM, nodeM, tasksB, okFrom, n98]
theorem ex_diff : diffL exA exB = [⟨⟨#[98]⟩, 2, -1⟩, ⟨⟨#[99]⟩, -1, 2⟩] := by simp [diffL, exA, exB, bothL, t97, t98, t99, Op.bytesLess, moved]
theorem ex_none : diffL exA exA = [] := by simp [diffL, exA, bothL, t97, t98, Op.bytesLess, moved]
theorem ex_stale : applyV exA exM = ([], 8) := by
  refine applyV_bad (goodP exA_may) (goodM exM_may) (x := ⟨⟨#[98]⟩, 1, 2⟩) (by simp [exM]) ?_
  have : (⟨#[97]⟩ : ByteArray) ≠ ⟨#[98]⟩ := by decide
  simp [exA, atP, this]
theorem awake_f : E (fun k => tattlelaw15_awake.f k) true := by
  unfold tattlelaw15_awake.f
  refine E.bind (E.pure _) ?_
  have h1 := diff_f exA exB (by simp [exA, exB])
  have h2 := apply_f exA exM (by simp [exA, exM])
  have h3 := diff_f exA exA (by simp [exA])
  rw [ex_stale] at h2
  rw [show diffV exA exB = ([⟨⟨#[98]⟩, 2, -1⟩, ⟨⟨#[99]⟩, -1, 2⟩], 0) by unfold diffV; rw [if_pos exA_may, if_pos exB_may, ex_diff]; simp] at h1
  rw [show diffV exA exA = ([], 0) by unfold diffV; rw [if_pos exA_may, if_pos exA_may, ex_none]; simp] at h3
  refine E.bind h1 (E.bind h2 (E.bind h3 ?_))
  refine E.pos rfl (E.bind (same15_eq rfl (by simp)) ?_)
  exact E.pos rfl (E.pos rfl (E.pos rfl (E.pos rfl (E.pure _))))
theorem awake_b : E (fun k => (tattlelaw15_awake.f k).bind fun t => some t) true := E.bind awake_f (E.pure _)
theorem small52 (l : List S52) : (l.take 101).length ≤ 101 := by rw [List.length_take]; omega
theorem small36 (l : List S36) : (l.take 101).length ≤ 101 := by rw [List.length_take]; omega
/-! ### What the laws share -/
theorem fnd_swap : ∀ (l : List S36) (t : ByteArray), fnd (l.map swapM) t = (fnd l t).map swapM
  | [], _ => rfl
  | x :: l, t => by
    rw [List.map_cons, fnd, fnd]
    by_cases e : x.f0 = t
    · rw [if_pos e, if_pos (show (swapM x).f0 = t from e)]; rfl
    · rw [if_neg e, if_neg (show ¬ (swapM x).f0 = t from e), fnd_swap l t]
theorem GoodM.swap {l : List S36} (h : GoodM l) : GoodM (l.map swapM) := by
  refine ⟨fun x hx => ?_, by rw [List.length_map]; exact h.len, fun x hx => ?_, ?_⟩
  · obtain ⟨y, hy, rfl⟩ := List.mem_map.1 hx
    have := h.node y hy
    simp only [swapM]
    omega
  · obtain ⟨y, hy, rfl⟩ := List.mem_map.1 hx
    exact h.name y hy
  · unfold SortM
    rw [List.pairwise_map]
    exact h.sort
theorem swap_swap (l : List S36) : (l.map swapM).map swapM = l := by
  rw [List.map_map]
  conv => rhs; rw [← List.map_id l]
  congr 1
theorem backV_good {l : List S36} (h : GoodM l) : backV l = (l.map swapM, 0) := by unfold backV; rw [if_pos h.may]
/-- Apply comes to just c, if c's nodes are what it comes to. -/
theorem applyV_to {a c : List S52} {l : List S36} (ga : GoodP a) (gl : GoodM l) (gc : GoodP c) (hg : ∀ x ∈ l, x.f1 = atP a x.f0) (ht : ∀ t, target a l t = atP c t) : applyV a l = (c, 0) := by
  obtain ⟨o, so, no, h1, _, _, h2⟩ := applyV_good ga gl hg
  have : o = c := puts_ext so gc.sort no gc.nn (fun t => by rw [h1, ht])
  subst this
  rw [h2, if_neg (by have := gc.len; omega)]
theorem mem_swap {l : List S36} {m : S36} : m ∈ l.map swapM ↔ swapM m ∈ l := by
  rw [List.mem_map]
  constructor
  · rintro ⟨x, hx, rfl⟩; exact hx
  · intro h; exact ⟨swapM m, h, rfl⟩
theorem diff_to {a b : List S52} {d : List S36} (gd : GoodM d) (hm : ∀ m, m ∈ d ↔ m.f1 = atP a m.f0 ∧ m.f2 = atP b m.f0 ∧ m.f1 ≠ m.f2) (t : ByteArray) : target a d t = atP b t := by
  cases h : fnd d t with
  | some m =>
    obtain ⟨h1, h2⟩ := fnd_ex h
    rw [target_some h, ((hm m).1 h1).2.1, h2]
  | none =>
    rw [target_none h]
    by_cases e : atP a t = atP b t
    · exact e
    · exact absurd rfl (fnd_not h _ ((hm ⟨t, atP a t, atP b t⟩).2 ⟨rfl, rfl, e⟩))
theorem backV_len (l : List S36) : (backV l).1.length ≤ l.length := by unfold backV; split <;> simp
/-! ### The document's answer: what may be -/
theorem name_tree {α : Type} (n : Nat) (A B : α) : (if 97 ≤ (n : Int) then (if (n : Int) ≤ 122 then A else (if 48 ≤ (n : Int) then (if (n : Int) ≤ 57 then A else (if (n : Int) = 45 then A else B)) else (if (n : Int) = 45 then A else B))) else (if 48 ≤ (n : Int) then (if (n : Int) ≤ 57 then A else (if (n : Int) = 45 then A else B)) else (if (n : Int) = 45 then A else B))) = if nameByte n = true then A else B := by
  unfold nameByte
  simp only [Bool.or_eq_true, Bool.and_eq_true, decide_eq_true_eq]
  by_cases h1 : 97 ≤ n
  · rw [if_pos (show 97 ≤ (n : Int) by omega)]
    by_cases h2 : n ≤ 122
    · rw [if_pos (show (n : Int) ≤ 122 by omega), if_pos (by omega)]
    · rw [if_neg (show ¬ (n : Int) ≤ 122 by omega), if_pos (show 48 ≤ (n : Int) by omega), if_neg (show ¬ (n : Int) ≤ 57 by omega), if_neg (show ¬ (n : Int) = 45 by omega), if_neg (by omega)]
  · rw [if_neg (show ¬ 97 ≤ (n : Int) by omega)]
    by_cases h2 : 48 ≤ n
    · rw [if_pos (show 48 ≤ (n : Int) by omega)]
      by_cases h3 : n ≤ 57
      · rw [if_pos (show (n : Int) ≤ 57 by omega), if_pos (by omega)]
      · rw [if_neg (show ¬ (n : Int) ≤ 57 by omega), if_neg (show ¬ (n : Int) = 45 by omega), if_neg (by omega)]
    · rw [if_neg (show ¬ 48 ≤ (n : Int) by omega)]
      by_cases h3 : n = 45
      · rw [if_pos (show (n : Int) = 45 by omega), if_pos (by omega)]
      · rw [if_neg (show ¬ (n : Int) = 45 by omega), if_neg (by omega)]
theorem bt_n {s : ByteArray} {i : Nat} (h : i < s.size) : bt s (i : Int) = ((s.data.toList[i]'(by simpa using h)).toNat : Int) := by
  unfold bt
  rw [dif_pos (by simpa using h)]
  rfl
theorem rname_loop (s : ByteArray) (hs : s.size ≤ 9223372036854775807) : ∀ (d i : Nat), i + d = s.size → E (fun k => tattleref10_Name.l0 k s (i : Int)) ((s.data.toList.drop i).all (fun c => nameByte c.toNat) && (decide (1 ≤ s.size) && decide (s.size ≤ 20)))
  | 0, i, h => by
    refine E.succ ?_
    simp only [tattleref10_Name.l0]
    refine E.neg (by omega) ?_
    rw [List.drop_of_length_le (by simp; omega), List.all_nil, Bool.true_and]
    by_cases c : 1 ≤ (s.size : Int)
    · refine E.pos c ?_
      rw [decide_eq_true (p := 1 ≤ s.size) (by omega), Bool.true_and, show decide (s.size ≤ 20) = decide ((s.size : Int) ≤ 20) by rw [decide_eq_decide]; omega]
      exact E.pure _
    · refine E.neg c ?_
      rw [decide_eq_false (p := 1 ≤ s.size) (by omega), Bool.false_and]
      exact E.pure _
  | d + 1, i, h => by
    have hi : i < s.size := by omega
    have ih := rname_loop s hs d (i + 1) (by omega)
    have hl : i < s.data.toList.length := by simpa using hi
    refine E.succ ?_
    simp only [tattleref10_Name.l0, bt_n hi, wrap_n (i := (i : Int)) (by omega) (by omega), name_tree]
    refine E.pos (by omega) (E.pos (by omega) ?_)
    rw [List.drop_eq_getElem_cons hl, List.all_cons]
    by_cases c : nameByte (s.data.toList[i]).toNat = true
    · refine E.pos c ?_
      rw [c, Bool.true_and]
      exact ih
    · refine E.neg c ?_
      have c' : nameByte (s.data.toList[i]).toNat = false := by simpa using c
      rw [c', Bool.false_and, Bool.false_and]
      exact E.pure _
theorem nameB_long {s : ByteArray} (h : 20 < s.size) : nameB s = false := by
  unfold nameB
  rw [decide_eq_false (p := s.size ≤ 20) (by omega), Bool.and_false, Bool.and_false]
theorem rname_f (s : ByteArray) (hs : s.size ≤ 9223372036854775807) : E (fun k => tattleref10_Name.f k s) (nameB s) := by
  have := rname_loop s hs s.size 0 (by omega)
  simpa [tattleref10_Name.f, nameB] using this
def Short (l : List ByteArray) : Prop := ∀ x ∈ l, x.size ≤ 9223372036854775807
theorem rtasks_loop (xs : List ByteArray) (hn : xs.length < 1000000) (hs : Short xs) : ∀ (d i : Nat), i + d = xs.length → E (fun k => tattleref14_Tasks.l0 k xs (i : Int)) (okFrom (prevOf xs i) (xs.drop i) && decide (xs.length ≤ 100))
  | 0, i, h => by
    refine E.succ ?_
    simp only [tattleref14_Tasks.l0]
    refine E.neg (by omega) ?_
    rw [List.drop_of_length_le (by omega), okFrom, Bool.true_and, show decide (xs.length ≤ 100) = decide ((xs.length : Int) ≤ 100) by rw [decide_eq_decide]; omega]
    exact E.pure _
  | d + 1, i, h => by
    have hi : i < xs.length := by omega
    have ih := rtasks_loop xs hn hs d (i + 1) (by omega)
    rw [drop_at hi]
    simp only [okFrom]
    have e1 : prevOf xs (i + 1) = some xs[i] := by rw [prevOf, rdOf_n _ hi]
    rw [e1] at ih
    refine E.succ ?_
    simp only [tattleref14_Tasks.l0, rdOf_n _ hi, wrap_n (i := (i : Int)) (by omega) (by omega)]
    refine E.pos (by omega) (E.pos (by omega) ?_)
    refine E.bind (rname_f xs[i] (hs _ (List.getElem_mem hi))) ?_
    by_cases hb : nameB xs[i] = true
    · refine E.pos hb ?_
      simp only [hb, Bool.true_and]
      cases i with
      | zero =>
        refine E.neg (by decide) ?_
        simpa [prevOf] using ih
      | succ j =>
        have e2 : ((j + 1 : Nat) : Int) - 1 = (j : Int) := by omega
        have e3 : wrap64 (((j + 1 : Nat) : Int) - 1) = (j : Int) := by rw [wrap_p (by omega) (by omega), e2]
        refine E.pos (by omega) ?_
        simp only [e3]
        refine E.pos (by omega) (E.pos (by omega) ?_)
        simp only [prevOf]
        by_cases c : Op.bytesLess (rdOf ByteArray.empty xs (j : Int)).toList xs[j + 1].toList = true
        · refine E.pos c ?_
          simp only [c, Bool.true_and]
          exact ih
        · refine E.neg c ?_
          have c' : Op.bytesLess (rdOf ByteArray.empty xs (j : Int)).toList xs[j + 1].toList = false := by simpa using c
          simp only [c', Bool.false_and]
          exact E.pure _
    · refine E.neg hb ?_
      have hb' : nameB xs[i] = false := by simpa using hb
      simp only [hb', Bool.false_and]
      exact E.pure _
theorem rtasks_f (xs : List ByteArray) (hn : xs.length < 1000000) (hs : Short xs) : E (fun k => tattleref14_Tasks.f k xs) (tasksB xs) := by
  have := rtasks_loop xs hn hs xs.length 0 (by omega)
  unfold tattleref14_Tasks.f tasksB
  rw [Bool.and_comm]
  simpa [prevOf] using this
theorem rmay14_loop (l : List S52) (hn : l.length < 1000000) (hs : ∀ x ∈ l, x.f0.size ≤ 9223372036854775807) : ∀ (d i : Nat) (acc : List ByteArray), i + d = l.length → acc.length = i → Short acc → E (fun k => tattleref14_May.l0 k l acc (i : Int)) ((l.drop i).all nodeP && tasksB (acc ++ (l.drop i).map (·.f0)))
  | 0, i, acc, h, ha, hq => by
    refine E.succ ?_
    simp only [tattleref14_May.l0]
    refine E.neg (by omega) ?_
    rw [List.drop_of_length_le (by omega)]
    have := rtasks_f acc (by omega) hq
    simpa using E.bind this (E.pure _)
  | d + 1, i, acc, h, ha, hq => by
    have hi : i < l.length := by omega
    have ih := rmay14_loop l hn hs d (i + 1) (acc ++ [l[i].f0]) (by omega) (by simp [ha]) (fun x hx => by
      rcases List.mem_append.1 hx with hx | hx
      · exact hq x hx
      · rw [List.mem_singleton] at hx; rw [hx]; exact hs _ (List.getElem_mem hi))
    rw [drop_at hi]
    refine E.succ ?_
    simp only [tattleref14_May.l0, rd52 hi, wrap_n (i := (i : Int)) (by omega) (by omega)]
    refine E.pos (by omega) (E.pos (by omega) ?_)
    by_cases c1 : l[i].f1 < 0
    · refine E.pos c1 ?_
      have : nodeP l[i] = false := by unfold nodeP; rw [decide_eq_false (by omega)]; rfl
      rw [List.all_cons, this, Bool.false_and, Bool.false_and]
      exact E.pure _
    · refine E.neg c1 ?_
      by_cases c2 : l[i].f1 > 63
      · refine E.pos c2 ?_
        have : nodeP l[i] = false := by unfold nodeP; rw [decide_eq_false (p := l[i].f1 ≤ 63) (by omega)]; simp
        rw [List.all_cons, this, Bool.false_and, Bool.false_and]
        exact E.pure _
      · refine E.neg c2 (E.pos (by omega) ?_)
        have : nodeP l[i] = true := by unfold nodeP; rw [decide_eq_true (p := l[i].f1 ≤ 63) (by omega), decide_eq_true (by omega)]; rfl
        rw [List.all_cons, this, Bool.true_and, List.map_cons]
        rw [List.append_assoc, List.singleton_append] at ih
        exact ih
theorem rmay14_f (l : List S52) (hn : l.length < 1000000) (hs : ∀ x ∈ l, x.f0.size ≤ 9223372036854775807) : E (fun k => tattleref14_May.f k l) (mayP l) := by
  have := rmay14_loop l hn hs l.length 0 [] (by omega) rfl (fun x hx => by simp at hx)
  simpa [tattleref14_May.f, mayP] using this
theorem rmay15_loop (l : List S36) (hn : l.length < 1000000) (hs : ∀ x ∈ l, x.f0.size ≤ 9223372036854775807) : ∀ (d i : Nat) (acc : List ByteArray), i + d = l.length → acc.length = i → Short acc → E (fun k => tattleref15_May.l0 k l acc (i : Int)) ((l.drop i).all nodeM && tasksB (acc ++ (l.drop i).map (·.f0)))
  | 0, i, acc, h, ha, hq => by
    refine E.succ ?_
    simp only [tattleref15_May.l0]
    refine E.neg (by omega) ?_
    rw [List.drop_of_length_le (by omega)]
    have := rtasks_f acc (by omega) hq
    simpa using E.bind this (E.pure _)
  | d + 1, i, acc, h, ha, hq => by
    have hi : i < l.length := by omega
    have ih := rmay15_loop l hn hs d (i + 1) (acc ++ [l[i].f0]) (by omega) (by simp [ha]) (fun x hx => by
      rcases List.mem_append.1 hx with hx | hx
      · exact hq x hx
      · rw [List.mem_singleton] at hx; rw [hx]; exact hs _ (List.getElem_mem hi))
    rw [drop_at hi]
    refine E.succ ?_
    simp only [tattleref15_May.l0, rd36 l i hi, wrap_n (i := (i : Int)) (by omega) (by omega)]
    refine E.pos (by omega) (E.pos (by omega) ?_)
    have bad : nodeM l[i] = false → E (fun _ => some false) ((l[i] :: l.drop (i + 1)).all nodeM && tasksB (acc ++ (l[i] :: l.drop (i + 1)).map (·.f0))) := fun hb => by
      rw [List.all_cons, hb, Bool.false_and, Bool.false_and]
      exact E.pure _
    have nm : ∀ p : Prop, (nodeM l[i] = true → p) → ¬ p → nodeM l[i] = false := fun p h1 h2 => by
      cases h3 : nodeM l[i] with
      | false => rfl
      | true => exact absurd (h1 h3) h2
    have sp : nodeM l[i] = true ↔ -1 ≤ l[i].f1 ∧ l[i].f1 ≤ 63 ∧ -1 ≤ l[i].f2 ∧ l[i].f2 ≤ 63 ∧ l[i].f1 ≠ l[i].f2 := by simp [nodeM, and_assoc]
    by_cases c1 : l[i].f1 < -1
    · exact E.pos c1 (bad (nm (-1 ≤ l[i].f1) (fun h => (sp.1 h).1) (by omega)))
    · refine E.neg c1 ?_
      by_cases c2 : l[i].f1 > 63
      · exact E.pos c2 (bad (nm (l[i].f1 ≤ 63) (fun h => (sp.1 h).2.1) (by omega)))
      · refine E.neg c2 ?_
        by_cases c3 : l[i].f2 < -1
        · exact E.pos c3 (bad (nm (-1 ≤ l[i].f2) (fun h => (sp.1 h).2.2.1) (by omega)))
        · refine E.neg c3 ?_
          by_cases c4 : l[i].f2 > 63
          · exact E.pos c4 (bad (nm (l[i].f2 ≤ 63) (fun h => (sp.1 h).2.2.2.1) (by omega)))
          · refine E.neg c4 ?_
            by_cases c5 : l[i].f1 = l[i].f2
            · exact E.pos c5 (bad (nm (l[i].f1 ≠ l[i].f2) (fun h => (sp.1 h).2.2.2.2) (fun h => h c5)))
            · refine E.neg c5 (E.pos (by omega) ?_)
              have : nodeM l[i] = true := sp.2 ⟨by omega, by omega, by omega, by omega, c5⟩
              rw [List.all_cons, this, Bool.true_and, List.map_cons]
              rw [List.append_assoc, List.singleton_append] at ih
              exact ih
theorem rmay15_f (l : List S36) (hn : l.length < 1000000) (hs : ∀ x ∈ l, x.f0.size ≤ 9223372036854775807) : E (fun k => tattleref15_May.f k l) (mayM l) := by
  have := rmay15_loop l hn hs l.length 0 [] (by omega) rfl (fun x hx => by simp at hx)
  simpa [tattleref15_May.f, mayM] using this
/-! ### The document's answer: the tasks, in order -/
theorem names_l2 (l : List S36) (hn : l.length < 1000000) : ∀ (d i : Nat) (acc : List ByteArray) (r : List ByteArray), i + d = l.length → acc.length < 3000000 - d → E (fun k => tattleref15_names.l3 k (acc ++ (l.drop i).map (·.f0)) []) r → E (fun k => tattleref15_names.l2 k l acc (i : Int)) r
  | 0, i, acc, r, h, ha, hr => by
    refine E.succ ?_
    simp only [tattleref15_names.l2]
    refine E.neg (by omega) ?_
    rw [List.drop_of_length_le (by omega)] at hr
    simpa using hr
  | d + 1, i, acc, r, h, ha, hr => by
    have hi : i < l.length := by omega
    rw [drop_at hi] at hr
    refine E.succ ?_
    simp only [tattleref15_names.l2, rd36 l i hi, wrap_n (i := (i : Int)) (by omega) (by omega)]
    refine E.pos (by omega) (E.pos (by omega) (E.pos (by omega) ?_))
    exact names_l2 l hn d (i + 1) _ r (by omega) (by simp; omega) (by rw [List.append_assoc, List.singleton_append]; rw [List.map_cons] at hr; exact hr)
theorem names_l1 (b : List S52) (l : List S36) (hb : b.length < 1000000) (hn : l.length < 1000000) : ∀ (d i : Nat) (acc : List ByteArray) (r : List ByteArray), i + d = b.length → acc.length < 2000000 - d → E (fun k => tattleref15_names.l3 k (acc ++ ((b.drop i).map (·.f0) ++ l.map (·.f0))) []) r → E (fun k => tattleref15_names.l1 k b l acc (i : Int)) r
  | 0, i, acc, r, h, ha, hr => by
    refine E.succ ?_
    simp only [tattleref15_names.l1]
    refine E.neg (by omega) ?_
    rw [List.drop_of_length_le (by omega)] at hr
    exact names_l2 l hn l.length 0 acc r (by omega) (by omega) (by simpa using hr)
  | d + 1, i, acc, r, h, ha, hr => by
    have hi : i < b.length := by omega
    rw [drop_at hi] at hr
    refine E.succ ?_
    simp only [tattleref15_names.l1, rd52 hi, wrap_n (i := (i : Int)) (by omega) (by omega)]
    refine E.pos (by omega) (E.pos (by omega) (E.pos (by omega) ?_))
    exact names_l1 b l hb hn d (i + 1) _ r (by omega) (by simp; omega) (by rw [List.append_assoc, List.singleton_append]; rw [List.map_cons, List.cons_append] at hr; exact hr)
theorem names_l0 (a b : List S52) (l : List S36) (ha0 : a.length < 1000000) (hb : b.length < 1000000) (hn : l.length < 1000000) : ∀ (d i : Nat) (acc : List ByteArray) (r : List ByteArray), i + d = a.length → acc.length < 1000000 - d → E (fun k => tattleref15_names.l3 k (acc ++ ((a.drop i).map (·.f0) ++ (b.map (·.f0) ++ l.map (·.f0)))) []) r → E (fun k => tattleref15_names.l0 k a b l acc (i : Int)) r
  | 0, i, acc, r, h, ha, hr => by
    refine E.succ ?_
    simp only [tattleref15_names.l0]
    refine E.neg (by omega) ?_
    rw [List.drop_of_length_le (by omega)] at hr
    exact names_l1 b l hb hn b.length 0 acc r (by omega) (by omega) (by simpa using hr)
  | d + 1, i, acc, r, h, ha, hr => by
    have hi : i < a.length := by omega
    rw [drop_at hi] at hr
    refine E.succ ?_
    simp only [tattleref15_names.l0, rd52 hi, wrap_n (i := (i : Int)) (by omega) (by omega)]
    refine E.pos (by omega) (E.pos (by omega) (E.pos (by omega) ?_))
    exact names_l0 a b l ha0 hb hn d (i + 1) _ r (by omega) (by simp; omega) (by rw [List.append_assoc, List.singleton_append]; rw [List.map_cons, List.cons_append] at hr; exact hr)
/-- x lies behind all that is out. -/
def After (out : List ByteArray) (x : ByteArray) : Prop := ∀ y ∈ out, lt y x
theorem after_last {out : List ByteArray} (hs : out.Pairwise lt) {j : Nat} (hj : out.length = j + 1) (x : ByteArray) : After out x ↔ lt (rdOf ByteArray.empty out (j : Int)) x := by
  have hj' : j < out.length := by omega
  rw [rdOf_n _ hj']
  constructor
  · intro h; exact h _ (List.getElem_mem hj')
  · intro h y hy
    obtain ⟨i, hi, rfl⟩ := List.getElem_of_mem hy
    by_cases e : i = j
    · subst e; exact h
    · exact lt_trans ((List.pairwise_iff_getElem.1 hs) i j hi hj' (by omega)) h
/-- What the least one that was found among the first i is. -/
def Best (all out : List ByteArray) (i : Nat) (best : ByteArray) (found : Bool) : Prop :=
  (found = true → best ∈ all ∧ After out best ∧ ∀ x ∈ all.take i, After out x → ¬ lt x best) ∧ (found = false → ∀ x ∈ all.take i, ¬ After out x)
theorem best_no {all out : List ByteArray} {i : Nat} {best : ByteArray} {found : Bool} (hi : i < all.length) (h : Best all out i best found) (hn : ¬ After out all[i]) : Best all out (i + 1) best found := by
  refine ⟨fun hf => ?_, fun hf x hx => ?_⟩
  · obtain ⟨h1, h2, h3⟩ := h.1 hf
    refine ⟨h1, h2, fun x hx ha => ?_⟩
    rw [List.take_succ_eq_append_getElem hi] at hx
    rcases List.mem_append.1 hx with hx | hx
    · exact h3 x hx ha
    · rw [List.mem_singleton] at hx; subst hx; exact absurd ha hn
  · rw [List.take_succ_eq_append_getElem hi] at hx
    rcases List.mem_append.1 hx with hx | hx
    · exact h.2 hf x hx
    · rw [List.mem_singleton] at hx; subst hx; exact hn
theorem best_new {all out : List ByteArray} {i : Nat} {best : ByteArray} {found : Bool} (hi : i < all.length) (h : Best all out i best found) (ha : After out all[i]) (hc : found = true → lt all[i] best) : Best all out (i + 1) all[i] true := by
  refine ⟨fun _ => ⟨List.getElem_mem hi, ha, fun x hx hx2 hl => ?_⟩, fun hf => by cases hf⟩
  rw [List.take_succ_eq_append_getElem hi] at hx
  rcases List.mem_append.1 hx with hx | hx
  · cases hf : found with
    | true => exact (h.1 hf).2.2 x hx hx2 (lt_trans hl (hc hf))
    | false => exact h.2 hf x hx hx2
  · rw [List.mem_singleton] at hx; subst hx; exact lt_irrefl _ hl
theorem best_keep {all out : List ByteArray} {i : Nat} {best : ByteArray} (hi : i < all.length) (h : Best all out i best true) (hc : ¬ lt all[i] best) : Best all out (i + 1) best true := by
  obtain ⟨h1, h2, h3⟩ := h.1 rfl
  refine ⟨fun _ => ⟨h1, h2, fun x hx ha => ?_⟩, fun hf => by cases hf⟩
  rw [List.take_succ_eq_append_getElem hi] at hx
  rcases List.mem_append.1 hx with hx | hx
  · exact h3 x hx ha
  · rw [List.mem_singleton] at hx; subst hx; exact hc
theorem names_l4 (all out r : List ByteArray) (hn : all.length < 4000000) (ho : out.length < 4000000) (hs : out.Pairwise lt)
    (hfound : ∀ best, Best all out all.length best true → E (fun k => tattleref15_names.l3 k all (out ++ [best])) r) (hnone : (∀ x ∈ all, ¬ After out x) → out = r) :
    ∀ (d i : Nat) (best : ByteArray) (found : Bool), i + d = all.length → Best all out i best found → E (fun k => tattleref15_names.l4 k all out best found (i : Int)) r
  | 0, i, best, found, h, hb => by
    refine E.succ ?_
    simp only [tattleref15_names.l4]
    refine E.neg (by omega) ?_
    have hi : i = all.length := by omega
    subst hi
    by_cases c : found = true
    · subst c
      exact E.pos rfl (E.pos (by omega) (hfound best hb))
    · refine E.neg c ?_
      have := hnone (fun x hx => hb.2 (by simpa using c) x (by simpa using hx))
      rw [this]
      exact E.pure _
  | d + 1, i, best, found, h, hb => by
    have hi : i < all.length := by omega
    have next : ∀ best' found', Best all out (i + 1) best' found' → E (fun k => tattleref15_names.l4 k all out best' found' ((i : Int) + 1)) r := fun best' found' hb' => names_l4 all out r hn ho hs hfound hnone d (i + 1) best' found' (by omega) hb'
    refine E.succ ?_
    simp only [tattleref15_names.l4, rdOf_n _ hi, wrap_n (i := (i : Int)) (by omega) (by omega)]
    refine E.pos (by omega) ?_
    have step : After out all[i] → E (fun k => if found = true then (if Op.bytesLess all[i].toList best.toList = true then tattleref15_names.l4 k all out all[i] true ((i : Int) + 1) else tattleref15_names.l4 k all out best found ((i : Int) + 1)) else tattleref15_names.l4 k all out all[i] true ((i : Int) + 1)) r := fun ha => by
      by_cases c : found = true
      · refine E.pos c ?_
        subst c
        by_cases c2 : Op.bytesLess all[i].toList best.toList = true
        · exact E.pos c2 (next _ _ (best_new hi hb ha (fun _ => c2)))
        · exact E.neg c2 (next _ _ (best_keep hi hb c2))
      · exact E.neg c (next _ _ (best_new hi hb ha (fun h2 => absurd h2 c)))
    cases hl : out.length with
    | zero =>
      refine E.pos rfl ?_
      have h0 : out = [] := List.eq_nil_of_length_eq_zero hl
      have ha : After out all[i] := fun y hy => by rw [h0] at hy; simp at hy
      have := step ha
      by_cases c : found = true
      · refine E.pos c (E.pos (by omega) ?_)
        simpa [c] using this
      · refine E.neg c (E.pos (by omega) ?_)
        simpa [c] using this
    | succ j =>
      have hw : wrap64 (((j + 1 : Nat) : Int) - 1) = (j : Int) := by rw [wrap_p (by omega) (by omega)]; omega
      refine E.neg (by omega) ?_
      simp only [hw]
      refine E.pos (by omega) (E.pos (by omega) (E.pos (by omega) ?_))
      by_cases c : Op.bytesLess (rdOf ByteArray.empty out (j : Int)).toList all[i].toList = true
      · refine E.pos c ?_
        exact step ((after_last hs hl _).2 c)
      · refine E.neg c ?_
        exact next _ _ (best_no hi hb (fun ha => c ((after_last hs hl _).1 ha)))
theorem filter_less {α : Type} (p q : α → Bool) : ∀ (l : List α), (∀ x ∈ l, q x = true → p x = true) → (∃ x ∈ l, p x = true ∧ q x = false) → (l.filter q).length < (l.filter p).length
  | [], _, h => by obtain ⟨x, hx, _⟩ := h; simp at hx
  | y :: l, h, hx => by
    have hle : ∀ l : List α, (∀ x ∈ l, q x = true → p x = true) → (l.filter q).length ≤ (l.filter p).length := by
      intro l
      induction l with
      | nil => simp
      | cons z l ih =>
        intro h
        have := ih (fun x hx => h x (List.mem_cons_of_mem _ hx))
        rw [List.filter_cons, List.filter_cons]
        by_cases c : q z = true
        · rw [if_pos c, if_pos (h z (List.mem_cons_self ..) c)]; simp; omega
        · rw [if_neg c]; split <;> simp <;> omega
    have h' : ∀ x ∈ l, q x = true → p x = true := fun x hx => h x (List.mem_cons_of_mem _ hx)
    obtain ⟨x, hx, h1, h2⟩ := hx
    rw [List.filter_cons, List.filter_cons]
    rcases List.mem_cons.1 hx with e | hx
    · subst e
      rw [if_pos h1, if_neg (by rw [h2]; decide)]
      have := hle l h'
      simp; omega
    · have ih := filter_less p q l h' ⟨x, hx, h1, h2⟩
      by_cases c : q y = true
      · rw [if_pos c, if_pos (h y (List.mem_cons_self ..) c)]; simp; omega
      · rw [if_neg c]; split <;> simp <;> omega
open Classical in
theorem names_l3 (all : List ByteArray) (hn : all.length < 4000000) : ∀ (n : Nat) (out : List ByteArray), (all.filter (fun x => decide (After out x))).length < n → out.Pairwise lt → (∀ x ∈ out, x ∈ all) → (∀ x ∈ all, x ∈ out ∨ After out x) →
    ∃ r, E (fun k => tattleref15_names.l3 k all out) r ∧ r.Pairwise lt ∧ ∀ t, t ∈ r ↔ t ∈ all
  | 0, out, h, _, _, _ => by omega
  | n + 1, out, h, hs, hsub, hall => by
    have ho : out.length < 4000000 := by
      have := nodup_len (l := out) (m := all) (by unfold List.Nodup; exact List.Pairwise.imp (fun h => lt_ne h) hs) hsub
      omega
    have e0 : Best all out 0 ⟨#[]⟩ false := ⟨fun hf => (by cases hf), fun _ x hx => by simp at hx⟩
    by_cases hc : ∃ x ∈ all, After out x
    · have key : ∀ best, Best all out all.length best true → ∃ r, E (fun k => tattleref15_names.l3 k all (out ++ [best])) r ∧ r.Pairwise lt ∧ ∀ t, t ∈ r ↔ t ∈ all := fun best hb => by
        obtain ⟨h1, h2, h3⟩ := hb.1 rfl
        refine names_l3 all hn n (out ++ [best]) ?_ ?_ ?_ ?_
        · have := filter_less (fun x => decide (After out x)) (fun x => decide (After (out ++ [best]) x)) all (fun x _ hx => by
            rw [decide_eq_true_eq] at hx ⊢
            exact fun y hy => hx y (List.mem_append_left _ hy)) ⟨best, h1, decide_eq_true h2, decide_eq_false (fun hx => lt_irrefl _ (hx best (by simp)))⟩
          omega
        · rw [List.pairwise_append]
          exact ⟨hs, by simp, fun x hx y hy => by rw [List.mem_singleton] at hy; subst hy; exact h2 x hx⟩
        · intro x hx
          rcases List.mem_append.1 hx with hx | hx
          · exact hsub x hx
          · rw [List.mem_singleton] at hx; subst hx; exact h1
        · intro x hx
          rcases hall x hx with h4 | h4
          · exact .inl (List.mem_append_left _ h4)
          · by_cases e : x = best
            · exact .inl (by rw [e]; simp)
            · right
              intro y hy
              rcases List.mem_append.1 hy with hy | hy
              · exact h4 y hy
              · rw [List.mem_singleton] at hy
                subst hy
                exact lt_total (fun e2 => e e2.symm) (h3 x (by simpa using hx) h4)
      -- the least one is one alone
      have uniq : ∀ b1 b2, Best all out all.length b1 true → Best all out all.length b2 true → b1 = b2 := fun b1 b2 h1 h2 => by
        obtain ⟨p1, p2, p3⟩ := h1.1 rfl
        obtain ⟨q1, q2, q3⟩ := h2.1 rfl
        by_cases e : b1 = b2
        · exact e
        · have a1 := p3 b2 (by simpa using q1) q2
          have a2 := q3 b1 (by simpa using p1) p2
          exact absurd (lt_total e a1) a2
      by_cases hex : ∃ b, Best all out all.length b true
      · obtain ⟨b, hb⟩ := hex
        obtain ⟨r, hr, h1, h2⟩ := key b hb
        refine ⟨r, ?_, h1, h2⟩
        refine E.succ ?_
        simp only [tattleref15_names.l3]
        refine names_l4 all out r hn ho hs (fun b2 hb2 => by rw [uniq b2 b hb2 hb]; exact hr) (fun hno => ?_) all.length 0 _ false (by omega) e0
        obtain ⟨x, hx, ha⟩ := hc
        exact absurd ha (hno x hx)
      · refine ⟨[], ?_, ?_⟩
        · refine E.succ ?_
          simp only [tattleref15_names.l3]
          refine names_l4 all out [] hn ho hs (fun b2 hb2 => absurd ⟨b2, hb2⟩ hex) (fun hno => ?_) all.length 0 _ false (by omega) e0
          obtain ⟨x, hx, ha⟩ := hc
          exact absurd ha (hno x hx)
        · -- there is a least one
          exfalso
          have : ∀ i, i ≤ all.length → ∃ b f, Best all out i b f := by
            intro i
            induction i with
            | zero => intro _; exact ⟨_, _, e0⟩
            | succ i ih =>
              intro hi
              obtain ⟨b, f, hb⟩ := ih (by omega)
              by_cases ha : After out all[i]
              · cases f with
                | false => exact ⟨_, _, best_new (by omega) hb ha (fun h => by cases h)⟩
                | true =>
                  by_cases hl : lt all[i] b
                  · exact ⟨_, _, best_new (by omega) hb ha (fun _ => hl)⟩
                  · exact ⟨_, _, best_keep (by omega) hb hl⟩
              · exact ⟨_, _, best_no (by omega) hb ha⟩
          obtain ⟨b, f, hb⟩ := this all.length (Nat.le_refl _)
          cases f with
          | true => exact hex ⟨b, hb⟩
          | false =>
            obtain ⟨x, hx, ha⟩ := hc
            exact hb.2 rfl x (by simpa using hx) ha
    · refine ⟨out, ?_, hs, fun t => ⟨hsub t, fun ht => (hall t ht).resolve_right (fun ha => hc ⟨t, ht, ha⟩)⟩⟩
      refine E.succ ?_
      simp only [tattleref15_names.l3]
      refine names_l4 all out out hn ho hs (fun b hb => ?_) (fun _ => rfl) all.length 0 _ false (by omega) e0
      obtain ⟨h1, h2, _⟩ := hb.1 rfl
      exact absurd ⟨b, h1, h2⟩ hc
theorem names_f (a b : List S52) (l : List S36) (ha : a.length < 1000000) (hb : b.length < 1000000) (hn : l.length < 1000000) :
    ∃ r, E (fun k => tattleref15_names.f k a b l) r ∧ r.Pairwise lt ∧ (∀ t, t ∈ r ↔ (∃ x ∈ a, x.f0 = t) ∨ (∃ x ∈ b, x.f0 = t) ∨ (∃ x ∈ l, x.f0 = t)) ∧ r.length < 4000000 := by
  obtain ⟨r, h1, h2, h3⟩ := names_l3 (a.map (·.f0) ++ (b.map (·.f0) ++ l.map (·.f0))) (by simp; omega) _ [] (Nat.lt_succ_self _) List.Pairwise.nil (fun x hx => by simp at hx) (fun x _ => .inr (fun y hy => by simp at hy))
  refine ⟨r, ?_, h2, fun t => ?_, ?_⟩
  · unfold tattleref15_names.f
    exact names_l0 a b l ha hb hn a.length 0 [] r (by omega) (by simp; omega) (by simpa using h1)
  · rw [h3]
    simp
  · have := nodup_len (l := r) (m := a.map (·.f0) ++ (b.map (·.f0) ++ l.map (·.f0))) (by unfold List.Nodup; exact List.Pairwise.imp (fun h => lt_ne h) h2) (fun x hx => (h3 x).1 hx)
    simp at this
    omega
/-! ### The document's answer: what differs, what is applied -/
theorem rat_loop (l : List S52) (t : ByteArray) (hn : l.length < 1000000) : ∀ (d i : Nat), i + d = l.length → E (fun k => tattleref15_At.l0 k l t (i : Int)) (atP (l.drop i) t)
  | 0, i, h => by
    refine E.succ ?_
    simp only [tattleref15_At.l0]
    refine E.neg (by omega) ?_
    rw [List.drop_of_length_le (by omega)]
    exact E.pure _
  | d + 1, i, h => by
    have hi : i < l.length := by omega
    have ih := rat_loop l t hn d (i + 1) (by omega)
    rw [drop_at hi, atP]
    refine E.succ ?_
    simp only [tattleref15_At.l0, rd52 hi, wrap_n (i := (i : Int)) (by omega) (by omega), ba_iff]
    refine E.pos (by omega) (E.pos (by omega) ?_)
    by_cases c : l[i].f0 = t
    · rw [if_pos c]
      exact E.pos c (E.pure _)
    · rw [if_neg c]
      exact E.neg c ih
theorem rat_f (l : List S52) (t : ByteArray) (hn : l.length < 1000000) : E (fun k => tattleref15_At.f k l t) (atP l t) := by
  have := rat_loop l t hn l.length 0 (by omega)
  simpa [tattleref15_At.f] using this
def dOne (a b : List S52) (t : ByteArray) : List S36 := if atP a t = atP b t then [] else [⟨t, atP a t, atP b t⟩]
theorem rdiff_loop (a b : List S52) (ha : a.length < 1000000) (hb : b.length < 1000000) (ns : List ByteArray) (hn : ns.length < 4000000) : ∀ (d i : Nat) (acc : List S36), i + d = ns.length → acc.length ≤ i → E (fun k => tattleref15_Diff.l0 k a b acc ns (i : Int)) (acc ++ (ns.drop i).flatMap (dOne a b))
  | 0, i, acc, h, hq => by
    refine E.succ ?_
    simp only [tattleref15_Diff.l0]
    refine E.neg (by omega) ?_
    rw [List.drop_of_length_le (by omega), List.flatMap_nil, List.append_nil]
    exact E.pure _
  | d + 1, i, acc, h, hq => by
    have hi : i < ns.length := by omega
    rw [drop_at hi, List.flatMap_cons]
    refine E.succ ?_
    simp only [tattleref15_Diff.l0, rdOf_n _ hi, wrap_n (i := (i : Int)) (by omega) (by omega)]
    refine E.pos (by omega) (E.pos (by omega) ?_)
    refine E.bind (rat_f a _ ha) (E.bind (rat_f b _ hb) ?_)
    by_cases c : atP a ns[i] = atP b ns[i]
    · refine E.pos c ?_
      have ih := rdiff_loop a b ha hb ns hn d (i + 1) acc (by omega) (by omega)
      have e : dOne a b ns[i] = [] := by unfold dOne; rw [if_pos c]
      rw [e, List.nil_append]
      exact ih
    · refine E.neg c (E.bind (rat_f a _ ha) (E.bind (rat_f b _ hb) (E.pos (by omega) ?_)))
      have ih := rdiff_loop a b ha hb ns hn d (i + 1) (acc ++ [⟨ns[i], atP a ns[i], atP b ns[i]⟩]) (by omega) (by simp; omega)
      have e : dOne a b ns[i] = [⟨ns[i], atP a ns[i], atP b ns[i]⟩] := by unfold dOne; rw [if_neg c]
      rw [List.append_assoc] at ih
      rw [e]
      exact ih
theorem flat_task {α : Type} {f : α → ByteArray} {g : ByteArray → List α} (hg : ∀ t, ∀ x ∈ g t, f x = t) (h1 : ∀ t, (g t).length ≤ 1) : ∀ ns : List ByteArray, ns.Pairwise lt → (ns.flatMap g).Pairwise (fun x y => lt (f x) (f y))
  | [], _ => List.Pairwise.nil
  | t :: ns, h => by
    rw [List.pairwise_cons] at h
    rw [List.flatMap_cons, List.pairwise_append]
    refine ⟨?_, flat_task hg h1 ns h.2, fun x hx y hy => ?_⟩
    · have := h1 t
      match hgt : g t with
      | [] => exact List.Pairwise.nil
      | [x] => simp
      | x :: y :: l => rw [hgt] at this; simp at this
    · obtain ⟨s, hs, hy⟩ := List.mem_flatMap.1 hy
      rw [hg t x hx, hg s y hy]
      exact h.1 s hs
theorem atP_none_or {l : List S52} {t : ByteArray} (h : ¬ ∃ x ∈ l, x.f0 = t) : atP l t = -1 := atP_not (fun x hx e => h ⟨x, hx, e⟩)
theorem rdiff_f {a b : List S52} (ga : GoodP a) (gb : GoodP b) : E (fun k => tattleref15_Diff.f k a b) (diffL a b) := by
  have la := ga.len
  have lb := gb.len
  obtain ⟨ns, hr, hs, hm, hlen⟩ := names_f a b [] (by omega) (by omega) (by simp)
  unfold tattleref15_Diff.f
  refine E.bind hr ?_
  have h := rdiff_loop a b (by omega) (by omega) ns hlen ns.length 0 [] (by omega) (by simp)
  obtain ⟨sd, hd⟩ := diff_spec ga.sort gb.sort ga.nn gb.nn
  have e : ns.flatMap (dOne a b) = diffL a b := by
    refine sorted_ext (f := fun x : S36 => x.f0) (flat_task (f := fun x : S36 => x.f0) (fun t x hx => ?_) (fun t => ?_) ns hs) sd (fun m => ?_)
    · unfold dOne at hx; split at hx <;> simp at hx; rw [hx]
    · unfold dOne; split <;> simp
    · rw [List.mem_flatMap, hd]
      constructor
      · rintro ⟨t, _, hx⟩
        unfold dOne at hx
        split at hx
        · simp at hx
        · rename_i c
          rw [List.mem_singleton] at hx
          subst hx
          exact ⟨rfl, rfl, c⟩
      · rintro ⟨h1, h2, h3⟩
        refine ⟨m.f0, (hm _).2 ?_, ?_⟩
        · by_cases c : ∃ x ∈ a, x.f0 = m.f0
          · exact .inl c
          · by_cases c2 : ∃ x ∈ b, x.f0 = m.f0
            · exact .inr (.inl c2)
            · exact absurd (by rw [h1, h2, atP_none_or c, atP_none_or c2]) h3
        · unfold dOne
          rw [if_neg (by rw [← h1, ← h2]; exact h3), ← h1, ← h2]
          simp
  simp only [List.drop_zero, List.nil_append] at h
  rw [e] at h
  exact h
/-- The moves of a task, from the j-th on. -/
def scan (at_ : Int) (t : ByteArray) : List S36 → Int → Option Int
  | [], go => some go
  | m :: l, go => if m.f0 = t then (if m.f1 = at_ then scan at_ t l m.f2 else none) else scan at_ t l go
theorem scan_none {v : Int} {t : ByteArray} : ∀ {l : List S36} {go : Int}, fnd l t = none → scan v t l go = some go
  | [], _, _ => rfl
  | m :: l, go, h => by
    by_cases c : m.f0 = t
    · rw [fnd, if_pos c] at h; cases h
    · rw [fnd, if_neg c] at h
      rw [scan, if_neg c]; exact scan_none h
theorem scan_some {v : Int} {t : ByteArray} : ∀ {l : List S36} {go : Int} {m : S36}, SortM l → fnd l t = some m → scan v t l go = if m.f1 = v then some m.f2 else none
  | [], _, _, _, h => by cases h
  | x :: l, go, m, hs, h => by
    unfold SortM at hs
    rw [List.pairwise_cons] at hs
    by_cases c : x.f0 = t
    · rw [fnd, if_pos c] at h
      cases h
      rw [scan, if_pos c]
      by_cases c2 : x.f1 = v
      · rw [if_pos c2, if_pos c2]
        refine scan_none ?_
        cases hf : fnd l t with
        | none => rfl
        | some y =>
          obtain ⟨h1, h2⟩ := fnd_ex hf
          exact absurd (by rw [c, h2]) (lt_ne (hs.1 y h1))
      · rw [if_neg c2, if_neg c2]
    · rw [fnd, if_neg c] at h
      rw [scan, if_neg c]
      exact scan_some hs.2 h
theorem rapply_l1 (a : List S52) (l : List S36) (ha : a.length < 1000000) (hl : l.length < 1000000) (out : List S52) (ns : List ByteArray) (i : Nat) (hi : i < ns.length) (hin : i < 4000000) (ho : out.length ≤ i) (r : List S52 × Int)
    (hbad : scan (atP a ns[i]) ns[i] l (atP a ns[i]) = none → r = ([], 8)) : ∀ (d j : Nat) (go : Int), j + d = l.length → (scan (atP a ns[i]) ns[i] (l.drop j) go = scan (atP a ns[i]) ns[i] l (atP a ns[i])) →
      (∀ v, scan (atP a ns[i]) ns[i] l (atP a ns[i]) = some v → E (fun k => tattleref15_Apply.l0 k a l (if v ≥ 0 then out ++ [⟨ns[i], v⟩] else out) ns ((i : Int) + 1)) r) →
      E (fun k => tattleref15_Apply.l1 k a l out ns (i : Int) go (j : Int)) r
  | 0, j, go, h, hsc, hgo => by
    rw [List.drop_of_length_le (by omega)] at hsc
    have := hgo go hsc.symm
    refine E.succ ?_
    simp only [tattleref15_Apply.l1, rdOf_n _ hi, wrap_n (i := (i : Int)) (by omega) (by omega)]
    refine E.neg (by omega) ?_
    by_cases c : go ≥ 0
    · rw [if_pos c] at this
      exact E.pos c (E.pos (by omega) (E.pos (by omega) (E.pos (by omega) this)))
    · rw [if_neg c] at this
      exact E.neg c this
  | d + 1, j, go, h, hsc, hgo => by
    have hj : j < l.length := by omega
    rw [drop_at hj, scan] at hsc
    refine E.succ ?_
    simp only [tattleref15_Apply.l1, rdOf_n _ hi, rd36 l j hj, wrap_n (i := (j : Int)) (by omega) (by omega), ba_iff]
    refine E.pos (by omega) (E.pos (by omega) (E.pos (by omega) (E.pos (by omega) ?_)))
    by_cases c : l[j].f0 = ns[i]
    · rw [if_pos c] at hsc
      refine E.pos c (E.bind (rat_f a _ ha) ?_)
      by_cases c2 : l[j].f1 = atP a ns[i]
      · rw [if_pos c2] at hsc
        exact E.pos c2 (rapply_l1 a l ha hl out ns i hi hin ho r hbad d (j + 1) _ (by omega) hsc hgo)
      · rw [if_neg c2] at hsc
        refine E.neg c2 ?_
        rw [hbad hsc.symm]
        exact E.pure _
    · rw [if_neg c] at hsc
      exact E.neg c (rapply_l1 a l ha hl out ns i hi hin ho r hbad d (j + 1) _ (by omega) hsc hgo)
def aOne (a : List S52) (l : List S36) (t : ByteArray) : List S52 := match scan (atP a t) t l (atP a t) with
  | some v => if v ≥ 0 then [⟨t, v⟩] else []
  | none => []
theorem rapply_l0 (a : List S52) (l : List S36) (ha : a.length < 1000000) (hl : l.length < 1000000) (ns : List ByteArray) (hn : ns.length < 4000000) : ∀ (d i : Nat) (out : List S52), i + d = ns.length → out.length ≤ i →
    ((∀ t ∈ ns.drop i, scan (atP a t) t l (atP a t) ≠ none) → E (fun k => tattleref15_Apply.l0 k a l out ns (i : Int)) (if ((out ++ (ns.drop i).flatMap (aOne a l)).length : Int) > 100 then ([], 9) else (out ++ (ns.drop i).flatMap (aOne a l), 0))) ∧
    ((∃ t ∈ ns.drop i, scan (atP a t) t l (atP a t) = none) → E (fun k => tattleref15_Apply.l0 k a l out ns (i : Int)) ([], 8))
  | 0, i, out, h, ho => by
    refine ⟨fun _ => ?_, fun ⟨t, ht, _⟩ => ?_⟩
    · refine E.succ ?_
      simp only [tattleref15_Apply.l0]
      refine E.neg (by omega) ?_
      rw [List.drop_of_length_le (by omega), List.flatMap_nil, List.append_nil]
      by_cases c : (out.length : Int) > 100
      · refine E.pos c ?_
        rw [if_pos c]; exact E.pure _
      · refine E.neg c ?_
        rw [if_neg c]; exact E.pure _
    · rw [List.drop_of_length_le (by omega)] at ht
      simp at ht
  | d + 1, i, out, h, ho => by
    have hi : i < ns.length := by omega
    rw [drop_at hi]
    have start : ∀ r : List S52 × Int, (scan (atP a ns[i]) ns[i] l (atP a ns[i]) = none → r = ([], 8)) → (∀ v, scan (atP a ns[i]) ns[i] l (atP a ns[i]) = some v → E (fun k => tattleref15_Apply.l0 k a l (if v ≥ 0 then out ++ [⟨ns[i], v⟩] else out) ns ((i : Int) + 1)) r) → E (fun k => tattleref15_Apply.l0 k a l out ns (i : Int)) r := fun r h1 h2 => by
      refine E.succ ?_
      simp only [tattleref15_Apply.l0, rdOf_n _ hi]
      refine E.pos (by omega) (E.pos (by omega) (E.bind (rat_f a _ ha) ?_))
      exact rapply_l1 a l ha hl out ns i hi (by omega) ho r h1 l.length 0 _ (by omega) (by simp) h2
    have nxt : ∀ v, (if v ≥ 0 then out ++ [(⟨ns[i], v⟩ : S52)] else out).length ≤ i + 1 := by
      intro v
      by_cases c : v ≥ 0
      · rw [if_pos c, List.length_append, List.length_singleton]; omega
      · rw [if_neg c]; omega
    refine ⟨fun hg => ?_, fun hb => ?_⟩
    · refine start _ (fun hno => absurd hno (hg _ (List.mem_cons_self ..))) (fun v hv => ?_)
      have ih := (rapply_l0 a l ha hl ns hn d (i + 1) (if v ≥ 0 then out ++ [⟨ns[i], v⟩] else out) (by omega) (nxt v)).1 (fun t ht => hg t (List.mem_cons_of_mem _ ht))
      have e : aOne a l ns[i] = if v ≥ 0 then [⟨ns[i], v⟩] else [] := by unfold aOne; rw [hv]
      have e2 : (if v ≥ 0 then out ++ [(⟨ns[i], v⟩ : S52)] else out) = out ++ aOne a l ns[i] := by rw [e]; split <;> simp
      rw [e2, List.append_assoc, ← List.flatMap_cons] at ih
      rw [e2]
      exact ih
    · refine start _ (fun _ => rfl) (fun v hv => ?_)
      obtain ⟨t, ht, hx⟩ := hb
      rcases List.mem_cons.1 ht with e | ht
      · subst e; rw [hv] at hx; cases hx
      · exact (rapply_l0 a l ha hl ns hn d (i + 1) _ (by omega) (nxt v)).2 ⟨t, ht, hx⟩
theorem rapply_f {a : List S52} {l : List S36} (ga : GoodP a) (gl : GoodM l) : E (fun k => tattleref15_Apply.f k a l) (applyV a l) := by
  have la := ga.len
  have ll := gl.len
  obtain ⟨ns, hr, hs, hm, hlen⟩ := names_f a [] l (by omega) (by simp) (by omega)
  unfold tattleref15_Apply.f
  refine E.bind hr ?_
  obtain ⟨h1, h2⟩ := rapply_l0 a l (by omega) (by omega) ns hlen ns.length 0 [] (by omega) (by simp)
  simp only [List.drop_zero, List.nil_append] at h1 h2
  by_cases hg : ∀ x ∈ l, x.f1 = atP a x.f0
  · have hsc : ∀ t, scan (atP a t) t l (atP a t) = some (target a l t) := fun t => by
      cases h : fnd l t with
      | none => rw [scan_none h, target_none h]
      | some m =>
        obtain ⟨q1, q2⟩ := fnd_ex h
        rw [scan_some gl.sort h, target_some h, if_pos (by rw [hg m q1, q2])]
    have h1' := h1 (fun t _ => by rw [hsc]; exact fun h => by cases h)
    obtain ⟨o, so, no, ht, hb, e1, e2⟩ := applyV_good ga gl hg
    have e : ns.flatMap (aOne a l) = o := by
      refine sorted_ext (f := fun x : S52 => x.f0) (flat_task (f := fun x : S52 => x.f0) (fun t x hx => ?_) (fun t => ?_) ns hs) so (fun p => ?_)
      · unfold aOne at hx; rw [hsc] at hx; simp only at hx; split at hx <;> simp at hx; rw [hx]
      · unfold aOne; rw [hsc]; simp only; split <;> simp
      · rw [List.mem_flatMap, mem_atP so no, ht]
        constructor
        · rintro ⟨t, _, hx⟩
          unfold aOne at hx
          rw [hsc] at hx
          simp only at hx
          split at hx
          · rename_i c
            rw [List.mem_singleton] at hx
            subst hx
            exact ⟨rfl, by show target a l t ≠ -1; omega⟩
          · simp at hx
        · rintro ⟨q1, q2⟩
          have hr : 0 ≤ target a l p.f0 := by
            have := (mem_atP so no p).2 ⟨by rw [ht]; exact q1, q2⟩
            have := no p this
            omega
          refine ⟨p.f0, (hm _).2 ?_, ?_⟩
          · cases h : fnd l p.f0 with
            | some m => exact .inr (.inr ⟨m, (fnd_ex h).1, (fnd_ex h).2⟩)
            | none =>
              rw [target_none h] at q1
              by_cases c : ∃ x ∈ a, x.f0 = p.f0
              · exact .inl c
              · rw [atP_none_or c] at q1; exact absurd q1 q2
          · unfold aOne
            rw [hsc]
            simp only
            rw [if_pos (by omega), List.mem_singleton]
            cases p
            simp only at q1
            rw [q1]
    rw [e] at h1'
    rw [e2]
    by_cases c : o.length > 100
    · rw [if_pos c]; rw [if_pos (by omega)] at h1'; exact h1'
    · rw [if_neg c]; rw [if_neg (by omega)] at h1'; exact h1'
  · have : ∃ x, x ∈ l ∧ x.f1 ≠ atP a x.f0 := Classical.byContradiction fun hn => hg (fun x hx => Classical.byContradiction fun hc => hn ⟨x, hx, hc⟩)
    obtain ⟨x, hx, hb⟩ := this
    rw [applyV_bad ga gl hx hb]
    refine h2 ⟨x.f0, (hm _).2 (.inr (.inr ⟨x, hx, rfl⟩)), ?_⟩
    rw [scan_some gl.sort (fnd_mem gl.sort hx), if_neg hb]
end Go.Proofs.Ythbebfjoennmfaa.PPlanTells
