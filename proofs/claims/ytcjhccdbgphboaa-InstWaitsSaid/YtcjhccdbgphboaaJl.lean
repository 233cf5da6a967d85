/- A part of the proofs of the seat Ytcjhccdbgphboaa: the contracts of functions, each proved out of its code. -/
import Derived.Test.YtcjhccdbgphboaaJe
namespace Go.Vc
open Go.Proofs
set_option linter.unusedSimpArgs false
set_option linter.unusedVariables false

/-! ## 'JoinOnce': what one feed leaves -/
theorem okTo_iff (j : Jn) (l : List Kp) : okTo j l l.length = true ↔ (∀ k ∈ l, fitsK j k = true) ∧ l.Pairwise (fun a b => a.at_ ≤ b.at_ ∧ a.id ≠ b.id) := by
  constructor
  · intro h
    refine ⟨okTo_fits h, ?_⟩
    have hs := at_sorted h
    rw [List.pairwise_iff_getElem] at hs ⊢
    intro i k hi hk hik
    refine ⟨hs i k hi hk hik, fun e => ?_⟩
    have h1 := ((okAt_iff j l k hk).1 (okTo_at h hk)).2.2.2.2.2
    have h2 := any_take (l := l) (q := fun y => decide (y.id = (l.getD k default).id)) hik hi (by rw [getD_get hi, getD_get hk]; simpa using e)
    rw [h1] at h2
    cases h2
  · rintro ⟨h1, h2⟩
    unfold okTo
    rw [List.all_eq_true]
    intro i hi
    have hi : i < l.length := by simpa using hi
    rw [okAt_iff j l i hi]
    have h3 := (fits_iff j _).1 (h1 _ (List.getElem_mem hi))
    rw [List.pairwise_iff_getElem] at h2
    rw [getD_get hi]
    refine ⟨h3.1, h3.2.1, h3.2.2.1, h3.2.2.2, fun h0 => ?_, ?_⟩
    · have hp : i - 1 < l.length := by omega
      rw [getD_get hp]
      exact (h2 (i - 1) i hp hi (by omega)).1
    · rw [List.any_eq_false]
      intro y hy
      obtain ⟨k, hk, rfl⟩ := List.mem_iff_getElem.1 hy
      have hk' : k < i := by simp at hk; omega
      have := (h2 k i (by omega) hi hk').2
      simpa using this

theorem pick_sub (q : Nat → Bool) (ws : List Kp) : ∀ i, i ≤ ws.length → (pickK q ws i).Sublist (ws.take i)
  | 0, _ => by simp [pickK]
  | i + 1, h => by
    rw [pick_succ, take_snoc (by omega)]
    refine List.Sublist.append (pick_sub q ws i (by omega)) ?_
    split
    · exact List.Sublist.refl _
    · exact List.nil_sublist _
theorem pick_perm (q : Nat → Bool) (ws : List Kp) : ∀ i, i ≤ ws.length → (pickK q ws i ++ pickK (fun k => !q k) ws i).Perm (ws.take i)
  | 0, _ => by simp [pickK]
  | i + 1, h => by
    rw [pick_succ, pick_succ, take_snoc (by omega)]
    have ih := pick_perm q ws i (by omega)
    cases hq : q i with
    | true =>
      simp only [if_true, Bool.not_true, Bool.false_eq_true, if_false, List.append_nil]
      have e1 : (pickK q ws i ++ [ws.getD i default] ++ pickK (fun k => !q k) ws i).Perm (pickK q ws i ++ (pickK (fun k => !q k) ws i ++ [ws.getD i default])) := by
        rw [List.append_assoc]
        exact List.Perm.append_left _ List.perm_append_comm
      refine e1.trans ?_
      rw [← List.append_assoc]
      exact ih.append_right _
    | false =>
      simp only [Bool.false_eq_true, if_false, List.append_nil, Bool.not_false, if_true]
      rw [← List.append_assoc]
      exact ih.append_right _
theorem pick_mem {q : Nat → Bool} {ws : List Kp} {n : Nat} {k : Kp} (h : k ∈ pickK q ws n) : ∃ i, i < n ∧ q i = true ∧ k = ws.getD i default := by
  simp only [pickK, List.mem_map, List.mem_filter, List.mem_range] at h
  obtain ⟨i, ⟨h1, h2⟩, rfl⟩ := h
  exact ⟨i, h1, h2, rfl⟩
theorem pick_length (q : Nat → Bool) (ws : List Kp) (n : Nat) : (pickK q ws n).length = ((List.range n).filter q).length := by simp [pickK]

/-! how many parts there are -/
theorem count_more (a : Nat → Bool) (c : Nat) : ∀ P, ((List.range P).filter fun p => a p || decide (c = p)).length = ((List.range P).filter a).length + if c < P ∧ a c = false then 1 else 0
  | 0 => by simp
  | P + 1 => by
    rw [List.range_succ, List.filter_append, List.filter_append, List.length_append, List.length_append, count_more a c P]
    by_cases h1 : c = P
    · subst h1
      cases h2 : a c <;> simp [h2]
    · have h3 : decide (c = P) = false := by simp [h1]
      cases h2 : a P <;> by_cases h4 : c < P <;> cases h5 : a c <;> simp [h2, h3, h4, h5, show c < P + 1 ↔ c < P by omega] <;> omega
def hasN (l : List Kp) (p : Nat) : Bool := hasPart l (p : Int)
theorem firsts_count (l : List Kp) (P : Nat) (hp : ∀ k ∈ l, 0 ≤ k.part ∧ k.part < P) : ∀ i, i ≤ l.length → (firstsTo l i).length = ((List.range P).filter (hasN (l.take i))).length
  | 0, _ => by
    have : hasN (l.take 0) = fun _ => false := by funext p; simp [hasN, hasPart]
    rw [this, List.filter_eq_nil_iff.2 (by simp)]; simp [firstsTo]
  | i + 1, h => by
    have hi : i < l.length := by omega
    have hk := hp _ (List.getElem_mem hi)
    rw [← getD_get hi] at hk
    have e1 : hasN (l.take (i + 1)) = fun p => hasN (l.take i) p || decide ((l.getD i default).part.toNat = p) := by
      funext p
      simp only [hasN]
      rw [hasPart_succ' hi]
      congr 1
      exact decide_eq_decide.2 (by omega)
    rw [e1, count_more, ← firsts_count l P hp i (by omega)]
    have e2 : hasN (l.take i) (l.getD i default).part.toNat = hasPart (l.take i) (l.getD i default).part := by
      simp only [hasN]
      rw [Int.toNat_of_nonneg hk.1]
    have e3 : (l.getD i default).part.toNat < P := by omega
    rw [e2]
    simp only [firstsTo, List.range_succ, List.filter_append, List.length_append, List.filter_cons, List.filter_nil]
    have e4 : isFirst l i = !hasPart (l.take i) (l.getD i default).part := rfl
    rw [e4]
    cases hh : hasPart (l.take i) (l.getD i default).part <;> simp [e3, -List.getD_eq_getElem?_getD]
theorem filter_all_len {a : Nat → Bool} {P : Nat} : P ≤ ((List.range P).filter a).length ↔ ∀ p, p < P → a p = true := by
  constructor
  · intro h p hp
    have h1 : ((List.range P).filter a).length ≤ (List.range P).length := List.length_filter_le _ _
    have h2 : ((List.range P).filter a).length = (List.range P).length := by simp at h1 ⊢; omega
    have h3 := List.length_filter_eq_length_iff.1 h2
    exact h3 p (by simpa using hp)
  · intro h
    have : (List.range P).filter a = List.range P := List.filter_eq_self.2 fun p hp => h p (by simpa using hp)
    rw [this]; simp

theorem fire_all {j : Jn} (hk : j.kind = sAll) (ws : List Kp) : fireAt j ws = isFirst ws := by
  funext i
  simp [fireAt, hk, ne_AY, ne_AC]
theorem met_all {j : Jn} (hk : j.kind = sAll) {ws : List Kp} {P : Nat} (hP : j.parts = P) (hp : ∀ k ∈ ws, 0 ≤ k.part ∧ k.part < P) : metJ j ws = true ↔ ∀ p, p < P → hasN ws p = true := by
  have e1 : needJ j = P := by simp [needJ, hk, ne_AC, hP]
  have e2 : fireCnt j ws ws.length = (firstsTo ws ws.length).length := by simp only [fireCnt, fire_all hk, firstsTo]
  unfold metJ
  rw [e1, e2, firsts_count ws P hp _ (Nat.le_refl _), List.take_length, ← filter_all_len]
  simp

/-- what waits, and what is new, is of the parts -/
theorem feed_parts {j : Jn} {l : List Kp} {x : Kp} (h : (feedR j l x).err = 0) : checkJ j l = true ∧ fitsK j x = true ∧ earlyK l x.at_ = false ∧ idIn l x.id = false := by
  have c1 : checkJ j l = true := by
    cases h1 : checkJ j l with
    | true => rfl
    | false => simp [feedR, h1, frErr] at h
  have c2 : fitsK j x = true := by
    cases h1 : fitsK j x with
    | true => rfl
    | false => simp [feedR, h1, frErr] at h
  have c3 : earlyK l x.at_ = false := by
    cases h1 : earlyK l x.at_ with
    | false => rfl
    | true => simp [feedR, c1, c2, h1, frErr] at h
  have c4 : idIn l x.id = false := by
    cases h1 : idIn l x.id with
    | false => rfl
    | true => simp [feedR, c1, c2, c3, h1, frErr] at h
  exact ⟨c1, c2, c3, c4⟩
theorem feed_two {j : Jn} {l : List Kp} {x : Kp} (h : (feedR j l x).err = 0) :
    (feedR j l x).over = l.take (nOver j x.at_ l) ∧
    ((metJ j (waitsJ j l x) = true ∧ (feedR j l x).left = pickK (fun i => !fireAt j (waitsJ j l x) i) (waitsJ j l x) (waitsJ j l x).length ∧ (feedR j l x).fired = pickK (fireAt j (waitsJ j l x)) (waitsJ j l x) (waitsJ j l x).length) ∨
     (metJ j (waitsJ j l x) = false ∧ (waitsJ j l x).length < 30 ∧ (feedR j l x).left = waitsJ j l x ∧ (feedR j l x).fired = [])) := by
  obtain ⟨c1, c2, c3, c4⟩ := feed_parts h
  cases hm : metJ j (waitsJ j l x) with
  | true => simp [feedR, c1, c2, c3, c4, hm]
  | false =>
    by_cases h30 : 30 ≤ (waitsJ j l x).length
    · simp [feedR, c1, c2, c3, c4, hm, h30, frErr] at h
    · simp [feedR, c1, c2, c3, c4, hm, h30]; omega
theorem feed_perm {j : Jn} {l : List Kp} {x : Kp} (h : (feedR j l x).err = 0) : (l ++ [x]).Perm ((feedR j l x).over ++ ((feedR j l x).fired ++ (feedR j l x).left)) := by
  obtain ⟨ho, hr⟩ := feed_two h
  have e1 : l ++ [x] = l.take (nOver j x.at_ l) ++ waitsJ j l x := by
    unfold waitsJ
    rw [← List.append_assoc, List.take_append_drop]
  rw [e1, ho]
  refine List.Perm.append_left _ ?_
  rcases hr with ⟨_, h1, h2⟩ | ⟨_, _, h1, h2⟩
  · rw [h1, h2]
    have := pick_perm (fireAt j (waitsJ j l x)) (waitsJ j l x) _ (Nat.le_refl _)
    rw [List.take_length] at this
    exact this.symm
  · rw [h1, h2]; simp
theorem waits_wf {j : Jn} {l : List Kp} {x : Kp} (h : (feedR j l x).err = 0) : (∀ k ∈ waitsJ j l x, fitsK j k = true) ∧ (waitsJ j l x).Pairwise (fun a b => a.at_ ≤ b.at_ ∧ a.id ≠ b.id) := by
  obtain ⟨c1, c2, c3, c4⟩ := feed_parts h
  obtain ⟨g1, g2⟩ := (okTo_iff j l).1 (checkJ_parts c1).2.2.1
  unfold waitsJ
  refine ⟨fun k hk => ?_, ?_⟩
  · rcases List.mem_append.1 hk with hk | hk
    · exact g1 k (List.mem_of_mem_drop hk)
    · simp only [List.mem_singleton] at hk; subst hk; exact c2
  · rw [List.pairwise_append]
    refine ⟨g2.sublist (List.drop_sublist _ _), by simp, fun a ha b hb => ?_⟩
    simp only [List.mem_singleton] at hb
    subst hb
    have ha' := List.mem_of_mem_drop ha
    refine ⟨?_, fun e => ?_⟩
    · obtain ⟨i, hi, rfl⟩ := List.mem_iff_getElem.1 ha'
      rw [List.pairwise_iff_getElem] at g2
      have h0 : 0 < l.length := by omega
      have hlast : ¬ b.at_ < (l.getD (l.length - 1) default).at_ := by
        intro hh
        simp [earlyK, h0, -List.getD_eq_getElem?_getD] at c3
        omega
      rw [getD_get (by omega)] at hlast
      by_cases hie : i = l.length - 1
      · subst hie; omega
      · have := (g2 i (l.length - 1) hi (by omega) (by omega)).1
        omega
    · have : idIn l b.id = true := by
        unfold idIn
        rw [List.any_eq_true]
        exact ⟨a, ha', by simpa using e⟩
      rw [c4] at this; cases this
theorem fired_young {j : Jn} {l : List Kp} {x : Kp} (h : (feedR j l x).err = 0) : ∀ k ∈ (feedR j l x).fired, ¬ k.at_ + j.window < x.at_ := by
  obtain ⟨c1, c2, c3, c4⟩ := feed_parts h
  have hw := mayJ_win (checkJ_parts c1).1
  have hall : ∀ k ∈ waitsJ j l x, ¬ k.at_ + j.window < x.at_ := by
    intro k hk
    unfold waitsJ at hk
    rcases List.mem_append.1 hk with hk | hk
    · have := (over_split (checkJ_parts c1).2.2.1 x.at_).2
      rw [← this] at hk
      have := (List.mem_filter.1 hk).2
      simpa [isOver] using this
    · simp only [List.mem_singleton] at hk; subst hk; omega
  intro k hk
  rcases (feed_two h).2 with ⟨_, _, h2⟩ | ⟨_, _, _, h2⟩
  · rw [h2] at hk
    obtain ⟨i, hi, _, rfl⟩ := pick_mem hk
    refine hall _ ?_
    rw [getD_get hi]; exact List.getElem_mem hi
  · rw [h2] at hk; cases hk

theorem check_unmet {j : Jn} {l : List Kp} (h : checkJ j l = true) : metJ j l = false := by
  obtain ⟨h1, _, _, h4⟩ := checkJ_parts h
  have := (met_places j l h1).1 h4
  simp [metJ, this]
theorem need_pos {j : Jn} (hm : mayJ j = true) : 1 ≤ needJ j := by
  rcases mayKinds hm with ⟨h, h1⟩ | h | ⟨h, h1, _⟩ <;> simp [needJ, h, ne_AC, ne_YC, ne_AY.symm] <;> omega
theorem fire_any {j : Jn} (hk : j.kind = sAny) (ws : List Kp) : fireAt j ws = fun i => decide (i = 0) := by
  funext i
  simp [fireAt, hk, ne_AY.symm, ne_YC]
theorem fire_count {j : Jn} (hk : j.kind = sCount) (ws : List Kp) : fireAt j ws = fun i : Nat => decide ((i : Int) < j.need) := by
  funext i
  simp [fireAt, hk, ne_AC.symm, ne_YC.symm]
theorem any_cnt {j : Jn} (hk : j.kind = sAny) (ws : List Kp) : fireCnt j ws ws.length = min ws.length 1 := by
  unfold fireCnt
  rw [fire_any hk, ← cnt_lt ws.length 1]
  congr 2
  funext i
  exact decide_eq_decide.2 (by omega)
theorem pick_none {q : Nat → Bool} {ws : List Kp} {n : Nat} (h : ∀ i, i < n → q i = false) : pickK q ws n = [] := by
  have : (List.range n).filter q = [] := List.filter_eq_nil_iff.2 fun i hi => by rw [h i (by simpa using hi)]; simp
  simp [pickK, this]
theorem left_unmet {j : Jn} {l : List Kp} {x : Kp} (h : (feedR j l x).err = 0) : metJ j (feedR j l x).left = false := by
  obtain ⟨c1, c2, c3, c4⟩ := feed_parts h
  obtain ⟨w1, w2⟩ := waits_wf h
  have hm := (checkJ_parts c1).1
  have hu := check_unmet c1
  rcases (feed_two h).2 with ⟨g1, g2, _⟩ | ⟨g1, _, g2, _⟩
  · rw [g2]
    rcases mayKinds hm with ⟨hk, h1⟩ | hk | ⟨hk, h1, _⟩
    · obtain ⟨P, hP⟩ : ∃ P : Nat, j.parts = P := ⟨j.parts.toNat, by omega⟩
      have pr : ∀ {k : Kp}, fitsK j k = true → 0 ≤ k.part ∧ k.part < P := fun hf => by
        have := (fits_iff j _).1 hf
        omega
      have pl : ∀ k ∈ l, 0 ≤ k.part ∧ k.part < P := fun k hk' => pr (((okTo_iff j l).1 (checkJ_parts c1).2.2.1).1 k hk')
      have pw : ∀ k ∈ waitsJ j l x, 0 ≤ k.part ∧ k.part < P := fun k hk' => pr (w1 k hk')
      have sub : ∀ k ∈ pickK (fun i => !fireAt j (waitsJ j l x) i) (waitsJ j l x) (waitsJ j l x).length, k ∈ waitsJ j l x := fun k hk' => by
        obtain ⟨i, hi, _, rfl⟩ := pick_mem hk'
        rw [getD_get hi]; exact List.getElem_mem hi
      have hex : ∃ p, p < P ∧ hasN l p = false := by
        apply Classical.byContradiction
        intro hne
        have : metJ j l = true := (met_all hk hP pl).2 fun p hp => by
          cases hh : hasN l p with
          | true => rfl
          | false => exact absurd ⟨p, hp, hh⟩ hne
        rw [hu] at this; cases this
      obtain ⟨p, hp, hno⟩ := hex
      cases hmm : metJ j (pickK (fun i => !fireAt j (waitsJ j l x) i) (waitsJ j l x) (waitsJ j l x).length) with
      | false => rfl
      | true =>
        exfalso
        have h2 := (met_all hk hP fun k hk' => pw k (sub k hk')).1 hmm p hp
        simp only [hasN, hasPart, List.any_eq_true, decide_eq_true_eq] at h2
        obtain ⟨k, hk1, hk2⟩ := h2
        obtain ⟨i, hi, hq, rfl⟩ := pick_mem hk1
        have hnol : ∀ y ∈ l, y.part ≠ (p : Int) := fun y hy e => by
          have : hasN l p = true := by
            simp only [hasN, hasPart, List.any_eq_true, decide_eq_true_eq]
            exact ⟨y, hy, e⟩
          rw [hno] at this; cases this
        have hwl : (waitsJ j l x).length = (l.drop (nOver j x.at_ l)).length + 1 := by simp [waitsJ]
        by_cases hil : i < (l.drop (nOver j x.at_ l)).length
        · have e1 : (waitsJ j l x).getD i default = (l.drop (nOver j x.at_ l)).getD i default := by
            unfold waitsJ; exact app_getD_left hil
          rw [e1, getD_get hil] at hk2
          exact hnol _ (List.mem_of_mem_drop (List.getElem_mem hil)) hk2
        · have hie : i = (l.drop (nOver j x.at_ l)).length := by omega
          rw [fire_all hk] at hq
          have e2 : (waitsJ j l x).take i = l.drop (nOver j x.at_ l) := by
            unfold waitsJ; rw [hie]; simp
          have e3 : isFirst (waitsJ j l x) i = true := by
            unfold isFirst
            rw [e2, hk2]
            simp only [Bool.not_eq_true', hasPart, List.any_eq_false, decide_eq_true_eq]
            exact fun y hy => hnol y (List.mem_of_mem_drop hy)
          rw [e3] at hq; cases hq
    · have hl0 : l.length = 0 := by
        have := any_cnt hk l
        simp [metJ, needJ, hk, ne_YC, ne_AY.symm, this] at hu
        omega
      have hwl : (waitsJ j l x).length = 1 := by simp [waitsJ]; omega
      rw [pick_none (fun i hi => by rw [fire_any hk]; simp; omega)]
      have := any_cnt hk []
      simp only [List.length_nil] at this
      simp [metJ, needJ, hk, ne_YC, ne_AY.symm, this]
    · have hl0 : (l.length : Int) < j.need := by
        have := fireCnt_count hk l
        simp [metJ, needJ, hk, this] at hu
        omega
      have hwl : (waitsJ j l x).length ≤ l.length + 1 := by simp [waitsJ]
      rw [pick_none (fun i hi => by rw [fire_count hk]; simp; omega)]
      have := fireCnt_count hk []
      simp only [List.length_nil] at this
      simp [metJ, needJ, hk, this]; omega
  · rw [g2]; exact g1
theorem fired_len {j : Jn} {l : List Kp} {x : Kp} (h : (feedR j l x).err = 0) (hm : metJ j (waitsJ j l x) = true) : (feedR j l x).fired.length = fireCnt j (waitsJ j l x) (waitsJ j l x).length ∧ needJ j ≤ (fireCnt j (waitsJ j l x) (waitsJ j l x).length : Int) := by
  rcases (feed_two h).2 with ⟨_, _, g2⟩ | ⟨g1, _, _, _⟩
  · rw [g2, pick_length]
    exact ⟨rfl, by simpa [metJ] using hm⟩
  · rw [hm] at g1; cases g1
theorem feed_check {j : Jn} {l : List Kp} {x : Kp} (h : (feedR j l x).err = 0) : checkJ j (feedR j l x).left = true := by
  obtain ⟨c1, c2, c3, c4⟩ := feed_parts h
  obtain ⟨w1, w2⟩ := waits_wf h
  obtain ⟨m1, m2, m3, m4⟩ := checkJ_parts c1
  have hu := left_unmet h
  have hsub : (feedR j l x).left.Sublist (waitsJ j l x) := by
    rcases (feed_two h).2 with ⟨_, g2, _⟩ | ⟨_, _, g2, _⟩
    · rw [g2]
      have := pick_sub (fun i => !fireAt j (waitsJ j l x) i) (waitsJ j l x) _ (Nat.le_refl _)
      rwa [List.take_length] at this
    · rw [g2]; exact List.Sublist.refl _
  have hlen : (feedR j l x).left.length < 30 := by
    rcases (feed_two h).2 with ⟨g1, g2, g3⟩ | ⟨_, g1, g2, _⟩
    · have h1 := (feed_perm h).length_eq
      obtain ⟨h2, h3⟩ := fired_len h g1
      have h4 := need_pos m1
      simp only [List.length_append, List.length_singleton] at h1
      omega
    · rw [g2]; exact g1
  have hok : okTo j (feedR j l x).left (feedR j l x).left.length = true := (okTo_iff j _).2 ⟨fun k hk => w1 k (hsub.subset hk), w2.sublist hsub⟩
  have hpl : places j (feedR j l x).left = [] := (met_places j _ m1).2 (by simpa [metJ] using hu)
  simp [checkJ, m1, hlen, hok, hpl]
theorem fired_ok {j : Jn} {l : List Kp} {x : Kp} (h : (feedR j l x).err = 0) (hn : (feedR j l x).fired ≠ []) :
    (j.kind = sAll → ((feedR j l x).fired.length : Int) = j.parts ∧ ((feedR j l x).fired.map (·.part)).Nodup) ∧ (j.kind = sAny → (feedR j l x).fired.length = 1) ∧ (j.kind = sCount → ((feedR j l x).fired.length : Int) = j.need) := by
  obtain ⟨c1, c2, c3, c4⟩ := feed_parts h
  obtain ⟨w1, w2⟩ := waits_wf h
  obtain ⟨m1, m2, m3, m4⟩ := checkJ_parts c1
  have hm : metJ j (waitsJ j l x) = true := by
    rcases (feed_two h).2 with ⟨g1, _, _⟩ | ⟨_, _, _, g2⟩
    · exact g1
    · exact absurd g2 hn
  obtain ⟨f1, f2⟩ := fired_len h hm
  refine ⟨fun hk => ⟨?_, ?_⟩, fun hk => ?_, fun hk => ?_⟩
  · have h1 : 1 ≤ j.parts := by
      have := need_pos m1
      simpa [needJ, hk, ne_AC] using this
    obtain ⟨P, hP⟩ : ∃ P : Nat, j.parts = P := ⟨j.parts.toNat, by omega⟩
    have pw : ∀ k ∈ waitsJ j l x, 0 ≤ k.part ∧ k.part < P := fun k hk' => by
      have := (fits_iff j _).1 (w1 k hk')
      omega
    have e1 : fireCnt j (waitsJ j l x) (waitsJ j l x).length = (firstsTo (waitsJ j l x) (waitsJ j l x).length).length := by simp only [fireCnt, fire_all hk, firstsTo]
    have e2 := firsts_count _ P pw _ (Nat.le_refl _)
    have e3 : ((List.range P).filter (hasN ((waitsJ j l x).take (waitsJ j l x).length))).length ≤ (List.range P).length := List.length_filter_le _ _
    simp only [List.length_range] at e3
    have e4 : needJ j = P := by simp [needJ, hk, ne_AC, hP]
    omega
  · rcases (feed_two h).2 with ⟨_, _, g2⟩ | ⟨_, _, _, g2⟩
    · rw [g2, fire_all hk]
      unfold pickK
      rw [List.map_map]
      unfold List.Nodup
      rw [List.pairwise_map]
      refine ((List.pairwise_lt_range (n := (waitsJ j l x).length)).filter (isFirst (waitsJ j l x))).imp_of_mem ?_
      intro a b ha hb hab
      simp only [List.mem_filter, List.mem_range] at ha hb
      intro e
      simp only [Function.comp_apply] at e
      have h2 := hb.2
      unfold isFirst at h2
      simp only [Bool.not_eq_true'] at h2
      have h3 := any_take (l := waitsJ j l x) (q := fun y => decide (y.part = ((waitsJ j l x).getD b default).part)) hab ha.1 (by simpa using e)
      unfold hasPart at h2
      rw [h3] at h2; cases h2
    · exact absurd g2 hn
  · have h1 := any_cnt hk (waitsJ j l x)
    have h2 : needJ j = 1 := by simp [needJ, hk, ne_YC, ne_AY.symm]
    omega
  · have h1 := fireCnt_count hk (waitsJ j l x)
    have h2 : needJ j = j.need := by simp [needJ, hk]
    have h3 := need_pos m1
    omega
end Go.Vc

namespace Go.Vc
open Go.Proofs
set_option linter.unusedSimpArgs false
set_option linter.unusedVariables false

/-! ## 'JoinOnce': its maps, and what a round leaves -/
def plc (tk : List Int) (st : Int → Int) : List (PV × PV) := tk.map fun k => (pU k, pI (st k))
def pm (pl : List Int) : List (PV × PV) := pl.map fun p => (pI p, pB true)
theorem lkp_plc {n : Int} {st : Int → Int} : ∀ {tk : List Int}, n ∈ tk → lkp (pU n) (plc tk st) = some (pI (st n))
  | [], h => by cases h
  | k :: tk, h => by
    by_cases hk : n = k
    · subst hk; simp [plc, lkp, keyEq]
    · have h' : n ∈ tk := by simpa [hk] using h
      have := lkp_plc (st := st) h'
      simp only [plc] at this
      simp [plc, lkp, keyEq, hk, this]
theorem like_plc (n : Int) (st : Int → Int) : ∀ tk : List Int, keysLike .int (pU n) (plc tk st)
  | [] => trivial
  | k :: tk => ⟨rfl, like_plc n st tk⟩
theorem mput_in {n v : Int} {st : Int → Int} : ∀ {tk : List Int}, n ∈ tk → tk.Nodup → mput (pU n) (pI v) (plc tk st) = plc tk (fun k => if k = n then v else st k)
  | [], h, _ => by cases h
  | k :: tk, h, hn => by
    simp only [List.nodup_cons] at hn
    by_cases hk : n = k
    · subst hk
      have : tk.map (fun k => (pU k, pI (st k))) = tk.map (fun k => (pU k, pI (if k = n then v else st k))) := by
        apply List.map_congr_left
        intro a ha
        rw [if_neg fun (e : a = n) => hn.1 (e ▸ ha)]
      simp [plc, mput, keyEq, this]
    · have h' : n ∈ tk := by simpa [hk] using h
      have := mput_in (v := v) (st := st) h' hn.2
      simp only [plc] at this
      simp [plc, mput, keyEq, hk, this, Ne.symm hk]
theorem mput_out {n v : Int} {st : Int → Int} : ∀ {tk : List Int}, n ∉ tk → mput (pU n) (pI v) (plc tk st) = plc (tk ++ [n]) (fun k => if k = n then v else st k)
  | [], _ => by simp [plc, mput]
  | k :: tk, h => by
    simp only [List.mem_cons, not_or] at h
    have := mput_out (v := v) (st := st) h.2
    simp only [plc] at this
    simp [plc, mput, keyEq, h.1, Ne.symm h.1, this]
theorem plc_len (tk : List Int) (st : Int → Int) : (plc tk st).length = tk.length := by simp [plc]
theorem plc_get {tk : List Int} {st : Int → Int} {i : Nat} (h : i < tk.length) : (plc tk st).getD i default = (pU (tk.getD i 0), pI (st (tk.getD i 0))) := by
  simp [plc, List.getD_eq_getElem?_getD, h]

def addP (pl : List Int) (p : Int) : List Int := if p ∈ pl then pl else pl ++ [p]
theorem like_pm (n : Int) : ∀ pl : List Int, keysLike .int (pI n) (pm pl)
  | [] => trivial
  | k :: pl => ⟨rfl, like_pm n pl⟩
theorem mput_pm (p : Int) : ∀ pl : List Int, mput (pI p) (pB true) (pm pl) = pm (addP pl p)
  | [] => rfl
  | k :: pl => by
    have ih := mput_pm p pl
    simp only [pm] at ih
    by_cases hk : p = k
    · subst hk; simp [pm, mput, keyEq, addP]
    · simp only [pm, List.map_cons, mput, keyEq, hk, decide_false, Bool.false_eq_true, if_false, ih, addP, List.mem_cons, false_or]
      split <;> simp
theorem pm_len (pl : List Int) : (pm pl).length = pl.length := by simp [pm]
def dd (F : List Kp) : Nat → List Int
  | 0 => []
  | k + 1 => addP (dd F k) (F.getD k default).part
theorem dd_nodup {F : List Kp} (h : (F.map (·.part)).Nodup) : ∀ k, k ≤ F.length → dd F k = (F.take k).map (·.part)
  | 0, _ => by simp [dd]
  | k + 1, hk => by
    have hk' : k < F.length := by omega
    simp only [dd]
    rw [dd_nodup h k (by omega), take_snoc hk', List.map_append]
    unfold addP
    rw [if_neg]
    · rfl
    · intro hm
      obtain ⟨y, hy, he⟩ := List.mem_map.1 hm
      obtain ⟨m, hm', rfl⟩ := List.mem_iff_getElem.1 hy
      have hm2 : m < k := by simp at hm'; omega
      unfold List.Nodup at h
      rw [List.pairwise_map, List.pairwise_iff_getElem] at h
      have := h m k (by omega) hk' hm2
      rw [getD_get hk'] at he
      exact this (by simpa using he)

def updT (st : Int → Int) (F : List Kp) (k : Nat) (v : Int) : Int → Int := fun n => if n ∈ (F.take k).map (·.id) then v else st n
theorem updT_zero (st : Int → Int) (F : List Kp) (v : Int) : updT st F 0 v = st := by funext n; simp [updT]
theorem updT_succ {st : Int → Int} {F : List Kp} {k : Nat} {v : Int} (h : k < F.length) : (fun n => if n = (F.getD k default).id then v else updT st F k v n) = updT st F (k + 1) v := by
  funext n
  simp only [updT]
  rw [take_snoc h]
  by_cases h1 : n = (F.getD k default).id
  · simp [h1, -List.getD_eq_getElem?_getD]
  · simp [h1, -List.getD_eq_getElem?_getD]
theorem updT_at {st : Int → Int} {F : List Kp} {k : Nat} {v : Int} (h : k < F.length) (hn : (F.map (·.id)).Nodup) : updT st F k v (F.getD k default).id = st (F.getD k default).id := by
  simp only [updT]
  rw [if_neg]
  intro hm
  obtain ⟨y, hy, he⟩ := List.mem_map.1 hm
  obtain ⟨m, hm', rfl⟩ := List.mem_iff_getElem.1 hy
  have hm2 : m < k := by simp at hm'; omega
  unfold List.Nodup at hn
  rw [List.pairwise_map, List.pairwise_iff_getElem] at hn
  have := hn m k (by omega) h hm2
  rw [getD_get h] at he
  exact this (by simpa using he)

structure Gd (j : Jn) (i : Nat) (l : List Kp) (tk : List Int) (st : Int → Int) : Prop where
  nd : tk.Nodup
  lt : ∀ k ∈ tk, 0 ≤ k ∧ k < (i : Int)
  perm : (l.map (·.id)).Perm (tk.filter fun k => decide (st k = 1))
  chk : l = [] ∨ checkJ j l = true
theorem Gd.zero (j : Jn) : Gd j 0 [] [] (fun _ => 0) := ⟨by simp, by simp, by simp, .inl rfl⟩
theorem Gd.next {j : Jn} {i : Nat} {l : List Kp} {tk : List Int} {st : Int → Int} (h : Gd j i l tk st) : Gd j (i + 1) l tk st :=
  ⟨h.nd, fun k hk => by have := h.lt k hk; omega, h.perm, h.chk⟩
theorem Gd.len {j : Jn} {i : Nat} {l : List Kp} {tk : List Int} {st : Int → Int} (h : Gd j i l tk st) : l.length < 30 := by
  rcases h.chk with h1 | h1
  · subst h1; simp
  · exact (checkJ_parts h1).2.1
def put1 (st : Int → Int) (i : Int) : Int → Int := fun k => if k = i then 1 else st k
structure Fed (tk : List Int) (s1 : Int → Int) (r : FR) : Prop where
  nd : tk.Nodup
  ndO : (r.over.map (·.id)).Nodup
  ndF : (r.fired.map (·.id)).Nodup
  inO : ∀ k, k < r.over.length → (r.over.getD k default).id ∈ tk ∧ s1 (r.over.getD k default).id = 1
  inF : ∀ k, k < r.fired.length → (r.fired.getD k default).id ∈ tk ∧ updT s1 r.over r.over.length 2 (r.fired.getD k default).id = 1
theorem Gd.fed {j : Jn} {i : Nat} {l : List Kp} {tk : List Int} {st : Int → Int} (h : Gd j i l tk st) {x : Kp} (hx : x.id = i) (hf : (feedR j l x).err = 0) :
    Fed (tk ++ [(i : Int)]) (put1 st i) (feedR j l x) ∧ Gd j (i + 1) (feedR j l x).left (tk ++ [(i : Int)]) (updT (updT (put1 st i) (feedR j l x).over (feedR j l x).over.length 2) (feedR j l x).fired (feedR j l x).fired.length 3) := by
  have hni : (i : Int) ∉ tk := fun hm => by have := h.lt _ hm; omega
  have hnd : (tk ++ [(i : Int)]).Nodup := by
    rw [List.nodup_append]
    refine ⟨h.nd, by simp, fun a ha b hb => ?_⟩
    simp only [List.mem_singleton] at hb
    subst hb
    intro e; subst e; exact hni ha
  have hP := (feed_perm hf).map (·.id)
  simp only [List.map_append, List.map_cons, List.map_nil, hx] at hP
  have e1 : (tk ++ [(i : Int)]).filter (fun k => decide (put1 st i k = 1)) = tk.filter (fun k => decide (st k = 1)) ++ [(i : Int)] := by
    rw [List.filter_append]
    congr 1
    · apply List.filter_congr
      intro k hk
      have : k ≠ (i : Int) := fun e => hni (e ▸ hk)
      simp [put1, this]
    · simp [put1]
  have hA : ((tk ++ [(i : Int)]).filter (fun k => decide (put1 st i k = 1))).Perm ((feedR j l x).over.map (·.id) ++ ((feedR j l x).fired.map (·.id) ++ (feedR j l x).left.map (·.id))) := by
    rw [e1]
    exact (h.perm.symm.append_right _).trans hP
  have hchk := feed_check hf
  generalize feedR j l x = r at *
  have hN : (r.over.map (·.id) ++ (r.fired.map (·.id) ++ r.left.map (·.id))).Nodup := hA.nodup_iff.1 (hnd.filter _)
  rw [List.nodup_append, List.nodup_append] at hN
  obtain ⟨n1, ⟨n2, n3, n4⟩, n5⟩ := hN
  have mem : ∀ a, a ∈ r.over.map (·.id) ++ (r.fired.map (·.id) ++ r.left.map (·.id)) → a ∈ tk ++ [(i : Int)] ∧ put1 st i a = 1 := fun a ha => by
    have := hA.mem_iff.2 ha
    simp only [List.mem_filter, decide_eq_true_eq] at this
    exact this
  have atO : ∀ k, k < r.over.length → (r.over.getD k default).id ∈ r.over.map (·.id) := fun k hk => by
    rw [getD_get hk]; exact List.mem_map_of_mem (List.getElem_mem hk)
  have atF : ∀ k, k < r.fired.length → (r.fired.getD k default).id ∈ r.fired.map (·.id) := fun k hk => by
    rw [getD_get hk]; exact List.mem_map_of_mem (List.getElem_mem hk)
  refine ⟨⟨hnd, n1, n2, fun k hk => mem _ (List.mem_append_left _ (atO k hk)), fun k hk => ⟨(mem _ (List.mem_append_right _ (List.mem_append_left _ (atF k hk)))).1, ?_⟩⟩, ⟨hnd, ?_, ?_, ?_⟩⟩
  · simp only [updT]
    rw [List.take_length, if_neg]
    · exact (mem _ (List.mem_append_right _ (List.mem_append_left _ (atF k hk)))).2
    · intro hm
      exact n5 _ hm _ (List.mem_append_left _ (atF k hk)) rfl
  · intro k hk
    rcases List.mem_append.1 hk with hk | hk
    · have := h.lt k hk; omega
    · simp only [List.mem_singleton] at hk; omega
  · have e2 : (fun k => decide (updT (updT (put1 st i) r.over r.over.length 2) r.fired r.fired.length 3 k = 1)) = fun k => (decide (k ∉ r.over.map (·.id)) && decide (k ∉ r.fired.map (·.id))) && decide (put1 st i k = 1) := by
      funext k
      simp only [updT, List.take_length]
      by_cases g1 : k ∈ r.fired.map (·.id)
      · simp only [g1, if_true]; simp
      · by_cases g2 : k ∈ r.over.map (·.id)
        · simp only [g1, g2, if_true, if_false]; simp
        · simp only [g1, g2, if_false]; simp
    have e3 : (tk ++ [(i : Int)]).filter (fun k => (decide (k ∉ r.over.map (·.id)) && decide (k ∉ r.fired.map (·.id))) && decide (put1 st i k = 1)) = ((tk ++ [(i : Int)]).filter (fun k => decide (put1 st i k = 1))).filter (fun k => decide (k ∉ r.over.map (·.id)) && decide (k ∉ r.fired.map (·.id))) := by
      rw [List.filter_filter]
    rw [e2, e3]
    have h4 := hA.filter (fun k => decide (k ∉ r.over.map (·.id)) && decide (k ∉ r.fired.map (·.id)))
    refine List.Perm.symm (h4.trans ?_)
    have fO : (r.over.map (·.id)).filter (fun k => decide (k ∉ r.over.map (·.id)) && decide (k ∉ r.fired.map (·.id))) = [] := List.filter_eq_nil_iff.2 fun a ha => by simp only [ha, not_true, decide_false, Bool.false_and, Bool.false_eq_true, not_false_eq_true]
    have fF : (r.fired.map (·.id)).filter (fun k => decide (k ∉ r.over.map (·.id)) && decide (k ∉ r.fired.map (·.id))) = [] := List.filter_eq_nil_iff.2 fun a ha => by simp only [ha, not_true, decide_false, Bool.and_false, Bool.false_eq_true, not_false_eq_true]
    have fL : (r.left.map (·.id)).filter (fun k => decide (k ∉ r.over.map (·.id)) && decide (k ∉ r.fired.map (·.id))) = r.left.map (·.id) := List.filter_eq_self.2 fun a ha => by
      have g1 : a ∉ r.over.map (·.id) := fun hm => n5 a hm a (List.mem_append_right _ ha) rfl
      have g2 : a ∉ r.fired.map (·.id) := fun hm => n4 a hm a ha rfl
      simp only [g1, g2, not_false_eq_true, decide_true, Bool.and_true]
    rw [List.filter_append, List.filter_append, fO, fF, fL]
    exact List.Perm.refl _
  · exact .inr hchk

/-! ## the map walked -/
def cnt (st : Int → Int) (tk : List Int) (rem : List Nat) : Nat := (rem.filter fun i => decide (st (tk.getD i 0) = 1)).length
theorem cnt_all (st : Int → Int) (tk : List Int) : cnt st tk (List.range tk.length) = (tk.filter fun k => decide (st k = 1)).length := by
  have e : tk = (List.range tk.length).map fun i => tk.getD i 0 := by
    apply List.ext_getElem
    · simp
    · intro i h1 h2
      simp [List.getD_eq_getElem?_getD, h1]
  unfold cnt
  conv => rhs; rw [e]
  rw [List.filter_map, List.length_map]
  rfl
theorem cnt_erase {st : Int → Int} {tk : List Int} {rem : List Nat} {i : Nat} (h : i ∈ rem) : cnt st tk rem = cnt st tk (rem.erase i) + if st (tk.getD i 0) = 1 then 1 else 0 := by
  unfold cnt
  have h1 := ((List.perm_cons_erase h).filter fun i => decide (st (tk.getD i 0) = 1)).length_eq
  rw [h1]
  by_cases hp : st (tk.getD i 0) = 1 <;> simp [hp, -List.getD_eq_getElem?_getD]
theorem Gd.count {j : Jn} {i : Nat} {l : List Kp} {tk : List Int} {st : Int → Int} (h : Gd j i l tk st) : cnt st tk (List.range tk.length) = l.length := by
  rw [cnt_all, ← h.perm.length_eq, List.length_map]
theorem Gd.inn {j : Jn} {i : Nat} {l : List Kp} {tk : List Int} {st : Int → Int} (h : Gd j i l tk st) {k : Nat} (hk : k < l.length) : (l.getD k default).id ∈ tk ∧ st (l.getD k default).id = 1 := by
  have h1 : (l.getD k default).id ∈ l.map (·.id) := by rw [getD_get hk]; exact List.mem_map_of_mem (List.getElem_mem hk)
  have := h.perm.mem_iff.1 h1
  simp only [List.mem_filter, decide_eq_true_eq] at this
  exact this
theorem fired_at {j : Jn} {l : List Kp} {x : Kp} (h : (feedR j l x).err = 0) : ∀ k ∈ (feedR j l x).fired, 0 ≤ k.at_ ∧ k.at_ ≤ 1099511627775 := by
  intro k hk
  rcases (feed_two h).2 with ⟨_, _, h2⟩ | ⟨_, _, _, h2⟩
  · rw [h2] at hk
    obtain ⟨i, hi, _, rfl⟩ := pick_mem hk
    refine fitsK_at ((waits_wf h).1 _ ?_)
    rw [getD_get hi]; exact List.getElem_mem hi
  · rw [h2] at hk; cases hk
end Go.Vc
