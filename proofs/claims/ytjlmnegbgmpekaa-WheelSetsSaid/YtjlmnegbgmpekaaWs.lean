/- A part of the proofs of the seat Ytjlmnegbgmpekaa: the contracts of functions, each proved out of its code. -/
import Derived.Test.YtjlmnegbgmpekaaVh
namespace Go.Vc
set_option linter.unusedSimpArgs false
set_option linter.unusedVariables false

/-! ## Timers, without the program -/
structure Tm where
  at_ : Int
  id : Int
  deriving DecidableEq
instance : Inhabited Tm := ⟨⟨0, 0⟩⟩
/-- the order -/
def ltT (a b : Tm) : Bool := decide (a.at_ < b.at_) || decide (a.at_ = b.at_) && decide (a.id < b.id)
theorem ltT_iff {a b : Tm} : ltT a b = true ↔ a.at_ < b.at_ ∨ a.at_ = b.at_ ∧ a.id < b.id := by simp [ltT]
theorem ltT_no {a b : Tm} : ltT a b = false ↔ ¬ (a.at_ < b.at_ ∨ a.at_ = b.at_ ∧ a.id < b.id) := by rw [← ltT_iff]; simp
theorem ltT_tot {a b : Tm} (h : ltT a b = false) (h2 : ltT b a = false) : a = b := by
  rw [ltT_no] at h h2
  obtain ⟨x, y⟩ := a; obtain ⟨z, w⟩ := b
  simp only at h h2
  have : x = z := by omega
  subst this
  have : y = w := by omega
  rw [this]
theorem ltT_irr (a : Tm) : ltT a a = false := by rw [ltT_no]; omega
theorem ltT_asym {a b : Tm} (h : ltT a b = true) : ltT b a = false := by rw [ltT_no]; rw [ltT_iff] at h; omega
theorem ltT_tr {a b c : Tm} (h : ltT a b = true) (h2 : ltT b c = true) : ltT a c = true := by rw [ltT_iff] at *; omega
abbrev RisT (l : List Tm) : Prop := l.Pairwise (fun a b => ltT a b = true)
theorem risT_nodup {l : List Tm} (h : RisT l) : l.Nodup := h.imp fun {a b} hab e => by subst e; rw [ltT_irr] at hab; cases hab
theorem risT_ext {l m : List Tm} (h : RisT l) (h2 : RisT m) (hm : ∀ y, y ∈ l ↔ y ∈ m) : l = m := by
  refine List.Perm.eq_of_pairwise (le := fun a b => ltT a b = true) (fun a b _ _ h1 h2 => ?_) h h2 ((List.perm_ext_iff_of_nodup (risT_nodup h) (risT_nodup h2)).2 hm)
  rw [ltT_asym h1] at h2; cases h2
/-- one more, where it belongs -/
def insT : List Tm → Tm → List Tm
  | [], x => [x]
  | a :: l, x => if ltT a x then a :: insT l x else x :: a :: l
theorem insT_mem {x y : Tm} : ∀ {l : List Tm}, y ∈ insT l x ↔ y = x ∨ y ∈ l
  | [] => by simp [insT]
  | a :: l => by
    unfold insT
    split
    · rw [List.mem_cons, insT_mem (l := l), List.mem_cons]
      constructor
      · rintro (h | h | h) <;> simp [h]
      · rintro (h | h | h) <;> simp [h]
    · rw [List.mem_cons]
theorem insT_len {x : Tm} : ∀ (l : List Tm), (insT l x).length = l.length + 1
  | [] => rfl
  | a :: l => by unfold insT; split <;> simp [insT_len l]
theorem insT_ris {x : Tm} : ∀ {l : List Tm}, RisT l → x ∉ l → RisT (insT l x)
  | [], _, _ => by simp [insT]
  | a :: l, h, hx => by
    have h' := List.pairwise_cons.1 h
    unfold insT
    split
    · rename_i h1
      refine List.pairwise_cons.2 ⟨fun y hy => ?_, insT_ris h'.2 fun hm => hx (List.mem_cons_of_mem _ hm)⟩
      rcases insT_mem.1 hy with rfl | hy
      · exact h1
      · exact h'.1 y hy
    · rename_i h1
      have hxa : ltT x a = true := by
        cases hc : ltT x a
        · exact absurd (ltT_tot hc (by simpa using h1)) fun e => hx (by rw [e]; simp)
        · rfl
      refine List.pairwise_cons.2 ⟨fun y hy => ?_, h⟩
      rcases List.mem_cons.1 hy with rfl | hy
      · exact hxa
      · exact ltT_tr hxa (h'.1 y hy)
/-- the document's way -/
theorem insT_ref {x : Tm} : ∀ {l : List Tm}, RisT l → l.filter (fun y => ltT y x) ++ ([x] ++ l.drop (l.filter (fun y => ltT y x)).length) = insT l x
  | [], _ => rfl
  | a :: l, h => by
    have h' := List.pairwise_cons.1 h
    have ih := insT_ref (x := x) h'.2
    unfold insT
    by_cases h1 : ltT a x = true
    · rw [if_pos h1, List.filter_cons, if_pos h1, List.cons_append, List.length_cons, List.drop_succ_cons, ih]
    · rw [if_neg h1, List.filter_cons, if_neg h1]
      have : l.filter (fun y => ltT y x) = [] := List.filter_eq_nil_iff.2 fun y hy hyx => h1 (ltT_tr (h'.1 y hy) hyx)
      rw [this]; rfl
/-- the code's way: all sorted anew -/
theorem insT_sort {x : Tm} {l : List Tm} (h : RisT l) (hx : x ∉ l) : (l ++ [x]).mergeSort (fun a b => !ltT b a) = insT l x := by
  have hp : ((l ++ [x]).mergeSort (fun a b => !ltT b a)).Perm (l ++ [x]) := List.mergeSort_perm _ _
  have hs := List.pairwise_mergeSort (le := fun a b : Tm => !ltT b a) (fun a b c h1 h2 => by
    simp only [Bool.not_eq_true'] at *
    rw [ltT_no] at *; omega) (fun a b => by
    cases h1 : ltT b a <;> cases h2 : ltT a b <;> simp_all
    rw [ltT_asym h1] at h2; cases h2) (l ++ [x])
  refine List.Perm.eq_of_pairwise (le := fun a b => (!ltT b a) = true) (fun a b _ _ h1 h2 => ?_) hs ((insT_ris h hx).imp fun {a b} hab => by simp [ltT_asym hab]) (hp.trans ((List.perm_ext_iff_of_nodup ?_ (risT_nodup (insT_ris h hx))).2 fun y => ?_))
  · simp only [Bool.not_eq_true'] at h1 h2
    exact ltT_tot h2 h1
  · rw [List.nodup_append]
    refine ⟨risT_nodup h, by simp, fun a ha b hb => ?_⟩
    simp only [List.mem_singleton] at hb
    subst hb
    exact fun e => hx (by rw [← e]; exact ha)
  · rw [insT_mem, List.mem_append, List.mem_singleton]
    exact or_comm
/-! ### lists that may be -/
def atB (n : Int) : Bool := decide (0 ≤ n ∧ n ≤ 1099511627775)
def okT (l : List Tm) (i : Nat) : Bool := atB (l.getD i default).at_ && (decide (i = 0) || ltT (l.getD (i - 1) default) (l.getD i default)) && !(l.take i).any (fun y => decide (y.id = (l.getD i default).id))
def checkT (l : List Tm) : Bool := decide (l.length ≤ 120) && (List.range l.length).all (okT l)
theorem checkT_iff (l : List Tm) : checkT l = true ↔ l.length ≤ 120 ∧ ∀ i, i < l.length → okT l i = true := by
  simp [checkT, List.all_eq_true]
abbrev IdsT (l : List Tm) : Prop := l.Pairwise (fun a b => a.id ≠ b.id)
theorem checkT_split {l : List Tm} : checkT l = true ↔ l.length ≤ 120 ∧ (∀ x ∈ l, atB x.at_ = true) ∧ RisT l ∧ IdsT l := by
  rw [checkT_iff]
  refine and_congr Iff.rfl ⟨fun h => ⟨fun x hx => ?_, ?_, ?_⟩, fun h i hi => ?_⟩
  · obtain ⟨i, hi, rfl⟩ := List.getElem_of_mem hx
    have := h i hi
    unfold okT at this
    rw [getD_get hi] at this
    simp only [Bool.and_eq_true] at this
    exact this.1.1
  · have step : ∀ i (h1 : i + 1 < l.length), ltT (l[i]'(by omega)) (l[i + 1]) = true := fun i h1 => by
      have := h (i + 1) h1
      unfold okT at this
      rw [getD_get h1, show i + 1 - 1 = i from rfl, getD_get (show i < l.length by omega)] at this
      simp only [Bool.and_eq_true, Bool.or_eq_true, decide_eq_true_eq] at this
      exact this.1.2.resolve_left (by omega)
    show List.Pairwise _ _
    rw [List.pairwise_iff_getElem]
    intro i j hi hj hij
    obtain ⟨d, rfl⟩ : ∃ d, j = i + 1 + d := ⟨j - i - 1, by omega⟩
    induction d with
    | zero => exact step i hj
    | succ d ih => exact ltT_tr (ih (by omega) (by omega)) (step (i + 1 + d) (by omega))
  · show List.Pairwise _ _
    rw [List.pairwise_iff_getElem]
    intro i j hi hj hij he
    have := h j hj
    unfold okT at this
    rw [getD_get hj] at this
    simp only [Bool.and_eq_true, Bool.not_eq_true', List.any_eq_false, decide_eq_true_eq] at this
    exact this.2 l[i] (by rw [List.mem_take_iff_getElem]; exact ⟨i, by omega, rfl⟩) he
  · unfold okT
    rw [getD_get hi]
    simp only [Bool.and_eq_true, Bool.or_eq_true, decide_eq_true_eq, Bool.not_eq_true', List.any_eq_false]
    refine ⟨⟨h.1 _ (List.getElem_mem hi), ?_⟩, fun y hy he => ?_⟩
    · by_cases h0 : i = 0
      · exact .inl h0
      · right
        rw [getD_get (show i - 1 < l.length by omega)]
        exact List.pairwise_iff_getElem.1 h.2.1 _ _ _ _ (by omega)
    · rw [List.mem_take_iff_getElem] at hy
      obtain ⟨j, hj, rfl⟩ := hy
      exact List.pairwise_iff_getElem.1 h.2.2 j i (by omega) hi (by omega) he
def findT (l : List Tm) (n : Int) : Int := idxA (fun x => decide (x.id = n)) l
theorem findT_lt (l : List Tm) (n : Int) : (findT l n = -1 ∧ ∀ x ∈ l, x.id ≠ n) ∨ ∃ k, ∃ h : k < l.length, findT l n = k ∧ (l[k]).id = n ∧ ∀ j (hj : j < l.length), j < k → (l[j]).id ≠ n := by
  rcases idxA_lt (fun x : Tm => decide (x.id = n)) l with ⟨h1, h2⟩ | ⟨k, h, h1, h2, h3⟩
  · exact .inl ⟨h1, fun x hx => by simpa using h2 x hx⟩
  · exact .inr ⟨k, h, h1, by simpa using h2, fun j hj hji => by simpa using h3 j hj hji⟩
/-- all but the one at a place -/
def woT (l : List Tm) (p : Int) : List Tm := if 0 ≤ p then l.eraseIdx p.toNat else l
theorem woT_snoc {l : List Tm} {i : Nat} {p : Int} (h : i < l.length) : woT (l.take (i + 1)) p = if (i : Int) = p then woT (l.take i) p else woT (l.take i) p ++ [l[i]] := by
  have hl : (l.take i).length = i := by simp; omega
  unfold woT
  rw [take_snoc h]
  by_cases hp : 0 ≤ p
  · rw [if_pos hp, if_pos hp]
    by_cases he : (i : Int) = p
    · rw [if_pos he]
      have e1 : p.toNat = i := by omega
      rw [e1, List.eraseIdx_append_of_length_le (show (l.take i).length ≤ i by omega), hl, Nat.sub_self, List.eraseIdx_cons_zero, List.append_nil, List.eraseIdx_of_length_le (show (l.take i).length ≤ i by omega)]
    · rw [if_neg he]
      by_cases hlt : p.toNat < i
      · rw [List.eraseIdx_append_of_lt_length (by omega)]
      · rw [List.eraseIdx_of_length_le (by simp; omega), List.eraseIdx_of_length_le (by omega)]
  · rw [if_neg hp, if_neg hp, if_neg (by omega)]
theorem woT_le (l : List Tm) (p : Int) : (woT l p).length ≤ l.length := by
  unfold woT; split
  · rw [List.length_eraseIdx]; split <;> omega
  · exact Nat.le_refl _
abbrev offT (l : List Tm) (n : Int) : List Tm := l.filter (fun y => decide (y.id ≠ n))
theorem woT_off {l : List Tm} {n : Int} (h : IdsT l) : woT l (findT l n) = offT l n := by
  rcases findT_lt l n with ⟨h1, h2⟩ | ⟨k, hk, h1, h2, h3⟩
  · rw [h1]
    unfold woT offT
    rw [if_neg (by omega)]
    exact (List.filter_eq_self.2 fun y hy => by simpa using h2 y hy).symm
  · rw [h1]
    unfold woT offT
    rw [if_pos (by omega), show ((k : Int)).toNat = k by omega]
    clear h1
    induction l generalizing k with
    | nil => simp at hk
    | cons a l ih =>
      have h' := List.pairwise_cons.1 h
      cases k with
      | zero =>
        simp only [List.getElem_cons_zero] at h2
        rw [List.eraseIdx_cons_zero, List.filter_cons, if_neg (by simpa using h2)]
        exact (List.filter_eq_self.2 fun y hy => by have := h'.1 y hy; simp; omega).symm
      | succ k =>
        have ha := h3 0 (by simp) (by omega)
        simp only [List.getElem_cons_zero] at ha
        rw [List.eraseIdx_cons_succ, List.filter_cons, if_pos (by simpa using ha), ih h'.2 k (by simpa using hk) (by simpa using h2) (fun j hj hjk => by have := h3 (j + 1) (by simpa using hj) (by omega); simpa using this)]
end Go.Vc
