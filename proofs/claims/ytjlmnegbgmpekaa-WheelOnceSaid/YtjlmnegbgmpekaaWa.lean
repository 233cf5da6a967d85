/- A part of the proofs of the seat Ytjlmnegbgmpekaa: the contracts of functions, each proved out of its code. -/
import Derived.Test.YtjlmnegbgmpekaaVf
import Derived.Test.YtjlmnegbgmpekaaProg
import Derived.Test.YtjlmnegbgmpekaaRows
import Derived.Shelf.Strings.Search2
namespace Go.Vc
set_option linter.unusedSimpArgs false
set_option linter.unusedVariables false

/-! ## Timers, without the program -/
structure Tm where
  at_ : Int
  id : Int
  deriving DecidableEq
instance : Inhabited Tm := ⟨⟨0, 0⟩⟩
/-- the order -/
def ltT (a b : Tm) : Bool := decide (a.at_ < b.at_) || decide (a.at_ = b.at_) && decide (a.id < b.id)
theorem ltT_iff {a b : Tm} : ltT a b = true ↔ a.at_ < b.at_ ∨ a.at_ = b.at_ ∧ a.id < b.id := by simp [ltT]
theorem ltT_no {a b : Tm} : ltT a b = false ↔ ¬ (a.at_ < b.at_ ∨ a.at_ = b.at_ ∧ a.id < b.id) := by rw [← ltT_iff]; simp
theorem ltT_tot {a b : Tm} (h : ltT a b = false) (h2 : ltT b a = false) : a = b := by
  rw [ltT_no] at h h2
  obtain ⟨x, y⟩ := a; obtain ⟨z, w⟩ := b
  simp only at h h2
  have : x = z := by omega
  subst this
  have : y = w := by omega
  rw [this]
theorem ltT_irr (a : Tm) : ltT a a = false := by rw [ltT_no]; omega
theorem ltT_asym {a b : Tm} (h : ltT a b = true) : ltT b a = false := by rw [ltT_no]; rw [ltT_iff] at h; omega
theorem ltT_tr {a b c : Tm} (h : ltT a b = true) (h2 : ltT b c = true) : ltT a c = true := by rw [ltT_iff] at *; omega
abbrev RisT (l : List Tm) : Prop := l.Pairwise (fun a b => ltT a b = true)
theorem risT_nodup {l : List Tm} (h : RisT l) : l.Nodup := h.imp fun {a b} hab e => by subst e; rw [ltT_irr] at hab; cases hab
/-- one more, where it belongs -/
def insT : List Tm → Tm → List Tm
  | [], x => [x]
  | a :: l, x => if ltT a x then a :: insT l x else x :: a :: l
theorem insT_mem {x y : Tm} : ∀ {l : List Tm}, y ∈ insT l x ↔ y = x ∨ y ∈ l
  | [] => by simp [insT]
  | a :: l => by
    unfold insT
    split
    · rw [List.mem_cons, insT_mem (l := l), List.mem_cons]
      constructor
      · rintro (h | h | h) <;> simp [h]
      · rintro (h | h | h) <;> simp [h]
    · rw [List.mem_cons]
theorem insT_len {x : Tm} : ∀ (l : List Tm), (insT l x).length = l.length + 1
  | [] => rfl
  | a :: l => by unfold insT; split <;> simp [insT_len l]
theorem insT_ris {x : Tm} : ∀ {l : List Tm}, RisT l → x ∉ l → RisT (insT l x)
  | [], _, _ => by simp [insT]
  | a :: l, h, hx => by
    have h' := List.pairwise_cons.1 h
    unfold insT
    split
    · rename_i h1
      refine List.pairwise_cons.2 ⟨fun y hy => ?_, insT_ris h'.2 fun hm => hx (List.mem_cons_of_mem _ hm)⟩
      rcases insT_mem.1 hy with rfl | hy
      · exact h1
      · exact h'.1 y hy
    · rename_i h1
      have hxa : ltT x a = true := by
        cases hc : ltT x a
        · exact absurd (ltT_tot hc (by simpa using h1)) fun e => hx (by rw [e]; simp)
        · rfl
      refine List.pairwise_cons.2 ⟨fun y hy => ?_, h⟩
      rcases List.mem_cons.1 hy with rfl | hy
      · exact hxa
      · exact ltT_tr hxa (h'.1 y hy)
/-- the code's way: all sorted anew -/
theorem insT_sort {x : Tm} {l : List Tm} (h : RisT l) (hx : x ∉ l) : (l ++ [x]).mergeSort (fun a b => !ltT b a) = insT l x := by
  have hp : ((l ++ [x]).mergeSort (fun a b => !ltT b a)).Perm (l ++ [x]) := List.mergeSort_perm _ _
  have hs := List.pairwise_mergeSort (le := fun a b : Tm => !ltT b a) (fun a b c h1 h2 => by
    simp only [Bool.not_eq_true'] at *
    rw [ltT_no] at *; omega) (fun a b => by
    cases h1 : ltT b a <;> cases h2 : ltT a b <;> simp_all
    rw [ltT_asym h1] at h2; cases h2) (l ++ [x])
  refine List.Perm.eq_of_pairwise (le := fun a b => (!ltT b a) = true) (fun a b _ _ h1 h2 => ?_) hs ((insT_ris h hx).imp fun {a b} hab => by simp [ltT_asym hab]) (hp.trans ((List.perm_ext_iff_of_nodup ?_ (risT_nodup (insT_ris h hx))).2 fun y => ?_))
  · simp only [Bool.not_eq_true'] at h1 h2
    exact ltT_tot h2 h1
  · rw [List.nodup_append]
    refine ⟨risT_nodup h, by simp, fun a ha b hb => ?_⟩
    simp only [List.mem_singleton] at hb
    subst hb
    exact fun e => hx (by rw [← e]; exact ha)
  · rw [insT_mem, List.mem_append, List.mem_singleton]
    exact or_comm
/-! ### lists that may be -/
def atB (n : Int) : Bool := decide (0 ≤ n ∧ n ≤ 1099511627775)
def okT (l : List Tm) (i : Nat) : Bool := atB (l.getD i default).at_ && (decide (i = 0) || ltT (l.getD (i - 1) default) (l.getD i default)) && !(l.take i).any (fun y => decide (y.id = (l.getD i default).id))
def checkT (l : List Tm) : Bool := decide (l.length ≤ 120) && (List.range l.length).all (okT l)
theorem checkT_iff (l : List Tm) : checkT l = true ↔ l.length ≤ 120 ∧ ∀ i, i < l.length → okT l i = true := by
  simp [checkT, List.all_eq_true]
abbrev IdsT (l : List Tm) : Prop := l.Pairwise (fun a b => a.id ≠ b.id)
theorem checkT_split {l : List Tm} : checkT l = true ↔ l.length ≤ 120 ∧ (∀ x ∈ l, atB x.at_ = true) ∧ RisT l ∧ IdsT l := by
  rw [checkT_iff]
  refine and_congr Iff.rfl ⟨fun h => ⟨fun x hx => ?_, ?_, ?_⟩, fun h i hi => ?_⟩
  · obtain ⟨i, hi, rfl⟩ := List.getElem_of_mem hx
    have := h i hi
    unfold okT at this
    rw [getD_get hi] at this
    simp only [Bool.and_eq_true] at this
    exact this.1.1
  · have step : ∀ i (h1 : i + 1 < l.length), ltT (l[i]'(by omega)) (l[i + 1]) = true := fun i h1 => by
      have := h (i + 1) h1
      unfold okT at this
      rw [getD_get h1, show i + 1 - 1 = i from rfl, getD_get (show i < l.length by omega)] at this
      simp only [Bool.and_eq_true, Bool.or_eq_true, decide_eq_true_eq] at this
      exact this.1.2.resolve_left (by omega)
    show List.Pairwise _ _
    rw [List.pairwise_iff_getElem]
    intro i j hi hj hij
    obtain ⟨d, rfl⟩ : ∃ d, j = i + 1 + d := ⟨j - i - 1, by omega⟩
    induction d with
    | zero => exact step i hj
    | succ d ih => exact ltT_tr (ih (by omega) (by omega)) (step (i + 1 + d) (by omega))
  · show List.Pairwise _ _
    rw [List.pairwise_iff_getElem]
    intro i j hi hj hij he
    have := h j hj
    unfold okT at this
    rw [getD_get hj] at this
    simp only [Bool.and_eq_true, Bool.not_eq_true', List.any_eq_false, decide_eq_true_eq] at this
    exact this.2 l[i] (by rw [List.mem_take_iff_getElem]; exact ⟨i, by omega, rfl⟩) he
  · unfold okT
    rw [getD_get hi]
    simp only [Bool.and_eq_true, Bool.or_eq_true, decide_eq_true_eq, Bool.not_eq_true', List.any_eq_false]
    refine ⟨⟨h.1 _ (List.getElem_mem hi), ?_⟩, fun y hy he => ?_⟩
    · by_cases h0 : i = 0
      · exact .inl h0
      · right
        rw [getD_get (show i - 1 < l.length by omega)]
        exact List.pairwise_iff_getElem.1 h.2.1 _ _ _ _ (by omega)
    · rw [List.mem_take_iff_getElem] at hy
      obtain ⟨j, hj, rfl⟩ := hy
      exact List.pairwise_iff_getElem.1 h.2.2 j i (by omega) hi (by omega) he
def findT (l : List Tm) (n : Int) : Int := idxA (fun x => decide (x.id = n)) l
theorem findT_lt (l : List Tm) (n : Int) : (findT l n = -1 ∧ ∀ x ∈ l, x.id ≠ n) ∨ ∃ k, ∃ h : k < l.length, findT l n = k ∧ (l[k]).id = n ∧ ∀ j (hj : j < l.length), j < k → (l[j]).id ≠ n := by
  rcases idxA_lt (fun x : Tm => decide (x.id = n)) l with ⟨h1, h2⟩ | ⟨k, h, h1, h2, h3⟩
  · exact .inl ⟨h1, fun x hx => by simpa using h2 x hx⟩
  · exact .inr ⟨k, h, h1, by simpa using h2, fun j hj hji => by simpa using h3 j hj hji⟩
/-- all but the one at a place -/
def woT (l : List Tm) (p : Int) : List Tm := if 0 ≤ p then l.eraseIdx p.toNat else l
theorem woT_snoc {l : List Tm} {i : Nat} {p : Int} (h : i < l.length) : woT (l.take (i + 1)) p = if (i : Int) = p then woT (l.take i) p else woT (l.take i) p ++ [l[i]] := by
  have hl : (l.take i).length = i := by simp; omega
  unfold woT
  rw [take_snoc h]
  by_cases hp : 0 ≤ p
  · rw [if_pos hp, if_pos hp]
    by_cases he : (i : Int) = p
    · rw [if_pos he]
      have e1 : p.toNat = i := by omega
      rw [e1, List.eraseIdx_append_of_length_le (show (l.take i).length ≤ i by omega), hl, Nat.sub_self, List.eraseIdx_cons_zero, List.append_nil, List.eraseIdx_of_length_le (show (l.take i).length ≤ i by omega)]
    · rw [if_neg he]
      by_cases hlt : p.toNat < i
      · rw [List.eraseIdx_append_of_lt_length (by omega)]
      · rw [List.eraseIdx_of_length_le (by simp; omega), List.eraseIdx_of_length_le (by omega)]
  · rw [if_neg hp, if_neg hp, if_neg (by omega)]
theorem woT_le (l : List Tm) (p : Int) : (woT l p).length ≤ l.length := by
  unfold woT; split
  · rw [List.length_eraseIdx]; split <;> omega
  · exact Nat.le_refl _
abbrev offT (l : List Tm) (n : Int) : List Tm := l.filter (fun y => decide (y.id ≠ n))
theorem woT_off {l : List Tm} {n : Int} (h : IdsT l) : woT l (findT l n) = offT l n := by
  rcases findT_lt l n with ⟨h1, h2⟩ | ⟨k, hk, h1, h2, h3⟩
  · rw [h1]
    unfold woT offT
    rw [if_neg (by omega)]
    exact (List.filter_eq_self.2 fun y hy => by simpa using h2 y hy).symm
  · rw [h1]
    unfold woT offT
    rw [if_pos (by omega), show ((k : Int)).toNat = k by omega]
    clear h1
    induction l generalizing k with
    | nil => simp at hk
    | cons a l ih =>
      have h' := List.pairwise_cons.1 h
      cases k with
      | zero =>
        simp only [List.getElem_cons_zero] at h2
        rw [List.eraseIdx_cons_zero, List.filter_cons, if_neg (by simpa using h2)]
        exact (List.filter_eq_self.2 fun y hy => by have := h'.1 y hy; simp; omega).symm
      | succ k =>
        have ha := h3 0 (by simp) (by omega)
        simp only [List.getElem_cons_zero] at ha
        rw [List.eraseIdx_cons_succ, List.filter_cons, if_pos (by simpa using ha), ih h'.2 k (by simpa using hk) (by simpa using h2) (fun j hj hjk => by have := h3 (j + 1) (by simpa using hj) (by omega); simpa using this)]
end Go.Vc

namespace Go.Vc
open Go.Proofs
set_option maxRecDepth 100000




/-- 'trystref11.Ids' -/
def B59_0 : MC := (.seq (.seq (.reg [⟨(some 11), none, (.q (.mv (.t 5)))⟩, ⟨(some 12), none, (.q (.mv (.t 0)))⟩, ⟨(some 13), none, (.q (.len (.t 12) false))⟩, ⟨(some 14), none, (.q (.bin .lss (.t 11)
  (.t 13)))⟩] [] [0, 1, 5, 14] []) (.cond (.t 14) .skip (.exit 0))) (.seq (.block 1 (.seq (.reg [⟨(some 17), none, (.q (.mv (.t 0)))⟩, ⟨(some 18), none, (.q (.mv (.t 5)))⟩, ⟨(some 19), none,
  (.q (.ia (.t 17) (.t 18) 1))⟩, ⟨(some 20), none, (.q (.ld (.t 19) 1 false))⟩, ⟨(some 21), none, (.q (.mv (.t 1)))⟩, ⟨(some 22), none, (.q (.mv (.t 5)))⟩, ⟨(some 23), none, (.q (.ia (.t 21) (.t 22)
  1))⟩, ⟨(some 24), none, (.q (.ld (.t 23) 1 false))⟩, ⟨(some 25), none, (.q (.bin .neq (.t 20) (.t 24)))⟩] [] [0, 1, 5, 25] []) (.cond (.t 25) (.seq (.reg [⟨(some 4), none,
  (.q (.mv (.c (.bool false))))⟩] [] [4] []) .ret) .skip))) (.reg [⟨(some 15), none, (.q (.mv (.t 5)))⟩, ⟨(some 16), none, (.q (.bin .add (.t 15) (.c (.int .i64 1))))⟩, ⟨(some 5), none,
  (.q (.mv (.t 16)))⟩] [] [0, 1, 5] [])))
def R59_0 : MC := (.seq (.reg [⟨(some 4), none, (.q (.mv (.c (.bool true))))⟩] [] [4] []) .ret)
def M59 : MC := (.seq (.reg [⟨(some 4), none, (.q (.mv (.c (.bool false))))⟩] [] [0, 1] []) (.seq (.seq (.reg [⟨(some 6), none, (.q (.mv (.t 0)))⟩, ⟨(some 7), none, (.q (.len (.t 6) false))⟩,
  ⟨(some 8), none, (.q (.mv (.t 1)))⟩, ⟨(some 9), none, (.q (.len (.t 8) false))⟩, ⟨(some 10), none, (.q (.bin .neq (.t 7) (.t 9)))⟩] [] [0, 1, 10] []) (.cond (.t 10) (.seq (.reg [⟨(some 4), none,
  (.q (.mv (.c (.bool false))))⟩] [] [4] []) .ret) .skip)) (.seq (.seq (.reg [⟨(some 5), none, (.q (.mv (.c (.int .i64 0))))⟩] [] [0, 1, 5] []) (.block 0 (.loop B59_0))) R59_0)))
theorem mc59 : ofCode Try.prog [] Try.f59.ntmps [(0, ⟨[0, 1], [], [], 0, [], none⟩),
    (1, ⟨[0, 1, 10], [], [], 0, [], none⟩),
    (2, ⟨[4], [], [], 0, [], none⟩),
    (3, ⟨[0, 1, 5], [], [], 0, [], none⟩),
    (4, ⟨[0, 1, 5, 14], [], [], 0, [], none⟩),
    (5, ⟨[0, 1, 5], [], [], 0, [], none⟩),
    (6, ⟨[0, 1, 5, 25], [], [(0, 269), (1, 270), (2, 268), (3, 264), (4, 464), (5, 480), (6, 448), (7, 384), (8, 256)], 511, [], none⟩),
    (7, ⟨[4], [], [], 0, [], none⟩),
    (8, ⟨[4], [], [], 0, [], none⟩)] (Try.f59.body.getD .skip) = some M59 := by kernel_rfl
theorem Run59 {args : List PV} {v : AV} {rs : List (Nat × List PV)} (ids : List Bool) (h : args.length ≤ 26) (hv : run Try.prog (retK [RV.tmp 4] ids v rs) M59 [] ⟨entry 0 args, []⟩) : Fn Try.prog 59 args v rs :=
  Fn_run ids (by kernel_rfl) Try.func59 (by decide) rfl mc59 (by kernel_rfl) (by rw [Try.ntmps59]; exact h) (by rw [Try.ntmps59]; decide) hv














end Go.Vc

namespace Go.Vc
open Go.Proofs
set_option linter.unusedSimpArgs false
set_option linter.unusedVariables false

structure Ot where
  id : Int
  sub : ByteArray
  ids : List Int
  tries : Int
  due : Int
  deriving DecidableEq
instance : Inhabited Ot := ⟨⟨0, ⟨#[]⟩, [], 0, 0⟩⟩
abbrev Ot.pv (x : Ot) : PV := .agg [pU x.id, pS x.sub, us x.ids, pI x.tries, pI x.due]
abbrev os (l : List Ot) : PV := .lst (l.map Ot.pv)
theorem fn59 (a b : List Int) (ha : a.length < 4611686018427387904) (hb : b.length < 4611686018427387904) : Fn Try.prog 59 [us a, us b] (.pv (pB (decide (a = b)))) [] := by
  refine Run59 [] (by simp) ?_
  simp only [go_sem, Nat.reduceEqDiff, Nat.reduceBEq, Nat.reduceAdd, Nat.reduceMul, Nat.reduceSub, Nat.reduceLeDiff, Nat.reduceLT, reduceIte, reduceCtorEq, Int.reduceToNat, Int.reduceLE, Int.reduceLT, Int.reduceNeg, Bool.not_not, and_self, Bool.and_eq_false_iff, Int.cast_ofNat_Int, Int.reduceAdd, Int.reduceSub, Int.reduceMul, Int.reduceEq, Int.reduceNe, M59]
  refine ⟨fun h => ?_, fun h => ?_⟩
  · have : a ≠ b := fun e => h (by rw [e])
    simp [this]
  · have hlm : b.length = a.length := by omega
    refine run_loop (T := Nat) (fun i => ⟨[(0, .pv (us a)), (1, .pv (us b)), (5, .pv (pI i))], []⟩) (fun i => i ≤ a.length ∧ a.take i = b.take i) (fun i => a.length - i) 0 rfl ⟨Nat.zero_le _, rfl⟩ ?_
    intro i ⟨hi, hq⟩
    by_cases hlt : i < a.length
    · have hlt2 : i < b.length := by omega
      simp only [go_sem, Nat.reduceEqDiff, Nat.reduceBEq, Nat.reduceAdd, Nat.reduceMul, Nat.reduceSub, Nat.reduceLeDiff, Nat.reduceLT, reduceIte, reduceCtorEq, Int.reduceToNat, Int.reduceLE, Int.reduceLT, Int.reduceNeg, Bool.not_not, and_self, Bool.and_eq_false_iff, Int.cast_ofNat_Int, Int.reduceAdd, Int.reduceSub, Int.reduceMul, Int.reduceEq, Int.reduceNe, B59_0, wf_us, getD_map hlt, getD_map hlt2, show (i : Int) < (a.length : Int) by omega, show (i : Int) < (b.length : Int) by omega]
      refine ⟨fun hd => ?_, fun hd => ?_⟩
      · have : a ≠ b := fun e => by subst e; exact hd rfl
        simp [this]
      · refine ⟨⟨by omega, by omega⟩, i + 1, rfl, ⟨hlt, ?_⟩, by omega⟩
        rw [take_snoc hlt, take_snoc hlt2, hq, hd]
    · simp only [go_sem, Nat.reduceEqDiff, Nat.reduceBEq, Nat.reduceAdd, Nat.reduceMul, Nat.reduceSub, Nat.reduceLeDiff, Nat.reduceLT, reduceIte, reduceCtorEq, Int.reduceToNat, Int.reduceLE, Int.reduceLT, Int.reduceNeg, Bool.not_not, and_self, Bool.and_eq_false_iff, Int.cast_ofNat_Int, Int.reduceAdd, Int.reduceSub, Int.reduceMul, Int.reduceEq, Int.reduceNe, B59_0, R59_0, show ¬ (i : Int) < (a.length : Int) by omega]
      have hie : i = a.length := by omega
      subst hie
      rw [List.take_length, ← hlm, List.take_length] at hq
      simp [hq]
end Go.Vc

namespace Go.Vc
open Go.Proofs Go.Shelf Go.RowKit
set_option linter.unusedSimpArgs false
set_option linter.unusedVariables false

/-! ## Strings: 'Index' at one octet, out of the shelf -/
end Go.Vc

namespace Go.Vc
open Go.Proofs
set_option maxRecDepth 100000










end Go.Vc

namespace Go.Vc
open Go.Proofs
set_option linter.unusedSimpArgs false
set_option linter.unusedVariables false

/-! ## Names -/
end Go.Vc

namespace Go.Vc
open Go.Proofs
set_option linter.unusedSimpArgs false
set_option linter.unusedVariables false

/-! ## Outputs -/
def errN (b : Bool) : Int := if b then 0 else 1
theorem errN_iff (b : Bool) : (errN b = 0) = (b = true) := by cases b <;> simp [errN]
theorem errN_dec (b : Bool) : decide (errN b = 0) = b := by cases b <;> simp [errN]
end Go.Vc

namespace Go.Vc
open Go.Proofs
set_option maxRecDepth 100000




end Go.Vc

namespace Go.Vc
open Go.Proofs
set_option linter.unusedSimpArgs false
set_option linter.unusedVariables false

structure NR where
  l : List Ot
  up : Bool
  err : Int
  deriving DecidableEq
abbrev NR.pv (r : NR) : PV := .tup [os r.l, pB r.up, pI r.err]
/-! 'awake' -/
end Go.Vc

namespace Go.Vc
open Go.Proofs
set_option linter.unusedSimpArgs false
set_option linter.unusedVariables false

/-! ## 'OutboxTurns' -/
end Go.Vc

namespace Go.Vc
open Go.Proofs
set_option linter.unusedSimpArgs false

theorem ownTry : ownKnob Try.prog.godebug = none := by kernel_rfl
theorem laidOutTry : laidOutB Try.prog = true := by kernel_rfl
end Go.Vc

namespace Go.Vc
open Go.Proofs
set_option maxRecDepth 100000

/-- 'cmp.isNaN[int]' -/
def M99 : MC := (.seq (.reg [⟨(some 2), none, (.q (.mv (.c (.bool false))))⟩] [] [0] []) (.seq (.reg [⟨(some 3), none, (.q (.mv (.t 0)))⟩, ⟨(some 4), none, (.q (.mv (.t 0)))⟩, ⟨(some 5), none,
  (.q (.bin .neq (.t 3) (.t 4)))⟩, ⟨(some 2), none, (.q (.mv (.t 5)))⟩] [] [2] []) .ret))
theorem mc99 : ofCode Try.prog [] Try.f99.ntmps [(0, ⟨[0], [], [], 0, [], none⟩),
    (1, ⟨[2], [], [], 0, [], none⟩)] (Try.f99.body.getD .skip) = some M99 := by kernel_rfl
theorem Run99 {args : List PV} {v : AV} {rs : List (Nat × List PV)} (ids : List Bool) (h : args.length ≤ 6) (hv : run Try.prog (retK [RV.tmp 2] ids v rs) M99 [] ⟨entry 0 args, []⟩) : Fn Try.prog 99 args v rs :=
  Fn_run ids (by kernel_rfl) Try.func99 (by decide) rfl mc99 (by kernel_rfl) (by rw [Try.ntmps99]; exact h) (by rw [Try.ntmps99]; decide) hv

/-- 'cmp.isNaN[uint64]' -/
def M100 : MC := (.seq (.reg [⟨(some 2), none, (.q (.mv (.c (.bool false))))⟩] [] [0] []) (.seq (.reg [⟨(some 3), none, (.q (.mv (.t 0)))⟩, ⟨(some 4), none, (.q (.mv (.t 0)))⟩, ⟨(some 5), none,
  (.q (.bin .neq (.t 3) (.t 4)))⟩, ⟨(some 2), none, (.q (.mv (.t 5)))⟩] [] [2] []) .ret))
theorem mc100 : ofCode Try.prog [] Try.f100.ntmps [(0, ⟨[0], [], [], 0, [], none⟩),
    (1, ⟨[2], [], [], 0, [], none⟩)] (Try.f100.body.getD .skip) = some M100 := by kernel_rfl
theorem Run100 {args : List PV} {v : AV} {rs : List (Nat × List PV)} (ids : List Bool) (h : args.length ≤ 6) (hv : run Try.prog (retK [RV.tmp 2] ids v rs) M100 [] ⟨entry 0 args, []⟩) : Fn Try.prog 100 args v rs :=
  Fn_run ids (by kernel_rfl) Try.func100 (by decide) rfl mc100 (by kernel_rfl) (by rw [Try.ntmps100]; exact h) (by rw [Try.ntmps100]; decide) hv

/-- 'cmp.Compare[int]' -/
def M78 : MC := (.seq (.reg [⟨(some 4), none, (.q (.mv (.c (.int .i64 0))))⟩] [] [0, 1] []) (.seq (.reg [⟨(some 7), none, (.q (.mv (.t 0)))⟩, ⟨(some 8), none, (.call (.f 99) [(.t 7)])⟩, ⟨(some 5),
  none, (.q (.mv (.t 8)))⟩] [] [0, 1, 5] [1008]) (.seq (.reg [⟨(some 9), none, (.q (.mv (.t 1)))⟩, ⟨(some 10), none, (.call (.f 99) [(.t 9)])⟩, ⟨(some 6), none, (.q (.mv (.t 10)))⟩] [] [0, 1, 5,
  6] [1008, 1010]) (.seq (.seq (.reg [⟨(some 11), none, (.q (.mv (.t 5)))⟩] [] [0, 1, 6, 11] [1008, 1010]) (.cond (.t 11) (.seq (.seq (.reg [⟨(some 12), none, (.q (.mv (.t 6)))⟩] [] [12] [1010])
  (.cond (.t 12) (.seq (.reg [⟨(some 4), none, (.q (.mv (.c (.int .i64 0))))⟩] [] [4] []) .ret) .skip)) (.seq (.reg [⟨(some 4), none, (.q (.mv (.c (.int .i64 (-1)))))⟩] [] [4] []) .ret)) .skip))
  (.seq (.seq (.reg [⟨(some 13), none, (.q (.mv (.t 6)))⟩] [] [0, 1, 13] [1010]) (.cond (.t 13) (.seq (.reg [⟨(some 4), none, (.q (.mv (.c (.int .i64 1))))⟩] [] [4] []) .ret) .skip))
  (.seq (.seq (.reg [⟨(some 14), none, (.q (.mv (.t 0)))⟩, ⟨(some 15), none, (.q (.mv (.t 1)))⟩, ⟨(some 16), none, (.q (.bin .lss (.t 14) (.t 15)))⟩] [] [0, 1, 16] []) (.cond (.t 16)
  (.seq (.reg [⟨(some 4), none, (.q (.mv (.c (.int .i64 (-1)))))⟩] [] [4] []) .ret) .skip)) (.seq (.seq (.reg [⟨(some 17), none, (.q (.mv (.t 0)))⟩, ⟨(some 18), none, (.q (.mv (.t 1)))⟩, ⟨(some 19),
  none, (.q (.bin .gtr (.t 17) (.t 18)))⟩] [] [19] []) (.cond (.t 19) (.seq (.reg [⟨(some 4), none, (.q (.mv (.c (.int .i64 1))))⟩] [] [4] []) .ret) .skip)) (.seq (.reg [⟨(some 4), none,
  (.q (.mv (.c (.int .i64 0))))⟩] [] [4] []) .ret))))))))
theorem mc78 : ofCode Try.prog [] Try.f78.ntmps [(0, ⟨[0, 1], [], [], 0, [], none⟩),
    (1, ⟨[0, 1, 5], [1008], [], 0, [], none⟩),
    (2, ⟨[0, 1, 5, 6], [1008, 1010], [], 0, [], none⟩),
    (3, ⟨[0, 1, 6, 11], [1008, 1010], [], 0, [], none⟩),
    (4, ⟨[12], [1010], [], 0, [], none⟩),
    (5, ⟨[4], [], [], 0, [], none⟩),
    (6, ⟨[4], [], [], 0, [], none⟩),
    (7, ⟨[0, 1, 13], [1010], [], 0, [], none⟩),
    (8, ⟨[4], [], [], 0, [], none⟩),
    (9, ⟨[0, 1, 16], [], [], 0, [], none⟩),
    (10, ⟨[4], [], [], 0, [], none⟩),
    (11, ⟨[19], [], [], 0, [], none⟩),
    (12, ⟨[4], [], [], 0, [], none⟩),
    (13, ⟨[4], [], [], 0, [], none⟩)] (Try.f78.body.getD .skip) = some M78 := by kernel_rfl
theorem Run78 {args : List PV} {v : AV} {rs : List (Nat × List PV)} (ids : List Bool) (h : args.length ≤ 20) (hv : run Try.prog (retK [RV.tmp 4] ids v rs) M78 [] ⟨entry 0 args, []⟩) : Fn Try.prog 78 args v rs :=
  Fn_run ids (by kernel_rfl) Try.func78 (by decide) rfl mc78 (by kernel_rfl) (by rw [Try.ntmps78]; exact h) (by rw [Try.ntmps78]; decide) hv

/-- 'cmp.Compare[uint64]' -/
def M79 : MC := (.seq (.reg [⟨(some 4), none, (.q (.mv (.c (.int .i64 0))))⟩] [] [0, 1] []) (.seq (.reg [⟨(some 7), none, (.q (.mv (.t 0)))⟩, ⟨(some 8), none, (.call (.f 100) [(.t 7)])⟩, ⟨(some 5),
  none, (.q (.mv (.t 8)))⟩] [] [0, 1, 5] [1008]) (.seq (.reg [⟨(some 9), none, (.q (.mv (.t 1)))⟩, ⟨(some 10), none, (.call (.f 100) [(.t 9)])⟩, ⟨(some 6), none, (.q (.mv (.t 10)))⟩] [] [0, 1, 5,
  6] [1008, 1010]) (.seq (.seq (.reg [⟨(some 11), none, (.q (.mv (.t 5)))⟩] [] [0, 1, 6, 11] [1008, 1010]) (.cond (.t 11) (.seq (.seq (.reg [⟨(some 12), none, (.q (.mv (.t 6)))⟩] [] [12] [1010])
  (.cond (.t 12) (.seq (.reg [⟨(some 4), none, (.q (.mv (.c (.int .i64 0))))⟩] [] [4] []) .ret) .skip)) (.seq (.reg [⟨(some 4), none, (.q (.mv (.c (.int .i64 (-1)))))⟩] [] [4] []) .ret)) .skip))
  (.seq (.seq (.reg [⟨(some 13), none, (.q (.mv (.t 6)))⟩] [] [0, 1, 13] [1010]) (.cond (.t 13) (.seq (.reg [⟨(some 4), none, (.q (.mv (.c (.int .i64 1))))⟩] [] [4] []) .ret) .skip))
  (.seq (.seq (.reg [⟨(some 14), none, (.q (.mv (.t 0)))⟩, ⟨(some 15), none, (.q (.mv (.t 1)))⟩, ⟨(some 16), none, (.q (.bin .lss (.t 14) (.t 15)))⟩] [] [0, 1, 16] []) (.cond (.t 16)
  (.seq (.reg [⟨(some 4), none, (.q (.mv (.c (.int .i64 (-1)))))⟩] [] [4] []) .ret) .skip)) (.seq (.seq (.reg [⟨(some 17), none, (.q (.mv (.t 0)))⟩, ⟨(some 18), none, (.q (.mv (.t 1)))⟩, ⟨(some 19),
  none, (.q (.bin .gtr (.t 17) (.t 18)))⟩] [] [19] []) (.cond (.t 19) (.seq (.reg [⟨(some 4), none, (.q (.mv (.c (.int .i64 1))))⟩] [] [4] []) .ret) .skip)) (.seq (.reg [⟨(some 4), none,
  (.q (.mv (.c (.int .i64 0))))⟩] [] [4] []) .ret))))))))
theorem mc79 : ofCode Try.prog [] Try.f79.ntmps [(0, ⟨[0, 1], [], [], 0, [], none⟩),
    (1, ⟨[0, 1, 5], [1008], [], 0, [], none⟩),
    (2, ⟨[0, 1, 5, 6], [1008, 1010], [], 0, [], none⟩),
    (3, ⟨[0, 1, 6, 11], [1008, 1010], [], 0, [], none⟩),
    (4, ⟨[12], [1010], [], 0, [], none⟩),
    (5, ⟨[4], [], [], 0, [], none⟩),
    (6, ⟨[4], [], [], 0, [], none⟩),
    (7, ⟨[0, 1, 13], [1010], [], 0, [], none⟩),
    (8, ⟨[4], [], [], 0, [], none⟩),
    (9, ⟨[0, 1, 16], [], [], 0, [], none⟩),
    (10, ⟨[4], [], [], 0, [], none⟩),
    (11, ⟨[19], [], [], 0, [], none⟩),
    (12, ⟨[4], [], [], 0, [], none⟩),
    (13, ⟨[4], [], [], 0, [], none⟩)] (Try.f79.body.getD .skip) = some M79 := by kernel_rfl
theorem Run79 {args : List PV} {v : AV} {rs : List (Nat × List PV)} (ids : List Bool) (h : args.length ≤ 20) (hv : run Try.prog (retK [RV.tmp 4] ids v rs) M79 [] ⟨entry 0 args, []⟩) : Fn Try.prog 79 args v rs :=
  Fn_run ids (by kernel_rfl) Try.func79 (by decide) rfl mc79 (by kernel_rfl) (by rw [Try.ntmps79]; exact h) (by rw [Try.ntmps79]; decide) hv

/-- 'cmp.Or[int]' -/
def B77_0 : MC := (.seq (.reg [⟨(some 9), none, (.q (.bin .lss (.t 8) (.t 7)))⟩] [] [3, 6, 7, 8, 9] []) (.seq (.cond (.t 9) .skip (.exit 0)) (.seq (.block 1 (.seq (.reg [⟨(some 10), none,
  (.q (.ia (.t 6) (.t 8) 1))⟩, ⟨(some 11), none, (.q (.ld (.t 10) 1 false))⟩, ⟨(some 5), none, (.q (.mv (.t 11)))⟩] [] [3, 5, 6, 7, 8] []) (.seq (.reg [⟨(some 12), none, (.q (.mv (.t 5)))⟩,
  ⟨(some 13), none, (.q (.mv (.t 3)))⟩, ⟨(some 14), none, (.q (.bin .neq (.t 12) (.t 13)))⟩] [] [3, 5, 6, 7, 8, 14] []) (.cond (.t 14) (.seq (.reg [⟨(some 15), none, (.q (.mv (.t 5)))⟩, ⟨(some 2),
  none, (.q (.mv (.t 15)))⟩] [] [2] []) .ret) .skip)))) (.reg [⟨(some 16), none, (.q (.bin .add (.t 8) (.c (.int .i64 1))))⟩, ⟨(some 8), none, (.q (.mv (.t 16)))⟩] [] [3, 6, 7, 8] []))))
def R77_0 : MC := (.seq (.reg [⟨(some 17), none, (.q (.mv (.t 3)))⟩, ⟨(some 2), none, (.q (.mv (.t 17)))⟩] [] [2] []) .ret)
def M77 : MC := (.seq (.reg [⟨(some 2), none, (.q (.mv (.c (.int .i64 0))))⟩] [] [0] []) (.seq (.reg [⟨(some 3), none, (.q (.mv (.c (.int .i64 0))))⟩] [] [0, 3] []) (.seq (.seq (.reg [⟨(some 6), none,
  (.q (.mv (.t 0)))⟩, ⟨(some 7), none, (.q (.len (.t 6) false))⟩, ⟨(some 8), none, (.q (.mv (.c (.int .i64 0))))⟩] [] [3, 6, 7, 8] []) (.block 0 (.loop B77_0))) R77_0)))
theorem mc77 : ofCode Try.prog [] Try.f77.ntmps [(0, ⟨[0], [], [], 0, [], none⟩),
    (1, ⟨[0, 3], [], [], 0, [], none⟩),
    (2, ⟨[3, 6, 7, 8], [], [], 0, [], none⟩),
    (3, ⟨[3, 6, 7, 8, 9], [], [], 0, [], none⟩),
    (4, ⟨[3, 5, 6, 7, 8], [], [], 0, [], none⟩),
    (5, ⟨[3, 5, 6, 7, 8, 14], [], [], 0, [], none⟩),
    (6, ⟨[2], [], [], 0, [], none⟩),
    (7, ⟨[3, 6, 7, 8], [], [], 0, [], none⟩),
    (8, ⟨[2], [], [], 0, [], none⟩)] (Try.f77.body.getD .skip) = some M77 := by kernel_rfl
theorem Run77 {args : List PV} {v : AV} {rs : List (Nat × List PV)} (ids : List Bool) (h : args.length ≤ 18) (hv : run Try.prog (retK [RV.tmp 2] ids v rs) M77 [] ⟨entry 0 args, []⟩) : Fn Try.prog 77 args v rs :=
  Fn_run ids (by kernel_rfl) Try.func77 (by decide) rfl mc77 (by kernel_rfl) (by rw [Try.ntmps77]; exact h) (by rw [Try.ntmps77]; decide) hv






end Go.Vc

namespace Go.Vc
open Go.Proofs
set_option linter.unusedSimpArgs false
set_option linter.unusedVariables false

/-! ## The next one -/
structure Du where
  at_ : Int
  id : Int
  i : Int
  deriving DecidableEq
instance : Inhabited Du := ⟨⟨0, 0, 0⟩⟩
abbrev Du.pv (x : Du) : PV := .agg [pI x.at_, pU x.id, pI x.i]
abbrev ds (l : List Du) : PV := .lst (l.map Du.pv)
def cmpI (a b : Int) : Int := if a < b then -1 else if b < a then 1 else 0
theorem fn99 (n : Int) : Fn Try.prog 99 [pI n] (.pv (pB false)) [] := by
  refine Run99 [] (by simp) ?_
  simp only [go_sem, Nat.reduceEqDiff, Nat.reduceBEq, Nat.reduceAdd, Nat.reduceMul, Nat.reduceSub, Nat.reduceLeDiff, Nat.reduceLT, reduceIte, reduceCtorEq, Int.reduceToNat, Int.reduceLE, Int.reduceLT, Int.reduceNeg, Bool.not_not, and_self, Bool.and_eq_false_iff, Int.cast_ofNat_Int, Int.reduceAdd, Int.reduceSub, Int.reduceMul, Int.reduceEq, Int.reduceNe, M99]
theorem fn100 (n : Int) : Fn Try.prog 100 [pU n] (.pv (pB false)) [] := by
  refine Run100 [] (by simp) ?_
  simp only [go_sem, Nat.reduceEqDiff, Nat.reduceBEq, Nat.reduceAdd, Nat.reduceMul, Nat.reduceSub, Nat.reduceLeDiff, Nat.reduceLT, reduceIte, reduceCtorEq, Int.reduceToNat, Int.reduceLE, Int.reduceLT, Int.reduceNeg, Bool.not_not, and_self, Bool.and_eq_false_iff, Int.cast_ofNat_Int, Int.reduceAdd, Int.reduceSub, Int.reduceMul, Int.reduceEq, Int.reduceNe, M100]
theorem fn78 (a b : Int) : Fn Try.prog 78 [pI a, pI b] (.pv (pI (cmpI a b))) [] := by
  refine Run78 [] (by simp) ?_
  simp only [go_sem, Nat.reduceEqDiff, Nat.reduceBEq, Nat.reduceAdd, Nat.reduceMul, Nat.reduceSub, Nat.reduceLeDiff, Nat.reduceLT, reduceIte, reduceCtorEq, Int.reduceToNat, Int.reduceLE, Int.reduceLT, Int.reduceNeg, Bool.not_not, and_self, Bool.and_eq_false_iff, Int.cast_ofNat_Int, Int.reduceAdd, Int.reduceSub, Int.reduceMul, Int.reduceEq, Int.reduceNe, M78]
  refine runR_callf (by simp only [go_sem, Nat.reduceEqDiff, Nat.reduceBEq, Nat.reduceAdd, Nat.reduceMul, Nat.reduceSub, Nat.reduceLeDiff, Nat.reduceLT, reduceIte, reduceCtorEq, Int.reduceToNat, Int.reduceLE, Int.reduceLT, Int.reduceNeg, Bool.not_not, and_self, Bool.and_eq_false_iff, Int.cast_ofNat_Int, Int.reduceAdd, Int.reduceSub, Int.reduceMul, Int.reduceEq, Int.reduceNe]) (by simp only [go_sem, Nat.reduceEqDiff, Nat.reduceBEq, Nat.reduceAdd, Nat.reduceMul, Nat.reduceSub, Nat.reduceLeDiff, Nat.reduceLT, reduceIte, reduceCtorEq, Int.reduceToNat, Int.reduceLE, Int.reduceLT, Int.reduceNeg, Bool.not_not, and_self, Bool.and_eq_false_iff, Int.cast_ofNat_Int, Int.reduceAdd, Int.reduceSub, Int.reduceMul, Int.reduceEq, Int.reduceNe]) (fn99 a) ⟨rfl, trivial⟩ trivial ?_
  simp only [go_sem, Nat.reduceEqDiff, Nat.reduceBEq, Nat.reduceAdd, Nat.reduceMul, Nat.reduceSub, Nat.reduceLeDiff, Nat.reduceLT, reduceIte, reduceCtorEq, Int.reduceToNat, Int.reduceLE, Int.reduceLT, Int.reduceNeg, Bool.not_not, and_self, Bool.and_eq_false_iff, Int.cast_ofNat_Int, Int.reduceAdd, Int.reduceSub, Int.reduceMul, Int.reduceEq, Int.reduceNe]
  refine runR_callf (by simp only [go_sem, Nat.reduceEqDiff, Nat.reduceBEq, Nat.reduceAdd, Nat.reduceMul, Nat.reduceSub, Nat.reduceLeDiff, Nat.reduceLT, reduceIte, reduceCtorEq, Int.reduceToNat, Int.reduceLE, Int.reduceLT, Int.reduceNeg, Bool.not_not, and_self, Bool.and_eq_false_iff, Int.cast_ofNat_Int, Int.reduceAdd, Int.reduceSub, Int.reduceMul, Int.reduceEq, Int.reduceNe]) (by simp only [go_sem, Nat.reduceEqDiff, Nat.reduceBEq, Nat.reduceAdd, Nat.reduceMul, Nat.reduceSub, Nat.reduceLeDiff, Nat.reduceLT, reduceIte, reduceCtorEq, Int.reduceToNat, Int.reduceLE, Int.reduceLT, Int.reduceNeg, Bool.not_not, and_self, Bool.and_eq_false_iff, Int.cast_ofNat_Int, Int.reduceAdd, Int.reduceSub, Int.reduceMul, Int.reduceEq, Int.reduceNe]) (fn99 b) ⟨rfl, trivial⟩ trivial ?_
  simp only [go_sem, Nat.reduceEqDiff, Nat.reduceBEq, Nat.reduceAdd, Nat.reduceMul, Nat.reduceSub, Nat.reduceLeDiff, Nat.reduceLT, reduceIte, reduceCtorEq, Int.reduceToNat, Int.reduceLE, Int.reduceLT, Int.reduceNeg, Bool.not_not, and_self, Bool.and_eq_false_iff, Int.cast_ofNat_Int, Int.reduceAdd, Int.reduceSub, Int.reduceMul, Int.reduceEq, Int.reduceNe]
  unfold cmpI
  by_cases h1 : a < b <;> by_cases h2 : b < a <;> simp [h1, h2] <;> omega
theorem fn79 (a b : Int) : Fn Try.prog 79 [pU a, pU b] (.pv (pI (cmpI a b))) [] := by
  refine Run79 [] (by simp) ?_
  simp only [go_sem, Nat.reduceEqDiff, Nat.reduceBEq, Nat.reduceAdd, Nat.reduceMul, Nat.reduceSub, Nat.reduceLeDiff, Nat.reduceLT, reduceIte, reduceCtorEq, Int.reduceToNat, Int.reduceLE, Int.reduceLT, Int.reduceNeg, Bool.not_not, and_self, Bool.and_eq_false_iff, Int.cast_ofNat_Int, Int.reduceAdd, Int.reduceSub, Int.reduceMul, Int.reduceEq, Int.reduceNe, M79]
  refine runR_callf (by simp only [go_sem, Nat.reduceEqDiff, Nat.reduceBEq, Nat.reduceAdd, Nat.reduceMul, Nat.reduceSub, Nat.reduceLeDiff, Nat.reduceLT, reduceIte, reduceCtorEq, Int.reduceToNat, Int.reduceLE, Int.reduceLT, Int.reduceNeg, Bool.not_not, and_self, Bool.and_eq_false_iff, Int.cast_ofNat_Int, Int.reduceAdd, Int.reduceSub, Int.reduceMul, Int.reduceEq, Int.reduceNe]) (by simp only [go_sem, Nat.reduceEqDiff, Nat.reduceBEq, Nat.reduceAdd, Nat.reduceMul, Nat.reduceSub, Nat.reduceLeDiff, Nat.reduceLT, reduceIte, reduceCtorEq, Int.reduceToNat, Int.reduceLE, Int.reduceLT, Int.reduceNeg, Bool.not_not, and_self, Bool.and_eq_false_iff, Int.cast_ofNat_Int, Int.reduceAdd, Int.reduceSub, Int.reduceMul, Int.reduceEq, Int.reduceNe]) (fn100 a) ⟨rfl, trivial⟩ trivial ?_
  simp only [go_sem, Nat.reduceEqDiff, Nat.reduceBEq, Nat.reduceAdd, Nat.reduceMul, Nat.reduceSub, Nat.reduceLeDiff, Nat.reduceLT, reduceIte, reduceCtorEq, Int.reduceToNat, Int.reduceLE, Int.reduceLT, Int.reduceNeg, Bool.not_not, and_self, Bool.and_eq_false_iff, Int.cast_ofNat_Int, Int.reduceAdd, Int.reduceSub, Int.reduceMul, Int.reduceEq, Int.reduceNe]
  refine runR_callf (by simp only [go_sem, Nat.reduceEqDiff, Nat.reduceBEq, Nat.reduceAdd, Nat.reduceMul, Nat.reduceSub, Nat.reduceLeDiff, Nat.reduceLT, reduceIte, reduceCtorEq, Int.reduceToNat, Int.reduceLE, Int.reduceLT, Int.reduceNeg, Bool.not_not, and_self, Bool.and_eq_false_iff, Int.cast_ofNat_Int, Int.reduceAdd, Int.reduceSub, Int.reduceMul, Int.reduceEq, Int.reduceNe]) (by simp only [go_sem, Nat.reduceEqDiff, Nat.reduceBEq, Nat.reduceAdd, Nat.reduceMul, Nat.reduceSub, Nat.reduceLeDiff, Nat.reduceLT, reduceIte, reduceCtorEq, Int.reduceToNat, Int.reduceLE, Int.reduceLT, Int.reduceNeg, Bool.not_not, and_self, Bool.and_eq_false_iff, Int.cast_ofNat_Int, Int.reduceAdd, Int.reduceSub, Int.reduceMul, Int.reduceEq, Int.reduceNe]) (fn100 b) ⟨rfl, trivial⟩ trivial ?_
  simp only [go_sem, Nat.reduceEqDiff, Nat.reduceBEq, Nat.reduceAdd, Nat.reduceMul, Nat.reduceSub, Nat.reduceLeDiff, Nat.reduceLT, reduceIte, reduceCtorEq, Int.reduceToNat, Int.reduceLE, Int.reduceLT, Int.reduceNeg, Bool.not_not, and_self, Bool.and_eq_false_iff, Int.cast_ofNat_Int, Int.reduceAdd, Int.reduceSub, Int.reduceMul, Int.reduceEq, Int.reduceNe]
  unfold cmpI
  by_cases h1 : a < b <;> by_cases h2 : b < a <;> simp [h1, h2] <;> omega
theorem wf_is (l : List Int) : WfL 1 (l.map pI) := wf_map (f := pI) (s := 1) (fun a => ⟨rfl, fun c hc => by simp only [PV.cells, List.mem_cons, List.not_mem_nil, or_false] at hc; subst hc; rfl⟩) l
def orL (l : List Int) : Int := (l.find? (fun x => decide (x ≠ 0))).getD 0
theorem orL_no {l : List Int} (h : ∀ j (h : j < l.length), l[j] = 0) : orL l = 0 := by
  have : l.find? (fun x => decide (x ≠ 0)) = none := List.find?_eq_none.2 fun x hx => by
    obtain ⟨j, hj, rfl⟩ := List.mem_iff_getElem.1 hx
    simp [h j hj]
  unfold orL
  rw [this]; rfl
theorem orL_yes : ∀ {l : List Int} {i : Nat} (h : i < l.length), l[i] ≠ 0 → (∀ j (h : j < l.length), j < i → l[j] = 0) → orL l = l[i]
  | [], _, h, _, _ => by simp at h
  | a :: l, 0, _, h1, _ => by have : a ≠ 0 := h1; simp [orL, List.find?_cons, this]
  | a :: l, i + 1, h, h1, h2 => by
    have ha : a = 0 := h2 0 (by simp) (by omega)
    have := orL_yes (l := l) (i := i) (by simpa using h) (by simpa using h1) (fun j hj hji => h2 (j + 1) (by simpa using hj) (by omega))
    simp only [orL, List.getElem_cons_succ] at this ⊢
    rw [List.find?_cons]
    simpa [ha] using this
theorem fn77 (l : List Int) (hl : l.length < 100000) : Fn Try.prog 77 [.lst (l.map pI)] (.pv (pI (orL l))) [] := by
  refine Run77 [] (by simp) ?_
  simp only [go_sem, Nat.reduceEqDiff, Nat.reduceBEq, Nat.reduceAdd, Nat.reduceMul, Nat.reduceSub, Nat.reduceLeDiff, Nat.reduceLT, reduceIte, reduceCtorEq, Int.reduceToNat, Int.reduceLE, Int.reduceLT, Int.reduceNeg, Bool.not_not, and_self, Bool.and_eq_false_iff, Int.cast_ofNat_Int, Int.reduceAdd, Int.reduceSub, Int.reduceMul, Int.reduceEq, Int.reduceNe, M77]
  refine run_loop (T := Nat) (fun i => ⟨[(3, .pv (pI 0)), (6, .pv (.lst (l.map pI))), (7, .pv (pI l.length)), (8, .pv (pI i))], []⟩) (fun i => i ≤ l.length ∧ ∀ j (h : j < l.length), j < i → l[j] = 0) (fun i => l.length - i) 0 rfl ⟨Nat.zero_le _, fun j _ h => absurd h (by omega)⟩ ?_
  intro i ⟨hi, hq⟩
  by_cases hlt : i < l.length
  · simp only [go_sem, Nat.reduceEqDiff, Nat.reduceBEq, Nat.reduceAdd, Nat.reduceMul, Nat.reduceSub, Nat.reduceLeDiff, Nat.reduceLT, reduceIte, reduceCtorEq, Int.reduceToNat, Int.reduceLE, Int.reduceLT, Int.reduceNeg, Bool.not_not, and_self, Bool.and_eq_false_iff, Int.cast_ofNat_Int, Int.reduceAdd, Int.reduceSub, Int.reduceMul, Int.reduceEq, Int.reduceNe, B77_0, wf_is, getD_map hlt, show (i : Int) < (l.length : Int) by omega]
    refine ⟨fun h => ?_, fun h => ⟨⟨by omega, by omega⟩, i + 1, rfl, ⟨hlt, fun j hj hji => ?_⟩, by omega⟩⟩
    · exact (orL_yes hlt h hq).symm
    · by_cases e : j = i
      · subst e; exact h
      · exact hq j hj (by omega)
  · simp only [go_sem, Nat.reduceEqDiff, Nat.reduceBEq, Nat.reduceAdd, Nat.reduceMul, Nat.reduceSub, Nat.reduceLeDiff, Nat.reduceLT, reduceIte, reduceCtorEq, Int.reduceToNat, Int.reduceLE, Int.reduceLT, Int.reduceNeg, Bool.not_not, and_self, Bool.and_eq_false_iff, Int.cast_ofNat_Int, Int.reduceAdd, Int.reduceSub, Int.reduceMul, Int.reduceEq, Int.reduceNe, B77_0, R77_0, show ¬ ((i : Int) < (l.length : Int)) by omega]
    exact (orL_no fun j hj => hq j hj (by omega)).symm
end Go.Vc

namespace Go.Vc
open Go.Proofs
set_option linter.unusedSimpArgs false
set_option linter.unusedVariables false

/-! ## 'OutboxWaits' -/
end Go.Vc

namespace Go.Vc
open Go.Proofs
set_option linter.unusedSimpArgs false

end Go.Vc

namespace Go.Vc
set_option linter.unusedSimpArgs false
set_option linter.unusedVariables false

/-! ## A map from numbers to times from which entries are taken away, and the timers that it stands for (plain) -/
abbrev ED := Nat × Int × Int
abbrev pU6 (n : Int) : PV := .sc (.int .u64 n)
abbrev pI6 (n : Int) : PV := .sc (.int .i64 n)
abbrev enD (e : ED) : Nat × PV × PV := (e.1, pU6 e.2.1, pI6 e.2.2)
def lkD : List ED → Int → Option Int
  | [], _ => none
  | e :: es, k => if k = e.2.1 then some e.2.2 else lkD es k
def putD : List ED → Int → Int → Nat → List ED
  | [], k, v, c => [(c, k, v)]
  | e :: es, k, v, c => if k = e.2.1 then (e.1, k, v) :: es else e :: putD es k v c
def delD : List ED → Int → List ED
  | [], _ => []
  | e :: es, k => if k = e.2.1 then es else e :: delD es k
theorem lkp_D (k : Int) : ∀ es : List ED, lkp (pU6 k) (esD (es.map enD)) = (lkD es k).map pI6
  | [] => rfl
  | e :: es => by
    have ih := lkp_D k es
    unfold esD at ih ⊢
    simp only [List.map_cons, lkp, keyEq, lkD, ih]
    by_cases h : k = e.2.1 <;> simp [h]
theorem put_D (k v : Int) (c : Nat) : ∀ es : List ED, mputD (pU6 k) (pI6 v) c (es.map enD) = (putD es k v c).map enD
  | [] => rfl
  | e :: es => by
    simp only [List.map_cons, mputD, keyEq, putD, put_D k v c es]
    by_cases h : k = e.2.1 <;> simp [h]
theorem del_D (k : Int) : ∀ es : List ED, mdelD (pU6 k) (es.map enD) = (delD es k).map enD
  | [] => rfl
  | e :: es => by
    simp only [List.map_cons, mdelD, keyEq, delD, del_D k es]
    by_cases h : k = e.2.1 <;> simp [h]
theorem like_D (k : Int) : ∀ es : List ED, keysLike .int (pU6 k) (esD (es.map enD))
  | [] => trivial
  | e :: es => by
    have ih := like_D k es
    unfold esD at ih ⊢
    simp only [List.map_cons, keysLike, keyLike]
    exact ⟨trivial, ih⟩
abbrev tpT (t : Tm) : Int × Int := (t.id, t.at_)
/-- the map stands for these timers -/
def PD (es : List ED) (l : List Tm) : Prop := (es.map (·.2)).Perm (l.map tpT)
theorem PD.len {es : List ED} {l : List Tm} (h : PD es l) : es.length = l.length := by have := List.Perm.length_eq h; simpa using this
theorem lkD_none {k : Int} : ∀ {es : List ED}, lkD es k = none ↔ ∀ e ∈ es, e.2.1 ≠ k
  | [] => by simp [lkD]
  | e :: es => by
    simp only [lkD]
    by_cases h : k = e.2.1
    · rw [if_pos h]; simp [h]
    · rw [if_neg h, lkD_none (es := es)]
      constructor
      · intro h2 x hx
        rcases List.mem_cons.1 hx with rfl | hx
        · exact fun e => h e.symm
        · exact h2 x hx
      · exact fun h2 x hx => h2 x (List.mem_cons_of_mem _ hx)
theorem lkD_mem {k v : Int} : ∀ {es : List ED}, lkD es k = some v → ∃ e ∈ es, e.2 = (k, v)
  | [], h => by simp [lkD] at h
  | e :: es, h => by
    simp only [lkD] at h
    by_cases hk : k = e.2.1
    · rw [if_pos hk] at h
      injection h with h
      exact ⟨e, by simp, by rw [hk, ← h]⟩
    · rw [if_neg hk] at h
      obtain ⟨x, h1, h2⟩ := lkD_mem h
      exact ⟨x, List.mem_cons_of_mem _ h1, h2⟩
abbrev keysD (es : List ED) : List Int := es.map (·.2.1)
theorem PD.keys {es : List ED} {l : List Tm} (h : PD es l) (hid : IdsT l) : (keysD es).Nodup := by
  have h2 : (keysD es).Perm (l.map (·.id)) := by
    have := List.Perm.map (fun p : Int × Int => p.1) h
    rw [List.map_map, List.map_map] at this
    exact this
  refine h2.nodup_iff.2 ?_
  rw [List.Nodup, List.pairwise_map]
  exact hid
theorem PD.has {es : List ED} {l : List Tm} (h : PD es l) {k v : Int} (hk : lkD es k = some v) : (⟨v, k⟩ : Tm) ∈ l := by
  obtain ⟨e, h1, h2⟩ := lkD_mem hk
  have : (k, v) ∈ es.map (·.2) := List.mem_map.2 ⟨e, h1, h2⟩
  obtain ⟨t, h3, h4⟩ := List.mem_map.1 (h.mem_iff.1 this)
  simp only [tpT, Prod.mk.injEq] at h4
  obtain ⟨rfl, rfl⟩ := h4
  exact h3
theorem PD.some {es : List ED} {l : List Tm} (h : PD es l) (hid : IdsT l) {t : Tm} (ht : t ∈ l) : lkD es t.id = some t.at_ := by
  cases hk : lkD es t.id with
  | none =>
    have hm : tpT t ∈ es.map (·.2) := h.mem_iff.2 (List.mem_map.2 ⟨t, ht, rfl⟩)
    obtain ⟨e, h1, h2⟩ := List.mem_map.1 hm
    exact absurd (by rw [h2]) (lkD_none.1 hk e h1)
  | some v =>
    have h1 := h.has hk
    have : (⟨v, t.id⟩ : Tm) = t := by
      by_cases he : (⟨v, t.id⟩ : Tm) = t
      · exact he
      · exfalso
        obtain ⟨i, hi, e1⟩ := List.getElem_of_mem h1
        obtain ⟨j, hj, e2⟩ := List.getElem_of_mem ht
        have hid' := List.pairwise_iff_getElem.1 hid
        rcases Nat.lt_trichotomy i j with hl | hl | hl
        · exact hid' i j hi hj hl (by rw [e1, e2])
        · subst hl; exact he (by rw [← e1, ← e2])
        · exact hid' j i hj hi hl (by rw [e1, e2])
    rw [← this]
theorem PD.none {es : List ED} {l : List Tm} (h : PD es l) {k : Int} (hk : ∀ t ∈ l, t.id ≠ k) : lkD es k = none := by
  cases hv : lkD es k with
  | none => rfl
  | some v => exact absurd rfl (hk _ (h.has hv))
theorem delD_filter {k : Int} : ∀ {es : List ED}, (keysD es).Nodup → delD es k = es.filter (fun e => decide (e.2.1 ≠ k))
  | [], _ => rfl
  | e :: es, h => by
    have h' := List.nodup_cons.1 h
    simp only [delD]
    by_cases hk : k = e.2.1
    · rw [if_pos hk, List.filter_cons, if_neg (by simp [hk])]
      exact (List.filter_eq_self.2 fun x hx => by
        simp only [decide_eq_true_eq]
        intro he
        exact h'.1 (List.mem_map.2 ⟨x, hx, by rw [he, hk]⟩)).symm
    · rw [if_neg hk, List.filter_cons, if_pos (by simpa using fun e => hk e.symm), delD_filter h'.2]
theorem PD.stop {es : List ED} {l : List Tm} (h : PD es l) (hid : IdsT l) (k : Int) : PD (delD es k) (offT l k) := by
  unfold PD
  rw [delD_filter (h.keys hid)]
  have h1 := List.Perm.filter (fun p : Int × Int => decide (p.1 ≠ k)) h
  rw [List.filter_map, List.filter_map] at h1
  exact h1
theorem putD_perm {k v : Int} {c : Nat} : ∀ {es : List ED}, (keysD es).Nodup → ((putD es k v c).map (·.2)).Perm ((k, v) :: (delD es k).map (·.2))
  | [], _ => by simp [putD, delD]
  | e :: es, h => by
    have h' := List.nodup_cons.1 h
    simp only [putD, delD]
    by_cases hk : k = e.2.1
    · rw [if_pos hk, if_pos hk]; simp
    · rw [if_neg hk, if_neg hk, List.map_cons, List.map_cons]
      exact (List.Perm.cons _ (putD_perm h'.2)).trans (List.Perm.swap _ _ _)
theorem insT_perm {x : Tm} : ∀ (l : List Tm), (insT l x).Perm (x :: l)
  | [] => List.Perm.refl _
  | a :: l => by
    unfold insT
    split
    · exact (List.Perm.cons _ (insT_perm l)).trans (List.Perm.swap _ _ _)
    · exact List.Perm.refl _
theorem PD.set {es : List ED} {l : List Tm} (h : PD es l) (hid : IdsT l) (k v : Int) (c : Nat) : PD (putD es k v c) (insT (offT l k) ⟨v, k⟩) := by
  refine (putD_perm (h.keys hid)).trans (List.Perm.trans ?_ (List.Perm.map tpT (insT_perm _)).symm)
  exact List.Perm.cons _ (h.stop hid k)
/-! ### ringing, one behind the other -/
def leftT (l : List Tm) (R : List Int) : List Tm := l.filter (fun t => decide (t.id ∉ R))
theorem leftT_nil (l : List Tm) : leftT l [] = l := List.filter_eq_self.2 fun t _ => by simp
theorem leftT_off (l : List Tm) (R : List Int) (r : Int) : offT (leftT l R) r = leftT l (R ++ [r]) := by
  unfold leftT offT
  rw [List.filter_filter]
  refine List.filter_congr fun t _ => ?_
  by_cases h1 : t.id = r <;> by_cases h2 : t.id ∈ R <;> simp [h1, h2]
theorem leftT_ids {l : List Tm} (R : List Int) (h : IdsT l) : IdsT (leftT l R) := h.filter _
theorem ids_eq {l : List Tm} (hid : IdsT l) {s t : Tm} (hs : s ∈ l) (ht : t ∈ l) (h : s.id = t.id) : s = t := by
  obtain ⟨i, hi, e1⟩ := List.getElem_of_mem hs
  obtain ⟨j, hj, e2⟩ := List.getElem_of_mem ht
  have hid' := List.pairwise_iff_getElem.1 hid
  rcases Nat.lt_trichotomy i j with hl | hl | hl
  · exact absurd (by rw [e1, e2]; exact h) (hid' i j hi hj hl)
  · subst hl; rw [← e1, ← e2]
  · exact absurd (by rw [e1, e2]; exact h.symm) (hid' j i hj hi hl)
end Go.Vc
