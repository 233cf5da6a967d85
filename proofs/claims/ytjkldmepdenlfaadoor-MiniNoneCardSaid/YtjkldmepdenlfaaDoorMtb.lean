/- A part of the proofs of the seat YtjkldmepdenlfaaDoor: the contracts of functions, each proved out of its code. -/
import Derived.Test.YtjkldmepdenlfaaDoorVh
import Derived.Test.YtjkldmepdenlfaaDoorProg
import Derived.Test.YtjkldmepdenlfaaDoorMta
import Derived.Test.YtjkldmepdenlfaaDoorVf
import Derived.Test.YtjkldmepdenlfaaDoorDc
namespace Go.Vc
open Go.Proofs
set_option maxRecDepth 100000

/-- 'mini.write' -/
def B48_0 : MC := (.seq (.reg [⟨(some 10), none, (.q (.bin .lss (.t 9) (.t 8)))⟩] [] [0, 7, 8, 9, 10] [17, 1015, 150000]) (.seq (.cond (.t 10) .skip (.exit 0)) (.seq (.block 1 (.seq (.reg [⟨(some 11),
  none, (.q (.ia (.t 7) (.t 9) 1))⟩, ⟨(some 12), none, (.q (.ld (.t 11) 1 false))⟩, ⟨(some 6), none, (.q (.mv (.t 12)))⟩] [] [0, 6, 7, 8, 9] [17, 1015, 150000]) (.reg [⟨(some 13), none,
  (.q (.mv (.t 0)))⟩, ⟨(some 14), none, (.q (.mv (.t 6)))⟩, ⟨(some 15), none, (.calls (.f 65) [(.t 13), (.t 14), (.c (.int .i64 10))])⟩, ⟨(some 16), none, (.lits [(.c (.int .u8 32))] 1)⟩, ⟨(some 17),
  none, (.app (.t 15) (.t 16) 1 1)⟩, ⟨(some 0), none, (.q (.mv (.t 17)))⟩] [] [0, 7, 8, 9] [17, 1015, 150000]))) (.reg [⟨(some 18), none, (.q (.bin .add (.t 9) (.c (.int .i64 1))))⟩, ⟨(some 9), none,
  (.q (.mv (.t 18)))⟩] [] [0, 7, 8, 9] [17, 1015, 150000]))))
def R48_0 : MC := (.seq (.reg [⟨(some 19), none, (.q (.mv (.t 0)))⟩, ⟨(some 4), none, (.q (.mv (.t 19)))⟩] [] [4] [17, 1015, 150000]) .ret)
def M48 : MC := (.seq (.reg [⟨(some 4), none, (.q (.mv .nil))⟩] [] [0, 1] [17, 1015, 150000]) (.seq (.seq (.reg [⟨(some 7), none, (.q (.mv (.t 1)))⟩, ⟨(some 8), none, (.q (.len (.t 7) false))⟩,
  ⟨(some 9), none, (.q (.mv (.c (.int .i64 0))))⟩] [] [0, 7, 8, 9] [17, 1015, 150000]) (.block 0 (.loop B48_0))) R48_0))
theorem mc48 : ofCode Tryd.prog [15] Tryd.f48.ntmps [(0, ⟨[0, 1], [17, 1015, 150000], [], 0, [], none⟩),
    (1, ⟨[0, 7, 8, 9], [17, 1015, 150000], [], 0, [], none⟩),
    (2, ⟨[0, 7, 8, 9, 10], [17, 1015, 150000], [], 0, [], none⟩),
    (3, ⟨[0, 6, 7, 8, 9], [17, 1015, 150000], [], 0, [], none⟩),
    (4, ⟨[0, 7, 8, 9], [17, 1015, 150000], [], 0, [], none⟩),
    (5, ⟨[0, 7, 8, 9], [17, 1015, 150000], [], 0, [], none⟩),
    (6, ⟨[4], [17, 1015, 150000], [], 0, [], none⟩)] (Tryd.f48.body.getD .skip) = some M48 := by kernel_rfl
theorem RunS48 {args : List AV} {st st' : List (Nat × Row)} {v : AV} (h : args.length ≤ 20) (hk : (st'.map (·.1)).Nodup) (hv : run Tryd.prog (retS [RV.tmp 4] v st') M48 [] ⟨entryA 0 args, st⟩) : FnS Tryd.prog 48 args st v st' :=
  FnS_run (by kernel_rfl) Tryd.func48 (by decide) rfl mc48 (by kernel_rfl) (by rw [Tryd.ntmps48]; exact h) (by rw [Tryd.ntmps48]; decide) hk hv

end Go.Vc

namespace Go.Vc
open Go.Proofs
set_option maxRecDepth 100000

/-- 'mini.classes.1' -/
def M47 : MC := (.seq (.reg [⟨(some 4), none, (.q (.mv (.c (.string ⟨#[]⟩))))⟩] [] [0, 1, 2] [1012, 150000, 200000, 200001]) (.seq (.reg [⟨(some 5), none, (.q (.ld (.t 1) 1 false))⟩, ⟨(some 6), none,
  (.q (.slc (.t 5) none (some (.c (.int .i64 0))) 1 false))⟩, ⟨(some 7), none, (.q (.fa (.t 2) 2))⟩, ⟨(some 8), none, (.q (.ld (.t 7) 1 false))⟩, ⟨(some 9), none, (.q (.mv (.t 0)))⟩, ⟨(some 10), none,
  (.q (.ia (.t 8) (.t 9) 1))⟩, ⟨(some 11), none, (.q (.ld (.t 10) 1 false))⟩, ⟨(some 12), none, (.calls (.f 48) [(.t 6), (.t 11)])⟩, ⟨none, none, (.st (.t 1) (.t 12) 1)⟩] [] [1] [1012, 150000, 200000,
  200001]) (.seq (.reg [⟨(some 13), none, (.q (.ld (.t 1) 1 false))⟩, ⟨(some 14), none, (.q (.sob (.t 13)))⟩, ⟨(some 4), none, (.q (.mv (.t 14)))⟩] [] [4] [1012, 150000, 200000, 200001]) .ret)))
theorem mc47 : ofCode Tryd.prog [12] Tryd.f47.ntmps [(0, ⟨[0, 1, 2], [1012, 150000, 200000, 200001], [], 0, [], none⟩),
    (1, ⟨[1], [1012, 150000, 200000, 200001], [(0, 387), (1, 386), (2, 492), (3, 488), (4, 496), (5, 480), (6, 448), (7, 0), (8, 0)], 127, [], none⟩),
    (2, ⟨[4], [1012, 150000, 200000, 200001], [], 0, [], none⟩)] (Tryd.f47.body.getD .skip) = some M47 := by kernel_rfl
theorem RunS47 {args : List AV} {st st' : List (Nat × Row)} {v : AV} (h : args.length ≤ 15) (hk : (st'.map (·.1)).Nodup) (hv : run Tryd.prog (retS [RV.tmp 4] v st') M47 [] ⟨entryA 0 args, st⟩) : FnS Tryd.prog 47 args st v st' :=
  FnS_run (by kernel_rfl) Tryd.func47 (by decide) rfl mc47 (by kernel_rfl) (by rw [Tryd.ntmps47]; exact h) (by rw [Tryd.ntmps47]; decide) hk hv

/-- 'mini.classes.2' -/
def B49_0 : MC := (.seq (.reg [⟨(some 24), none, (.q (.bin .lss (.t 23) (.t 22)))⟩] [] [1, 2, 4, 21, 22, 23, 24] [1016, 1038, 1045, 150000, 200000, 200001, 200002, 200003]) (.seq (.cond (.t 24)
  .skip (.exit 0)) (.seq (.block 1 (.seq (.reg [⟨(some 25), none, (.q (.ia (.t 21) (.t 23) 1))⟩, ⟨(some 26), none, (.q (.ld (.t 25) 1 false))⟩, ⟨(some 8), none, (.q (.mv (.t 26)))⟩] [] [1, 2, 4, 8,
  21, 22, 23] [1016, 1038, 1045, 150000, 200000, 200001, 200002, 200003]) (.seq (.reg [⟨(some 27), none, (.q (.mv (.t 8)))⟩, ⟨(some 28), none, (.q (.bin .eql (.t 27) (.c (.int .i64 (-1)))))⟩,
  ⟨(some 29), none, (.q (.mv (.t 28)))⟩, ⟨(some 30), (some (29, false)), (.q (.ld (.t 4) 1 false))⟩, ⟨(some 31), (some (29, false)), (.q (.mv (.t 8)))⟩, ⟨(some 32), (some (29, false)),
  (.q (.ia (.t 30) (.t 31) 1))⟩, ⟨(some 33), (some (29, false)), (.q (.ld (.t 32) 1 false))⟩, ⟨(some 34), (some (29, false)), (.q (.not (.t 33)))⟩, ⟨(some 35), none, (.q (.pick (.t 29)
  (.c (.bool true)) (.t 34)))⟩] [] [1, 2, 4, 8, 21, 22, 23, 35] [1016, 1038, 1045, 150000, 200000, 200001, 200002, 200003]) (.cond (.t 35) (.reg [⟨(some 36), none, (.q (.ld (.t 1) 1 false))⟩,
  ⟨(some 37), none, (.lits [(.c (.int .i64 (-1)))] 1)⟩, ⟨(some 38), none, (.calls (.f 48) [(.t 36), (.t 37)])⟩, ⟨none, none, (.st (.t 1) (.t 38) 1)⟩] [] [1, 2, 4, 21, 22, 23] [1016, 1038, 1045,
  150000, 200000, 200001, 200002, 200003]) (.reg [⟨(some 39), none, (.q (.ld (.t 1) 1 false))⟩, ⟨(some 40), none, (.q (.ld (.t 2) 1 false))⟩, ⟨(some 41), none, (.q (.mv (.t 8)))⟩, ⟨(some 42), none,
  (.q (.ia (.t 40) (.t 41) 1))⟩, ⟨(some 43), none, (.q (.ld (.t 42) 1 false))⟩, ⟨(some 44), none, (.lits [(.t 43)] 1)⟩, ⟨(some 45), none, (.calls (.f 48) [(.t 39), (.t 44)])⟩, ⟨none, none, (.st (.t 1)
  (.t 45) 1)⟩] [] [1, 2, 4, 21, 22, 23] [1016, 1038, 1045, 150000, 200000, 200001, 200002, 200003]))))) (.reg [⟨(some 46), none, (.q (.bin .add (.t 23) (.c (.int .i64 1))))⟩, ⟨(some 23), none,
  (.q (.mv (.t 46)))⟩] [] [1, 2, 4, 21, 22, 23] [1016, 1038, 1045, 150000, 200000, 200001, 200002, 200003]))))
def R49_0 : MC := (.seq (.reg [⟨(some 47), none, (.q (.ld (.t 1) 1 false))⟩, ⟨(some 48), none, (.q (.sob (.t 47)))⟩, ⟨(some 6), none, (.q (.mv (.t 48)))⟩] [] [6] [1016, 1038, 1045, 150000, 200000,
  200001, 200002, 200003]) .ret)
def M49 : MC := (.seq (.reg [⟨(some 6), none, (.q (.mv (.c (.string ⟨#[]⟩))))⟩] [] [0, 1, 2, 3, 4] [1016, 1038, 1045, 150000, 200000, 200001, 200002, 200003]) (.seq (.reg [⟨(some 9), none,
  (.q (.ld (.t 1) 1 false))⟩, ⟨(some 10), none, (.q (.slc (.t 9) none (some (.c (.int .i64 0))) 1 false))⟩, ⟨(some 11), none, (.q (.ld (.t 2) 1 false))⟩, ⟨(some 12), none, (.q (.mv (.t 0)))⟩,
  ⟨(some 13), none, (.q (.ia (.t 11) (.t 12) 1))⟩, ⟨(some 14), none, (.q (.ld (.t 13) 1 false))⟩, ⟨(some 15), none, (.lits [(.t 14)] 1)⟩, ⟨(some 16), none, (.calls (.f 48) [(.t 10), (.t 15)])⟩, ⟨none,
  none, (.st (.t 1) (.t 16) 1)⟩] [] [0, 1, 2, 3, 4] [1016, 1038, 1045, 150000, 200000, 200001, 200002, 200003]) (.seq (.seq (.reg [⟨(some 17), none, (.q (.fa (.t 3) 1))⟩, ⟨(some 18), none,
  (.q (.ld (.t 17) 1 false))⟩, ⟨(some 19), none, (.q (.mv (.t 0)))⟩, ⟨(some 20), none, (.q (.ia (.t 18) (.t 19) 1))⟩, ⟨(some 21), none, (.q (.ld (.t 20) 1 false))⟩, ⟨(some 22), none, (.q (.len (.t 21)
  false))⟩, ⟨(some 23), none, (.q (.mv (.c (.int .i64 0))))⟩] [] [1, 2, 4, 21, 22, 23] [1016, 1038, 1045, 150000, 200000, 200001, 200002, 200003]) (.block 0 (.loop B49_0))) R49_0)))
theorem mc49 : ofCode Tryd.prog [16, 38, 45] Tryd.f49.ntmps [(0, ⟨[0, 1, 2, 3, 4], [1016, 1038, 1045, 150000, 200000, 200001, 200002, 200003], [], 0, [], none⟩),
    (1, ⟨[0, 1, 2, 3, 4], [1016, 1038, 1045, 150000, 200000, 200001, 200002, 200003], [(0, 387), (1, 386), (2, 500), (3, 504), (4, 496), (5, 480), (6, 0), (7, 0), (8, 0)], 127, [], none⟩),
    (2, ⟨[1, 2, 4, 21, 22, 23], [1016, 1038, 1045, 150000, 200000, 200001, 200002, 200003], [], 0, [], none⟩),
    (3, ⟨[1, 2, 4, 21, 22, 23, 24], [1016, 1038, 1045, 150000, 200000, 200001, 200002, 200003], [], 0, [], none⟩),
    (4, ⟨[1, 2, 4, 8, 21, 22, 23], [1016, 1038, 1045, 150000, 200000, 200001, 200002, 200003], [], 0, [], none⟩),
    (5, ⟨[1, 2, 4, 8, 21, 22, 23, 35], [1016, 1038, 1045, 150000, 200000, 200001, 200002, 200003], [], 0, [], none⟩),
    (6, ⟨[1, 2, 4, 21, 22, 23], [1016, 1038, 1045, 150000, 200000, 200001, 200002, 200003], [], 0, [], none⟩),
    (7, ⟨[1, 2, 4, 21, 22, 23], [1016, 1038, 1045, 150000, 200000, 200001, 200002, 200003], [(0, 193), (1, 250), (2, 252), (3, 248), (4, 240), (5, 0), (6, 0), (7, 0)], 63, [], none⟩),
    (8, ⟨[1, 2, 4, 21, 22, 23], [1016, 1038, 1045, 150000, 200000, 200001, 200002, 200003], [], 0, [], none⟩),
    (9, ⟨[6], [1016, 1038, 1045, 150000, 200000, 200001, 200002, 200003], [], 0, [], none⟩)] (Tryd.f49.body.getD .skip) = some M49 := by kernel_rfl
theorem RunS49 {args : List AV} {st st' : List (Nat × Row)} {v : AV} (h : args.length ≤ 49) (hk : (st'.map (·.1)).Nodup) (hv : run Tryd.prog (retS [RV.tmp 6] v st') M49 [] ⟨entryA 0 args, st⟩) : FnS Tryd.prog 49 args st v st' :=
  FnS_run (by kernel_rfl) Tryd.func49 (by decide) rfl mc49 (by kernel_rfl) (by rw [Tryd.ntmps49]; exact h) (by rw [Tryd.ntmps49]; decide) hk hv

end Go.Vc

namespace Go.Vc
open Go.Proofs
set_option linter.unusedSimpArgs false
set_option linter.unusedVariables false

/-! ## 'mini.write' and the two closures -/
def I64 (i : Int) : Prop := -9223372036854775808 ≤ i ∧ i ≤ 9223372036854775807
theorem itoa_len {i : Int} (h : I64 i) : (Lib.itoa i).length ≤ 21 := by
  obtain ⟨h1, h2⟩ := h
  unfold Lib.itoa
  split
  · rw [List.length_cons, Lib.decDigits_length]
    have := nd20 i.natAbs (by omega)
    omega
  · rw [Lib.decDigits_length]
    have := nd20 i.toNat (by omega)
    omega
theorem txt_cons (i : Int) (l : List Int) : txt (i :: l) = Lib.itoa i ++ [32] ++ txt l := by simp [txt]
theorem txt_len : ∀ {l : List Int}, (∀ i ∈ l, I64 i) → (txt l).length ≤ 22 * l.length
  | [], _ => by simp [txt]
  | i :: l, h => by
    have h1 := txt_len (l := l) fun j hj => h j (List.mem_cons_of_mem _ hj)
    have h2 := itoa_len (h i (by simp))
    rw [txt_cons, List.length_append, List.length_append, List.length_singleton, List.length_cons]
    omega
theorem txt_take {l : List Int} {i : Nat} (h : i < l.length) : txt (l.take (i + 1)) = txt (l.take i) ++ (Lib.itoa l[i] ++ [32]) := by
  rw [List.take_succ_eq_append_getElem h, txt_app]
  simp [txt]
/-- what the buffer's row holds then -/
def ysW (bs : List UInt8) (xs : List PV) (l : List Int) : List PV := if l.length = 0 then xs else pOs (bs ++ txt l)
theorem ysW_take {bs : List UInt8} {xs : List PV} {l : List Int} (hx : xs.take bs.length = pOs bs) : (ysW bs xs l).take (bs ++ txt l).length = pOs (bs ++ txt l) := by
  unfold ysW
  split
  · have : l = [] := List.eq_nil_of_length_eq_zero ‹_›
    subst this; simp [txt, hx]
  · exact List.take_of_length_le (by simp)
theorem fnS48 (bs : List UInt8) (xs : List PV) (l : List Int) (hx : xs.take bs.length = pOs bs) (hI : ∀ i ∈ l, I64 i) (hl : bs.length + 22 * l.length ≤ 1000000) :
    FnS Tryd.prog 48 [.row 150000 0 bs.length, .pv (ints l)] [(150000, .sl 1 xs)] (.row 150000 0 (bs ++ txt l).length) [(150000, .sl 1 (ysW bs xs l))] := by
  let xsA : Nat → List PV := fun i => if i = 0 then xs else pOs (bs ++ txt (l.take i))
  have hxa : ∀ i, (xsA i).take (bs ++ txt (l.take i)).length = pOs (bs ++ txt (l.take i)) := fun i => by
    by_cases h0 : i = 0
    · subst h0; simp [xsA, txt, hx]
    · simp only [xsA, if_neg h0]
      exact List.take_of_length_le (by simp)
  have hfin : ysW bs xs l = xsA l.length := by simp only [ysW, xsA, List.take_length]
  rw [hfin]
  refine RunS48 (by simp) (by simp) ?_
  simp only [go_sem, Nat.reduceEqDiff, Nat.reduceBEq, Nat.reduceAdd, Nat.reduceMul, Nat.reduceSub, Nat.reduceLeDiff, Nat.reduceLT, reduceIte, reduceCtorEq, Int.reduceToNat, Int.reduceLE, Int.reduceLT, Int.reduceNeg, Bool.not_not, and_self, Bool.and_eq_false_iff, Int.cast_ofNat_Int, Int.reduceAdd, Int.reduceSub, Int.reduceMul, Int.reduceEq, Int.reduceNe, M48]
  refine run_loopN (T := Nat) [0, 7, 8, 9] [150000] (fun i => ⟨[(0, .row 150000 0 (bs ++ txt (l.take i)).length), (7, .pv (ints l)), (8, .pv (pI l.length)), (9, .pv (pI i))], [(150000, .sl 1 (xsA i))]⟩)
    (fun i => i ≤ l.length) (fun i => l.length - i) 0 ?_ (Nat.zero_le _) ?_
  · have : xsA 0 = xs := rfl
    simp only [go_sem, Nat.reduceEqDiff, Nat.reduceBEq, Nat.reduceAdd, Nat.reduceMul, Nat.reduceSub, Nat.reduceLeDiff, Nat.reduceLT, reduceIte, reduceCtorEq, Int.reduceToNat, Int.reduceLE, Int.reduceLT, Int.reduceNeg, Bool.not_not, and_self, Bool.and_eq_false_iff, Int.cast_ofNat_Int, Int.reduceAdd, Int.reduceSub, Int.reduceMul, Int.reduceEq, Int.reduceNe, this]
    simp [txt]
  intro i hi
  have hxi := hxa i
  by_cases hlt : i < l.length
  · have hIi := hI l[i] (List.getElem_mem hlt)
    have hn : (bs ++ txt (l.take i)).length ≤ 1000000 := by
      have := txt_len (l := l.take i) fun j hj => hI j (List.mem_of_mem_take hj)
      rw [List.length_take] at this
      rw [List.length_append]; omega
    have hn2 := itoa_len hIi
    have hnx : bs ++ txt (l.take (i + 1)) = bs ++ txt (l.take i) ++ Lib.itoa l[i] ++ [32] := by rw [txt_take hlt]; simp
    have hx1 : xsA (i + 1) = pOs (bs ++ txt (l.take i) ++ Lib.itoa l[i] ++ [32]) := by simp only [xsA, Nat.add_eq_zero_iff, Nat.succ_ne_self, and_false, if_false, hnx]
    generalize bs ++ txt (l.take i) = b at hxi hn hnx hx1
    generalize xsA i = xi at hxi
    have hS := fnS65 b xi l[i] hxi hIi.1 hIi.2 (by omega)
    simp only [go_sem, Nat.reduceEqDiff, Nat.reduceBEq, Nat.reduceAdd, Nat.reduceMul, Nat.reduceSub, Nat.reduceLeDiff, Nat.reduceLT, reduceIte, reduceCtorEq, Int.reduceToNat, Int.reduceLE, Int.reduceLT, Int.reduceNeg, Bool.not_not, and_self, Bool.and_eq_false_iff, Int.cast_ofNat_Int, Int.reduceAdd, Int.reduceSub, Int.reduceMul, Int.reduceEq, Int.reduceNe, B48_0, show (i : Int) < (l.length : Int) by omega, wf_ints, getD_map hlt]
    refine runR_calls (fun n => n) (by simp only [go_sem, Nat.reduceEqDiff, Nat.reduceBEq, Nat.reduceAdd, Nat.reduceMul, Nat.reduceSub, Nat.reduceLeDiff, Nat.reduceLT, reduceIte, reduceCtorEq, Int.reduceToNat, Int.reduceLE, Int.reduceLT, Int.reduceNeg, Bool.not_not, and_self, Bool.and_eq_false_iff, Int.cast_ofNat_Int, Int.reduceAdd, Int.reduceSub, Int.reduceMul, Int.reduceEq, Int.reduceNe]) (by simp only [go_sem, Nat.reduceEqDiff, Nat.reduceBEq, Nat.reduceAdd, Nat.reduceMul, Nat.reduceSub, Nat.reduceLeDiff, Nat.reduceLT, reduceIte, reduceCtorEq, Int.reduceToNat, Int.reduceLE, Int.reduceLT, Int.reduceNeg, Bool.not_not, and_self, Bool.and_eq_false_iff, Int.cast_ofNat_Int, Int.reduceAdd, Int.reduceSub, Int.reduceMul, Int.reduceEq, Int.reduceNe] <;> rfl) hS rfl (by intro e he; simp only [List.mem_cons, List.not_mem_nil, or_false] at he; rcases he with rfl <;> simp only [go_sem, Nat.reduceEqDiff, Nat.reduceBEq, Nat.reduceAdd, Nat.reduceMul, Nat.reduceSub, Nat.reduceLeDiff, Nat.reduceLT, reduceIte, reduceCtorEq, Int.reduceToNat, Int.reduceLE, Int.reduceLT, Int.reduceNeg, Bool.not_not, and_self, Bool.and_eq_false_iff, Int.cast_ofNat_Int, Int.reduceAdd, Int.reduceSub, Int.reduceMul, Int.reduceEq, Int.reduceNe]) (by simp) (by simp) (by simp) (by intro e he _; simp only [List.mem_cons, List.not_mem_nil, or_false] at he; rcases he with rfl <;> simp) ?_
    have hl2 : (pOs (b ++ Lib.itoa l[i])).take (b.length + (Lib.itoa l[i]).length) = pOs (b ++ Lib.itoa l[i]) := List.take_of_length_le (by simp)
    simp only [go_sem, Nat.reduceEqDiff, Nat.reduceBEq, Nat.reduceAdd, Nat.reduceMul, Nat.reduceSub, Nat.reduceLeDiff, Nat.reduceLT, reduceIte, reduceCtorEq, Int.reduceToNat, Int.reduceLE, Int.reduceLT, Int.reduceNeg, Bool.not_not, and_self, Bool.and_eq_false_iff, Int.cast_ofNat_Int, Int.reduceAdd, Int.reduceSub, Int.reduceMul, Int.reduceEq, Int.reduceNe, hl2]
    refine ⟨⟨wf_pO [32], by omega, by omega⟩, ⟨by omega, by omega⟩, i + 1, ?_, hlt, by omega⟩
    have e1 : (b ++ Lib.itoa l[i] ++ [32]).length = b.length + (Lib.itoa l[i]).length + 1 := by simp only [List.length_append, List.length_singleton]
    have e2 : pOs (b ++ Lib.itoa l[i] ++ [32]) = pOs (b ++ Lib.itoa l[i]) ++ [PV.sc (Value.int IntKind.u8 32)] := by simp only [pOs, List.map_append, List.map_cons, List.map_nil]; rfl
    rw [hnx, hx1, e1, e2]
    rfl
  · obtain rfl : i = l.length := by omega
    simp only [go_sem, Nat.reduceEqDiff, Nat.reduceBEq, Nat.reduceAdd, Nat.reduceMul, Nat.reduceSub, Nat.reduceLeDiff, Nat.reduceLT, reduceIte, reduceCtorEq, Int.reduceToNat, Int.reduceLE, Int.reduceLT, Int.reduceNeg, Bool.not_not, and_self, Bool.and_eq_false_iff, Int.cast_ofNat_Int, Int.reduceAdd, Int.reduceSub, Int.reduceMul, Int.reduceEq, Int.reduceNe, B48_0, R48_0, show ¬ (l.length : Int) < (l.length : Int) by omega, List.take_length]
theorem intsOf_pO : ∀ l : List UInt8, intsOf (pOs l) = some (l.map fun b => (b.toNat : Int))
  | [] => rfl
  | b :: l => by simp only [pOs, List.map_cons, intsOf] at *; rw [show List.map pO l = pOs l from rfl, intsOf_pO l]
theorem strOf_list (l : List UInt8) : strOf (l.map fun b => (b.toNat : Int)) = mkB l := by
  have h : ∀ (l : List UInt8) (r : ByteArray), (l.map fun b => (b.toNat : Int)).foldl (fun r n => r.push (UInt8.ofNat n.toNat)) r = ⟨r.data ++ l.toArray⟩ := fun l => by
    induction l with
    | nil => intro r; simp
    | cons b l ih =>
      intro r
      rw [List.map_cons, List.foldl_cons, ih]
      congr 1
      simp [ByteArray.push]
  unfold strOf
  rw [h]
  simp only [ByteArray.empty, ByteArray.emptyWithCapacity]
  congr 1
  simp
  rfl
theorem wf_intss (l : List (List Int)) : WfL 1 (l.map ints) := wf_map (f := ints) (s := 1) (fun a => ⟨rfl, fun c hc => by
  simp only [PV.cells, List.mem_cons, List.not_mem_nil, or_false] at hc
  subst hc; rfl⟩) l
abbrev dBox (d : DI) : List AV := [.pv (ss d.signs), .pv (.lst (d.next.map ints)), .pv (.lst (d.done.map ints))]
structure DI.Ints (d : DI) : Prop where
  len : ∀ i, (d.done.getD i []).length ≤ 1000
  val : ∀ i, ∀ n ∈ d.done.getD i [], I64 n
theorem fnS47 (d : DI) (i n : Nat) (xs : List PV) (hd : d.Ints) (hi : i < d.done.length) :
    FnS Tryd.prog 47 [.pv (pI i), .ptr 200000 0, .ptr 200001 0] [(200000, .box [.row 150000 0 n]), (150000, .sl 1 xs), (200001, .box (dBox d))] (.pv (pS (bT (d.done.getD i []))))
      [(200000, .box [.row 150000 0 (txt (d.done.getD i [])).length]), (150000, .sl 1 (ysW [] xs (d.done.getD i []))), (200001, .box (dBox d))] := by
  have hS := fnS48 [] xs (d.done.getD i []) (by simp) (hd.val i) (by have := hd.len i; simp only [List.length_nil]; omega)
  have hy := ysW_take (bs := []) (xs := xs) (l := d.done.getD i []) (by simp)
  have hge : d.done[i] = d.done.getD i [] := by simp [List.getD_eq_getElem?_getD, hi]
  refine RunS47 (by simp) (by simp) ?_
  simp only [go_sem, Nat.reduceEqDiff, Nat.reduceBEq, Nat.reduceAdd, Nat.reduceMul, Nat.reduceSub, Nat.reduceLeDiff, Nat.reduceLT, reduceIte, reduceCtorEq, Int.reduceToNat, Int.reduceLE, Int.reduceLT, Int.reduceNeg, Bool.not_not, and_self, Bool.and_eq_false_iff, Int.cast_ofNat_Int, Int.reduceAdd, Int.reduceSub, Int.reduceMul, Int.reduceEq, Int.reduceNe, M47, getD_map hi, hge]
  refine ⟨⟨by omega, wf_intss _⟩, ?_⟩
  refine runR_calls (fun n => n) (by simp only [go_sem, Nat.reduceEqDiff, Nat.reduceBEq, Nat.reduceAdd, Nat.reduceMul, Nat.reduceSub, Nat.reduceLeDiff, Nat.reduceLT, reduceIte, reduceCtorEq, Int.reduceToNat, Int.reduceLE, Int.reduceLT, Int.reduceNeg, Bool.not_not, and_self, Bool.and_eq_false_iff, Int.cast_ofNat_Int, Int.reduceAdd, Int.reduceSub, Int.reduceMul, Int.reduceEq, Int.reduceNe]) (by simp only [go_sem, Nat.reduceEqDiff, Nat.reduceBEq, Nat.reduceAdd, Nat.reduceMul, Nat.reduceSub, Nat.reduceLeDiff, Nat.reduceLT, reduceIte, reduceCtorEq, Int.reduceToNat, Int.reduceLE, Int.reduceLT, Int.reduceNeg, Bool.not_not, and_self, Bool.and_eq_false_iff, Int.cast_ofNat_Int, Int.reduceAdd, Int.reduceSub, Int.reduceMul, Int.reduceEq, Int.reduceNe] <;> rfl) hS rfl (by intro e he; simp only [List.mem_cons, List.not_mem_nil, or_false] at he; rcases he with rfl <;> simp only [go_sem, Nat.reduceEqDiff, Nat.reduceBEq, Nat.reduceAdd, Nat.reduceMul, Nat.reduceSub, Nat.reduceLeDiff, Nat.reduceLT, reduceIte, reduceCtorEq, Int.reduceToNat, Int.reduceLE, Int.reduceLT, Int.reduceNeg, Bool.not_not, and_self, Bool.and_eq_false_iff, Int.cast_ofNat_Int, Int.reduceAdd, Int.reduceSub, Int.reduceMul, Int.reduceEq, Int.reduceNe]) (by simp) (by simp) (by simp) (by intro e he _; simp only [List.mem_cons, List.not_mem_nil, or_false] at he; rcases he with rfl <;> simp) ?_
  simp only [List.nil_append] at hy
  simp only [go_sem, Nat.reduceEqDiff, Nat.reduceBEq, Nat.reduceAdd, Nat.reduceMul, Nat.reduceSub, Nat.reduceLeDiff, Nat.reduceLT, reduceIte, reduceCtorEq, Int.reduceToNat, Int.reduceLE, Int.reduceLT, Int.reduceNeg, Bool.not_not, and_self, Bool.and_eq_false_iff, Int.cast_ofNat_Int, Int.reduceAdd, Int.reduceSub, Int.reduceMul, Int.reduceEq, Int.reduceNe, hy, intsOf_pO, strOf_list]
  exact ⟨_, rfl⟩
/-! ### the second closure -/
abbrev clRows (n : Nat) (xs : List PV) (cl : List Nat) (d : DI) (lv : List Bool) : List (Nat × Row) :=
  [(200000, .box [.row 150000 0 n]), (150000, .sl 1 xs), (200001, .box [.pv (pNs cl)]), (200002, .box (dBox d)), (200003, .box [.pv (.lst (lv.map fun b => pB b))])]
structure DI.Ok (d : DI) : Prop where
  n0 : 0 < d.next.length
  n : d.next.length ≤ 1000
  done : d.done.length = d.next.length
  signs : d.signs.length ≤ 1000
  width : ∀ i, (d.next.getD i []).length ≤ 1000
  rows : d.Rows
  ints : d.Ints
theorem wf_bls (l : List Bool) : WfL 1 (l.map fun b => pB b) := wf_map (f := fun b : Bool => pB b) (s := 1) (fun a => ⟨rfl, fun c hc => by
  simp only [PV.cells, List.mem_cons, List.not_mem_nil, or_false] at hc
  subst hc; rfl⟩) l
theorem way_I64 {lv : List Bool} {cl : List Nat} (hc : ∀ c ∈ cl, c ≤ 1000) (t : Int) : I64 (wayC lv cl t) := by
  unfold wayC I64
  split
  · omega
  · have : cl.getD t.toNat 0 ≤ 1000 := by
      rw [List.getD_eq_getElem?_getD]
      cases h : cl[t.toNat]? with
      | none => simp
      | some c => exact hc c (List.mem_of_getElem? h)
    omega
theorem fnS49 (d : DI) (i n : Nat) (xs : List PV) (cl : List Nat) (lv : List Bool) (hd : d.Ok) (hi : i < d.next.length) (hcl : cl.length = d.next.length) (hlv : lv.length = d.next.length) (hc : ∀ c ∈ cl, c ≤ 1000) :
    FnS Tryd.prog 49 [.pv (pI i), .ptr 200000 0, .ptr 200001 0, .ptr 200002 0, .ptr 200003 0] (clRows n xs cl d lv) (.pv (pS (bT (keyC d lv cl i)))) (clRows (txt (keyC d lv cl i)).length (pOs (txt (keyC d lv cl i))) cl d lv) := by
  have hci : (cl.getD i 0 : Nat) ≤ 1000 := by
    rw [List.getD_eq_getElem?_getD, List.getElem?_eq_getElem (by omega)]; exact hc _ (List.getElem_mem _)
  have hS := fnS48 [] xs [(cl.getD i 0 : Int)] (by simp) (by intro j hj; simp only [List.mem_singleton] at hj; subst hj; unfold I64; omega) (by simp only [List.length_nil, List.length_singleton]; omega)
  rw [show ysW [] xs [(cl.getD i 0 : Int)] = pOs (txt [(cl.getD i 0 : Int)]) from rfl, List.nil_append, List.length_nil] at hS
  obtain ⟨row, hrow⟩ : ∃ row, row = d.next.getD i [] := ⟨_, rfl⟩
  have hnx : d.next[i] = row := by rw [hrow]; simp [List.getD_eq_getElem?_getD, hi]
  have hrl : row.length ≤ 1000 := by rw [hrow]; exact hd.width i
  have hrr : ∀ t ∈ row, -1 ≤ t ∧ t < (d.next.length : Int) := by rw [hrow]; exact hd.rows i
  have hlen : (toI cl).length = d.next.length := by simp [toI, hcl]
  have hcg : ∀ k (h : k < cl.length), (toI cl)[k]'(by simpa [toI] using h) = (cl.getD k 0 : Int) := fun k h => by simp [toI, List.getD_eq_getElem?_getD, h]
  have hkey : keyC d lv cl i = (cl.getD i 0 : Int) :: row.map (wayC lv cl) := by unfold keyC; rw [hrow]
  let pre : Nat → List Int := fun j => (cl.getD i 0 : Int) :: (row.take j).map (wayC lv cl)
  have hpre : pre row.length = keyC d lv cl i := by simp only [pre, List.take_length, hkey]
  rw [← hpre]
  refine RunS49 (by simp) (by simp) ?_
  simp only [go_sem, Nat.reduceEqDiff, Nat.reduceBEq, Nat.reduceAdd, Nat.reduceMul, Nat.reduceSub, Nat.reduceLeDiff, Nat.reduceLT, reduceIte, reduceCtorEq, Int.reduceToNat, Int.reduceLE, Int.reduceLT, Int.reduceNeg, Bool.not_not, and_self, Bool.and_eq_false_iff, Int.cast_ofNat_Int, Int.reduceAdd, Int.reduceSub, Int.reduceMul, Int.reduceEq, Int.reduceNe, M49, getD_map (show i < (toI cl).length by omega), getD_map hi, hnx, hcg i (by omega), hlen, wf_intss, wf_ints]
  refine ⟨by omega, ?_⟩
  refine runR_calls (fun n => n) (by simp only [go_sem, Nat.reduceEqDiff, Nat.reduceBEq, Nat.reduceAdd, Nat.reduceMul, Nat.reduceSub, Nat.reduceLeDiff, Nat.reduceLT, reduceIte, reduceCtorEq, Int.reduceToNat, Int.reduceLE, Int.reduceLT, Int.reduceNeg, Bool.not_not, and_self, Bool.and_eq_false_iff, Int.cast_ofNat_Int, Int.reduceAdd, Int.reduceSub, Int.reduceMul, Int.reduceEq, Int.reduceNe]) (by simp only [go_sem, Nat.reduceEqDiff, Nat.reduceBEq, Nat.reduceAdd, Nat.reduceMul, Nat.reduceSub, Nat.reduceLeDiff, Nat.reduceLT, reduceIte, reduceCtorEq, Int.reduceToNat, Int.reduceLE, Int.reduceLT, Int.reduceNeg, Bool.not_not, and_self, Bool.and_eq_false_iff, Int.cast_ofNat_Int, Int.reduceAdd, Int.reduceSub, Int.reduceMul, Int.reduceEq, Int.reduceNe] <;> rfl) hS rfl (by intro e he; simp only [List.mem_cons, List.not_mem_nil, or_false] at he; rcases he with rfl <;> simp only [go_sem, Nat.reduceEqDiff, Nat.reduceBEq, Nat.reduceAdd, Nat.reduceMul, Nat.reduceSub, Nat.reduceLeDiff, Nat.reduceLT, reduceIte, reduceCtorEq, Int.reduceToNat, Int.reduceLE, Int.reduceLT, Int.reduceNeg, Bool.not_not, and_self, Bool.and_eq_false_iff, Int.cast_ofNat_Int, Int.reduceAdd, Int.reduceSub, Int.reduceMul, Int.reduceEq, Int.reduceNe]) (by simp) (by simp) (by simp) (by intro e he _; simp only [List.mem_cons, List.not_mem_nil, or_false] at he; rcases he with rfl <;> simp) ?_
  simp only [go_sem, Nat.reduceEqDiff, Nat.reduceBEq, Nat.reduceAdd, Nat.reduceMul, Nat.reduceSub, Nat.reduceLeDiff, Nat.reduceLT, reduceIte, reduceCtorEq, Int.reduceToNat, Int.reduceLE, Int.reduceLT, Int.reduceNeg, Bool.not_not, and_self, Bool.and_eq_false_iff, Int.cast_ofNat_Int, Int.reduceAdd, Int.reduceSub, Int.reduceMul, Int.reduceEq, Int.reduceNe, getD_map hi, hnx, wf_intss]
  refine ⟨by omega, ?_⟩
  have hpI : ∀ j, ∀ v ∈ pre j, I64 v := fun j v hv => by
    simp only [pre, List.mem_cons, List.mem_map] at hv
    rcases hv with rfl | ⟨t, _, rfl⟩
    · unfold I64; omega
    · exact way_I64 hc t
  have hpl : ∀ j, j ≤ row.length → (txt (pre j)).length ≤ 22 * 1001 := fun j hj => by
    have := txt_len (hpI j)
    simp only [pre, List.length_cons, List.length_map, List.length_take] at this ⊢
    omega
  have hps : ∀ j (h : j < row.length), pre (j + 1) = pre j ++ [wayC lv cl row[j]] := fun j h => by
    simp only [pre, List.take_succ_eq_append_getElem h, List.map_append, List.map_cons, List.map_nil, List.cons_append]
  clear hS
  refine run_loopN (T := Nat) [1, 2, 4, 21, 22, 23] [150000, 200000, 200001, 200002, 200003] (fun j => ⟨[(1, .ptr 200000 0), (2, .ptr 200001 0), (4, .ptr 200003 0), (21, .pv (ints row)), (22, .pv (pI row.length)), (23, .pv (pI j))],
    [(150000, .sl 1 (pOs (txt (pre j)))), (200000, .box [.row 150000 0 (txt (pre j)).length]), (200001, .box [.pv (pNs cl)]), (200002, .box (dBox d)), (200003, .box [.pv (.lst (lv.map fun b => pB b))])]⟩)
    (fun j => j ≤ row.length) (fun j => row.length - j) 0 rfl (Nat.zero_le _) ?_
  intro j hj
  have hpj := hpl j hj
  by_cases hlt : j < row.length
  · obtain ⟨hr1, hr2⟩ := hrr row[j] (List.getElem_mem hlt)
    have hps1 := hps j hlt
    have hp1 : txt (pre (j + 1)) = txt (pre j) ++ txt [wayC lv cl row[j]] := by rw [hps1, txt_app]
    have step : ∀ v, wayC lv cl row[j] = v → I64 v → FnS Tryd.prog 48 [.row 150000 0 (txt (pre j)).length, .pv (ints [v])] [(150000, .sl 1 (pOs (txt (pre j))))] (.row 150000 0 (txt (pre (j + 1))).length) [(150000, .sl 1 (pOs (txt (pre (j + 1)))))] := fun v hv hI => by
      have := fnS48 (txt (pre j)) (pOs (txt (pre j))) [v] (List.take_of_length_le (by simp)) (by intro k hk; simp only [List.mem_singleton] at hk; subst hk; exact hI) (by simp only [List.length_singleton]; omega)
      rw [show ysW (txt (pre j)) (pOs (txt (pre j))) [v] = pOs (txt (pre j) ++ txt [v]) from rfl, ← hv, ← hp1] at this
      rw [← hv]; exact this
    have hwI := way_I64 (lv := lv) hc row[j]
    clear hp1 hps1
    by_cases hm : row[j] = -1
    · have hw : wayC lv cl row[j] = -1 := by simp [wayC, dead, hm]
      have hS := step (-1) hw (by unfold I64; omega)
      simp only [go_sem, Nat.reduceEqDiff, Nat.reduceBEq, Nat.reduceAdd, Nat.reduceMul, Nat.reduceSub, Nat.reduceLeDiff, Nat.reduceLT, reduceIte, reduceCtorEq, Int.reduceToNat, Int.reduceLE, Int.reduceLT, Int.reduceNeg, Bool.not_not, and_self, Bool.and_eq_false_iff, Int.cast_ofNat_Int, Int.reduceAdd, Int.reduceSub, Int.reduceMul, Int.reduceEq, Int.reduceNe, B49_0, show (j : Int) < (row.length : Int) by omega, wf_ints, getD_map hlt, hm]
      refine runR_calls (fun n => n) (by simp only [go_sem, Nat.reduceEqDiff, Nat.reduceBEq, Nat.reduceAdd, Nat.reduceMul, Nat.reduceSub, Nat.reduceLeDiff, Nat.reduceLT, reduceIte, reduceCtorEq, Int.reduceToNat, Int.reduceLE, Int.reduceLT, Int.reduceNeg, Bool.not_not, and_self, Bool.and_eq_false_iff, Int.cast_ofNat_Int, Int.reduceAdd, Int.reduceSub, Int.reduceMul, Int.reduceEq, Int.reduceNe]) (by simp only [go_sem, Nat.reduceEqDiff, Nat.reduceBEq, Nat.reduceAdd, Nat.reduceMul, Nat.reduceSub, Nat.reduceLeDiff, Nat.reduceLT, reduceIte, reduceCtorEq, Int.reduceToNat, Int.reduceLE, Int.reduceLT, Int.reduceNeg, Bool.not_not, and_self, Bool.and_eq_false_iff, Int.cast_ofNat_Int, Int.reduceAdd, Int.reduceSub, Int.reduceMul, Int.reduceEq, Int.reduceNe] <;> rfl) hS rfl (by intro e he; simp only [List.mem_cons, List.not_mem_nil, or_false] at he; rcases he with rfl <;> simp only [go_sem, Nat.reduceEqDiff, Nat.reduceBEq, Nat.reduceAdd, Nat.reduceMul, Nat.reduceSub, Nat.reduceLeDiff, Nat.reduceLT, reduceIte, reduceCtorEq, Int.reduceToNat, Int.reduceLE, Int.reduceLT, Int.reduceNeg, Bool.not_not, and_self, Bool.and_eq_false_iff, Int.cast_ofNat_Int, Int.reduceAdd, Int.reduceSub, Int.reduceMul, Int.reduceEq, Int.reduceNe]) (by simp) (by simp) (by simp) (by intro e he _; simp only [List.mem_cons, List.not_mem_nil, or_false] at he; rcases he with rfl <;> simp) ?_
      simp only [go_sem, Nat.reduceEqDiff, Nat.reduceBEq, Nat.reduceAdd, Nat.reduceMul, Nat.reduceSub, Nat.reduceLeDiff, Nat.reduceLT, reduceIte, reduceCtorEq, Int.reduceToNat, Int.reduceLE, Int.reduceLT, Int.reduceNeg, Bool.not_not, and_self, Bool.and_eq_false_iff, Int.cast_ofNat_Int, Int.reduceAdd, Int.reduceSub, Int.reduceMul, Int.reduceEq, Int.reduceNe]
      exact ⟨⟨by omega, by omega⟩, j + 1, rfl, hlt, by omega⟩
    · have htl : row[j].toNat < lv.length := by omega
      have hlvg : lv.getD row[j].toNat false = lv[row[j].toNat] := by simp [List.getD_eq_getElem?_getD, htl]
      cases hb : lv[row[j].toNat] with
      | false =>
        have hw : wayC lv cl row[j] = -1 := by unfold wayC dead; rw [hlvg, hb]; simp
        have hS := step (-1) hw (by unfold I64; omega)
        simp only [go_sem, Nat.reduceEqDiff, Nat.reduceBEq, Nat.reduceAdd, Nat.reduceMul, Nat.reduceSub, Nat.reduceLeDiff, Nat.reduceLT, reduceIte, reduceCtorEq, Int.reduceToNat, Int.reduceLE, Int.reduceLT, Int.reduceNeg, Bool.not_not, and_self, Bool.and_eq_false_iff, Int.cast_ofNat_Int, Int.reduceAdd, Int.reduceSub, Int.reduceMul, Int.reduceEq, Int.reduceNe, B49_0, show (j : Int) < (row.length : Int) by omega, wf_ints, getD_map hlt, hm, getD_map htl, hb, wf_bls]
        refine ⟨⟨by omega, by omega⟩, ?_⟩
        refine runR_calls (fun n => n) (by simp only [go_sem, Nat.reduceEqDiff, Nat.reduceBEq, Nat.reduceAdd, Nat.reduceMul, Nat.reduceSub, Nat.reduceLeDiff, Nat.reduceLT, reduceIte, reduceCtorEq, Int.reduceToNat, Int.reduceLE, Int.reduceLT, Int.reduceNeg, Bool.not_not, and_self, Bool.and_eq_false_iff, Int.cast_ofNat_Int, Int.reduceAdd, Int.reduceSub, Int.reduceMul, Int.reduceEq, Int.reduceNe]) (by simp only [go_sem, Nat.reduceEqDiff, Nat.reduceBEq, Nat.reduceAdd, Nat.reduceMul, Nat.reduceSub, Nat.reduceLeDiff, Nat.reduceLT, reduceIte, reduceCtorEq, Int.reduceToNat, Int.reduceLE, Int.reduceLT, Int.reduceNeg, Bool.not_not, and_self, Bool.and_eq_false_iff, Int.cast_ofNat_Int, Int.reduceAdd, Int.reduceSub, Int.reduceMul, Int.reduceEq, Int.reduceNe] <;> rfl) hS rfl (by intro e he; simp only [List.mem_cons, List.not_mem_nil, or_false] at he; rcases he with rfl <;> simp only [go_sem, Nat.reduceEqDiff, Nat.reduceBEq, Nat.reduceAdd, Nat.reduceMul, Nat.reduceSub, Nat.reduceLeDiff, Nat.reduceLT, reduceIte, reduceCtorEq, Int.reduceToNat, Int.reduceLE, Int.reduceLT, Int.reduceNeg, Bool.not_not, and_self, Bool.and_eq_false_iff, Int.cast_ofNat_Int, Int.reduceAdd, Int.reduceSub, Int.reduceMul, Int.reduceEq, Int.reduceNe]) (by simp) (by simp) (by simp) (by intro e he _; simp only [List.mem_cons, List.not_mem_nil, or_false] at he; rcases he with rfl <;> simp) ?_
        simp only [go_sem, Nat.reduceEqDiff, Nat.reduceBEq, Nat.reduceAdd, Nat.reduceMul, Nat.reduceSub, Nat.reduceLeDiff, Nat.reduceLT, reduceIte, reduceCtorEq, Int.reduceToNat, Int.reduceLE, Int.reduceLT, Int.reduceNeg, Bool.not_not, and_self, Bool.and_eq_false_iff, Int.cast_ofNat_Int, Int.reduceAdd, Int.reduceSub, Int.reduceMul, Int.reduceEq, Int.reduceNe]
        exact ⟨⟨by omega, by omega⟩, j + 1, rfl, hlt, by omega⟩
      | true =>
        have hw : wayC lv cl row[j] = (cl.getD row[j].toNat 0 : Int) := by unfold wayC dead; rw [hlvg, hb]; simp [hm]
        have hS := step _ hw (by rw [← hw]; exact hwI)
        simp only [go_sem, Nat.reduceEqDiff, Nat.reduceBEq, Nat.reduceAdd, Nat.reduceMul, Nat.reduceSub, Nat.reduceLeDiff, Nat.reduceLT, reduceIte, reduceCtorEq, Int.reduceToNat, Int.reduceLE, Int.reduceLT, Int.reduceNeg, Bool.not_not, and_self, Bool.and_eq_false_iff, Int.cast_ofNat_Int, Int.reduceAdd, Int.reduceSub, Int.reduceMul, Int.reduceEq, Int.reduceNe, B49_0, show (j : Int) < (row.length : Int) by omega, wf_ints, getD_map hlt, hm, getD_map htl, hb, wf_bls, getD_map (show row[j].toNat < (toI cl).length by omega), hcg row[j].toNat (by omega)]
        refine ⟨⟨by omega, by omega⟩, ⟨by omega, by omega⟩, ?_⟩
        refine runR_calls (fun n => n) (by simp only [go_sem, Nat.reduceEqDiff, Nat.reduceBEq, Nat.reduceAdd, Nat.reduceMul, Nat.reduceSub, Nat.reduceLeDiff, Nat.reduceLT, reduceIte, reduceCtorEq, Int.reduceToNat, Int.reduceLE, Int.reduceLT, Int.reduceNeg, Bool.not_not, and_self, Bool.and_eq_false_iff, Int.cast_ofNat_Int, Int.reduceAdd, Int.reduceSub, Int.reduceMul, Int.reduceEq, Int.reduceNe]) (by simp only [go_sem, Nat.reduceEqDiff, Nat.reduceBEq, Nat.reduceAdd, Nat.reduceMul, Nat.reduceSub, Nat.reduceLeDiff, Nat.reduceLT, reduceIte, reduceCtorEq, Int.reduceToNat, Int.reduceLE, Int.reduceLT, Int.reduceNeg, Bool.not_not, and_self, Bool.and_eq_false_iff, Int.cast_ofNat_Int, Int.reduceAdd, Int.reduceSub, Int.reduceMul, Int.reduceEq, Int.reduceNe] <;> rfl) hS rfl (by intro e he; simp only [List.mem_cons, List.not_mem_nil, or_false] at he; rcases he with rfl <;> simp only [go_sem, Nat.reduceEqDiff, Nat.reduceBEq, Nat.reduceAdd, Nat.reduceMul, Nat.reduceSub, Nat.reduceLeDiff, Nat.reduceLT, reduceIte, reduceCtorEq, Int.reduceToNat, Int.reduceLE, Int.reduceLT, Int.reduceNeg, Bool.not_not, and_self, Bool.and_eq_false_iff, Int.cast_ofNat_Int, Int.reduceAdd, Int.reduceSub, Int.reduceMul, Int.reduceEq, Int.reduceNe]) (by simp) (by simp) (by simp) (by intro e he _; simp only [List.mem_cons, List.not_mem_nil, or_false] at he; rcases he with rfl <;> simp) ?_
        simp only [go_sem, Nat.reduceEqDiff, Nat.reduceBEq, Nat.reduceAdd, Nat.reduceMul, Nat.reduceSub, Nat.reduceLeDiff, Nat.reduceLT, reduceIte, reduceCtorEq, Int.reduceToNat, Int.reduceLE, Int.reduceLT, Int.reduceNeg, Bool.not_not, and_self, Bool.and_eq_false_iff, Int.cast_ofNat_Int, Int.reduceAdd, Int.reduceSub, Int.reduceMul, Int.reduceEq, Int.reduceNe]
        exact ⟨⟨by omega, by omega⟩, j + 1, rfl, hlt, by omega⟩
  · obtain rfl : j = row.length := by omega
    have htk : (pOs (txt (pre row.length))).take (txt (pre row.length)).length = pOs (txt (pre row.length)) := List.take_of_length_le (by simp)
    simp only [go_sem, Nat.reduceEqDiff, Nat.reduceBEq, Nat.reduceAdd, Nat.reduceMul, Nat.reduceSub, Nat.reduceLeDiff, Nat.reduceLT, reduceIte, reduceCtorEq, Int.reduceToNat, Int.reduceLE, Int.reduceLT, Int.reduceNeg, Bool.not_not, and_self, Bool.and_eq_false_iff, Int.cast_ofNat_Int, Int.reduceAdd, Int.reduceSub, Int.reduceMul, Int.reduceEq, Int.reduceNe, B49_0, R49_0, show ¬ (row.length : Int) < (row.length : Int) by omega, htk, intsOf_pO, strOf_list]
    exact ⟨_, rfl⟩
end Go.Vc

namespace Go.Vc
open Go.Proofs
set_option maxRecDepth 100000

/-- 'mini.part' -/
def B46_0 : MC := (.seq (.reg [⟨(some 17), none, (.q (.bin .lss (.t 16) (.t 15)))⟩] [] [1, 6, 7, 15, 16, 17] [12, 14, 1021, 150000, 200000, 200001, 200002, 200003]) (.seq (.cond (.t 17)
  .skip (.exit 0)) (.seq (.block 1 (.seq (.reg [⟨(some 18), none, (.q (.mv (.t 16)))⟩, ⟨(some 8), none, (.q (.mv (.t 18)))⟩] [] [1, 6, 7, 8, 15, 16] [12, 14, 1021, 150000, 200000, 200001, 200002,
  200003]) (.seq (.reg [⟨(some 19), none, (.q (.mv (.t 1)))⟩, ⟨(some 20), none, (.q (.mv (.t 8)))⟩, ⟨(some 21), none, (.calls (.t 19) [(.t 20)])⟩, ⟨(some 9), none, (.q (.mv (.t 21)))⟩] [] [1, 6, 7, 8,
  9, 15, 16] [12, 14, 1021, 150000, 200000, 200001, 200002, 200003]) (.seq (.reg [⟨(some 23), none, (.q (.mv (.t 6)))⟩, ⟨(some 24), none, (.q (.mv (.t 9)))⟩, ⟨(some 25), none, (.q (.mget (.t 23)
  (.t 24) true Kk.str (.pv (.sc (.int .i64 0)))))⟩, ⟨(some 22), none, (.q (.mv (.t 25)))⟩, ⟨(some 26), none, (.q (.ext (.t 22) 0))⟩, ⟨(some 27), none, (.q (.ext (.t 22) 1))⟩, ⟨(some 10), none,
  (.q (.mv (.t 26)))⟩, ⟨(some 11), none, (.q (.mv (.t 27)))⟩] [] [1, 6, 7, 8, 9, 10, 11, 15, 16] [12, 14, 1021, 150000, 200000, 200001, 200002, 200003]) (.seq (.seq (.reg [⟨(some 28), none,
  (.q (.mv (.t 11)))⟩, ⟨(some 29), none, (.q (.not (.t 28)))⟩] [] [1, 6, 7, 8, 9, 10, 15, 16, 29] [12, 14, 1021, 150000, 200000, 200001, 200002, 200003]) (.cond (.t 29) (.seq (.reg [⟨(some 30), none,
  (.q (.mv (.t 6)))⟩, ⟨(some 31), none, (.q (.mlen (.t 30)))⟩, ⟨(some 10), none, (.q (.mv (.t 31)))⟩] [] [1, 6, 7, 8, 9, 10, 15, 16] [12, 14, 1021, 150000, 200000, 200001, 200002, 200003])
  (.reg [⟨(some 32), none, (.q (.mv (.t 6)))⟩, ⟨(some 33), none, (.q (.mv (.t 9)))⟩, ⟨(some 34), none, (.q (.mv (.t 10)))⟩, ⟨none, none, (.mset (.t 32) (.t 33) (.t 34) Kk.str)⟩] [] [1, 6, 7, 8, 10,
  15, 16] [12, 14, 1021, 150000, 200000, 200001, 200002, 200003])) .skip)) (.reg [⟨(some 35), none, (.q (.mv (.t 7)))⟩, ⟨(some 36), none, (.q (.mv (.t 8)))⟩, ⟨(some 37), none, (.q (.mv (.t 10)))⟩,
  ⟨(some 38), none, (.q (.ia (.t 35) (.t 36) 1))⟩, ⟨none, none, (.st (.t 38) (.t 37) 1)⟩] [] [1, 6, 7, 15, 16] [12, 14, 1021, 150000, 200000, 200001, 200002, 200003])))))) (.reg [⟨(some 39), none,
  (.q (.bin .add (.t 16) (.c (.int .i64 1))))⟩, ⟨(some 16), none, (.q (.mv (.t 39)))⟩] [] [1, 6, 7, 15, 16] [12, 14, 1021, 150000, 200000, 200001, 200002, 200003]))))
def R46_0 : MC := (.seq (.reg [⟨(some 40), none, (.q (.mv (.t 7)))⟩, ⟨(some 41), none, (.q (.mv (.t 6)))⟩, ⟨(some 42), none, (.q (.mlen (.t 41)))⟩, ⟨(some 4), none, (.q (.mv (.t 40)))⟩, ⟨(some 5),
  none, (.q (.mv (.t 42)))⟩] [] [4, 5] [12, 14, 1021, 150000, 200000, 200001, 200002, 200003]) .ret)
def M46 : MC := (.seq (.reg [⟨(some 4), none, (.q (.mv .nil))⟩, ⟨(some 5), none, (.q (.mv (.c (.int .i64 0))))⟩] [] [0, 1] [150000, 200000, 200001, 200002, 200003]) (.seq (.reg [⟨(some 12), none,
  .mkm⟩, ⟨(some 6), none, (.q (.mv (.t 12)))⟩] [] [0, 1, 6] [12, 150000, 200000, 200001, 200002, 200003]) (.seq (.reg [⟨(some 13), none, (.q (.mv (.t 0)))⟩, ⟨(some 14), none, (.mks (.t 13) (.t 13)
  1 8 (.sc (.int .i64 0)))⟩, ⟨(some 7), none, (.q (.mv (.t 14)))⟩] [] [0, 1, 6, 7] [12, 14, 1021, 150000, 200000, 200001, 200002, 200003]) (.seq (.seq (.reg [⟨(some 15), none, (.q (.mv (.t 0)))⟩,
  ⟨(some 16), none, (.q (.mv (.c (.int .i64 0))))⟩] [] [1, 6, 7, 15, 16] [12, 14, 1021, 150000, 200000, 200001, 200002, 200003]) (.block 0 (.loop B46_0))) R46_0))))
theorem mc46 : ofCode Tryd.prog [21] Tryd.f46.ntmps [(0, ⟨[0, 1], [150000, 200000, 200001, 200002, 200003], [], 0, [], none⟩),
    (1, ⟨[0, 1, 6], [12, 150000, 200000, 200001, 200002, 200003], [], 0, [], none⟩),
    (2, ⟨[0, 1, 6, 7], [12, 14, 1021, 150000, 200000, 200001, 200002, 200003], [], 0, [], none⟩),
    (3, ⟨[1, 6, 7, 15, 16], [12, 14, 1021, 150000, 200000, 200001, 200002, 200003], [], 0, [], none⟩),
    (4, ⟨[1, 6, 7, 15, 16, 17], [12, 14, 1021, 150000, 200000, 200001, 200002, 200003], [], 0, [], none⟩),
    (5, ⟨[1, 6, 7, 8, 15, 16], [12, 14, 1021, 150000, 200000, 200001, 200002, 200003], [], 0, [], none⟩),
    (6, ⟨[1, 6, 7, 8, 9, 15, 16], [12, 14, 1021, 150000, 200000, 200001, 200002, 200003], [], 0, [], none⟩),
    (7, ⟨[1, 6, 7, 8, 9, 10, 11, 15, 16], [12, 14, 1021, 150000, 200000, 200001, 200002, 200003], [], 0, [], none⟩),
    (8, ⟨[1, 6, 7, 8, 9, 10, 15, 16, 29], [12, 14, 1021, 150000, 200000, 200001, 200002, 200003], [], 0, [], none⟩),
    (9, ⟨[1, 6, 7, 8, 9, 10, 15, 16], [12, 14, 1021, 150000, 200000, 200001, 200002, 200003], [], 0, [], none⟩),
    (10, ⟨[1, 6, 7, 8, 10, 15, 16], [12, 14, 1021, 150000, 200000, 200001, 200002, 200003], [], 0, [], none⟩),
    (11, ⟨[1, 6, 7, 15, 16], [12, 14, 1021, 150000, 200000, 200001, 200002, 200003], [], 0, [], none⟩),
    (12, ⟨[1, 6, 7, 15, 16], [12, 14, 1021, 150000, 200000, 200001, 200002, 200003], [], 0, [], none⟩),
    (13, ⟨[4, 5], [12, 14, 1021, 150000, 200000, 200001, 200002, 200003], [], 0, [], none⟩)] (Tryd.f46.body.getD .skip) = some M46 := by kernel_rfl
theorem RunS46 {args : List AV} {st st' : List (Nat × Row)} {v : AV} (h : args.length ≤ 43) (hk : (st'.map (·.1)).Nodup) (hv : run Tryd.prog (retS [RV.tmp 4, RV.tmp 5] v st') M46 [] ⟨entryA 0 args, st⟩) : FnS Tryd.prog 46 args st v st' :=
  FnS_run (by kernel_rfl) Tryd.func46 (by decide) rfl mc46 (by kernel_rfl) (by rw [Tryd.ntmps46]; exact h) (by rw [Tryd.ntmps46]; decide) hk hv

end Go.Vc

namespace Go.Vc
open Go.Proofs
set_option linter.unusedSimpArgs false
set_option linter.unusedVariables false

/-! ## 'mini.part' -/
def enK : Nat → List (List Int) → List (PV × PV)
  | _, [] => []
  | k, t :: L => (pS (bT t), pI (k : Int)) :: enK (k + 1) L
theorem enK_app : ∀ (L : List (List Int)) (k : Nat) (t : List Int), enK k (L ++ [t]) = enK k L ++ [(pS (bT t), pI ((k + L.length : Nat) : Int))]
  | [], k, t => rfl
  | u :: L, k, t => by simp [enK, enK_app L (k + 1) t]; omega
theorem bT_dec (t u : List Int) : decide (bT t = bT u) = decide (t = u) := by
  by_cases h : t = u
  · subst h; simp
  · rw [decide_eq_false h, decide_eq_false fun e => h (bT_inj e)]
theorem enK_len : ∀ (L : List (List Int)) (k : Nat), (enK k L).length = L.length
  | [], _ => rfl
  | t :: L, k => by simp [enK, enK_len L]
theorem lkp_T (t : List Int) : ∀ {L : List (List Int)} (k : Nat), lkp (pS (bT t)) (enK k L) = if t ∈ L then some (pI ((k + ixOf L t : Nat) : Int)) else none
  | [], k => by simp [enK, lkp]
  | u :: L, k => by
    have ih := lkp_T t (L := L) (k + 1)
    simp only [enK, lkp, keyEq, bT_dec]
    by_cases he : t = u
    · subst he; simp [ixOf_cons]
    · rw [decide_eq_false he]
      simp only [Bool.false_eq_true, if_false, ih, List.mem_cons, he, false_or]
      split
      · rw [ixOf_cons, if_neg (Ne.symm he)]
        congr 3; omega
      · rfl
theorem mput_T {t : List Int} {v : PV} : ∀ {L : List (List Int)} (k : Nat), t ∉ L → mput (pS (bT t)) v (enK k L) = enK k L ++ [(pS (bT t), v)]
  | [], k, _ => rfl
  | u :: L, k, hn => by
    have he : t ≠ u := fun e => hn (by simp [e])
    simp only [enK, mput, keyEq, bT_dec, decide_eq_false he, Bool.false_eq_true, if_false, List.cons_append, List.cons.injEq, true_and]
    exact mput_T (k + 1) fun hm => hn (List.mem_cons_of_mem _ hm)
theorem like_T (b : ByteArray) : ∀ (L : List (List Int)) (k : Nat), keysLike .str (pS b) (enK k L)
  | [], _ => trivial
  | u :: L, k => by
    simp only [enK, keysLike, keyLike]
    exact ⟨trivial, like_T b L (k + 1)⟩
/-- the numbers that are known -/
abbrev clN (ks : List (List Int)) (i : Nat) : List PV := tb ks.length fun k => if k < i then pI (ixOf (ddF ks) (ks.getD k []) : Nat) else pI 0
theorem clN_zero (ks : List (List Int)) : clN ks 0 = List.replicate ks.length (pI 0) := by
  rw [tb_rep]
  exact tb_ext fun i _ => by simp
theorem clN_end (ks : List (List Int)) : clN ks ks.length = (toI (clsOf ks)).map fun n => pI n := by
  refine List.ext_getElem (by simp [tb, toI, clsOf]) fun j h1 h2 => ?_
  have hj : j < ks.length := by simpa [tb] using h1
  simp [tb, toI, clsOf, hj, List.getD_eq_getElem?_getD]
theorem clN_set {ks : List (List Int)} {i : Nat} (h : i < ks.length) : (clN ks i).set i (pI (ixOf (ddF ks) ks[i] : Nat)) = clN ks (i + 1) := by
  rw [tb_set h]
  refine tb_ext fun j hj => ?_
  by_cases h1 : j = i
  · subst h1; rw [if_pos rfl, if_pos (by omega)]; simp [List.getD_eq_getElem?_getD, h]
  · rw [if_neg h1]
    by_cases h2 : j < i
    · rw [if_pos h2, if_pos (by omega)]
    · rw [if_neg h2, if_neg (by omega)]
theorem clN_at {ks : List (List Int)} {i : Nat} (h : i < ks.length) : (clN ks i).getD i default = pI 0 := by rw [tb_get h, if_neg (by omega)]
/-- the buffer, behind so many texts -/
def bufA (ks : List (List Int)) : Nat → Nat × List PV
  | 0 => (0, [])
  | i + 1 => ((txt (ks.getD i [])).length, ysW [] (bufA ks i).2 (ks.getD i []))
theorem fnS46a (d : DI) (hd : d.Ok) : FnS Tryd.prog 46 [.pv (pI d.next.length), .fn 47 [.ptr 200000 0, .ptr 200001 0]] [(200000, .box [.e0]), (200001, .box (dBox d))] (.pv (.tup [pNs (clsOf (keys0 d)), pI (ddF (keys0 d)).length]))
    [(200000, .box [.row 150000 0 (bufA (keys0 d) d.next.length).1]), (150000, .sl 1 (bufA (keys0 d) d.next.length).2), (200001, .box (dBox d))] := by
  have hn := hd.n
  have hkl : (keys0 d).length = d.next.length := by simp [keys0]
  have hkg : ∀ i, i < d.next.length → (keys0 d).getD i [] = d.done.getD i [] := fun i hi => by simp [keys0, List.getD_eq_getElem?_getD, hi]
  generalize hks : keys0 d = ks at hkl hkg
  refine RunS46 (by simp) (by simp) ?_
  rw [← hkl]
  simp only [go_sem, Nat.reduceEqDiff, Nat.reduceBEq, Nat.reduceAdd, Nat.reduceMul, Nat.reduceSub, Nat.reduceLeDiff, Nat.reduceLT, reduceIte, reduceCtorEq, Int.reduceToNat, Int.reduceLE, Int.reduceLT, Int.reduceNeg, Bool.not_not, and_self, Bool.and_eq_false_iff, Int.cast_ofNat_Int, Int.reduceAdd, Int.reduceSub, Int.reduceMul, Int.reduceEq, Int.reduceNe, M46]
  refine ⟨by omega, ?_⟩
  refine run_loopF (T := Nat) (fun _ => []) (fun _ => [(200000, 0, 150000, 1)]) [1, 6, 7, 15, 16] [12, 14, 150000, 200000, 200001]
    (fun i => ⟨[(1, .fn 47 [.ptr 200000 0, .ptr 200001 0]), (6, .mp 12), (7, .row 14 0 ks.length), (15, .pv (pI ks.length)), (16, .pv (pI i))],
      [(12, .mp (enK 0 (ddF (ks.take i)))), (14, .sl 1 (clN ks i)), (150000, .sl 1 (bufA ks i).2), (200000, .box [.row 150000 0 (bufA ks i).1]), (200001, .box (dBox d))]⟩)
    (fun i => i ≤ ks.length) (fun i => ks.length - i) 0 ?_ (Nat.zero_le _) ?_
  · rw [clN_zero]
    simp only [go_sem, Nat.reduceEqDiff, Nat.reduceBEq, Nat.reduceAdd, Nat.reduceMul, Nat.reduceSub, Nat.reduceLeDiff, Nat.reduceLT, reduceIte, reduceCtorEq, Int.reduceToNat, Int.reduceLE, Int.reduceLT, Int.reduceNeg, Bool.not_not, and_self, Bool.and_eq_false_iff, Int.cast_ofNat_Int, Int.reduceAdd, Int.reduceSub, Int.reduceMul, Int.reduceEq, Int.reduceNe]
    rfl
  intro i hi
  by_cases hlt : i < ks.length
  · have hS := fnS47 d i (bufA ks i).1 (bufA ks i).2 hd.ints (by rw [hd.done, ← hkl]; exact hlt)
    have hki : d.done.getD i [] = ks[i] := by rw [← hkg i (by omega)]; simp [List.getD_eq_getElem?_getD, hlt]
    have hb1 : bufA ks (i + 1) = ((txt ks[i]).length, ysW [] (bufA ks i).2 ks[i]) := by simp [bufA, List.getD_eq_getElem?_getD, hlt]
    rw [hki] at hS
    simp only [go_sem, Nat.reduceEqDiff, Nat.reduceBEq, Nat.reduceAdd, Nat.reduceMul, Nat.reduceSub, Nat.reduceLeDiff, Nat.reduceLT, reduceIte, reduceCtorEq, Int.reduceToNat, Int.reduceLE, Int.reduceLT, Int.reduceNeg, Bool.not_not, and_self, Bool.and_eq_false_iff, Int.cast_ofNat_Int, Int.reduceAdd, Int.reduceSub, Int.reduceMul, Int.reduceEq, Int.reduceNe, B46_0, show (i : Int) < (ks.length : Int) by omega]
    refine runR_calls (fun n => n) (by simp only [go_sem, Nat.reduceEqDiff, Nat.reduceBEq, Nat.reduceAdd, Nat.reduceMul, Nat.reduceSub, Nat.reduceLeDiff, Nat.reduceLT, reduceIte, reduceCtorEq, Int.reduceToNat, Int.reduceLE, Int.reduceLT, Int.reduceNeg, Bool.not_not, and_self, Bool.and_eq_false_iff, Int.cast_ofNat_Int, Int.reduceAdd, Int.reduceSub, Int.reduceMul, Int.reduceEq, Int.reduceNe]) (by simp only [go_sem, Nat.reduceEqDiff, Nat.reduceBEq, Nat.reduceAdd, Nat.reduceMul, Nat.reduceSub, Nat.reduceLeDiff, Nat.reduceLT, reduceIte, reduceCtorEq, Int.reduceToNat, Int.reduceLE, Int.reduceLT, Int.reduceNeg, Bool.not_not, and_self, Bool.and_eq_false_iff, Int.cast_ofNat_Int, Int.reduceAdd, Int.reduceSub, Int.reduceMul, Int.reduceEq, Int.reduceNe] <;> rfl) hS rfl (by intro e he; simp only [List.mem_cons, List.not_mem_nil, or_false] at he; rcases he with rfl | rfl | rfl <;> simp only [go_sem, Nat.reduceEqDiff, Nat.reduceBEq, Nat.reduceAdd, Nat.reduceMul, Nat.reduceSub, Nat.reduceLeDiff, Nat.reduceLT, reduceIte, reduceCtorEq, Int.reduceToNat, Int.reduceLE, Int.reduceLT, Int.reduceNeg, Bool.not_not, and_self, Bool.and_eq_false_iff, Int.cast_ofNat_Int, Int.reduceAdd, Int.reduceSub, Int.reduceMul, Int.reduceEq, Int.reduceNe]) (by simp) (by simp) (by simp) (by intro e he _; simp only [List.mem_cons, List.not_mem_nil, or_false] at he; rcases he with rfl | rfl | rfl <;> simp_all) ?_
    by_cases hm : ks[i] ∈ ddF (ks.take i)
    · obtain ⟨h1, h2⟩ := num_in hlt hm
      have hse := clN_set hlt
      rw [h1] at hse
      simp only [go_sem, Nat.reduceEqDiff, Nat.reduceBEq, Nat.reduceAdd, Nat.reduceMul, Nat.reduceSub, Nat.reduceLeDiff, Nat.reduceLT, reduceIte, reduceCtorEq, Int.reduceToNat, Int.reduceLE, Int.reduceLT, Int.reduceNeg, Bool.not_not, and_self, Bool.and_eq_false_iff, Int.cast_ofNat_Int, Int.reduceAdd, Int.reduceSub, Int.reduceMul, Int.reduceEq, Int.reduceNe, like_T, lkp_T, hm, tb_len, clN_at hlt]
      refine ⟨by omega, hlt, ⟨by omega, by omega⟩, i + 1, ?_, hlt, by omega⟩
      rw [h2, hb1, ← hse]
      rfl
    · obtain ⟨h1, h2⟩ := num_out hlt hm
      have hse := clN_set hlt
      rw [h1] at hse
      simp only [go_sem, Nat.reduceEqDiff, Nat.reduceBEq, Nat.reduceAdd, Nat.reduceMul, Nat.reduceSub, Nat.reduceLeDiff, Nat.reduceLT, reduceIte, reduceCtorEq, Int.reduceToNat, Int.reduceLE, Int.reduceLT, Int.reduceNeg, Bool.not_not, and_self, Bool.and_eq_false_iff, Int.cast_ofNat_Int, Int.reduceAdd, Int.reduceSub, Int.reduceMul, Int.reduceEq, Int.reduceNe, like_T, lkp_T, hm, mput_T 0 hm, tb_len, enK_len, clN_at hlt]
      refine ⟨by omega, hlt, ⟨by omega, by omega⟩, i + 1, ?_, hlt, by omega⟩
      rw [h2, hb1, ← hse, enK_app, Nat.zero_add]
      rfl
  · obtain rfl : i = ks.length := by omega
    simp only [go_sem, Nat.reduceEqDiff, Nat.reduceBEq, Nat.reduceAdd, Nat.reduceMul, Nat.reduceSub, Nat.reduceLeDiff, Nat.reduceLT, reduceIte, reduceCtorEq, Int.reduceToNat, Int.reduceLE, Int.reduceLT, Int.reduceNeg, Bool.not_not, and_self, Bool.and_eq_false_iff, Int.cast_ofNat_Int, Int.reduceAdd, Int.reduceSub, Int.reduceMul, Int.reduceEq, Int.reduceNe, B46_0, R46_0, show ¬ (ks.length : Int) < (ks.length : Int) by omega, List.take_length, enK_len, clN_end]
    rw [List.take_of_length_le (by simp [toI, clsOf])]
/-- the same of the second closure: each text begins anew -/
def bufB (n0 : Nat × List PV) (ks : List (List Int)) : Nat → Nat × List PV
  | 0 => n0
  | i + 1 => ((txt (ks.getD i [])).length, pOs (txt (ks.getD i [])))
theorem fnS46b (d : DI) (n0 : Nat × List PV) (cl : List Nat) (lv : List Bool) (hd : d.Ok) (hcl : cl.length = d.next.length) (hlv : lv.length = d.next.length) (hc : ∀ c ∈ cl, c ≤ 1000) :
    FnS Tryd.prog 46 [.pv (pI d.next.length), .fn 49 [.ptr 200000 0, .ptr 200001 0, .ptr 200002 0, .ptr 200003 0]] (clRows n0.1 n0.2 cl d lv) (.pv (.tup [pNs (clsOf (keysC d lv cl)), pI (ddF (keysC d lv cl)).length]))
    (clRows (bufB n0 (keysC d lv cl) d.next.length).1 (bufB n0 (keysC d lv cl) d.next.length).2 cl d lv) := by
  have hn := hd.n
  have hkl : (keysC d lv cl).length = d.next.length := by simp [keysC]
  have hkg : ∀ i, i < d.next.length → (keysC d lv cl).getD i [] = keyC d lv cl i := fun i hi => by simp [keysC, List.getD_eq_getElem?_getD, hi]
  generalize hks : keysC d lv cl = ks at hkl hkg
  refine RunS46 (by simp) (by simp) ?_
  rw [← hkl]
  simp only [go_sem, Nat.reduceEqDiff, Nat.reduceBEq, Nat.reduceAdd, Nat.reduceMul, Nat.reduceSub, Nat.reduceLeDiff, Nat.reduceLT, reduceIte, reduceCtorEq, Int.reduceToNat, Int.reduceLE, Int.reduceLT, Int.reduceNeg, Bool.not_not, and_self, Bool.and_eq_false_iff, Int.cast_ofNat_Int, Int.reduceAdd, Int.reduceSub, Int.reduceMul, Int.reduceEq, Int.reduceNe, M46]
  refine ⟨by omega, ?_⟩
  refine run_loopN (T := Nat) [1, 6, 7, 15, 16] [12, 14, 150000, 200000, 200001, 200002, 200003]
    (fun i => ⟨[(1, .fn 49 [.ptr 200000 0, .ptr 200001 0, .ptr 200002 0, .ptr 200003 0]), (6, .mp 12), (7, .row 14 0 ks.length), (15, .pv (pI ks.length)), (16, .pv (pI i))],
      [(12, .mp (enK 0 (ddF (ks.take i)))), (14, .sl 1 (clN ks i)), (150000, .sl 1 (bufB n0 ks i).2), (200000, .box [.row 150000 0 (bufB n0 ks i).1]), (200001, .box [.pv (pNs cl)]), (200002, .box (dBox d)), (200003, .box [.pv (.lst (lv.map fun b => pB b))])]⟩)
    (fun i => i ≤ ks.length) (fun i => ks.length - i) 0 ?_ (Nat.zero_le _) ?_
  · rw [clN_zero]
    simp only [go_sem, Nat.reduceEqDiff, Nat.reduceBEq, Nat.reduceAdd, Nat.reduceMul, Nat.reduceSub, Nat.reduceLeDiff, Nat.reduceLT, reduceIte, reduceCtorEq, Int.reduceToNat, Int.reduceLE, Int.reduceLT, Int.reduceNeg, Bool.not_not, and_self, Bool.and_eq_false_iff, Int.cast_ofNat_Int, Int.reduceAdd, Int.reduceSub, Int.reduceMul, Int.reduceEq, Int.reduceNe]
    rfl
  intro i hi
  by_cases hlt : i < ks.length
  · have hS := fnS49 d i (bufB n0 ks i).1 (bufB n0 ks i).2 cl lv hd (by rw [← hkl]; exact hlt) hcl hlv hc
    have hki : keyC d lv cl i = ks[i] := by rw [← hkg i (by omega)]; simp [List.getD_eq_getElem?_getD, hlt]
    have hb1 : bufB n0 ks (i + 1) = ((txt ks[i]).length, pOs (txt ks[i])) := by simp [bufB, List.getD_eq_getElem?_getD, hlt]
    rw [hki] at hS
    simp only [go_sem, Nat.reduceEqDiff, Nat.reduceBEq, Nat.reduceAdd, Nat.reduceMul, Nat.reduceSub, Nat.reduceLeDiff, Nat.reduceLT, reduceIte, reduceCtorEq, Int.reduceToNat, Int.reduceLE, Int.reduceLT, Int.reduceNeg, Bool.not_not, and_self, Bool.and_eq_false_iff, Int.cast_ofNat_Int, Int.reduceAdd, Int.reduceSub, Int.reduceMul, Int.reduceEq, Int.reduceNe, B46_0, show (i : Int) < (ks.length : Int) by omega]
    refine runR_calls (fun n => n) (by simp only [go_sem, Nat.reduceEqDiff, Nat.reduceBEq, Nat.reduceAdd, Nat.reduceMul, Nat.reduceSub, Nat.reduceLeDiff, Nat.reduceLT, reduceIte, reduceCtorEq, Int.reduceToNat, Int.reduceLE, Int.reduceLT, Int.reduceNeg, Bool.not_not, and_self, Bool.and_eq_false_iff, Int.cast_ofNat_Int, Int.reduceAdd, Int.reduceSub, Int.reduceMul, Int.reduceEq, Int.reduceNe]) (by simp only [go_sem, Nat.reduceEqDiff, Nat.reduceBEq, Nat.reduceAdd, Nat.reduceMul, Nat.reduceSub, Nat.reduceLeDiff, Nat.reduceLT, reduceIte, reduceCtorEq, Int.reduceToNat, Int.reduceLE, Int.reduceLT, Int.reduceNeg, Bool.not_not, and_self, Bool.and_eq_false_iff, Int.cast_ofNat_Int, Int.reduceAdd, Int.reduceSub, Int.reduceMul, Int.reduceEq, Int.reduceNe] <;> rfl) hS rfl (by intro e he; simp only [List.mem_cons, List.not_mem_nil, or_false] at he; rcases he with rfl | rfl | rfl | rfl | rfl <;> simp only [go_sem, Nat.reduceEqDiff, Nat.reduceBEq, Nat.reduceAdd, Nat.reduceMul, Nat.reduceSub, Nat.reduceLeDiff, Nat.reduceLT, reduceIte, reduceCtorEq, Int.reduceToNat, Int.reduceLE, Int.reduceLT, Int.reduceNeg, Bool.not_not, and_self, Bool.and_eq_false_iff, Int.cast_ofNat_Int, Int.reduceAdd, Int.reduceSub, Int.reduceMul, Int.reduceEq, Int.reduceNe]) (by simp) (by simp) (by simp) (by intro e he _; simp only [List.mem_cons, List.not_mem_nil, or_false] at he; rcases he with rfl | rfl | rfl | rfl | rfl <;> simp_all) ?_
    by_cases hm : ks[i] ∈ ddF (ks.take i)
    · obtain ⟨h1, h2⟩ := num_in hlt hm
      have hse := clN_set hlt
      rw [h1] at hse
      simp only [go_sem, Nat.reduceEqDiff, Nat.reduceBEq, Nat.reduceAdd, Nat.reduceMul, Nat.reduceSub, Nat.reduceLeDiff, Nat.reduceLT, reduceIte, reduceCtorEq, Int.reduceToNat, Int.reduceLE, Int.reduceLT, Int.reduceNeg, Bool.not_not, and_self, Bool.and_eq_false_iff, Int.cast_ofNat_Int, Int.reduceAdd, Int.reduceSub, Int.reduceMul, Int.reduceEq, Int.reduceNe, like_T, lkp_T, hm, tb_len, clN_at hlt]
      refine ⟨by omega, hlt, ⟨by omega, by omega⟩, i + 1, ?_, hlt, by omega⟩
      rw [h2, hb1, ← hse]
      rfl
    · obtain ⟨h1, h2⟩ := num_out hlt hm
      have hse := clN_set hlt
      rw [h1] at hse
      simp only [go_sem, Nat.reduceEqDiff, Nat.reduceBEq, Nat.reduceAdd, Nat.reduceMul, Nat.reduceSub, Nat.reduceLeDiff, Nat.reduceLT, reduceIte, reduceCtorEq, Int.reduceToNat, Int.reduceLE, Int.reduceLT, Int.reduceNeg, Bool.not_not, and_self, Bool.and_eq_false_iff, Int.cast_ofNat_Int, Int.reduceAdd, Int.reduceSub, Int.reduceMul, Int.reduceEq, Int.reduceNe, like_T, lkp_T, hm, mput_T 0 hm, tb_len, enK_len, clN_at hlt]
      refine ⟨by omega, hlt, ⟨by omega, by omega⟩, i + 1, ?_, hlt, by omega⟩
      rw [h2, hb1, ← hse, enK_app, Nat.zero_add]
      rfl
  · obtain rfl : i = ks.length := by omega
    simp only [go_sem, Nat.reduceEqDiff, Nat.reduceBEq, Nat.reduceAdd, Nat.reduceMul, Nat.reduceSub, Nat.reduceLeDiff, Nat.reduceLT, reduceIte, reduceCtorEq, Int.reduceToNat, Int.reduceLE, Int.reduceLT, Int.reduceNeg, Bool.not_not, and_self, Bool.and_eq_false_iff, Int.cast_ofNat_Int, Int.reduceAdd, Int.reduceSub, Int.reduceMul, Int.reduceEq, Int.reduceNe, B46_0, R46_0, show ¬ (ks.length : Int) < (ks.length : Int) by omega, List.take_length, enK_len, clN_end]
    rw [List.take_of_length_le (by simp [toI, clsOf])]
end Go.Vc

namespace Go.Vc
open Go.Proofs
set_option maxRecDepth 100000

/-- 'mini.classes' -/
def B30_0 : MC := (.block 1 (.seq (.reg [⟨(some 21), none, (.q (.mv (.t 5)))⟩, ⟨(some 22), none, (.q (.clo 49 [(.t 6), (.t 7), (.t 2), (.t 3)]))⟩, ⟨(some 23), none, (.calls (.f 46) [(.t 21),
  (.t 22)])⟩, ⟨(some 20), none, (.q (.mv (.t 23)))⟩, ⟨(some 24), none, (.q (.ext (.t 20) 0))⟩, ⟨(some 25), none, (.q (.ext (.t 20) 1))⟩, ⟨(some 9), none, (.q (.mv (.t 24)))⟩, ⟨(some 10), none,
  (.q (.mv (.t 25)))⟩] [] [2, 3, 5, 6, 7, 8, 9, 10] [2, 3, 6, 7, 1017, 1023, 140000]) (.seq (.seq (.reg [⟨(some 26), none, (.q (.mv (.t 10)))⟩, ⟨(some 27), none, (.q (.mv (.t 8)))⟩, ⟨(some 28), none,
  (.q (.bin .eql (.t 26) (.t 27)))⟩] [] [2, 3, 5, 6, 7, 9, 10, 28] [2, 3, 6, 7, 1017, 1023, 140000]) (.cond (.t 28) (.seq (.reg [⟨(some 29), none, (.q (.ld (.t 7) 1 false))⟩, ⟨(some 4), none,
  (.q (.mv (.t 29)))⟩] [] [4] [2, 3, 6, 7, 1017, 1023, 140000]) .ret) .skip)) (.reg [⟨(some 30), none, (.q (.mv (.t 9)))⟩, ⟨(some 31), none, (.q (.mv (.t 10)))⟩, ⟨none, none, (.st (.t 7) (.t 30) 1)⟩,
  ⟨(some 8), none, (.q (.mv (.t 31)))⟩] [] [2, 3, 5, 6, 7, 8] [2, 3, 6, 7, 1017, 1023, 140000]))))
def M30 : MC := (.seq (.reg [⟨(some 2), none, (.box (.t 0))⟩, ⟨(some 3), none, (.box (.t 1))⟩, ⟨(some 4), none, (.q (.mv .nil))⟩] [] [2, 3] [2, 3, 1017, 1023]) (.seq (.reg [⟨(some 11), none,
  (.q (.fa (.t 2) 1))⟩, ⟨(some 12), none, (.q (.ld (.t 11) 1 false))⟩, ⟨(some 13), none, (.q (.len (.t 12) false))⟩, ⟨(some 5), none, (.q (.mv (.t 13)))⟩] [] [2, 3, 5] [2, 3, 1017, 1023])
  (.seq (.reg [⟨(some 6), none, (.alloc [.e0])⟩] [] [2, 3, 5, 6] [2, 3, 6, 1017, 1023, 140000]) (.seq (.reg [⟨(some 15), none, (.q (.mv (.t 5)))⟩, ⟨(some 16), none, (.q (.clo 47 [(.t 6), (.t 2)]))⟩,
  ⟨(some 17), none, (.calls (.f 46) [(.t 15), (.t 16)])⟩, ⟨(some 14), none, (.q (.mv (.t 17)))⟩, ⟨(some 18), none, (.q (.ext (.t 14) 0))⟩, ⟨(some 19), none, (.q (.ext (.t 14) 1))⟩, ⟨(some 7), none,
  (.alloc [.e0])⟩, ⟨none, none, (.st (.t 7) (.t 18) 1)⟩, ⟨(some 8), none, (.q (.mv (.t 19)))⟩] [] [2, 3, 5, 6, 7, 8] [2, 3, 6, 7, 1017, 1023, 140000]) (.block 0 (.loop B30_0))))))
theorem mc30 : ofCode Tryd.prog [17, 23] Tryd.f30.ntmps [(0, ⟨[2, 3], [2, 3, 1017, 1023], [], 0, [], none⟩),
    (1, ⟨[2, 3, 5], [2, 3, 1017, 1023], [], 0, [], none⟩),
    (2, ⟨[2, 3, 5, 6], [2, 3, 6, 1017, 1023, 140000], [], 0, [], none⟩),
    (3, ⟨[2, 3, 5, 6, 7, 8], [2, 3, 6, 7, 1017, 1023, 140000], [], 0, [], none⟩),
    (4, ⟨[2, 3, 5, 6, 7, 8, 9, 10], [2, 3, 6, 7, 1017, 1023, 140000], [], 0, [], none⟩),
    (5, ⟨[2, 3, 5, 6, 7, 9, 10, 28], [2, 3, 6, 7, 1017, 1023, 140000], [], 0, [], none⟩),
    (6, ⟨[4], [2, 3, 6, 7, 1017, 1023, 140000], [], 0, [], none⟩),
    (7, ⟨[2, 3, 5, 6, 7, 8], [2, 3, 6, 7, 1017, 1023, 140000], [], 0, [], none⟩)] (Tryd.f30.body.getD .skip) = some M30 := by kernel_rfl
theorem Run30 {args : List PV} {v : AV} {rs : List (Nat × List PV)} (ids : List Bool) (h : args.length ≤ 32) (hv : run Tryd.prog (retK [RV.tmp 4] ids v rs) M30 [] ⟨entry 0 args, []⟩) : Fn Tryd.prog 30 args v rs :=
  Fn_run ids (by kernel_rfl) Tryd.func30 (by decide) rfl mc30 (by kernel_rfl) (by rw [Tryd.ntmps30]; exact h) (by rw [Tryd.ntmps30]; decide) hv

end Go.Vc

namespace Go.Vc
open Go.Proofs
set_option linter.unusedSimpArgs false
set_option linter.unusedVariables false

/-! ## 'mini.classes' -/
abbrev pDi (d : DI) : PV := .agg (([ss d.signs, .lst (d.next.map ints), .lst (d.done.map ints)]))
abbrev bools (l : List Bool) : PV := .lst (l.map fun b => pB b)
theorem cls_le {K : Type} [DecidableEq K] {ks : List K} {m : Nat} (h : ks.length ≤ m) : ∀ c ∈ clsOf ks, c ≤ m := fun c hc => by
  obtain ⟨k, hk, rfl⟩ := List.mem_map.1 hc
  have h1 := ixOf_lt (L := ddF ks) (k := k) (ddF_mem.2 hk)
  have h2 := ddF_len ks
  omega
abbrev m52a : Nat → Nat := fun n => if n = 200000 then 6 else if n = 200001 then 2 else 140000
abbrev m52b : Nat → Nat := fun n => if n = 200000 then 6 else if n = 200001 then 7 else if n = 200002 then 2 else if n = 200003 then 3 else 140000
structure CInv (d : DI) (lv : List Bool) (f : Nat) (cl : List Nat) (c : Nat) : Prop where
  go : goC d lv f cl c = classR d lv
  len : cl.length = d.next.length
  le : ∀ x ∈ cl, x ≤ 1000
  cc : c ≤ (ddF cl).length
  cn : c ≤ d.next.length
  fu : d.next.length < f + c
theorem fn30 (d : DI) (lv : List Bool) (hd : d.Ok) (hlv : lv.length = d.next.length) : Fn Tryd.prog 30 [pDi d, bools lv] (.pv (pNs (classR d lv))) [] := by
  have hn := hd.n
  have hn0 := hd.n0
  have hk0 : (keys0 d).length = d.next.length := by simp [keys0]
  have hS := fnS46a d hd
  refine Run30 [] (by simp) ?_
  simp only [go_sem, Nat.reduceEqDiff, Nat.reduceBEq, Nat.reduceAdd, Nat.reduceMul, Nat.reduceSub, Nat.reduceLeDiff, Nat.reduceLT, reduceIte, reduceCtorEq, Int.reduceToNat, Int.reduceLE, Int.reduceLT, Int.reduceNeg, Bool.not_not, and_self, Bool.and_eq_false_iff, Int.cast_ofNat_Int, Int.reduceAdd, Int.reduceSub, Int.reduceMul, Int.reduceEq, Int.reduceNe, M30]
  refine runR_calls m52a (by simp only [go_sem, Nat.reduceEqDiff, Nat.reduceBEq, Nat.reduceAdd, Nat.reduceMul, Nat.reduceSub, Nat.reduceLeDiff, Nat.reduceLT, reduceIte, reduceCtorEq, Int.reduceToNat, Int.reduceLE, Int.reduceLT, Int.reduceNeg, Bool.not_not, and_self, Bool.and_eq_false_iff, Int.cast_ofNat_Int, Int.reduceAdd, Int.reduceSub, Int.reduceMul, Int.reduceEq, Int.reduceNe]) (by simp only [go_sem, Nat.reduceEqDiff, Nat.reduceBEq, Nat.reduceAdd, Nat.reduceMul, Nat.reduceSub, Nat.reduceLeDiff, Nat.reduceLT, reduceIte, reduceCtorEq, Int.reduceToNat, Int.reduceLE, Int.reduceLT, Int.reduceNeg, Bool.not_not, and_self, Bool.and_eq_false_iff, Int.cast_ofNat_Int, Int.reduceAdd, Int.reduceSub, Int.reduceMul, Int.reduceEq, Int.reduceNe] <;> rfl) hS (by simp only [go_sem, Nat.reduceEqDiff, Nat.reduceBEq, Nat.reduceAdd, Nat.reduceMul, Nat.reduceSub, Nat.reduceLeDiff, Nat.reduceLT, reduceIte, reduceCtorEq, Int.reduceToNat, Int.reduceLE, Int.reduceLT, Int.reduceNeg, Bool.not_not, and_self, Bool.and_eq_false_iff, Int.cast_ofNat_Int, Int.reduceAdd, Int.reduceSub, Int.reduceMul, Int.reduceEq, Int.reduceNe, m52a]) (by intro e he; simp only [List.mem_cons, List.not_mem_nil, or_false] at he; rcases he with rfl | rfl <;> simp only [go_sem, Nat.reduceEqDiff, Nat.reduceBEq, Nat.reduceAdd, Nat.reduceMul, Nat.reduceSub, Nat.reduceLeDiff, Nat.reduceLT, reduceIte, reduceCtorEq, Int.reduceToNat, Int.reduceLE, Int.reduceLT, Int.reduceNeg, Bool.not_not, and_self, Bool.and_eq_false_iff, Int.cast_ofNat_Int, Int.reduceAdd, Int.reduceSub, Int.reduceMul, Int.reduceEq, Int.reduceNe, m52a]) (by simp) (by simp [m52a]) (by simp [m52a]) (by intro e he _; simp only [List.mem_cons, List.not_mem_nil, or_false] at he; rcases he with rfl | rfl | rfl <;> simp_all [m52a]) ?_
  simp only [go_sem, Nat.reduceEqDiff, Nat.reduceBEq, Nat.reduceAdd, Nat.reduceMul, Nat.reduceSub, Nat.reduceLeDiff, Nat.reduceLT, reduceIte, reduceCtorEq, Int.reduceToNat, Int.reduceLE, Int.reduceLT, Int.reduceNeg, Bool.not_not, and_self, Bool.and_eq_false_iff, Int.cast_ofNat_Int, Int.reduceAdd, Int.reduceSub, Int.reduceMul, Int.reduceEq, Int.reduceNe, m52a]
  have hI0 : CInv d lv (d.next.length + 1) (clsOf (keys0 d)) (ddF (keys0 d)).length := ⟨rfl, by rw [clsOf_len, hk0], cls_le (by omega), ddF_cls _, by have := ddF_len (keys0 d); omega, by omega⟩
  refine run_loopN (T := Nat × List Nat × Nat × Nat × List PV) [2, 3, 5, 6, 7, 8] [2, 3, 6, 7, 140000]
    (fun t => ⟨[(2, .ptr 2 0), (3, .ptr 3 0), (5, .pv (pI d.next.length)), (6, .ptr 6 0), (7, .ptr 7 0), (8, .pv (pI t.2.2.1))],
      [(2, .box (dBox d)), (3, .box [.pv (bools lv)]), (6, .box [.row 140000 0 t.2.2.2.1]), (7, .box [.pv (pNs t.2.1)]), (140000, .sl 1 t.2.2.2.2)]⟩)
    (fun t => CInv d lv t.1 t.2.1 t.2.2.1) (fun t => d.next.length + 1 - t.2.2.1) (d.next.length + 1, clsOf (keys0 d), (ddF (keys0 d)).length, bufA (keys0 d) d.next.length) ?_ hI0 ?_
  · simp only [go_sem, Nat.reduceEqDiff, Nat.reduceBEq, Nat.reduceAdd, Nat.reduceMul, Nat.reduceSub, Nat.reduceLeDiff, Nat.reduceLT, reduceIte, reduceCtorEq, Int.reduceToNat, Int.reduceLE, Int.reduceLT, Int.reduceNeg, Bool.not_not, and_self, Bool.and_eq_false_iff, Int.cast_ofNat_Int, Int.reduceAdd, Int.reduceSub, Int.reduceMul, Int.reduceEq, Int.reduceNe]
  rintro ⟨f, cl, c, n0⟩ hI
  simp only at hI ⊢
  have hkc : (keysC d lv cl).length = d.next.length := by simp [keysC]
  have hS := fnS46b d n0 cl lv hd hI.len hlv hI.le
  simp only [go_sem, Nat.reduceEqDiff, Nat.reduceBEq, Nat.reduceAdd, Nat.reduceMul, Nat.reduceSub, Nat.reduceLeDiff, Nat.reduceLT, reduceIte, reduceCtorEq, Int.reduceToNat, Int.reduceLE, Int.reduceLT, Int.reduceNeg, Bool.not_not, and_self, Bool.and_eq_false_iff, Int.cast_ofNat_Int, Int.reduceAdd, Int.reduceSub, Int.reduceMul, Int.reduceEq, Int.reduceNe, B30_0]
  refine runR_calls m52b (by simp only [go_sem, Nat.reduceEqDiff, Nat.reduceBEq, Nat.reduceAdd, Nat.reduceMul, Nat.reduceSub, Nat.reduceLeDiff, Nat.reduceLT, reduceIte, reduceCtorEq, Int.reduceToNat, Int.reduceLE, Int.reduceLT, Int.reduceNeg, Bool.not_not, and_self, Bool.and_eq_false_iff, Int.cast_ofNat_Int, Int.reduceAdd, Int.reduceSub, Int.reduceMul, Int.reduceEq, Int.reduceNe]) (by simp only [go_sem, Nat.reduceEqDiff, Nat.reduceBEq, Nat.reduceAdd, Nat.reduceMul, Nat.reduceSub, Nat.reduceLeDiff, Nat.reduceLT, reduceIte, reduceCtorEq, Int.reduceToNat, Int.reduceLE, Int.reduceLT, Int.reduceNeg, Bool.not_not, and_self, Bool.and_eq_false_iff, Int.cast_ofNat_Int, Int.reduceAdd, Int.reduceSub, Int.reduceMul, Int.reduceEq, Int.reduceNe] <;> rfl) hS (by simp only [go_sem, Nat.reduceEqDiff, Nat.reduceBEq, Nat.reduceAdd, Nat.reduceMul, Nat.reduceSub, Nat.reduceLeDiff, Nat.reduceLT, reduceIte, reduceCtorEq, Int.reduceToNat, Int.reduceLE, Int.reduceLT, Int.reduceNeg, Bool.not_not, and_self, Bool.and_eq_false_iff, Int.cast_ofNat_Int, Int.reduceAdd, Int.reduceSub, Int.reduceMul, Int.reduceEq, Int.reduceNe, m52b]) (by intro e he; simp only [List.mem_cons, List.not_mem_nil, or_false] at he; rcases he with rfl | rfl | rfl | rfl | rfl <;> simp only [go_sem, Nat.reduceEqDiff, Nat.reduceBEq, Nat.reduceAdd, Nat.reduceMul, Nat.reduceSub, Nat.reduceLeDiff, Nat.reduceLT, reduceIte, reduceCtorEq, Int.reduceToNat, Int.reduceLE, Int.reduceLT, Int.reduceNeg, Bool.not_not, and_self, Bool.and_eq_false_iff, Int.cast_ofNat_Int, Int.reduceAdd, Int.reduceSub, Int.reduceMul, Int.reduceEq, Int.reduceNe, m52b]) (by simp) (by simp [m52b]) (by simp [m52b]) (by intro e he _; simp only [List.mem_cons, List.not_mem_nil, or_false] at he; rcases he with rfl | rfl | rfl | rfl | rfl <;> simp_all [m52b]) ?_
  have hfin := finer d lv hI.len
  have hdl := ddF_len (keysC d lv cl)
  have hc2 := hI.cc
  have hgo := hI.go
  have hfu := hI.fu
  have hcn := hI.cn
  obtain ⟨g, rfl⟩ : ∃ g, f = g + 1 := ⟨f - 1, by omega⟩
  rw [goC] at hgo
  by_cases he : (ddF (keysC d lv cl)).length = c
  · rw [if_pos he] at hgo
    simp only [go_sem, Nat.reduceEqDiff, Nat.reduceBEq, Nat.reduceAdd, Nat.reduceMul, Nat.reduceSub, Nat.reduceLeDiff, Nat.reduceLT, reduceIte, reduceCtorEq, Int.reduceToNat, Int.reduceLE, Int.reduceLT, Int.reduceNeg, Bool.not_not, and_self, Bool.and_eq_false_iff, Int.cast_ofNat_Int, Int.reduceAdd, Int.reduceSub, Int.reduceMul, Int.reduceEq, Int.reduceNe, m52b, he]
    rw [hgo]
  · rw [if_neg he] at hgo
    simp only [go_sem, Nat.reduceEqDiff, Nat.reduceBEq, Nat.reduceAdd, Nat.reduceMul, Nat.reduceSub, Nat.reduceLeDiff, Nat.reduceLT, reduceIte, reduceCtorEq, Int.reduceToNat, Int.reduceLE, Int.reduceLT, Int.reduceNeg, Bool.not_not, and_self, Bool.and_eq_false_iff, Int.cast_ofNat_Int, Int.reduceAdd, Int.reduceSub, Int.reduceMul, Int.reduceEq, Int.reduceNe, m52b, he, show ¬ (((ddF (keysC d lv cl)).length : Int) = (c : Int)) by omega]
    exact ⟨(g, clsOf (keysC d lv cl), (ddF (keysC d lv cl)).length, bufB n0 (keysC d lv cl) d.next.length), rfl, ⟨hgo, by rw [clsOf_len, hkc], cls_le (by omega), ddF_cls _, by simp only; omega, by simp only; omega⟩, by simp only; omega⟩
end Go.Vc
