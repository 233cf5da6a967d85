/- A part of the proofs of the seat YtokkhebhjijnhaaDoor: the contracts of functions, each proved out of its code. -/
import Derived.Test.YtokkhebhjijnhaaDoorVh
import Derived.Test.YtokkhebhjijnhaaDoorProg
import Derived.Test.YtokkhebhjijnhaaDoorNi
namespace Go.Vc
open Go.Proofs
set_option maxRecDepth 100000

/-- 'trystlaw06.NfaMore' -/
def M7 : MC := (.seq (.reg [⟨(some 6), none, (.q (.mv (.c (.bool false))))⟩] [] [0, 1, 2] [1014, 1016, 1018]) (.seq (.reg [⟨(some 13), none, (.q (.mv (.t 0)))⟩, ⟨(some 14), none, (.call (.f 9)
  [(.t 13)])⟩, ⟨(some 15), none, (.q (.mv (.t 1)))⟩, ⟨(some 16), none, (.call (.f 10) [(.t 15)])⟩, ⟨(some 17), none, (.q (.mv (.t 2)))⟩, ⟨(some 18), none, (.call (.f 10) [(.t 17)])⟩, ⟨(some 0), none,
  (.q (.mv (.t 14)))⟩, ⟨(some 1), none, (.q (.mv (.t 16)))⟩, ⟨(some 2), none, (.q (.mv (.t 18)))⟩] [] [0, 1, 2] [1014, 1016, 1018]) (.seq (.reg [⟨(some 20), none, (.q (.mv (.t 0)))⟩, ⟨(some 21), none,
  (.call (.f 11) [(.t 20)])⟩, ⟨(some 19), none, (.q (.mv (.t 21)))⟩, ⟨(some 22), none, (.q (.ext (.t 19) 0))⟩, ⟨(some 23), none, (.q (.ext (.t 19) 1))⟩, ⟨(some 7), none, (.alloc [.e0, .e0, .e0,
  .e0])⟩, ⟨none, none, (.st (.t 7) (.t 22) 4)⟩, ⟨(some 8), none, (.q (.mv (.t 23)))⟩] [] [0, 1, 2, 7, 8] [7, 1014, 1016, 1018, 1021]) (.seq (.reg [⟨(some 25), none, (.lits [] 1)⟩, ⟨(some 26), none,
  (.q (.mv (.t 0)))⟩, ⟨(some 27), none, (.app (.t 25) (.t 26) 1 16)⟩, ⟨(some 28), none, (.q (.mv (.t 1)))⟩, ⟨(some 29), none, (.lits [(.t 28)] 1)⟩, ⟨(some 30), none, (.appi (.t 27) (.t 29) 1 16)⟩,
  ⟨(some 31), none, (.call (.f 11) [(.t 30)])⟩, ⟨(some 24), none, (.q (.mv (.t 31)))⟩, ⟨(some 32), none, (.q (.ext (.t 24) 0))⟩, ⟨(some 33), none, (.q (.ext (.t 24) 1))⟩, ⟨(some 9), none,
  (.alloc [.e0, .e0, .e0, .e0])⟩, ⟨none, none, (.st (.t 9) (.t 32) 4)⟩, ⟨(some 10), none, (.q (.mv (.t 33)))⟩] [] [0, 2, 7, 8, 9, 10] [7, 9, 1014, 1018, 1021, 1031]) (.seq (.seq (.reg [⟨(some 34),
  none, (.q (.mv (.t 8)))⟩, ⟨(some 35), none, (.q (.bin .neq (.t 34) (.c (.int .i64 0))))⟩, ⟨(some 36), none, (.q (.mv (.t 35)))⟩, ⟨(some 37), (some (36, false)), (.q (.mv (.t 10)))⟩, ⟨(some 38),
  (some (36, false)), (.q (.bin .neq (.t 37) (.c (.int .i64 0))))⟩, ⟨(some 39), none, (.q (.pick (.t 36) (.c (.bool true)) (.t 38)))⟩] [] [0, 2, 7, 9, 39] [7, 9, 1014, 1018, 1021, 1031])
  (.cond (.t 39) (.seq (.reg [⟨(some 40), none, (.call (.f 15) [])⟩, ⟨(some 6), none, (.q (.mv (.t 40)))⟩] [] [6] [1040, 1068, 1088]) .ret) .skip)) (.seq (.reg [⟨(some 41), none, (.q (.ld (.t 7)
  4 true))⟩, ⟨(some 42), none, (.q (.mv (.t 2)))⟩, ⟨(some 44), none, (.q (.ld (.t 9) 4 true))⟩, ⟨(some 45), none, (.q (.mv (.t 2)))⟩, ⟨(some 43), none, (.call (.f 21) [(.t 41), (.t 42)])⟩, ⟨(some 46),
  none, (.call (.f 21) [(.t 44), (.t 45)])⟩, ⟨(some 11), none, (.q (.mv (.t 43)))⟩, ⟨(some 12), none, (.q (.mv (.t 46)))⟩] [] [0, 7, 9, 11, 12] [7, 9, 1014, 1021, 1031, 1043, 1046])
  (.seq (.seq (.reg [⟨(some 47), none, (.q (.mv (.t 12)))⟩, ⟨(some 48), none, (.q (.len (.t 47) false))⟩, ⟨(some 49), none, (.q (.bin .gtr (.t 48) (.c (.int .i64 0))))⟩, ⟨(some 50), none,
  (.q (.mv (.t 49)))⟩, ⟨(some 51), (some (50, true)), (.q (.mv (.t 12)))⟩, ⟨(some 52), (some (50, true)), (.q (.mv (.t 12)))⟩, ⟨(some 53), (some (50, true)), (.q (.len (.t 52) false))⟩, ⟨(some 54),
  (some (50, true)), (.q (.bin .sub (.t 53) (.c (.int .i64 1))))⟩, ⟨(some 55), (some (50, true)), (.q (.ia (.t 51) (.t 54) 1))⟩, ⟨(some 56), (some (50, true)), (.q (.ld (.t 55) 1 false))⟩, ⟨(some 57),
  (some (50, true)), (.q (.mv (.t 0)))⟩, ⟨(some 58), (some (50, true)), (.q (.len (.t 57) false))⟩, ⟨(some 59), (some (50, true)), (.q (.bin .eql (.t 56) (.t 58)))⟩, ⟨(some 60), none,
  (.q (.pick (.t 50) (.t 59) (.c (.bool false))))⟩] [] [7, 9, 11, 12, 60] [7, 9, 1021, 1031, 1043, 1046]) (.cond (.t 60) (.reg [⟨(some 61), none, (.q (.mv (.t 12)))⟩, ⟨(some 62), none,
  (.q (.mv (.t 12)))⟩, ⟨(some 63), none, (.q (.len (.t 62) false))⟩, ⟨(some 64), none, (.q (.bin .sub (.t 63) (.c (.int .i64 1))))⟩, ⟨(some 65), none, (.q (.slc (.t 61) none (some (.t 64)) 1 false))⟩,
  ⟨(some 12), none, (.q (.mv (.t 65)))⟩] [] [7, 9, 11, 12] [7, 9, 1021, 1031, 1043, 1046]) .skip)) (.seq (.reg [⟨(some 66), none, (.q (.mv (.t 11)))⟩, ⟨(some 67), none, (.q (.mv (.t 12)))⟩,
  ⟨(some 68), none, (.call (.f 16) [(.t 66), (.t 67)])⟩, ⟨(some 69), none, (.q (.mv (.t 68)))⟩, ⟨(some 70), (some (69, true)), (.q (.fa (.t 9) 1))⟩, ⟨(some 71), (some (69, true)), (.q (.ld (.t 70)
  1 false))⟩, ⟨(some 72), (some (69, true)), (.q (.len (.t 71) false))⟩, ⟨(some 73), (some (69, true)), (.q (.fa (.t 7) 1))⟩, ⟨(some 74), (some (69, true)), (.q (.ld (.t 73) 1 false))⟩, ⟨(some 75),
  (some (69, true)), (.q (.len (.t 74) false))⟩, ⟨(some 76), (some (69, true)), (.q (.bin .gtr (.t 72) (.t 75)))⟩, ⟨(some 77), none, (.q (.pick (.t 69) (.t 76) (.c (.bool false))))⟩, ⟨(some 78), none,
  (.q (.mv (.t 77)))⟩, ⟨(some 79), (some (78, true)), (.q (.fa (.t 9) 0))⟩, ⟨(some 80), (some (78, true)), (.q (.ld (.t 79) 1 false))⟩, ⟨(some 81), (some (78, true)), (.q (.len (.t 80) false))⟩,
  ⟨(some 82), (some (78, true)), (.q (.fa (.t 7) 0))⟩, ⟨(some 83), (some (78, true)), (.q (.ld (.t 82) 1 false))⟩, ⟨(some 84), (some (78, true)), (.q (.len (.t 83) false))⟩, ⟨(some 85), (some (78,
  true)), (.q (.bin .geq (.t 81) (.t 84)))⟩, ⟨(some 86), none, (.q (.pick (.t 78) (.t 85) (.c (.bool false))))⟩, ⟨(some 87), none, (.q (.mv (.t 86)))⟩, ⟨(some 88), (some (87, true)), (.call (.f 15)
  [])⟩, ⟨(some 89), none, (.q (.pick (.t 87) (.t 88) (.c (.bool false))))⟩, ⟨(some 6), none, (.q (.mv (.t 89)))⟩] [] [6] [1040, 1068, 1088]) .ret))))))))
theorem mc7 : ofCode Tryd.prog [30] Tryd.f7.ntmps [(0, ⟨[0, 1, 2], [1014, 1016, 1018], [], 0, [], none⟩),
    (1, ⟨[0, 1, 2], [1014, 1016, 1018], [], 0, [], none⟩),
    (2, ⟨[0, 1, 2, 7, 8], [7, 1014, 1016, 1018, 1021], [], 0, [], none⟩),
    (3, ⟨[0, 2, 7, 8, 9, 10], [7, 9, 1014, 1018, 1021, 1031], [], 0, [], none⟩),
    (4, ⟨[0, 2, 7, 9, 39], [7, 9, 1014, 1018, 1021, 1031], [], 0, [], none⟩),
    (5, ⟨[6], [1040, 1068, 1088], [], 0, [], none⟩),
    (6, ⟨[0, 7, 9, 11, 12], [7, 9, 1014, 1021, 1031, 1043, 1046], [(0, 229), (1, 230), (3, 232), (4, 240), (2, 0), (5, 0), (6, 192), (7, 128)], 255, [], none⟩),
    (7, ⟨[7, 9, 11, 12, 60], [7, 9, 1021, 1031, 1043, 1046], [], 0, [], none⟩),
    (8, ⟨[7, 9, 11, 12], [7, 9, 1021, 1031, 1043, 1046], [], 0, [], none⟩),
    (9, ⟨[6], [1040, 1068, 1088], [], 0, [], none⟩)] (Tryd.f7.body.getD .skip) = some M7 := by kernel_rfl
theorem Run7 {args : List PV} {v : AV} {rs : List (Nat × List PV)} (ids : List Bool) (h : args.length ≤ 90) (hv : run Tryd.prog (retK [RV.tmp 6] ids v rs) M7 [] ⟨entry 0 args, []⟩) : Fn Tryd.prog 7 args v rs :=
  Fn_run ids (by kernel_rfl) Tryd.func7 (by decide) rfl mc7 (by kernel_rfl) (by rw [Tryd.ntmps7]; exact h) (by rw [Tryd.ntmps7]; decide) hv

end Go.Vc

namespace Go.Vc
open Go.Proofs
set_option linter.unusedSimpArgs false
set_option linter.unusedVariables false

/-! ## NfaMore -/
theorem resN_app (gs : List (List ByteArray)) (ps t : List ByteArray) : resN (gs ++ [ps]) t = resN gs t ++ (if matchL ps t = true then [gs.length] else []) := by
  unfold resN
  rw [List.length_append, List.length_singleton, List.range_succ, List.filter_append]
  congr 1
  · refine List.filter_congr fun i hi => ?_
    have := List.mem_range.1 hi
    rw [List.getD_eq_getElem?_getD, List.getElem?_append_left this, ← List.getD_eq_getElem?_getD]
  · by_cases h : matchL ps t = true <;> simp [List.getD_eq_getElem?_getD, h]
theorem resN_lt {gs : List (List ByteArray)} {t : List ByteArray} {g : Nat} (h : g ∈ resN gs t) : g < gs.length := by
  unfold resN at h
  exact List.mem_range.1 (List.mem_filter.1 h).1
theorem resN_len (gs : List (List ByteArray)) (t : List ByteArray) : (resN gs t).length ≤ gs.length := by
  have := List.length_filter_le (fun i => matchL (gs.getD i []) t) (List.range gs.length)
  unfold resN; simpa using this
theorem base_app (gs : List (List ByteArray)) (ps : List ByteArray) : base (gs ++ [ps]) (gs ++ [ps]).length = base gs gs.length + (ps.length + 1) := by
  have h1 : gs.length < (gs ++ [ps]).length := by simp
  rw [show (gs ++ [ps]).length = gs.length + 1 by simp, base_succ h1]
  have h2 : base (gs ++ [ps]) gs.length = base gs gs.length := by
    have := base_take (gs := gs ++ [ps]) (i := gs.length) (by simp)
    rw [List.take_left' rfl] at this
    exact this.symm
  rw [h2]; simp
theorem addB_le (l : List ByteArray) (x : ByteArray) : l.length ≤ (addB l x).length := by
  unfold addB; split
  · exact Nat.le_refl _
  · rw [insB_len]; omega
theorem addsB_le : ∀ (ps l : List ByteArray), l.length ≤ (addsB l ps).length
  | [], l => Nat.le_refl _
  | p :: ps, l => by
    have h1 := addB_le l p
    have h2 := addsB_le ps (addB l p)
    unfold addsB at *
    rw [List.foldl_cons]; omega
theorem law7 (bs : List ByteArray) (m t : ByteArray) (hb : bs.length ≤ 9223372036854775807) : Fn Tryd.prog 7 [ss bs, pS m, pS t] (.pv (pB true)) [] := by
  refine Run7 [] (by simp) ?_
  simp only [go_sem, Nat.reduceEqDiff, Nat.reduceBEq, Nat.reduceAdd, Nat.reduceMul, Nat.reduceSub, Nat.reduceLeDiff, Nat.reduceLT, reduceIte, reduceCtorEq, Int.reduceToNat, Int.reduceLE, Int.reduceLT, Int.reduceNeg, Bool.not_not, and_self, Bool.and_eq_false_iff, Int.cast_ofNat_Int, Int.reduceAdd, Int.reduceSub, Int.reduceMul, Int.reduceEq, Int.reduceNe, M7]
  refine runR_call (by simp only [go_sem, Nat.reduceEqDiff, Nat.reduceBEq, Nat.reduceAdd, Nat.reduceMul, Nat.reduceSub, Nat.reduceLeDiff, Nat.reduceLT, reduceIte, reduceCtorEq, Int.reduceToNat, Int.reduceLE, Int.reduceLT, Int.reduceNeg, Bool.not_not, and_self, Bool.and_eq_false_iff, Int.cast_ofNat_Int, Int.reduceAdd, Int.reduceSub, Int.reduceMul, Int.reduceEq, Int.reduceNe]) rfl (fn9 bs hb) (.inl rfl) trivial ?_
  simp only [go_sem, Nat.reduceEqDiff, Nat.reduceBEq, Nat.reduceAdd, Nat.reduceMul, Nat.reduceSub, Nat.reduceLeDiff, Nat.reduceLT, reduceIte, reduceCtorEq, Int.reduceToNat, Int.reduceLE, Int.reduceLT, Int.reduceNeg, Bool.not_not, and_self, Bool.and_eq_false_iff, Int.cast_ofNat_Int, Int.reduceAdd, Int.reduceSub, Int.reduceMul, Int.reduceEq, Int.reduceNe]
  refine runR_callf (by simp only [go_sem, Nat.reduceEqDiff, Nat.reduceBEq, Nat.reduceAdd, Nat.reduceMul, Nat.reduceSub, Nat.reduceLeDiff, Nat.reduceLT, reduceIte, reduceCtorEq, Int.reduceToNat, Int.reduceLE, Int.reduceLT, Int.reduceNeg, Bool.not_not, and_self, Bool.and_eq_false_iff, Int.cast_ofNat_Int, Int.reduceAdd, Int.reduceSub, Int.reduceMul, Int.reduceEq, Int.reduceNe]) (by simp only [go_sem, Nat.reduceEqDiff, Nat.reduceBEq, Nat.reduceAdd, Nat.reduceMul, Nat.reduceSub, Nat.reduceLeDiff, Nat.reduceLT, reduceIte, reduceCtorEq, Int.reduceToNat, Int.reduceLE, Int.reduceLT, Int.reduceNeg, Bool.not_not, and_self, Bool.and_eq_false_iff, Int.cast_ofNat_Int, Int.reduceAdd, Int.reduceSub, Int.reduceMul, Int.reduceEq, Int.reduceNe] <;> rfl) (fn10 m) ⟨rfl, trivial⟩ trivial ?_
  simp only [go_sem, Nat.reduceEqDiff, Nat.reduceBEq, Nat.reduceAdd, Nat.reduceMul, Nat.reduceSub, Nat.reduceLeDiff, Nat.reduceLT, reduceIte, reduceCtorEq, Int.reduceToNat, Int.reduceLE, Int.reduceLT, Int.reduceNeg, Bool.not_not, and_self, Bool.and_eq_false_iff, Int.cast_ofNat_Int, Int.reduceAdd, Int.reduceSub, Int.reduceMul, Int.reduceEq, Int.reduceNe]
  refine runR_callf (by simp only [go_sem, Nat.reduceEqDiff, Nat.reduceBEq, Nat.reduceAdd, Nat.reduceMul, Nat.reduceSub, Nat.reduceLeDiff, Nat.reduceLT, reduceIte, reduceCtorEq, Int.reduceToNat, Int.reduceLE, Int.reduceLT, Int.reduceNeg, Bool.not_not, and_self, Bool.and_eq_false_iff, Int.cast_ofNat_Int, Int.reduceAdd, Int.reduceSub, Int.reduceMul, Int.reduceEq, Int.reduceNe]) (by simp only [go_sem, Nat.reduceEqDiff, Nat.reduceBEq, Nat.reduceAdd, Nat.reduceMul, Nat.reduceSub, Nat.reduceLeDiff, Nat.reduceLT, reduceIte, reduceCtorEq, Int.reduceToNat, Int.reduceLE, Int.reduceLT, Int.reduceNeg, Bool.not_not, and_self, Bool.and_eq_false_iff, Int.cast_ofNat_Int, Int.reduceAdd, Int.reduceSub, Int.reduceMul, Int.reduceEq, Int.reduceNe] <;> rfl) (fn10 t) ⟨rfl, trivial⟩ trivial ?_
  simp only [go_sem, Nat.reduceEqDiff, Nat.reduceBEq, Nat.reduceAdd, Nat.reduceMul, Nat.reduceSub, Nat.reduceLeDiff, Nat.reduceLT, reduceIte, reduceCtorEq, Int.reduceToNat, Int.reduceLE, Int.reduceLT, Int.reduceNeg, Bool.not_not, and_self, Bool.and_eq_false_iff, Int.cast_ofNat_Int, Int.reduceAdd, Int.reduceSub, Int.reduceMul, Int.reduceEq, Int.reduceNe]
  have hl := globsS_len bs
  have hts : (fewS t).size ≤ 1000 := by have := fewS_size t; omega
  have hms : (fewS m).size ≤ 1000 := by have := fewS_size m; omega
  have hsz : ∀ b ∈ globsS bs, b.size ≤ 1000 := fun b hb => by have := globsS_size hb; omega
  generalize globsS bs = gl at hl hsz
  generalize fewS t = q at hts
  generalize fewS m = r at hms
  refine runR_call (by simp only [go_sem, Nat.reduceEqDiff, Nat.reduceBEq, Nat.reduceAdd, Nat.reduceMul, Nat.reduceSub, Nat.reduceLeDiff, Nat.reduceLT, reduceIte, reduceCtorEq, Int.reduceToNat, Int.reduceLE, Int.reduceLT, Int.reduceNeg, Bool.not_not, and_self, Bool.and_eq_false_iff, Int.cast_ofNat_Int, Int.reduceAdd, Int.reduceSub, Int.reduceMul, Int.reduceEq, Int.reduceNe]) rfl (fn11 gl (by omega) hsz) (.inl rfl) trivial ?_
  have r2 := fn11 (gl ++ [r]) (by simp; omega) (fun b hb => by
    rcases List.mem_append.1 hb with h | h
    · exact hsz b h
    · simp only [List.mem_singleton] at h; rw [h]; exact hms)
  simp only [go_sem, Nat.reduceEqDiff, Nat.reduceBEq, Nat.reduceAdd, Nat.reduceMul, Nat.reduceSub, Nat.reduceLeDiff, Nat.reduceLT, reduceIte, reduceCtorEq, Int.reduceToNat, Int.reduceLE, Int.reduceLT, Int.reduceNeg, Bool.not_not, and_self, Bool.and_eq_false_iff, Int.cast_ofNat_Int, Int.reduceAdd, Int.reduceSub, Int.reduceMul, Int.reduceEq, Int.reduceNe]
  have tk2 : List.take (gl.length + 1) (List.take gl.length (gl.map pS) ++ [pS r]) = (gl ++ [r]).map pS := by
    rw [List.take_of_length_le (show (gl.map pS).length ≤ gl.length by simp), List.take_of_length_le (by simp), List.map_append]; rfl
  rw [tk2]
  refine ⟨⟨wf_ss gl, by omega, by omega⟩, ⟨wf_ss [r], by omega, by omega⟩, ?_⟩
  refine runR_call (by simp only [go_sem, Nat.reduceEqDiff, Nat.reduceBEq, Nat.reduceAdd, Nat.reduceMul, Nat.reduceSub, Nat.reduceLeDiff, Nat.reduceLT, reduceIte, reduceCtorEq, Int.reduceToNat, Int.reduceLE, Int.reduceLT, Int.reduceNeg, Bool.not_not, and_self, Bool.and_eq_false_iff, Int.cast_ofNat_Int, Int.reduceAdd, Int.reduceSub, Int.reduceMul, Int.reduceEq, Int.reduceNe]) rfl (r2) (.inl rfl) trivial ?_
  cases hgd : goodB gl with
  | false =>
    simp only [go_sem, Nat.reduceEqDiff, Nat.reduceBEq, Nat.reduceAdd, Nat.reduceMul, Nat.reduceSub, Nat.reduceLeDiff, Nat.reduceLT, reduceIte, reduceCtorEq, Int.reduceToNat, Int.reduceLE, Int.reduceLT, Int.reduceNeg, Bool.not_not, and_self, Bool.and_eq_false_iff, Int.cast_ofNat_Int, Int.reduceAdd, Int.reduceSub, Int.reduceMul, Int.reduceEq, Int.reduceNe]
    refine runR_callf (by simp only [go_sem, Nat.reduceEqDiff, Nat.reduceBEq, Nat.reduceAdd, Nat.reduceMul, Nat.reduceSub, Nat.reduceLeDiff, Nat.reduceLT, reduceIte, reduceCtorEq, Int.reduceToNat, Int.reduceLE, Int.reduceLT, Int.reduceNeg, Bool.not_not, and_self, Bool.and_eq_false_iff, Int.cast_ofNat_Int, Int.reduceAdd, Int.reduceSub, Int.reduceMul, Int.reduceEq, Int.reduceNe]) (by simp only [go_sem, Nat.reduceEqDiff, Nat.reduceBEq, Nat.reduceAdd, Nat.reduceMul, Nat.reduceSub, Nat.reduceLeDiff, Nat.reduceLT, reduceIte, reduceCtorEq, Int.reduceToNat, Int.reduceLE, Int.reduceLT, Int.reduceNeg, Bool.not_not, and_self, Bool.and_eq_false_iff, Int.cast_ofNat_Int, Int.reduceAdd, Int.reduceSub, Int.reduceMul, Int.reduceEq, Int.reduceNe] <;> rfl) (fn15) ⟨rfl, trivial⟩ trivial ?_
    simp only [go_sem, Nat.reduceEqDiff, Nat.reduceBEq, Nat.reduceAdd, Nat.reduceMul, Nat.reduceSub, Nat.reduceLeDiff, Nat.reduceLT, reduceIte, reduceCtorEq, Int.reduceToNat, Int.reduceLE, Int.reduceLT, Int.reduceNeg, Bool.not_not, and_self, Bool.and_eq_false_iff, Int.cast_ofNat_Int, Int.reduceAdd, Int.reduceSub, Int.reduceMul, Int.reduceEq, Int.reduceNe]
  | true =>
    have hgo := gsOk hgd
    have hbr : buildR gl = nfaOf (gl.map cutS) := by unfold buildR; rw [hgd]; rfl
    have ra := fn21 (gl.map cutS) q hgo hts
    cases hgd2 : goodB (gl ++ [r]) with
    | false =>
      simp only [go_sem, Nat.reduceEqDiff, Nat.reduceBEq, Nat.reduceAdd, Nat.reduceMul, Nat.reduceSub, Nat.reduceLeDiff, Nat.reduceLT, reduceIte, reduceCtorEq, Int.reduceToNat, Int.reduceLE, Int.reduceLT, Int.reduceNeg, Bool.not_not, and_self, Bool.and_eq_false_iff, Int.cast_ofNat_Int, Int.reduceAdd, Int.reduceSub, Int.reduceMul, Int.reduceEq, Int.reduceNe]
      refine runR_callf (by simp only [go_sem, Nat.reduceEqDiff, Nat.reduceBEq, Nat.reduceAdd, Nat.reduceMul, Nat.reduceSub, Nat.reduceLeDiff, Nat.reduceLT, reduceIte, reduceCtorEq, Int.reduceToNat, Int.reduceLE, Int.reduceLT, Int.reduceNeg, Bool.not_not, and_self, Bool.and_eq_false_iff, Int.cast_ofNat_Int, Int.reduceAdd, Int.reduceSub, Int.reduceMul, Int.reduceEq, Int.reduceNe]) (by simp only [go_sem, Nat.reduceEqDiff, Nat.reduceBEq, Nat.reduceAdd, Nat.reduceMul, Nat.reduceSub, Nat.reduceLeDiff, Nat.reduceLT, reduceIte, reduceCtorEq, Int.reduceToNat, Int.reduceLE, Int.reduceLT, Int.reduceNeg, Bool.not_not, and_self, Bool.and_eq_false_iff, Int.cast_ofNat_Int, Int.reduceAdd, Int.reduceSub, Int.reduceMul, Int.reduceEq, Int.reduceNe] <;> rfl) (fn15) ⟨rfl, trivial⟩ trivial ?_
      simp only [go_sem, Nat.reduceEqDiff, Nat.reduceBEq, Nat.reduceAdd, Nat.reduceMul, Nat.reduceSub, Nat.reduceLeDiff, Nat.reduceLT, reduceIte, reduceCtorEq, Int.reduceToNat, Int.reduceLE, Int.reduceLT, Int.reduceNeg, Bool.not_not, and_self, Bool.and_eq_false_iff, Int.cast_ofNat_Int, Int.reduceAdd, Int.reduceSub, Int.reduceMul, Int.reduceEq, Int.reduceNe]
    | true =>
      have hgo2 := gsOk hgd2
      have hm : (gl ++ [r]).map cutS = gl.map cutS ++ [cutS r] := by simp
      have hbr2 : buildR (gl ++ [r]) = nfaOf (gl.map cutS ++ [cutS r]) := by unfold buildR; rw [hgd2, ← hm]; rfl
      rw [hm] at hgo2
      have rb := fn21 (gl.map cutS ++ [cutS r]) q hgo2 hts
      have hlen : gl.length = (gl.map cutS).length := by simp
      have hln := hgo.n
      have hw : (nfaOf (gl.map cutS)).ways.length < (nfaOf (gl.map cutS ++ [cutS r])).ways.length := by
        have e1 := size_nfa (gs := gl.map cutS)
        have e2 := size_nfa (gs := gl.map cutS ++ [cutS r])
        rw [base_app] at e2
        unfold NF.size at e1 e2
        omega
      have hs : (nfaOf (gl.map cutS)).signs.length ≤ (nfaOf (gl.map cutS ++ [cutS r])).signs.length := by
        show (signsOf _).length ≤ (signsOf _).length
        rw [signsOf_app]
        exact addsB_le _ _
      -- what is done
      obtain ⟨A, hA⟩ : ∃ A, A = (if topicB q = true then resN (gl.map cutS) (partsB q) else []) := ⟨_, rfl⟩
      have hB : ∃ e, (if topicB q = true then resN (gl.map cutS ++ [cutS r]) (partsB q) else []) = A ++ e ∧ (e = [] ∨ e = [gl.length]) := by
        rw [hA]
        split
        · rw [resN_app]
          refine ⟨_, rfl, ?_⟩
          split
          · right; simp
          · left; rfl
        · exact ⟨[], rfl, .inl rfl⟩
      obtain ⟨e, hB, he⟩ := hB
      have hAlt : ∀ g ∈ A, g < gl.length := by
        rw [hA]
        split
        · intro g hg; have := resN_lt hg; omega
        · intro g hg; cases hg
      have hAl : A.length ≤ 20 := by
        rw [hA]
        split
        · have := resN_len (gl.map cutS) (partsB q); omega
        · simp
      rw [← hA] at ra
      rw [hB] at rb
      rw [hbr, hbr2]
      generalize nfaOf (gl.map cutS) = n1 at ra hw hs
      generalize nfaOf (gl.map cutS ++ [cutS r]) = n2 at rb hw hs
      clear hA hB hbr hbr2
      have cA := fn16t (toI A) (by simp [toI]; omega)
      simp only [go_sem, Nat.reduceEqDiff, Nat.reduceBEq, Nat.reduceAdd, Nat.reduceMul, Nat.reduceSub, Nat.reduceLeDiff, Nat.reduceLT, reduceIte, reduceCtorEq, Int.reduceToNat, Int.reduceLE, Int.reduceLT, Int.reduceNeg, Bool.not_not, and_self, Bool.and_eq_false_iff, Int.cast_ofNat_Int, Int.reduceAdd, Int.reduceSub, Int.reduceMul, Int.reduceEq, Int.reduceNe]
      refine runR_call (by simp only [go_sem, Nat.reduceEqDiff, Nat.reduceBEq, Nat.reduceAdd, Nat.reduceMul, Nat.reduceSub, Nat.reduceLeDiff, Nat.reduceLT, reduceIte, reduceCtorEq, Int.reduceToNat, Int.reduceLE, Int.reduceLT, Int.reduceNeg, Bool.not_not, and_self, Bool.and_eq_false_iff, Int.cast_ofNat_Int, Int.reduceAdd, Int.reduceSub, Int.reduceMul, Int.reduceEq, Int.reduceNe]) rfl (ra) (.inl rfl) trivial ?_
      simp only [go_sem, Nat.reduceEqDiff, Nat.reduceBEq, Nat.reduceAdd, Nat.reduceMul, Nat.reduceSub, Nat.reduceLeDiff, Nat.reduceLT, reduceIte, reduceCtorEq, Int.reduceToNat, Int.reduceLE, Int.reduceLT, Int.reduceNeg, Bool.not_not, and_self, Bool.and_eq_false_iff, Int.cast_ofNat_Int, Int.reduceAdd, Int.reduceSub, Int.reduceMul, Int.reduceEq, Int.reduceNe]
      refine runR_call (by simp only [go_sem, Nat.reduceEqDiff, Nat.reduceBEq, Nat.reduceAdd, Nat.reduceMul, Nat.reduceSub, Nat.reduceLeDiff, Nat.reduceLT, reduceIte, reduceCtorEq, Int.reduceToNat, Int.reduceLE, Int.reduceLT, Int.reduceNeg, Bool.not_not, and_self, Bool.and_eq_false_iff, Int.cast_ofNat_Int, Int.reduceAdd, Int.reduceSub, Int.reduceMul, Int.reduceEq, Int.reduceNe]) rfl (rb) (.inl rfl) trivial ?_
      have big : ∀ (u : List Nat) (g : Nat), (toI (u ++ [g])).length = u.length + 1 ∧ (((u.length + 1 : Nat) : Int) - 1).toNat = u.length ∧ ((toI (u ++ [g])).map fun n => pI n).getD u.length default = pI (g : Int) ∧
          List.take u.length ((toI (u ++ [g])).map fun n => pI n) = (toI u).map fun n => pI n := fun u g =>
        ⟨by simp [toI], by omega, by simp [toI, List.getD_eq_getElem?_getD], by simp [toI]⟩
      rcases he with rfl | rfl
      · rw [List.append_nil]
        rcases List.eq_nil_or_concat A with rfl | ⟨u, g, rfl⟩
        · simp only [go_sem, Nat.reduceEqDiff, Nat.reduceBEq, Nat.reduceAdd, Nat.reduceMul, Nat.reduceSub, Nat.reduceLeDiff, Nat.reduceLT, reduceIte, reduceCtorEq, Int.reduceToNat, Int.reduceLE, Int.reduceLT, Int.reduceNeg, Bool.not_not, and_self, Bool.and_eq_false_iff, Int.cast_ofNat_Int, Int.reduceAdd, Int.reduceSub, Int.reduceMul, Int.reduceEq, Int.reduceNe, show (toI ([] : List Nat)).length = 0 by rfl]
          refine runR_callf (by simp only [go_sem, Nat.reduceEqDiff, Nat.reduceBEq, Nat.reduceAdd, Nat.reduceMul, Nat.reduceSub, Nat.reduceLeDiff, Nat.reduceLT, reduceIte, reduceCtorEq, Int.reduceToNat, Int.reduceLE, Int.reduceLT, Int.reduceNeg, Bool.not_not, and_self, Bool.and_eq_false_iff, Int.cast_ofNat_Int, Int.reduceAdd, Int.reduceSub, Int.reduceMul, Int.reduceEq, Int.reduceNe]) (by simp only [go_sem, Nat.reduceEqDiff, Nat.reduceBEq, Nat.reduceAdd, Nat.reduceMul, Nat.reduceSub, Nat.reduceLeDiff, Nat.reduceLT, reduceIte, reduceCtorEq, Int.reduceToNat, Int.reduceLE, Int.reduceLT, Int.reduceNeg, Bool.not_not, and_self, Bool.and_eq_false_iff, Int.cast_ofNat_Int, Int.reduceAdd, Int.reduceSub, Int.reduceMul, Int.reduceEq, Int.reduceNe] <;> rfl) (cA) ⟨rfl, trivial⟩ trivial ?_
          simp only [go_sem, Nat.reduceEqDiff, Nat.reduceBEq, Nat.reduceAdd, Nat.reduceMul, Nat.reduceSub, Nat.reduceLeDiff, Nat.reduceLT, reduceIte, reduceCtorEq, Int.reduceToNat, Int.reduceLE, Int.reduceLT, Int.reduceNeg, Bool.not_not, and_self, Bool.and_eq_false_iff, Int.cast_ofNat_Int, Int.reduceAdd, Int.reduceSub, Int.reduceMul, Int.reduceEq, Int.reduceNe, show (n1.ways.length : Int) < (n2.ways.length : Int) by omega, show (n1.signs.length : Int) ≤ (n2.signs.length : Int) by omega]
          refine runR_callgf (by simp only [go_sem, Nat.reduceEqDiff, Nat.reduceBEq, Nat.reduceAdd, Nat.reduceMul, Nat.reduceSub, Nat.reduceLeDiff, Nat.reduceLT, reduceIte, reduceCtorEq, Int.reduceToNat, Int.reduceLE, Int.reduceLT, Int.reduceNeg, Bool.not_not, and_self, Bool.and_eq_false_iff, Int.cast_ofNat_Int, Int.reduceAdd, Int.reduceSub, Int.reduceMul, Int.reduceEq, Int.reduceNe]) (by simp only [go_sem, Nat.reduceEqDiff, Nat.reduceBEq, Nat.reduceAdd, Nat.reduceMul, Nat.reduceSub, Nat.reduceLeDiff, Nat.reduceLT, reduceIte, reduceCtorEq, Int.reduceToNat, Int.reduceLE, Int.reduceLT, Int.reduceNeg, Bool.not_not, and_self, Bool.and_eq_false_iff, Int.cast_ofNat_Int, Int.reduceAdd, Int.reduceSub, Int.reduceMul, Int.reduceEq, Int.reduceNe]) (by simp only [go_sem, Nat.reduceEqDiff, Nat.reduceBEq, Nat.reduceAdd, Nat.reduceMul, Nat.reduceSub, Nat.reduceLeDiff, Nat.reduceLT, reduceIte, reduceCtorEq, Int.reduceToNat, Int.reduceLE, Int.reduceLT, Int.reduceNeg, Bool.not_not, and_self, Bool.and_eq_false_iff, Int.cast_ofNat_Int, Int.reduceAdd, Int.reduceSub, Int.reduceMul, Int.reduceEq, Int.reduceNe] <;> rfl) (fun _ => fn15) rfl ?_
          simp only [go_sem, Nat.reduceEqDiff, Nat.reduceBEq, Nat.reduceAdd, Nat.reduceMul, Nat.reduceSub, Nat.reduceLeDiff, Nat.reduceLT, reduceIte, reduceCtorEq, Int.reduceToNat, Int.reduceLE, Int.reduceLT, Int.reduceNeg, Bool.not_not, and_self, Bool.and_eq_false_iff, Int.cast_ofNat_Int, Int.reduceAdd, Int.reduceSub, Int.reduceMul, Int.reduceEq, Int.reduceNe]
        · rw [List.concat_eq_append] at *
          obtain ⟨e1, e2, e3, e4⟩ := big u g
          have hg := hAlt g (by simp)
          have hul : u.length ≤ 20 := by simp at hAl; omega
          simp only [go_sem, Nat.reduceEqDiff, Nat.reduceBEq, Nat.reduceAdd, Nat.reduceMul, Nat.reduceSub, Nat.reduceLeDiff, Nat.reduceLT, reduceIte, reduceCtorEq, Int.reduceToNat, Int.reduceLE, Int.reduceLT, Int.reduceNeg, Bool.not_not, and_self, Bool.and_eq_false_iff, Int.cast_ofNat_Int, Int.reduceAdd, Int.reduceSub, Int.reduceMul, Int.reduceEq, Int.reduceNe, e1, e2, e3, show (0 : Int) < ((u.length + 1 : Nat) : Int) by omega, show ¬ (g : Int) = (gl.length : Int) by omega]
          refine ⟨⟨by omega, by omega⟩, ⟨by omega, by omega, wf_ints _⟩, ?_⟩
          refine runR_callf (by simp only [go_sem, Nat.reduceEqDiff, Nat.reduceBEq, Nat.reduceAdd, Nat.reduceMul, Nat.reduceSub, Nat.reduceLeDiff, Nat.reduceLT, reduceIte, reduceCtorEq, Int.reduceToNat, Int.reduceLE, Int.reduceLT, Int.reduceNeg, Bool.not_not, and_self, Bool.and_eq_false_iff, Int.cast_ofNat_Int, Int.reduceAdd, Int.reduceSub, Int.reduceMul, Int.reduceEq, Int.reduceNe]) (by simp only [go_sem, Nat.reduceEqDiff, Nat.reduceBEq, Nat.reduceAdd, Nat.reduceMul, Nat.reduceSub, Nat.reduceLeDiff, Nat.reduceLT, reduceIte, reduceCtorEq, Int.reduceToNat, Int.reduceLE, Int.reduceLT, Int.reduceNeg, Bool.not_not, and_self, Bool.and_eq_false_iff, Int.cast_ofNat_Int, Int.reduceAdd, Int.reduceSub, Int.reduceMul, Int.reduceEq, Int.reduceNe] <;> rfl) (cA) ⟨rfl, trivial⟩ trivial ?_
          simp only [go_sem, Nat.reduceEqDiff, Nat.reduceBEq, Nat.reduceAdd, Nat.reduceMul, Nat.reduceSub, Nat.reduceLeDiff, Nat.reduceLT, reduceIte, reduceCtorEq, Int.reduceToNat, Int.reduceLE, Int.reduceLT, Int.reduceNeg, Bool.not_not, and_self, Bool.and_eq_false_iff, Int.cast_ofNat_Int, Int.reduceAdd, Int.reduceSub, Int.reduceMul, Int.reduceEq, Int.reduceNe, show (n1.ways.length : Int) < (n2.ways.length : Int) by omega, show (n1.signs.length : Int) ≤ (n2.signs.length : Int) by omega]
          refine runR_callgf (by simp only [go_sem, Nat.reduceEqDiff, Nat.reduceBEq, Nat.reduceAdd, Nat.reduceMul, Nat.reduceSub, Nat.reduceLeDiff, Nat.reduceLT, reduceIte, reduceCtorEq, Int.reduceToNat, Int.reduceLE, Int.reduceLT, Int.reduceNeg, Bool.not_not, and_self, Bool.and_eq_false_iff, Int.cast_ofNat_Int, Int.reduceAdd, Int.reduceSub, Int.reduceMul, Int.reduceEq, Int.reduceNe]) (by simp only [go_sem, Nat.reduceEqDiff, Nat.reduceBEq, Nat.reduceAdd, Nat.reduceMul, Nat.reduceSub, Nat.reduceLeDiff, Nat.reduceLT, reduceIte, reduceCtorEq, Int.reduceToNat, Int.reduceLE, Int.reduceLT, Int.reduceNeg, Bool.not_not, and_self, Bool.and_eq_false_iff, Int.cast_ofNat_Int, Int.reduceAdd, Int.reduceSub, Int.reduceMul, Int.reduceEq, Int.reduceNe]) (by simp only [go_sem, Nat.reduceEqDiff, Nat.reduceBEq, Nat.reduceAdd, Nat.reduceMul, Nat.reduceSub, Nat.reduceLeDiff, Nat.reduceLT, reduceIte, reduceCtorEq, Int.reduceToNat, Int.reduceLE, Int.reduceLT, Int.reduceNeg, Bool.not_not, and_self, Bool.and_eq_false_iff, Int.cast_ofNat_Int, Int.reduceAdd, Int.reduceSub, Int.reduceMul, Int.reduceEq, Int.reduceNe] <;> rfl) (fun _ => fn15) rfl ?_
          simp only [go_sem, Nat.reduceEqDiff, Nat.reduceBEq, Nat.reduceAdd, Nat.reduceMul, Nat.reduceSub, Nat.reduceLeDiff, Nat.reduceLT, reduceIte, reduceCtorEq, Int.reduceToNat, Int.reduceLE, Int.reduceLT, Int.reduceNeg, Bool.not_not, and_self, Bool.and_eq_false_iff, Int.cast_ofNat_Int, Int.reduceAdd, Int.reduceSub, Int.reduceMul, Int.reduceEq, Int.reduceNe]
      · obtain ⟨e1, e2, e3, e4⟩ := big A gl.length
        simp only [go_sem, Nat.reduceEqDiff, Nat.reduceBEq, Nat.reduceAdd, Nat.reduceMul, Nat.reduceSub, Nat.reduceLeDiff, Nat.reduceLT, reduceIte, reduceCtorEq, Int.reduceToNat, Int.reduceLE, Int.reduceLT, Int.reduceNeg, Bool.not_not, and_self, Bool.and_eq_false_iff, Int.cast_ofNat_Int, Int.reduceAdd, Int.reduceSub, Int.reduceMul, Int.reduceEq, Int.reduceNe, e1, e2, e3, e4, show (0 : Int) < ((A.length + 1 : Nat) : Int) by omega]
        refine ⟨⟨by omega, by omega⟩, ⟨by omega, by omega, wf_ints _⟩, ⟨by omega, by omega⟩, ⟨by omega, by omega, wf_ints _⟩, ?_⟩
        refine runR_callf (by simp only [go_sem, Nat.reduceEqDiff, Nat.reduceBEq, Nat.reduceAdd, Nat.reduceMul, Nat.reduceSub, Nat.reduceLeDiff, Nat.reduceLT, reduceIte, reduceCtorEq, Int.reduceToNat, Int.reduceLE, Int.reduceLT, Int.reduceNeg, Bool.not_not, and_self, Bool.and_eq_false_iff, Int.cast_ofNat_Int, Int.reduceAdd, Int.reduceSub, Int.reduceMul, Int.reduceEq, Int.reduceNe]) (by simp only [go_sem, Nat.reduceEqDiff, Nat.reduceBEq, Nat.reduceAdd, Nat.reduceMul, Nat.reduceSub, Nat.reduceLeDiff, Nat.reduceLT, reduceIte, reduceCtorEq, Int.reduceToNat, Int.reduceLE, Int.reduceLT, Int.reduceNeg, Bool.not_not, and_self, Bool.and_eq_false_iff, Int.cast_ofNat_Int, Int.reduceAdd, Int.reduceSub, Int.reduceMul, Int.reduceEq, Int.reduceNe] <;> rfl) (cA) ⟨rfl, trivial⟩ trivial ?_
        simp only [go_sem, Nat.reduceEqDiff, Nat.reduceBEq, Nat.reduceAdd, Nat.reduceMul, Nat.reduceSub, Nat.reduceLeDiff, Nat.reduceLT, reduceIte, reduceCtorEq, Int.reduceToNat, Int.reduceLE, Int.reduceLT, Int.reduceNeg, Bool.not_not, and_self, Bool.and_eq_false_iff, Int.cast_ofNat_Int, Int.reduceAdd, Int.reduceSub, Int.reduceMul, Int.reduceEq, Int.reduceNe, show (n1.ways.length : Int) < (n2.ways.length : Int) by omega, show (n1.signs.length : Int) ≤ (n2.signs.length : Int) by omega]
        refine runR_callgf (by simp only [go_sem, Nat.reduceEqDiff, Nat.reduceBEq, Nat.reduceAdd, Nat.reduceMul, Nat.reduceSub, Nat.reduceLeDiff, Nat.reduceLT, reduceIte, reduceCtorEq, Int.reduceToNat, Int.reduceLE, Int.reduceLT, Int.reduceNeg, Bool.not_not, and_self, Bool.and_eq_false_iff, Int.cast_ofNat_Int, Int.reduceAdd, Int.reduceSub, Int.reduceMul, Int.reduceEq, Int.reduceNe]) (by simp only [go_sem, Nat.reduceEqDiff, Nat.reduceBEq, Nat.reduceAdd, Nat.reduceMul, Nat.reduceSub, Nat.reduceLeDiff, Nat.reduceLT, reduceIte, reduceCtorEq, Int.reduceToNat, Int.reduceLE, Int.reduceLT, Int.reduceNeg, Bool.not_not, and_self, Bool.and_eq_false_iff, Int.cast_ofNat_Int, Int.reduceAdd, Int.reduceSub, Int.reduceMul, Int.reduceEq, Int.reduceNe]) (by simp only [go_sem, Nat.reduceEqDiff, Nat.reduceBEq, Nat.reduceAdd, Nat.reduceMul, Nat.reduceSub, Nat.reduceLeDiff, Nat.reduceLT, reduceIte, reduceCtorEq, Int.reduceToNat, Int.reduceLE, Int.reduceLT, Int.reduceNeg, Bool.not_not, and_self, Bool.and_eq_false_iff, Int.cast_ofNat_Int, Int.reduceAdd, Int.reduceSub, Int.reduceMul, Int.reduceEq, Int.reduceNe] <;> rfl) (fun _ => fn15) rfl ?_
        simp only [go_sem, Nat.reduceEqDiff, Nat.reduceBEq, Nat.reduceAdd, Nat.reduceMul, Nat.reduceSub, Nat.reduceLeDiff, Nat.reduceLT, reduceIte, reduceCtorEq, Int.reduceToNat, Int.reduceLE, Int.reduceLT, Int.reduceNeg, Bool.not_not, and_self, Bool.and_eq_false_iff, Int.cast_ofNat_Int, Int.reduceAdd, Int.reduceSub, Int.reduceMul, Int.reduceEq, Int.reduceNe]
end Go.Vc
