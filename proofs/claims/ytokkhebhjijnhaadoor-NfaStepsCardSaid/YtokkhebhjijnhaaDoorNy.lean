/- A part of the proofs of the seat YtokkhebhjijnhaaDoor: the contracts of functions, each proved out of its code. -/
import Derived.Test.YtokkhebhjijnhaaDoorNf
import Derived.Test.YtokkhebhjijnhaaDoorNg
namespace Go.Vc
open Go.Proofs
set_option linter.unusedSimpArgs false
set_option linter.unusedVariables false

/-! ## The document's 'Build' -/
theorem take_snoc2 {α : Type} {l : List α} {k : Nat} (h : k < l.length) : l.take (k + 1) = l.take k ++ [l[k]] := List.take_succ_eq_append_getElem h
def sgA (S ps : List ByteArray) (k : Nat) : List ByteArray := addsB S (realB (ps.take k))
theorem sgA_succ {S ps : List ByteArray} {k : Nat} (h : k < ps.length) : sgA S ps (k + 1) = if ps[k] ≠ sAny ∧ ps[k] ≠ sAll then addB (sgA S ps k) ps[k] else sgA S ps k := by
  unfold sgA
  rw [realK_succ h]
  split
  · rw [addsB_snoc]
  · rw [List.append_nil]
theorem sgA_ris {S ps : List ByteArray} {k : Nat} (h : RisB S) : RisB (sgA S ps k) := addsB_ris h
theorem sgA_len {S ps : List ByteArray} {k : Nat} : (sgA S ps k).length ≤ S.length + ps.length := by
  have := addsB_len (realB (ps.take k)) S
  have h3 : (realB (ps.take k)).length ≤ (ps.take k).length := List.length_filter_le _ _
  rw [List.length_take] at h3
  unfold sgA; omega
theorem glob_parts {b : ByteArray} (h : globB b = true) : (cutS b).length ≤ 8 := by
  have := partsB_len b
  rwa [partsB_good h] at this
theorem sgT_len {bs : List ByteArray} {i : Nat} (hi : i ≤ bs.length) (hg : ∀ b ∈ bs.take i, globB b = true) : (signsOf ((bs.map cutS).take i)).length ≤ 8 * i := by
  have h1 := signs_le (gs := (bs.map cutS).take i) (fun ps hp => by
    rw [← List.map_take] at hp
    obtain ⟨b, hb, rfl⟩ := List.mem_map.1 hp
    exact glob_parts (hg b hb))
  have h2 : ((bs.map cutS).take i).length ≤ i := by simp; omega
  omega
theorem ins_pv {A : List ByteArray} {p : ByteArray} {j : Nat} (hj : j ≤ A.length) (h : insB A p = A.take j ++ p :: A.drop j) :
    List.take (j + 1 + (List.drop j (List.take A.length (A.map pS))).length) (List.take (j + 1) ((A.take j).map pS ++ [pS p]) ++ List.drop j (List.take A.length (A.map pS))) = (insB A p).map pS := by
  have e1 : List.take A.length (A.map pS) = A.map pS := List.take_of_length_le (by simp)
  have e2 : List.take (j + 1) ((A.take j).map pS ++ [pS p]) = (A.take j).map pS ++ [pS p] := List.take_of_length_le (by simp; omega)
  rw [e1, e2, List.take_of_length_le (by simp; omega), h]
  simp
def refW (sg : List ByteArray) (own : Nat) (p : ByteArray) (s : Nat) : List (Int × Int) :=
  if p = sAll then wayK sg [((-1 : Int), ((own + 1 : Nat) : Int))] own s else if p = sAny then wayK sg [] (own + 1) s else if letterN sg p < s then [((letterN sg p : Int), ((own + 1 : Nat) : Int))] else []
theorem refW_end (sg : List ByteArray) (own : Nat) (p : ByteArray) : refW sg own p (sg.length + 1) = wayOf sg own p := by
  have := letterN_le sg p
  unfold refW wayOf
  split
  · rfl
  · split
    · simp [wayK]
    · rw [if_pos (by omega)]
theorem refW_len (sg : List ByteArray) (own : Nat) (p : ByteArray) (s : Nat) : (refW sg own p s).length ≤ s + 1 := by
  unfold refW
  split
  · rw [wayK_len]; simp; omega
  · split
    · rw [wayK_len]; simp
    · split <;> simp
theorem refW_all {sg : List ByteArray} {own : Nat} {p : ByteArray} (s : Nat) (h : p = sAll) : refW sg own p (s + 1) = refW sg own p s ++ [((s : Int), (own : Int))] := by
  unfold refW; rw [if_pos h, if_pos h, wayK_succ]
theorem refW_any {sg : List ByteArray} {own : Nat} {p : ByteArray} (s : Nat) (h : p ≠ sAll) (h2 : p = sAny) : refW sg own p (s + 1) = refW sg own p s ++ [((s : Int), ((own + 1 : Nat) : Int))] := by
  unfold refW; rw [if_neg h, if_neg h, if_pos h2, if_pos h2, wayK_succ]
theorem refW_here {sg : List ByteArray} {own : Nat} {p : ByteArray} {s : Nat} (h : p ≠ sAll) (h2 : p ≠ sAny) (h3 : letterN sg p = s) : refW sg own p (s + 1) = refW sg own p s ++ [((s : Int), ((own + 1 : Nat) : Int))] := by
  unfold refW; rw [if_neg h, if_neg h, if_neg h2, if_neg h2, if_pos (by omega), if_neg (by omega), h3]; rfl
theorem refW_else {sg : List ByteArray} {own : Nat} {p : ByteArray} {s : Nat} (h : p ≠ sAll) (h2 : p ≠ sAny) (h3 : letterN sg p ≠ s) : refW sg own p (s + 1) = refW sg own p s := by
  unfold refW; rw [if_neg h, if_neg h, if_neg h2, if_neg h2]
  by_cases hc : letterN sg p < s
  · rw [if_pos (by omega), if_pos hc]
  · rw [if_neg (by omega), if_neg hc]
theorem w5_map {sg : List ByteArray} {own s : Nat} {p : ByteArray} {to : Int} (h : refW sg own p (s + 1) = refW sg own p s ++ [((s : Int), to)]) : (refW sg own p (s + 1)).map pE = (refW sg own p s).map pE ++ [PV.agg [pI s, pI to]] ∧ (refW sg own p (s + 1)).length = (refW sg own p s).length + 1 := by
  rw [h, List.map_append, List.length_append]; exact ⟨rfl, rfl⟩
theorem w5_end {sg : List ByteArray} {own s : Nat} {p : ByteArray} {to : Int} (h : refW sg own p (s + 1) = refW sg own p s ++ [((s : Int), to)]) (h9 : s + 1 = sg.length + 1) : PV.lst (List.take ((refW sg own p s).length + 1) ((refW sg own p s).map pE ++ [PV.agg [pI s, pI to]])) = pWs (wayOf sg own p) := by
  rw [h9, refW_end] at h
  rw [List.take_of_length_le (by simp), h]; simp
set_option maxHeartbeats 4000000 in
theorem fn12 (bs : List ByteArray) (hb : bs.length ≤ 30) (hs : ∀ b ∈ bs, b.size ≤ 1000) : Fn Tryd.prog 12 [ss bs] (.pv (.tup [pNf (buildR bs), pB (goodB bs)])) [] := by
  have bad : goodB bs = false → pNf (buildR bs) = .agg [.lst [], .lst [], .lst [], .lst []] := fun h => by
    unfold buildR; rw [h]; rfl
  refine Run12 [] (by simp) ?_
  simp only [go_sem, Nat.reduceEqDiff, Nat.reduceBEq, Nat.reduceAdd, Nat.reduceMul, Nat.reduceSub, Nat.reduceLeDiff, Nat.reduceLT, reduceIte, reduceCtorEq, Int.reduceToNat, Int.reduceLE, Int.reduceLT, Int.reduceNeg, Bool.not_not, and_self, Bool.and_eq_false_iff, Int.cast_ofNat_Int, Int.reduceAdd, Int.reduceSub, Int.reduceMul, Int.reduceEq, Int.reduceNe, M12]
  refine run_loopF (T := Nat) (fun _ => []) (fun _ => [(4, 0, 0, 0)]) [0, 2, 4, 5] [2, 4]
    (fun i => ⟨[(0, .pv (ss bs)), (2, .ptr 2 0), (4, .ptr 4 0), (5, .pv (pI i))], [(2, .box [.e0, .e0, .e0, .e0]), (4, .box [.pv (ss (signsOf ((bs.map cutS).take i))), .e0, .e0, .e0])]⟩)
    (fun i => i ≤ bs.length ∧ ∀ b ∈ bs.take i, globB b = true) (fun i => bs.length - i) 0 ?_ ⟨Nat.zero_le _, by simp⟩ ?_
  · simp only [go_sem, Nat.reduceEqDiff, Nat.reduceBEq, Nat.reduceAdd, Nat.reduceMul, Nat.reduceSub, Nat.reduceLeDiff, Nat.reduceLT, reduceIte, reduceCtorEq, Int.reduceToNat, Int.reduceLE, Int.reduceLT, Int.reduceNeg, Bool.not_not, and_self, Bool.and_eq_false_iff, Int.cast_ofNat_Int, Int.reduceAdd, Int.reduceSub, Int.reduceMul, Int.reduceEq, Int.reduceNe]
    rfl
  rintro i ⟨hi, hg⟩
  have hSl := sgT_len hi hg
  by_cases hlt : i < bs.length
  · simp only [go_sem, Nat.reduceEqDiff, Nat.reduceBEq, Nat.reduceAdd, Nat.reduceMul, Nat.reduceSub, Nat.reduceLeDiff, Nat.reduceLT, reduceIte, reduceCtorEq, Int.reduceToNat, Int.reduceLE, Int.reduceLT, Int.reduceNeg, Bool.not_not, and_self, Bool.and_eq_false_iff, Int.cast_ofNat_Int, Int.reduceAdd, Int.reduceSub, Int.reduceMul, Int.reduceEq, Int.reduceNe, B12_0, show (i : Int) < (bs.length : Int) by omega, wf_ss, getD_map hlt]
    refine runR_callf (by simp only [go_sem, Nat.reduceEqDiff, Nat.reduceBEq, Nat.reduceAdd, Nat.reduceMul, Nat.reduceSub, Nat.reduceLeDiff, Nat.reduceLT, reduceIte, reduceCtorEq, Int.reduceToNat, Int.reduceLE, Int.reduceLT, Int.reduceNeg, Bool.not_not, and_self, Bool.and_eq_false_iff, Int.cast_ofNat_Int, Int.reduceAdd, Int.reduceSub, Int.reduceMul, Int.reduceEq, Int.reduceNe]) (by simp only [go_sem, Nat.reduceEqDiff, Nat.reduceBEq, Nat.reduceAdd, Nat.reduceMul, Nat.reduceSub, Nat.reduceLeDiff, Nat.reduceLT, reduceIte, reduceCtorEq, Int.reduceToNat, Int.reduceLE, Int.reduceLT, Int.reduceNeg, Bool.not_not, and_self, Bool.and_eq_false_iff, Int.cast_ofNat_Int, Int.reduceAdd, Int.reduceSub, Int.reduceMul, Int.reduceEq, Int.reduceNe] <;> rfl) (fn29 bs[i] (hs _ (List.getElem_mem hlt))) ⟨rfl, trivial⟩ trivial ?_
    simp only [go_sem, Nat.reduceEqDiff, Nat.reduceBEq, Nat.reduceAdd, Nat.reduceMul, Nat.reduceSub, Nat.reduceLeDiff, Nat.reduceLT, reduceIte, reduceCtorEq, Int.reduceToNat, Int.reduceLE, Int.reduceLT, Int.reduceNeg, Bool.not_not, and_self, Bool.and_eq_false_iff, Int.cast_ofNat_Int, Int.reduceAdd, Int.reduceSub, Int.reduceMul, Int.reduceEq, Int.reduceNe, show (i : Int) < (bs.length : Int) by omega, wf_ss, getD_map hlt]
    refine ⟨fun hx => ?_, fun hx => ?_⟩
    · have hbd : goodB bs = false := by
        cases hc : goodB bs with
        | false => rfl
        | true => rw [(goodB_iff.1 hc).2 _ (List.getElem_mem hlt)] at hx; cases hx
      rw [bad hbd, hbd]
    refine runR_call (by simp only [go_sem, Nat.reduceEqDiff, Nat.reduceBEq, Nat.reduceAdd, Nat.reduceMul, Nat.reduceSub, Nat.reduceLeDiff, Nat.reduceLT, reduceIte, reduceCtorEq, Int.reduceToNat, Int.reduceLE, Int.reduceLT, Int.reduceNeg, Bool.not_not, and_self, Bool.and_eq_false_iff, Int.cast_ofNat_Int, Int.reduceAdd, Int.reduceSub, Int.reduceMul, Int.reduceEq, Int.reduceNe]) rfl (fn24 bs[i] (hs _ (List.getElem_mem hlt))) (.inl rfl) trivial ?_
    rw [partsB_good hx]
    have hpl := glob_parts hx
    have hst : signsOf ((bs.map cutS).take (i + 1)) = sgA (signsOf ((bs.map cutS).take i)) (cutS bs[i]) (cutS bs[i]).length := by
      rw [signsOf_take (by simpa using hlt)]
      unfold sgA
      rw [List.take_length]; simp
    have hSr := signsOf_ris ((bs.map cutS).take i)
    generalize cutS bs[i] = ps at hpl hst ⊢
    generalize signsOf ((bs.map cutS).take i) = S at hSl hst hSr ⊢
    simp only [go_sem, Nat.reduceEqDiff, Nat.reduceBEq, Nat.reduceAdd, Nat.reduceMul, Nat.reduceSub, Nat.reduceLeDiff, Nat.reduceLT, reduceIte, reduceCtorEq, Int.reduceToNat, Int.reduceLE, Int.reduceLT, Int.reduceNeg, Bool.not_not, and_self, Bool.and_eq_false_iff, Int.cast_ofNat_Int, Int.reduceAdd, Int.reduceSub, Int.reduceMul, Int.reduceEq, Int.reduceNe]
    refine run_loopN (T := Nat) [0, 2, 4, 5, 6, 7] [2, 4]
      (fun k => ⟨[(0, .pv (ss bs)), (2, .ptr 2 0), (4, .ptr 4 0), (5, .pv (pI i)), (6, .pv (ss ps)), (7, .pv (pI k))], [(2, .box [.e0, .e0, .e0, .e0]), (4, .box [.pv (ss (sgA S ps k)), .e0, .e0, .e0])]⟩)
      (fun k => k ≤ ps.length) (fun k => ps.length - k) 0 ?_ (Nat.zero_le _) ?_
    · simp only [go_sem, Nat.reduceEqDiff, Nat.reduceBEq, Nat.reduceAdd, Nat.reduceMul, Nat.reduceSub, Nat.reduceLeDiff, Nat.reduceLT, reduceIte, reduceCtorEq, Int.reduceToNat, Int.reduceLE, Int.reduceLT, Int.reduceNeg, Bool.not_not, and_self, Bool.and_eq_false_iff, Int.cast_ofNat_Int, Int.reduceAdd, Int.reduceSub, Int.reduceMul, Int.reduceEq, Int.reduceNe]
      rfl
    intro k hk
    by_cases hkk : k < ps.length
    · have hsc := sgA_succ (S := S) hkk
      have hAr := sgA_ris (ps := ps) (k := k) hSr
      have hAl := sgA_len (S := S) (ps := ps) (k := k)
      generalize hA : sgA S ps k = A at hsc hAr hAl ⊢
      simp only [go_sem, Nat.reduceEqDiff, Nat.reduceBEq, Nat.reduceAdd, Nat.reduceMul, Nat.reduceSub, Nat.reduceLeDiff, Nat.reduceLT, reduceIte, reduceCtorEq, Int.reduceToNat, Int.reduceLE, Int.reduceLT, Int.reduceNeg, Bool.not_not, and_self, Bool.and_eq_false_iff, Int.cast_ofNat_Int, Int.reduceAdd, Int.reduceSub, Int.reduceMul, Int.reduceEq, Int.reduceNe, B12_1, show (k : Int) < (ps.length : Int) by omega, wf_ss, getD_map hkk]
      refine runR_callgf (by simp only [go_sem, Nat.reduceEqDiff, Nat.reduceBEq, Nat.reduceAdd, Nat.reduceMul, Nat.reduceSub, Nat.reduceLeDiff, Nat.reduceLT, reduceIte, reduceCtorEq, Int.reduceToNat, Int.reduceLE, Int.reduceLT, Int.reduceNeg, Bool.not_not, and_self, Bool.and_eq_false_iff, Int.cast_ofNat_Int, Int.reduceAdd, Int.reduceSub, Int.reduceMul, Int.reduceEq, Int.reduceNe]) (by simp only [go_sem, Nat.reduceEqDiff, Nat.reduceBEq, Nat.reduceAdd, Nat.reduceMul, Nat.reduceSub, Nat.reduceLeDiff, Nat.reduceLT, reduceIte, reduceCtorEq, Int.reduceToNat, Int.reduceLE, Int.reduceLT, Int.reduceNeg, Bool.not_not, and_self, Bool.and_eq_false_iff, Int.cast_ofNat_Int, Int.reduceAdd, Int.reduceSub, Int.reduceMul, Int.reduceEq, Int.reduceNe]) (by simp only [go_sem, Nat.reduceEqDiff, Nat.reduceBEq, Nat.reduceAdd, Nat.reduceMul, Nat.reduceSub, Nat.reduceLeDiff, Nat.reduceLT, reduceIte, reduceCtorEq, Int.reduceToNat, Int.reduceLE, Int.reduceLT, Int.reduceNeg, Bool.not_not, and_self, Bool.and_eq_false_iff, Int.cast_ofNat_Int, Int.reduceAdd, Int.reduceSub, Int.reduceMul, Int.reduceEq, Int.reduceNe] <;> rfl) (fun _ => fn30 A ps[k] (by omega)) rfl ?_
      simp only [go_sem, Nat.reduceEqDiff, Nat.reduceBEq, Nat.reduceAdd, Nat.reduceMul, Nat.reduceSub, Nat.reduceLeDiff, Nat.reduceLT, reduceIte, reduceCtorEq, Int.reduceToNat, Int.reduceLE, Int.reduceLT, Int.reduceNeg, Bool.not_not, and_self, Bool.and_eq_false_iff, Int.cast_ofNat_Int, Int.reduceAdd, Int.reduceSub, Int.reduceMul, Int.reduceEq, Int.reduceNe]
      refine ⟨fun hc => ⟨⟨by omega, by omega⟩, k + 1, ?_, hkk, by omega⟩, fun hc => ?_⟩
      · have e : sgA S ps (k + 1) = A := by
          rw [hsc]
          split
          · rename_i hp
            unfold addB
            rw [if_pos ((hc.resolve_left (fun h => h.elim hp.1 hp.2)))]
          · rfl
        rw [e]; rfl
      have hp : ps[k] ≠ sAny ∧ ps[k] ≠ sAll := ⟨hc.1.1, hc.1.2⟩
      have hnh : hasB A ps[k] = false := hc.2
      rw [if_pos hp] at hsc
      unfold addB at hsc
      rw [hnh] at hsc
      simp only [Bool.false_eq_true, if_false] at hsc
      refine run_loopN (T := Nat) [0, 2, 4, 5, 6, 7, 8, 9] [2, 4, 2008]
        (fun j => ⟨[(0, .pv (ss bs)), (2, .ptr 2 0), (4, .ptr 4 0), (5, .pv (pI i)), (6, .pv (ss ps)), (7, .pv (pI k)), (8, .row 2008 0 j), (9, .pv (pI j))], [(2, .box [.e0, .e0, .e0, .e0]), (4, .box [.pv (ss A), .e0, .e0, .e0]), (2008, .sl 1 ((A.take j).map pS))]⟩)
        (fun j => j ≤ A.length ∧ ∀ q, q < j → ltB (A.getD q ⟨#[]⟩) ps[k] = true) (fun j => A.length - j) 0 ?_ ⟨Nat.zero_le _, by simp⟩ ?_
      · simp only [go_sem, Nat.reduceEqDiff, Nat.reduceBEq, Nat.reduceAdd, Nat.reduceMul, Nat.reduceSub, Nat.reduceLeDiff, Nat.reduceLT, reduceIte, reduceCtorEq, Int.reduceToNat, Int.reduceLE, Int.reduceLT, Int.reduceNeg, Bool.not_not, and_self, Bool.and_eq_false_iff, Int.cast_ofNat_Int, Int.reduceAdd, Int.reduceSub, Int.reduceMul, Int.reduceEq, Int.reduceNe]
      rintro j ⟨hj, hjl⟩
      have tkA : ((A.take j).map pS).take j = (A.take j).map pS := List.take_of_length_le (by simp; omega)
      by_cases hjj : j < A.length
      · have gA : A.getD j ⟨#[]⟩ = A[j] := by simp [List.getD_eq_getElem?_getD, hjj]
        cases hlb : ltB A[j] ps[k] with
        | true =>
          have hlb' : Op.bytesLess A[j].toList ps[k].toList = true := hlb
          simp only [go_sem, Nat.reduceEqDiff, Nat.reduceBEq, Nat.reduceAdd, Nat.reduceMul, Nat.reduceSub, Nat.reduceLeDiff, Nat.reduceLT, reduceIte, reduceCtorEq, Int.reduceToNat, Int.reduceLE, Int.reduceLT, Int.reduceNeg, Bool.not_not, and_self, Bool.and_eq_false_iff, Int.cast_ofNat_Int, Int.reduceAdd, Int.reduceSub, Int.reduceMul, Int.reduceEq, Int.reduceNe, B12_2, show (j : Int) < (A.length : Int) by omega, wf_ss, getD_map hjj, show (k : Int) < (ps.length : Int) by omega, getD_map hkk, hlb', tkA]
          refine ⟨⟨wf_ss [A[j]], by omega, by omega⟩, ⟨by omega, by omega⟩, j + 1, ?_, ⟨hjj, fun q hq => ?_⟩, by omega⟩
          · rw [take_snoc2 hjj, List.map_append]; rfl
          · by_cases hqj : q < j
            · exact hjl q hqj
            · have : q = j := by omega
              subst this; rw [gA]; exact hlb
        | false =>
          have hlb' : Op.bytesLess A[j].toList ps[k].toList = false := hlb
          have hins := insB_stop hj hjl (.inr (by rw [gA]; exact hlb))
          simp only [go_sem, Nat.reduceEqDiff, Nat.reduceBEq, Nat.reduceAdd, Nat.reduceMul, Nat.reduceSub, Nat.reduceLeDiff, Nat.reduceLT, reduceIte, reduceCtorEq, Int.reduceToNat, Int.reduceLE, Int.reduceLT, Int.reduceNeg, Bool.not_not, and_self, Bool.and_eq_false_iff, Int.cast_ofNat_Int, Int.reduceAdd, Int.reduceSub, Int.reduceMul, Int.reduceEq, Int.reduceNe, B12_2, R12_2, show (j : Int) < (A.length : Int) by omega, wf_ss, getD_map hjj, show (k : Int) < (ps.length : Int) by omega, getD_map hkk, hlb', tkA]
          refine ⟨⟨wf_ss [ps[k]], by omega, by omega⟩, ⟨by omega, by omega⟩, ⟨(wf_ss A).take.drop, by simp; omega, by simp; omega⟩, ⟨by omega, by omega⟩, k + 1, ?_, hkk, by omega⟩
          rw [ins_pv hj hins, hsc]; rfl
      · have hins := insB_stop hj hjl (.inl (by omega))
        simp only [go_sem, Nat.reduceEqDiff, Nat.reduceBEq, Nat.reduceAdd, Nat.reduceMul, Nat.reduceSub, Nat.reduceLeDiff, Nat.reduceLT, reduceIte, reduceCtorEq, Int.reduceToNat, Int.reduceLE, Int.reduceLT, Int.reduceNeg, Bool.not_not, and_self, Bool.and_eq_false_iff, Int.cast_ofNat_Int, Int.reduceAdd, Int.reduceSub, Int.reduceMul, Int.reduceEq, Int.reduceNe, B12_2, R12_2, show ¬ (j : Int) < (A.length : Int) by omega, wf_ss, show (k : Int) < (ps.length : Int) by omega, getD_map hkk, tkA]
        refine ⟨⟨wf_ss [ps[k]], by omega, by omega⟩, ⟨by omega, by omega⟩, ⟨(wf_ss A).take.drop, by simp; omega, by simp; omega⟩, ⟨by omega, by omega⟩, k + 1, ?_, hkk, by omega⟩
        rw [ins_pv hj hins, hsc]; rfl
    · have hke : k = ps.length := by omega
      subst hke
      simp only [go_sem, Nat.reduceEqDiff, Nat.reduceBEq, Nat.reduceAdd, Nat.reduceMul, Nat.reduceSub, Nat.reduceLeDiff, Nat.reduceLT, reduceIte, reduceCtorEq, Int.reduceToNat, Int.reduceLE, Int.reduceLT, Int.reduceNeg, Bool.not_not, and_self, Bool.and_eq_false_iff, Int.cast_ofNat_Int, Int.reduceAdd, Int.reduceSub, Int.reduceMul, Int.reduceEq, Int.reduceNe, B12_1, show ¬ (ps.length : Int) < (ps.length : Int) by omega]
      refine ⟨⟨by omega, by omega⟩, i + 1, ?_, ⟨hlt, fun b hb2 => ?_⟩, by omega⟩
      · rw [hst]; rfl
      · rw [take_snoc2 hlt] at hb2
        rcases List.mem_append.1 hb2 with h1 | h1
        · exact hg b h1
        · simp only [List.mem_singleton] at h1; rw [h1]; exact hx
  · have hie : i = bs.length := by omega
    subst hie
    have hall : ∀ b ∈ bs, globB b = true := by rwa [List.take_length] at hg
    have hgl : (bs.map cutS).length = bs.length := by simp
    have hps : ∀ j (h : j < bs.length), partsB bs[j] = (bs.map cutS).getD j [] := fun j h => by rw [partsB_good (hall _ (List.getElem_mem h))]; simp [List.getD_eq_getElem?_getD, h]
    simp only [go_sem, Nat.reduceEqDiff, Nat.reduceBEq, Nat.reduceAdd, Nat.reduceMul, Nat.reduceSub, Nat.reduceLeDiff, Nat.reduceLT, reduceIte, reduceCtorEq, Int.reduceToNat, Int.reduceLE, Int.reduceLT, Int.reduceNeg, Bool.not_not, and_self, Bool.and_eq_false_iff, Int.cast_ofNat_Int, Int.reduceAdd, Int.reduceSub, Int.reduceMul, Int.reduceEq, Int.reduceNe, B12_0, R12_0, show ¬ (bs.length : Int) < (bs.length : Int) by omega]
    refine ⟨fun h20 => ?_, fun h20 => ?_⟩
    · have hbd : goodB bs = false := by simp [goodB]; omega
      rw [bad hbd, hbd]
    have hgd : goodB bs = true := goodB_iff.2 ⟨by omega, hall⟩
    have hgo := gsOk hgd
    have hbr : buildR bs = nfaOf (bs.map cutS) := by unfold buildR; rw [hgd]; rfl
    rw [hbr, hgd]
    rw [show (bs.map cutS).take bs.length = bs.map cutS by rw [← hgl, List.take_length]] at hSl ⊢
    have hin : ∀ j (h : j < (bs.map cutS).length) k (hk : k < (bs.map cutS)[j].length), (bs.map cutS)[j][k] = sAll ∨ (bs.map cutS)[j][k] = sAny ∨ (bs.map cutS)[j][k] ∈ signsOf (bs.map cutS) := fun j h k hk => by
      by_cases h1 : (bs.map cutS)[j][k] = sAll
      · exact .inl h1
      · by_cases h2 : (bs.map cutS)[j][k] = sAny
        · exact .inr (.inl h2)
        · exact .inr (.inr (signsOf_mem.2 ⟨_, List.getElem_mem h, List.getElem_mem hk, h2, h1⟩))
    have hsz := base_le hgo.p
    have hsgl := hgo.signs
    have hris := signsOf_ris (bs.map cutS)
    clear hSl
    generalize hgs : bs.map cutS = gs at hgo hgl hps hsz hsgl hris hin ⊢
    have hln := hgo.n
    have hfin : nfaOf gs = ⟨signsOf gs, (List.range gs.length).map (base gs), waysG (signsOf gs) 0 gs, doneG 0 gs⟩ := rfl
    generalize hsg : signsOf gs = sg at hsgl hris hin hfin ⊢
    refine run_loopF (T := Nat) (fun _ => []) (fun _ => [(4, 1, 204, 1), (4, 2, 209, 1), (4, 3, 127, 1)]) [0, 2, 4, 11] [2, 4, 127, 204, 209]
      (fun i => ⟨[(0, .pv (ss bs)), (2, .ptr 2 0), (4, .ptr 4 0), (11, .pv (pI i))],
        [(2, .box [.e0, .e0, .e0, .e0]), (4, .box [.pv (ss sg), .row 204 0 (base gs i), .row 209 0 (base gs i), .row 127 0 i]), (127, .sl 1 ((begL gs i).map fun n => pI n)), (204, .sl 1 ((waysG sg 0 (gs.take i)).map pWs)), (209, .sl 1 ((doneG 0 (gs.take i)).map pNs))]⟩)
      (fun i => i ≤ gs.length) (fun i => gs.length - i) 0 ?_ (Nat.zero_le _) ?_
    · simp only [go_sem, Nat.reduceEqDiff, Nat.reduceBEq, Nat.reduceAdd, Nat.reduceMul, Nat.reduceSub, Nat.reduceLeDiff, Nat.reduceLT, reduceIte, reduceCtorEq, Int.reduceToNat, Int.reduceLE, Int.reduceLT, Int.reduceNeg, Bool.not_not, and_self, Bool.and_eq_false_iff, Int.cast_ofNat_Int, Int.reduceAdd, Int.reduceSub, Int.reduceMul, Int.reduceEq, Int.reduceNe]
      rfl
    intro i hi
    have tkB : ((begL gs i).map fun n => pI n).take i = (begL gs i).map fun n => pI n := List.take_of_length_le (by simp [begL_len])
    by_cases hlt : i < gs.length
    · have hib : i < bs.length := by omega
      have hbi := hsz i hi
      simp only [go_sem, Nat.reduceEqDiff, Nat.reduceBEq, Nat.reduceAdd, Nat.reduceMul, Nat.reduceSub, Nat.reduceLeDiff, Nat.reduceLT, reduceIte, reduceCtorEq, Int.reduceToNat, Int.reduceLE, Int.reduceLT, Int.reduceNeg, Bool.not_not, and_self, Bool.and_eq_false_iff, Int.cast_ofNat_Int, Int.reduceAdd, Int.reduceSub, Int.reduceMul, Int.reduceEq, Int.reduceNe, B12_3, show (i : Int) < (bs.length : Int) by omega, wf_ss, getD_map hib]
      refine runR_call (by simp only [go_sem, Nat.reduceEqDiff, Nat.reduceBEq, Nat.reduceAdd, Nat.reduceMul, Nat.reduceSub, Nat.reduceLeDiff, Nat.reduceLT, reduceIte, reduceCtorEq, Int.reduceToNat, Int.reduceLE, Int.reduceLT, Int.reduceNeg, Bool.not_not, and_self, Bool.and_eq_false_iff, Int.cast_ofNat_Int, Int.reduceAdd, Int.reduceSub, Int.reduceMul, Int.reduceEq, Int.reduceNe]) rfl (fn24 bs[i] (hs _ (List.getElem_mem hib))) (.inl rfl) trivial ?_
      rw [hps i hib]
      obtain ⟨ps, hpsd⟩ : ∃ ps, ps = gs[i] := ⟨_, rfl⟩
      have hgi : gs.getD i [] = ps := by simp [List.getD_eq_getElem?_getD, hlt, hpsd]
      have hpl : ps.length ≤ 8 := by rw [hpsd]; exact hgo.p _ (List.getElem_mem hlt)
      have hinp : ∀ k (hk : k < ps.length), ps[k] = sAll ∨ ps[k] = sAny ∨ ps[k] ∈ sg := by
        subst hpsd; exact hin i hlt
      rw [hgi]
      simp only [go_sem, Nat.reduceEqDiff, Nat.reduceBEq, Nat.reduceAdd, Nat.reduceMul, Nat.reduceSub, Nat.reduceLeDiff, Nat.reduceLT, reduceIte, reduceCtorEq, Int.reduceToNat, Int.reduceLE, Int.reduceLT, Int.reduceNeg, Bool.not_not, and_self, Bool.and_eq_false_iff, Int.cast_ofNat_Int, Int.reduceAdd, Int.reduceSub, Int.reduceMul, Int.reduceEq, Int.reduceNe, tkB]
      refine ⟨⟨wf_ints [((base gs i : Nat) : Int)], by omega, by omega⟩, ?_⟩
      refine run_loopN (T := Nat) [0, 2, 4, 11, 12, 13] [2, 4, 127, 204, 209]
        (fun k => ⟨[(0, .pv (ss bs)), (2, .ptr 2 0), (4, .ptr 4 0), (11, .pv (pI i)), (12, .pv (ss ps)), (13, .pv (pI k))],
          [(2, .box [.e0, .e0, .e0, .e0]), (4, .box [.pv (ss sg), .row 204 0 (base gs i + k), .row 209 0 (base gs i + k), .row 127 0 (i + 1)]), (127, .sl 1 ((begL gs (i + 1)).map fun n => pI n)), (204, .sl 1 ((wayL gs sg i ps k).map pWs)), (209, .sl 1 ((donL gs i k).map pNs))]⟩)
        (fun k => k ≤ ps.length) (fun k => ps.length - k) 0 ?_ (Nat.zero_le _) ?_
      · simp only [go_sem, Nat.reduceEqDiff, Nat.reduceBEq, Nat.reduceAdd, Nat.reduceMul, Nat.reduceSub, Nat.reduceLeDiff, Nat.reduceLT, reduceIte, reduceCtorEq, Int.reduceToNat, Int.reduceLE, Int.reduceLT, Int.reduceNeg, Bool.not_not, and_self, Bool.and_eq_false_iff, Int.cast_ofNat_Int, Int.reduceAdd, Int.reduceSub, Int.reduceMul, Int.reduceEq, Int.reduceNe]
        rw [begL_succ, List.map_append]
        simp [wayL, donL, waysK]
      intro k hk
      have tkW : ((wayL gs sg i ps k).map pWs).take (base gs i + k) = (wayL gs sg i ps k).map pWs := List.take_of_length_le (by rw [List.length_map, wayL_len hi]; exact Nat.le_refl _)
      have tkD : ((donL gs i k).map pNs).take (base gs i + k) = (donL gs i k).map pNs := List.take_of_length_le (by rw [List.length_map, donL_len hi]; exact Nat.le_refl _)
      by_cases hkk : k < ps.length
      · obtain ⟨own, hown⟩ : ∃ own, own = base gs i + k := ⟨_, rfl⟩
        have hpk := hinp k hkk
        have hgk : ps.getD k ⟨#[]⟩ = ps[k] := by simp [List.getD_eq_getElem?_getD, hkk]
        have hWs : (wayL gs sg i ps (k + 1)).map pWs = (wayL gs sg i ps k).map pWs ++ [pWs (wayOf sg own ps[k])] := by
          simp only [wayL, waysK_succ, hgk, List.map_append, List.append_assoc, hown]; rfl
        have hDs : (donL gs i (k + 1)).map pNs = (donL gs i k).map pNs ++ [PV.lst []] := by
          simp only [donL, List.replicate_succ', List.map_append, List.append_assoc]; rfl
        generalize hp : ps[k] = p at hpk hWs
        have how : base gs i + k = own := hown.symm
        have hownl : own ≤ 1000 := by omega
        rw [how] at tkW tkD
        have hend := refW_end sg own p
        have hne0 : ¬ (0 = sg.length + 1) := by omega
        have key : ∀ s, s ≤ sg.length → (((refW sg own p s).map pE).take (refW sg own p s).length = (refW sg own p s).map pE) := fun s _ => List.take_of_length_le (by simp)
        by_cases h1 : p = sAll
        case' pos =>
          have hr0 : refW sg own p 0 = [((-1 : Int), (own : Int) + 1)] := by simp [refW, h1, wayK]
          simp only [go_sem, Nat.reduceEqDiff, Nat.reduceBEq, Nat.reduceAdd, Nat.reduceMul, Nat.reduceSub, Nat.reduceLeDiff, Nat.reduceLT, reduceIte, reduceCtorEq, Int.reduceToNat, Int.reduceLE, Int.reduceLT, Int.reduceNeg, Bool.not_not, and_self, Bool.and_eq_false_iff, Int.cast_ofNat_Int, Int.reduceAdd, Int.reduceSub, Int.reduceMul, Int.reduceEq, Int.reduceNe, B12_4, show (k : Int) < (ps.length : Int) by omega, wf_ss, getD_map hkk, hp, h1, how]
          refine ⟨⟨by omega, by omega⟩, wf_pE [((-1 : Int), (own : Int) + 1)], ?_⟩
        case' neg =>
          have hr0 : refW sg own p 0 = [] := by simp [refW, h1, wayK]
          simp only [go_sem, Nat.reduceEqDiff, Nat.reduceBEq, Nat.reduceAdd, Nat.reduceMul, Nat.reduceSub, Nat.reduceLeDiff, Nat.reduceLT, reduceIte, reduceCtorEq, Int.reduceToNat, Int.reduceLE, Int.reduceLT, Int.reduceNeg, Bool.not_not, and_self, Bool.and_eq_false_iff, Int.cast_ofNat_Int, Int.reduceAdd, Int.reduceSub, Int.reduceMul, Int.reduceEq, Int.reduceNe, B12_4, show (k : Int) < (ps.length : Int) by omega, wf_ss, getD_map hkk, hp, h1, how]
        all_goals
          refine run_loopG (T := Nat) (fun s => if s = sg.length + 1 then [(2015, 2015, 0)] else []) [0, 2, 4, 11, 12, 13, 14, 15, 16] [2, 4, 127, 204, 209, 2015]
            (fun s => if s = sg.length + 1 then ⟨[(0, .pv (ss bs)), (2, .ptr 2 0), (4, .ptr 4 0), (11, .pv (pI i)), (12, .pv (ss ps)), (13, .pv (pI k)), (14, .pv (pI own)), (15, .pv (pWs (wayOf sg own p))), (16, .pv (pI s))], [(2, .box [.e0, .e0, .e0, .e0]), (4, .box [.pv (ss sg), .row 204 0 own, .row 209 0 own, .row 127 0 (i + 1)]), (127, .sl 1 ((begL gs (i + 1)).map fun n => pI n)), (204, .sl 1 ((wayL gs sg i ps k).map pWs)), (209, .sl 1 ((donL gs i k).map pNs))]⟩
              else ⟨[(0, .pv (ss bs)), (2, .ptr 2 0), (4, .ptr 4 0), (11, .pv (pI i)), (12, .pv (ss ps)), (13, .pv (pI k)), (14, .pv (pI own)), (15, .row 2015 0 (refW sg own p s).length), (16, .pv (pI s))], [(2, .box [.e0, .e0, .e0, .e0]), (4, .box [.pv (ss sg), .row 204 0 own, .row 209 0 own, .row 127 0 (i + 1)]), (127, .sl 1 ((begL gs (i + 1)).map fun n => pI n)), (204, .sl 1 ((wayL gs sg i ps k).map pWs)), (209, .sl 1 ((donL gs i k).map pNs)), (2015, .sl 2 ((refW sg own p s).map pE))]⟩)
            (fun s => s ≤ sg.length + 1) (fun s => sg.length + 1 - s) 0 ?_ (Nat.zero_le _) ?_
        case' pos.refine_1 => simp only [go_sem, Nat.reduceEqDiff, Nat.reduceBEq, Nat.reduceAdd, Nat.reduceMul, Nat.reduceSub, Nat.reduceLeDiff, Nat.reduceLT, reduceIte, reduceCtorEq, Int.reduceToNat, Int.reduceLE, Int.reduceLT, Int.reduceNeg, Bool.not_not, and_self, Bool.and_eq_false_iff, Int.cast_ofNat_Int, Int.reduceAdd, Int.reduceSub, Int.reduceMul, Int.reduceEq, Int.reduceNe, hne0, hr0]
        case' neg.refine_1 => simp only [go_sem, Nat.reduceEqDiff, Nat.reduceBEq, Nat.reduceAdd, Nat.reduceMul, Nat.reduceSub, Nat.reduceLeDiff, Nat.reduceLT, reduceIte, reduceCtorEq, Int.reduceToNat, Int.reduceLE, Int.reduceLT, Int.reduceNeg, Bool.not_not, and_self, Bool.and_eq_false_iff, Int.cast_ofNat_Int, Int.reduceAdd, Int.reduceSub, Int.reduceMul, Int.reduceEq, Int.reduceNe, hne0, hr0]
        all_goals
          clear hr0
          intro s hsl
          by_cases hse : s = sg.length + 1
          · subst hse
            rw [if_pos rfl]
            simp only [go_sem, Nat.reduceEqDiff, Nat.reduceBEq, Nat.reduceAdd, Nat.reduceMul, Nat.reduceSub, Nat.reduceLeDiff, Nat.reduceLT, reduceIte, reduceCtorEq, Int.reduceToNat, Int.reduceLE, Int.reduceLT, Int.reduceNeg, Bool.not_not, and_self, Bool.and_eq_false_iff, Int.cast_ofNat_Int, Int.reduceAdd, Int.reduceSub, Int.reduceMul, Int.reduceEq, Int.reduceNe, B12_5, R12_5, show ¬ (((sg.length + 1 : Nat) : Int) ≤ (sg.length : Int)) by omega, tkW, tkD]
            refine ⟨⟨wf_pWs [wayOf sg own p], by omega, by omega⟩, ⟨wf_pNs [[]], by omega, by omega⟩, ⟨by omega, by omega⟩, k + 1, ?_, hkk, by omega⟩
            rw [← Nat.add_assoc, how, hWs, hDs]; rfl
          · rw [if_neg hse]
            have hsle : s ≤ sg.length := by omega
            have hky := key s hsle
            have hrl := refW_len sg own p s
            by_cases h4 : p = sAll
            · have hsu := refW_all (sg := sg) (own := own) s h4
              simp only [go_sem, Nat.reduceEqDiff, Nat.reduceBEq, Nat.reduceAdd, Nat.reduceMul, Nat.reduceSub, Nat.reduceLeDiff, Nat.reduceLT, reduceIte, reduceCtorEq, Int.reduceToNat, Int.reduceLE, Int.reduceLT, Int.reduceNeg, Bool.not_not, and_self, Bool.and_eq_false_iff, Int.cast_ofNat_Int, Int.reduceAdd, Int.reduceSub, Int.reduceMul, Int.reduceEq, Int.reduceNe, B12_5, show (s : Int) ≤ (sg.length : Int) by omega, wf_ss, getD_map hkk, show (k : Int) < (ps.length : Int) by omega, hp, h4]
              rw [← h4]
              refine ⟨⟨wf_pE [((s : Int), (own : Int))], by omega, by omega⟩, ⟨by omega, by omega⟩, s + 1, ?_, by omega, by omega⟩
              unfold GH
              have hsi : (s : Int) + 1 = ((s + 1 : Nat) : Int) := by omega
              by_cases h9 : s + 1 = sg.length + 1
              · have hw := w5_end hsu h9
                simp only [go_sem, Nat.reduceEqDiff, Nat.reduceBEq, Nat.reduceAdd, Nat.reduceMul, Nat.reduceSub, Nat.reduceLeDiff, Nat.reduceLT, reduceIte, reduceCtorEq, Int.reduceToNat, Int.reduceLE, Int.reduceLT, Int.reduceNeg, Bool.not_not, and_self, Bool.and_eq_false_iff, Int.cast_ofNat_Int, Int.reduceAdd, Int.reduceSub, Int.reduceMul, Int.reduceEq, Int.reduceNe, h9, hky]
                rw [hw, hsi, h9]
              · have hw := w5_map hsu
                simp only [go_sem, Nat.reduceEqDiff, Nat.reduceBEq, Nat.reduceAdd, Nat.reduceMul, Nat.reduceSub, Nat.reduceLeDiff, Nat.reduceLT, reduceIte, reduceCtorEq, Int.reduceToNat, Int.reduceLE, Int.reduceLT, Int.reduceNeg, Bool.not_not, and_self, Bool.and_eq_false_iff, Int.cast_ofNat_Int, Int.reduceAdd, Int.reduceSub, Int.reduceMul, Int.reduceEq, Int.reduceNe, h9, hky]
                rw [hw.1, hw.2, hsi]
            by_cases h5 : p = sAny
            · have hsu : refW sg own p (s + 1) = refW sg own p s ++ [((s : Int), (own : Int) + 1)] := refW_any s h4 h5
              simp only [go_sem, Nat.reduceEqDiff, Nat.reduceBEq, Nat.reduceAdd, Nat.reduceMul, Nat.reduceSub, Nat.reduceLeDiff, Nat.reduceLT, reduceIte, reduceCtorEq, Int.reduceToNat, Int.reduceLE, Int.reduceLT, Int.reduceNeg, Bool.not_not, and_self, Bool.and_eq_false_iff, Int.cast_ofNat_Int, Int.reduceAdd, Int.reduceSub, Int.reduceMul, Int.reduceEq, Int.reduceNe, B12_5, show (s : Int) ≤ (sg.length : Int) by omega, wf_ss, getD_map hkk, show (k : Int) < (ps.length : Int) by omega, hp, h5, show ¬ sAny = (⟨#[42, 42]⟩ : ByteArray) by decide]
              rw [← h5]
              refine ⟨⟨by omega, by omega⟩, ⟨wf_pE [((s : Int), (own : Int) + 1)], by omega, by omega⟩, ⟨by omega, by omega⟩, s + 1, ?_, by omega, by omega⟩
              unfold GH
              have hsi : (s : Int) + 1 = ((s + 1 : Nat) : Int) := by omega
              by_cases h9 : s + 1 = sg.length + 1
              · have hw := w5_end hsu h9
                simp only [go_sem, Nat.reduceEqDiff, Nat.reduceBEq, Nat.reduceAdd, Nat.reduceMul, Nat.reduceSub, Nat.reduceLeDiff, Nat.reduceLT, reduceIte, reduceCtorEq, Int.reduceToNat, Int.reduceLE, Int.reduceLT, Int.reduceNeg, Bool.not_not, and_self, Bool.and_eq_false_iff, Int.cast_ofNat_Int, Int.reduceAdd, Int.reduceSub, Int.reduceMul, Int.reduceEq, Int.reduceNe, h9, hky]
                rw [hw, hsi, h9]
              · have hw := w5_map hsu
                simp only [go_sem, Nat.reduceEqDiff, Nat.reduceBEq, Nat.reduceAdd, Nat.reduceMul, Nat.reduceSub, Nat.reduceLeDiff, Nat.reduceLT, reduceIte, reduceCtorEq, Int.reduceToNat, Int.reduceLE, Int.reduceLT, Int.reduceNeg, Bool.not_not, and_self, Bool.and_eq_false_iff, Int.cast_ofNat_Int, Int.reduceAdd, Int.reduceSub, Int.reduceMul, Int.reduceEq, Int.reduceNe, h9, hky]
                rw [hw.1, hw.2, hsi]
            have h6 : p ∈ sg := (hpk.resolve_left h4).resolve_left h5
            have hll := letterN_in h6
            by_cases h7 : letterN sg p = s
            · have hsu : refW sg own p (s + 1) = refW sg own p s ++ [((s : Int), (own : Int) + 1)] := refW_here h4 h5 h7
              have hsl2 : s < sg.length := by omega
              have hgs : sg[s] = p := by
                have := letterN_get hll
                rw [h7] at this
                rwa [List.getD_eq_getElem?_getD, List.getElem?_eq_getElem hsl2] at this
              simp only [go_sem, Nat.reduceEqDiff, Nat.reduceBEq, Nat.reduceAdd, Nat.reduceMul, Nat.reduceSub, Nat.reduceLeDiff, Nat.reduceLT, reduceIte, reduceCtorEq, Int.reduceToNat, Int.reduceLE, Int.reduceLT, Int.reduceNeg, Bool.not_not, and_self, Bool.and_eq_false_iff, Int.cast_ofNat_Int, Int.reduceAdd, Int.reduceSub, Int.reduceMul, Int.reduceEq, Int.reduceNe, B12_5, show (s : Int) ≤ (sg.length : Int) by omega, show (s : Int) < (sg.length : Int) by omega, wf_ss, getD_map hkk, getD_map hsl2, show (k : Int) < (ps.length : Int) by omega, hp, h4, h5, hgs]
              refine ⟨⟨by omega, by omega⟩, ⟨wf_pE [((s : Int), (own : Int) + 1)], by omega, by omega⟩, ⟨by omega, by omega⟩, s + 1, ?_, by omega, by omega⟩
              unfold GH
              have hsi : (s : Int) + 1 = ((s + 1 : Nat) : Int) := by omega
              by_cases h9 : s + 1 = sg.length + 1
              · have hw := w5_end hsu h9
                simp only [go_sem, Nat.reduceEqDiff, Nat.reduceBEq, Nat.reduceAdd, Nat.reduceMul, Nat.reduceSub, Nat.reduceLeDiff, Nat.reduceLT, reduceIte, reduceCtorEq, Int.reduceToNat, Int.reduceLE, Int.reduceLT, Int.reduceNeg, Bool.not_not, and_self, Bool.and_eq_false_iff, Int.cast_ofNat_Int, Int.reduceAdd, Int.reduceSub, Int.reduceMul, Int.reduceEq, Int.reduceNe, h9, hky]
                rw [hw, hsi, h9]
              · have hw := w5_map hsu
                simp only [go_sem, Nat.reduceEqDiff, Nat.reduceBEq, Nat.reduceAdd, Nat.reduceMul, Nat.reduceSub, Nat.reduceLeDiff, Nat.reduceLT, reduceIte, reduceCtorEq, Int.reduceToNat, Int.reduceLE, Int.reduceLT, Int.reduceNeg, Bool.not_not, and_self, Bool.and_eq_false_iff, Int.cast_ofNat_Int, Int.reduceAdd, Int.reduceSub, Int.reduceMul, Int.reduceEq, Int.reduceNe, h9, hky]
                rw [hw.1, hw.2, hsi]
            · have hsu := refW_else (own := own) h4 h5 h7
              by_cases hsl2 : s < sg.length
              · have hgs : ¬ sg[s] = p := fun e => h7 (by
                  have := letterN_at hris hsl2
                  rw [List.getD_eq_getElem?_getD, List.getElem?_eq_getElem hsl2] at this
                  rw [← e]; exact this)
                simp only [go_sem, Nat.reduceEqDiff, Nat.reduceBEq, Nat.reduceAdd, Nat.reduceMul, Nat.reduceSub, Nat.reduceLeDiff, Nat.reduceLT, reduceIte, reduceCtorEq, Int.reduceToNat, Int.reduceLE, Int.reduceLT, Int.reduceNeg, Bool.not_not, and_self, Bool.and_eq_false_iff, Int.cast_ofNat_Int, Int.reduceAdd, Int.reduceSub, Int.reduceMul, Int.reduceEq, Int.reduceNe, B12_5, show (s : Int) ≤ (sg.length : Int) by omega, show (s : Int) < (sg.length : Int) by omega, wf_ss, getD_map hkk, getD_map hsl2, show (k : Int) < (ps.length : Int) by omega, hp, h4, h5, hgs]
                refine ⟨⟨by omega, by omega⟩, s + 1, ?_, by omega, by omega⟩
                unfold GH
                have hsi : (s : Int) + 1 = ((s + 1 : Nat) : Int) := by omega
                by_cases h9 : s + 1 = sg.length + 1
                · have hw : PV.lst (((refW sg own p s).map pE).take (refW sg own p s).length) = pWs (wayOf sg own p) := by
                    rw [hky, ← hsu, h9, hend]
                  simp only [go_sem, Nat.reduceEqDiff, Nat.reduceBEq, Nat.reduceAdd, Nat.reduceMul, Nat.reduceSub, Nat.reduceLeDiff, Nat.reduceLT, reduceIte, reduceCtorEq, Int.reduceToNat, Int.reduceLE, Int.reduceLT, Int.reduceNeg, Bool.not_not, and_self, Bool.and_eq_false_iff, Int.cast_ofNat_Int, Int.reduceAdd, Int.reduceSub, Int.reduceMul, Int.reduceEq, Int.reduceNe, h9]
                  rw [hw, hsi, h9]
                · simp only [go_sem, Nat.reduceEqDiff, Nat.reduceBEq, Nat.reduceAdd, Nat.reduceMul, Nat.reduceSub, Nat.reduceLeDiff, Nat.reduceLT, reduceIte, reduceCtorEq, Int.reduceToNat, Int.reduceLE, Int.reduceLT, Int.reduceNeg, Bool.not_not, and_self, Bool.and_eq_false_iff, Int.cast_ofNat_Int, Int.reduceAdd, Int.reduceSub, Int.reduceMul, Int.reduceEq, Int.reduceNe, h9]
                  rw [hsu, hsi]
              · simp only [go_sem, Nat.reduceEqDiff, Nat.reduceBEq, Nat.reduceAdd, Nat.reduceMul, Nat.reduceSub, Nat.reduceLeDiff, Nat.reduceLT, reduceIte, reduceCtorEq, Int.reduceToNat, Int.reduceLE, Int.reduceLT, Int.reduceNeg, Bool.not_not, and_self, Bool.and_eq_false_iff, Int.cast_ofNat_Int, Int.reduceAdd, Int.reduceSub, Int.reduceMul, Int.reduceEq, Int.reduceNe, B12_5, show (s : Int) ≤ (sg.length : Int) by omega, show ¬ (s : Int) < (sg.length : Int) by omega, wf_ss, getD_map hkk, show (k : Int) < (ps.length : Int) by omega, hp, h4, h5]
                refine ⟨⟨by omega, by omega⟩, s + 1, ?_, by omega, by omega⟩
                unfold GH
                have hsi : (s : Int) + 1 = ((s + 1 : Nat) : Int) := by omega
                by_cases h9 : s + 1 = sg.length + 1
                · have hw : PV.lst (((refW sg own p s).map pE).take (refW sg own p s).length) = pWs (wayOf sg own p) := by
                    rw [hky, ← hsu, h9, hend]
                  simp only [go_sem, Nat.reduceEqDiff, Nat.reduceBEq, Nat.reduceAdd, Nat.reduceMul, Nat.reduceSub, Nat.reduceLeDiff, Nat.reduceLT, reduceIte, reduceCtorEq, Int.reduceToNat, Int.reduceLE, Int.reduceLT, Int.reduceNeg, Bool.not_not, and_self, Bool.and_eq_false_iff, Int.cast_ofNat_Int, Int.reduceAdd, Int.reduceSub, Int.reduceMul, Int.reduceEq, Int.reduceNe, h9]
                  rw [hw, hsi, h9]
                · simp only [go_sem, Nat.reduceEqDiff, Nat.reduceBEq, Nat.reduceAdd, Nat.reduceMul, Nat.reduceSub, Nat.reduceLeDiff, Nat.reduceLT, reduceIte, reduceCtorEq, Int.reduceToNat, Int.reduceLE, Int.reduceLT, Int.reduceNeg, Bool.not_not, and_self, Bool.and_eq_false_iff, Int.cast_ofNat_Int, Int.reduceAdd, Int.reduceSub, Int.reduceMul, Int.reduceEq, Int.reduceNe, h9]
                  rw [hsu, hsi]
      · have hke : k = ps.length := by omega
        subst hke
        have hbs : base gs (i + 1) = base gs i + ps.length + 1 := by rw [base_succ hlt, ← hpsd]; omega
        simp only [go_sem, Nat.reduceEqDiff, Nat.reduceBEq, Nat.reduceAdd, Nat.reduceMul, Nat.reduceSub, Nat.reduceLeDiff, Nat.reduceLT, reduceIte, reduceCtorEq, Int.reduceToNat, Int.reduceLE, Int.reduceLT, Int.reduceNeg, Bool.not_not, and_self, Bool.and_eq_false_iff, Int.cast_ofNat_Int, Int.reduceAdd, Int.reduceSub, Int.reduceMul, Int.reduceEq, Int.reduceNe, B12_4, R12_4, show ¬ (ps.length : Int) < (ps.length : Int) by omega, tkW, tkD]
        refine ⟨⟨wf_pWs [[]], by omega, by omega⟩, ⟨wf_pNs [[i]], by omega, by omega⟩, ⟨by omega, by omega⟩, i + 1, ?_, hlt, by omega⟩
        rw [hbs, waysG_take hlt, doneG_take hlt, ← hpsd]
        simp only [wayL, donL, List.map_append, List.append_assoc]
        rfl
    · have hie : i = gs.length := by omega
      subst hie
      have tkW : ((waysG sg 0 gs).map pWs).take (base gs gs.length) = (waysG sg 0 gs).map pWs := List.take_of_length_le (by rw [List.length_map, waysG_len]; exact Nat.le_refl _)
      have tkD : ((doneG 0 gs).map pNs).take (base gs gs.length) = (doneG 0 gs).map pNs := List.take_of_length_le (by rw [List.length_map, doneG_len]; exact Nat.le_refl _)
      simp only [go_sem, Nat.reduceEqDiff, Nat.reduceBEq, Nat.reduceAdd, Nat.reduceMul, Nat.reduceSub, Nat.reduceLeDiff, Nat.reduceLT, reduceIte, reduceCtorEq, Int.reduceToNat, Int.reduceLE, Int.reduceLT, Int.reduceNeg, Bool.not_not, and_self, Bool.and_eq_false_iff, Int.cast_ofNat_Int, Int.reduceAdd, Int.reduceSub, Int.reduceMul, Int.reduceEq, Int.reduceNe, B12_3, R12_3, show ¬ (gs.length : Int) < (bs.length : Int) by omega, tkB, List.take_length, tkW, tkD]
      rw [hfin]
end Go.Vc
