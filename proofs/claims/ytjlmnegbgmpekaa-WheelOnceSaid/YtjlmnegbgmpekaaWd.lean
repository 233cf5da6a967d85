/- A part of the proofs of the seat Ytjlmnegbgmpekaa: the contracts of functions, each proved out of its code. -/
import Derived.Test.YtjlmnegbgmpekaaWc
import Derived.Test.YtjlmnegbgmpekaaWa
namespace Go.Vc
open Go.Proofs
set_option linter.unusedSimpArgs false
set_option linter.unusedVariables false

/-! ## WheelOnce -/
structure S16 where
  i : Nat
  now : Int
  l : List Tm
  es : List ED
  c : Nat
structure G16 (t : S16) : Prop where
  h100 : t.i ≤ 100
  chk : checkT t.l = true
  pd : PD t.es t.l
  len : t.l.length ≤ t.i
  n0 : 0 ≤ t.now
  n1 : t.now ≤ 255 * (t.i : Int)
theorem find_lk {es : List ED} {l : List Tm} {n : Int} (h : PD es l) (hid : IdsT l) : (0 ≤ findT l n ∧ ∃ v, lkD es n = some v) ∨ (¬ 0 ≤ findT l n ∧ lkD es n = none) := by
  rcases findT_lt l n with ⟨e, hno⟩ | ⟨k, hk, e, hk2, _⟩
  · exact .inr ⟨by omega, h.none hno⟩
  · exact .inl ⟨by omega, _, by rw [← hk2]; exact h.some hid (List.getElem_mem hk)⟩
theorem atB_of {n : Int} (h : 0 ≤ n) (h2 : n ≤ 1099511627775) : atB n = true := by unfold atB; simp; omega
set_option maxHeartbeats 4000000 in
theorem law16 (A B : List Int) (hA : A.length ≤ 9223372036854775807) (hB : B.length ≤ 9223372036854775807) (ha : ∀ x ∈ A, 0 ≤ x ∧ x ≤ 255) (hb : ∀ x ∈ B, 0 ≤ x ∧ x ≤ 255) :
    Fn Try.prog 16 [.lst (A.map p8), .lst (B.map p8)] (.pv (pB true)) [] := by
  refine Run16 [] (by simp) ?_
  simp only [go_sem, Nat.reduceEqDiff, Nat.reduceBEq, Nat.reduceAdd, Nat.reduceMul, Nat.reduceSub, Nat.reduceLeDiff, Nat.reduceLT, reduceIte, reduceCtorEq, Int.reduceToNat, Int.reduceLE, Int.reduceLT, Int.reduceNeg, Bool.not_not, and_self, Bool.and_eq_false_iff, Int.cast_ofNat_Int, Int.reduceAdd, Int.reduceSub, Int.reduceMul, Int.reduceEq, Int.reduceNe, M16]
  have hw : ∀ l : List Int, WfL 1 (l.map p8) := fun l => wf_map (f := p8) (s := 1) (fun a => ⟨rfl, fun c hc => by simp only [PV.cells, List.mem_cons, List.not_mem_nil, or_false] at hc; subst hc; rfl⟩) l
  refine run_loopX (T := S16) [0, 1, 5, 6, 7, 8] [24] (fun t => ⟨[(0, .pv (.lst (A.map p8))), (1, .pv (.lst (B.map p8))), (5, .pv (tm t.l)), (6, .mp 24), (7, .pv (pI t.now)), (8, .pv (pI t.i))], [(24, .mpd (t.es.map enD) t.c)]⟩) (fun t => t.i ≤ A.length ∧ G16 t) (fun t => A.length - t.i) ⟨0, 0, [], [], 0⟩ ⟨_, Weak.toD _ 24, ?_⟩ ⟨Nat.zero_le _, by decide, by decide, List.Perm.refl _, by decide, by decide, by decide⟩ ?_
  · rfl
  rintro ⟨i, now, l, es, c⟩ ⟨hi, ⟨h100, hchk, hpd, hll, hn0, hn1⟩⟩
  simp only at hi h100 hchk hpd hll hn0 hn1
  by_cases hlt : i < A.length
  · by_cases h1 : i < 100
    · have hAi := ha _ (List.getElem_mem hlt)
      have e8 : A[i].tmod 8 = A[i] % 8 := Int.tmod_eq_emod_of_nonneg hAi.1
      have hid := (checkT_split.1 hchk).2.2.2
      obtain ⟨m8, hm8, hm0, hm1⟩ : ∃ m8, A[i].tmod 8 = m8 ∧ 0 ≤ m8 ∧ m8 ≤ 7 := ⟨_, rfl, by omega, by omega⟩
      by_cases hlb : i < B.length
      · have hBi := hb _ (List.getElem_mem hlb)
        obtain ⟨n2, hq, g1, g2⟩ : ∃ n2 : Int, now + B[i] = n2 ∧ now ≤ n2 ∧ n2 ≤ now + 255 := ⟨_, rfl, by omega, by omega⟩
        simp only [go_sem, Nat.reduceEqDiff, Nat.reduceBEq, Nat.reduceAdd, Nat.reduceMul, Nat.reduceSub, Nat.reduceLeDiff, Nat.reduceLT, reduceIte, reduceCtorEq, Int.reduceToNat, Int.reduceLE, Int.reduceLT, Int.reduceNeg, Bool.not_not, and_self, Bool.and_eq_false_iff, Int.cast_ofNat_Int, Int.reduceAdd, Int.reduceSub, Int.reduceMul, Int.reduceEq, Int.reduceNe, B16_0, show (i : Int) < (A.length : Int) by omega, show (i : Int) < (B.length : Int) by omega, show (i : Int) < 100 by omega, hw, getD_map hlt, getD_map hlb, hm8, hq]
        refine ⟨⟨by omega, by omega⟩, ⟨by omega, by omega⟩, ⟨by omega, by omega⟩, ?_⟩
        refine ⟨fun h5 => ?_, fun h5 => ⟨fun h6 => ?_, fun h6 => ?_⟩⟩
        · have h61 := fn61 l m8 (by omega)
          have hs : stopT l m8 = (offT l m8, decide (0 ≤ findT l m8)) := by unfold stopT; rw [if_neg (by rw [hchk]; simp), woT_off hid]
          rw [hs] at h61
          refine runR_call (by simp only [go_sem, Nat.reduceEqDiff, Nat.reduceBEq, Nat.reduceAdd, Nat.reduceMul, Nat.reduceSub, Nat.reduceLeDiff, Nat.reduceLT, reduceIte, reduceCtorEq, Int.reduceToNat, Int.reduceLE, Int.reduceLT, Int.reduceNeg, Bool.not_not, and_self, Bool.and_eq_false_iff, Int.cast_ofNat_Int, Int.reduceAdd, Int.reduceSub, Int.reduceMul, Int.reduceEq, Int.reduceNe]) rfl (h61) (.inl rfl) trivial ?_
          have hp2 := hpd.stop hid m8
          have hck := check_filter (fun y => decide (y.id ≠ m8)) hchk
          have hl2 : (offT l m8).length ≤ l.length := List.length_filter_le _ _
          have hel := hp2.len
          have h60 := fn60 (offT l m8) (by omega)
          rw [hck, show errN true = 0 from rfl] at h60
          rcases find_lk (n := m8) hpd hid with ⟨hf, v, hv⟩ | ⟨hf, hv⟩
          · simp only [go_sem, Nat.reduceEqDiff, Nat.reduceBEq, Nat.reduceAdd, Nat.reduceMul, Nat.reduceSub, Nat.reduceLeDiff, Nat.reduceLT, reduceIte, reduceCtorEq, Int.reduceToNat, Int.reduceLE, Int.reduceLT, Int.reduceNeg, Bool.not_not, and_self, Bool.and_eq_false_iff, Int.cast_ofNat_Int, Int.reduceAdd, Int.reduceSub, Int.reduceMul, Int.reduceEq, Int.reduceNe, lkp_D, hv, Option.map_some, like_D, hf, del_D, hel]
            refine runR_callgf (by simp only [go_sem, Nat.reduceEqDiff, Nat.reduceBEq, Nat.reduceAdd, Nat.reduceMul, Nat.reduceSub, Nat.reduceLeDiff, Nat.reduceLT, reduceIte, reduceCtorEq, Int.reduceToNat, Int.reduceLE, Int.reduceLT, Int.reduceNeg, Bool.not_not, and_self, Bool.and_eq_false_iff, Int.cast_ofNat_Int, Int.reduceAdd, Int.reduceSub, Int.reduceMul, Int.reduceEq, Int.reduceNe]) (by simp only [go_sem, Nat.reduceEqDiff, Nat.reduceBEq, Nat.reduceAdd, Nat.reduceMul, Nat.reduceSub, Nat.reduceLeDiff, Nat.reduceLT, reduceIte, reduceCtorEq, Int.reduceToNat, Int.reduceLE, Int.reduceLT, Int.reduceNeg, Bool.not_not, and_self, Bool.and_eq_false_iff, Int.cast_ofNat_Int, Int.reduceAdd, Int.reduceSub, Int.reduceMul, Int.reduceEq, Int.reduceNe]) (by simp only [go_sem, Nat.reduceEqDiff, Nat.reduceBEq, Nat.reduceAdd, Nat.reduceMul, Nat.reduceSub, Nat.reduceLeDiff, Nat.reduceLT, reduceIte, reduceCtorEq, Int.reduceToNat, Int.reduceLE, Int.reduceLT, Int.reduceNeg, Bool.not_not, and_self, Bool.and_eq_false_iff, Int.cast_ofNat_Int, Int.reduceAdd, Int.reduceSub, Int.reduceMul, Int.reduceEq, Int.reduceNe] <;> rfl) (fun _ => h60) rfl ?_
            simp only [go_sem, Nat.reduceEqDiff, Nat.reduceBEq, Nat.reduceAdd, Nat.reduceMul, Nat.reduceSub, Nat.reduceLeDiff, Nat.reduceLT, reduceIte, reduceCtorEq, Int.reduceToNat, Int.reduceLE, Int.reduceLT, Int.reduceNeg, Bool.not_not, and_self, Bool.and_eq_false_iff, Int.cast_ofNat_Int, Int.reduceAdd, Int.reduceSub, Int.reduceMul, Int.reduceEq, Int.reduceNe]
            exact ⟨⟨by omega, by omega⟩, ⟨i + 1, now, offT l m8, delD es m8, c⟩, ⟨_, Weak.refl' _, rfl⟩, ⟨hlt, ⟨by show i + 1 ≤ 100; omega, hck, hp2, by show (offT l m8).length ≤ i + 1; omega, hn0, by show now ≤ 255 * ((i + 1 : Nat) : Int); omega⟩⟩, by show A.length - (i + 1) < A.length - i; omega⟩
          · simp only [go_sem, Nat.reduceEqDiff, Nat.reduceBEq, Nat.reduceAdd, Nat.reduceMul, Nat.reduceSub, Nat.reduceLeDiff, Nat.reduceLT, reduceIte, reduceCtorEq, Int.reduceToNat, Int.reduceLE, Int.reduceLT, Int.reduceNeg, Bool.not_not, and_self, Bool.and_eq_false_iff, Int.cast_ofNat_Int, Int.reduceAdd, Int.reduceSub, Int.reduceMul, Int.reduceEq, Int.reduceNe, lkp_D, hv, Option.map_none, like_D, hf, del_D, hel]
            refine runR_callgf (by simp only [go_sem, Nat.reduceEqDiff, Nat.reduceBEq, Nat.reduceAdd, Nat.reduceMul, Nat.reduceSub, Nat.reduceLeDiff, Nat.reduceLT, reduceIte, reduceCtorEq, Int.reduceToNat, Int.reduceLE, Int.reduceLT, Int.reduceNeg, Bool.not_not, and_self, Bool.and_eq_false_iff, Int.cast_ofNat_Int, Int.reduceAdd, Int.reduceSub, Int.reduceMul, Int.reduceEq, Int.reduceNe]) (by simp only [go_sem, Nat.reduceEqDiff, Nat.reduceBEq, Nat.reduceAdd, Nat.reduceMul, Nat.reduceSub, Nat.reduceLeDiff, Nat.reduceLT, reduceIte, reduceCtorEq, Int.reduceToNat, Int.reduceLE, Int.reduceLT, Int.reduceNeg, Bool.not_not, and_self, Bool.and_eq_false_iff, Int.cast_ofNat_Int, Int.reduceAdd, Int.reduceSub, Int.reduceMul, Int.reduceEq, Int.reduceNe]) (by simp only [go_sem, Nat.reduceEqDiff, Nat.reduceBEq, Nat.reduceAdd, Nat.reduceMul, Nat.reduceSub, Nat.reduceLeDiff, Nat.reduceLT, reduceIte, reduceCtorEq, Int.reduceToNat, Int.reduceLE, Int.reduceLT, Int.reduceNeg, Bool.not_not, and_self, Bool.and_eq_false_iff, Int.cast_ofNat_Int, Int.reduceAdd, Int.reduceSub, Int.reduceMul, Int.reduceEq, Int.reduceNe] <;> rfl) (fun _ => h60) rfl ?_
            simp only [go_sem, Nat.reduceEqDiff, Nat.reduceBEq, Nat.reduceAdd, Nat.reduceMul, Nat.reduceSub, Nat.reduceLeDiff, Nat.reduceLT, reduceIte, reduceCtorEq, Int.reduceToNat, Int.reduceLE, Int.reduceLT, Int.reduceNeg, Bool.not_not, and_self, Bool.and_eq_false_iff, Int.cast_ofNat_Int, Int.reduceAdd, Int.reduceSub, Int.reduceMul, Int.reduceEq, Int.reduceNe]
            exact ⟨⟨by omega, by omega⟩, ⟨i + 1, now, offT l m8, delD es m8, c⟩, ⟨_, Weak.refl' _, rfl⟩, ⟨hlt, ⟨by show i + 1 ≤ 100; omega, hck, hp2, by show (offT l m8).length ≤ i + 1; omega, hn0, by show now ≤ 255 * ((i + 1 : Nat) : Int); omega⟩⟩, by show A.length - (i + 1) < A.length - i; omega⟩
        · have h54 := fn54 l n2 (by omega)
          rw [if_pos hchk, if_pos hchk] at h54
          refine runR_call (by simp only [go_sem, Nat.reduceEqDiff, Nat.reduceBEq, Nat.reduceAdd, Nat.reduceMul, Nat.reduceSub, Nat.reduceLeDiff, Nat.reduceLT, reduceIte, reduceCtorEq, Int.reduceToNat, Int.reduceLE, Int.reduceLT, Int.reduceNeg, Bool.not_not, and_self, Bool.and_eq_false_iff, Int.cast_ofNat_Int, Int.reduceAdd, Int.reduceSub, Int.reduceMul, Int.reduceEq, Int.reduceNe]) rfl (h54) (.inl rfl) trivial ?_
          simp only [go_sem, Nat.reduceEqDiff, Nat.reduceBEq, Nat.reduceAdd, Nat.reduceMul, Nat.reduceSub, Nat.reduceLeDiff, Nat.reduceLT, reduceIte, reduceCtorEq, Int.reduceToNat, Int.reduceLE, Int.reduceLT, Int.reduceNeg, Bool.not_not, and_self, Bool.and_eq_false_iff, Int.cast_ofNat_Int, Int.reduceAdd, Int.reduceSub, Int.reduceMul, Int.reduceEq, Int.reduceNe]
          obtain ⟨R, hR⟩ : ∃ R, rungT l n2 = R := ⟨_, rfl⟩
          have hRl : R.length ≤ l.length := by rw [← hR]; unfold rungT; rw [List.length_map]; exact List.length_filter_le _ _
          have hwu : WfL 1 (R.map pU) := wf_us R
          rw [hR]
          refine run_loop (T := Nat × List ED) (fun t => ⟨[(0, .pv (.lst (A.map p8))), (1, .pv (.lst (B.map p8))), (6, .mp 24), (8, .pv (pI i)), (10, .pv (pI n2)), (15, .pv (tm (laterT l n2))), (16, .pv (us R)), (17, .pv (pI t.1))], [(24, .mpd (t.2.map enD) c)]⟩) (fun t => t.1 ≤ R.length ∧ PD t.2 (leftT l (R.take t.1))) (fun t => R.length - t.1) (0, es) rfl ⟨Nat.zero_le _, by rw [List.take_zero, leftT_nil]; exact hpd⟩ ?_
          rintro ⟨j, ej⟩ ⟨hj, hpj⟩
          simp only at hj hpj
          by_cases hjl : j < R.length
          · have hrl : ∃ t ∈ leftT l (R.take j), t.at_ ≤ n2 ∧ t.id = R[j] := by subst hR; exact rung_left hid hjl
            obtain ⟨t, ht1, ht2, ht3⟩ := hrl
            have hlk := hpj.some (leftT_ids _ hid) ht1
            rw [ht3] at hlk
            simp only [go_sem, Nat.reduceEqDiff, Nat.reduceBEq, Nat.reduceAdd, Nat.reduceMul, Nat.reduceSub, Nat.reduceLeDiff, Nat.reduceLT, reduceIte, reduceCtorEq, Int.reduceToNat, Int.reduceLE, Int.reduceLT, Int.reduceNeg, Bool.not_not, and_self, Bool.and_eq_false_iff, Int.cast_ofNat_Int, Int.reduceAdd, Int.reduceSub, Int.reduceMul, Int.reduceEq, Int.reduceNe, B16_1, show (j : Int) < (R.length : Int) by omega, hwu, getD_map hjl, lkp_D, hlk, Option.map_some, like_D, del_D, show ¬ n2 < t.at_ by omega]
            refine ⟨⟨by omega, by omega⟩, (j + 1, delD ej R[j]), rfl, ⟨hjl, ?_⟩, by show R.length - (j + 1) < R.length - j; omega⟩
            rw [List.take_succ_eq_append_getElem hjl, ← leftT_off]
            exact hpj.stop (leftT_ids _ hid) R[j]
          · obtain rfl : j = R.length := by omega
            rw [List.take_length] at hpj
            subst hR
            rw [left_later hid] at hpj
            simp only [go_sem, Nat.reduceEqDiff, Nat.reduceBEq, Nat.reduceAdd, Nat.reduceMul, Nat.reduceSub, Nat.reduceLeDiff, Nat.reduceLT, reduceIte, reduceCtorEq, Int.reduceToNat, Int.reduceLE, Int.reduceLT, Int.reduceNeg, Bool.not_not, and_self, Bool.and_eq_false_iff, Int.cast_ofNat_Int, Int.reduceAdd, Int.reduceSub, Int.reduceMul, Int.reduceEq, Int.reduceNe, B16_1, R16_1, show ¬ ((rungT l n2).length : Int) < ((rungT l n2).length : Int) by omega]
            refine ⟨by omega, ?_⟩
            have hcl := check_filter (fun y => decide (n2 < y.at_)) hchk
            have hll2 : (laterT l n2).length ≤ l.length := List.length_filter_le _ _
            have hel := hpj.len
            have h60 := fn60 (laterT l n2) (by omega)
            rw [show checkT (laterT l n2) = true from hcl, show errN true = 0 from rfl] at h60
            refine run_loopN (T := List Nat × Option Nat) [0, 1, 6, 8, 10, 15, 127] [24, 127] (fun t => ⟨[(0, .pv (.lst (A.map p8))), (1, .pv (.lst (B.map p8))), (6, .mp 24), (8, .pv (pI i)), (10, .pv (pI n2)), (15, .pv (tm (laterT l n2))), (127, .it 127)], [(24, .mpd (ej.map enD) c), (127, .mid 24 c ((ej.map enD).map (·.1)) t.1 t.2)]⟩) (fun t => ∀ k ∈ t.1, k < ej.length) (fun t => t.1.length) (List.range ej.length, none) ?_ (fun k hk => List.mem_range.1 hk) ?_
            · simp only [go_sem, Nat.reduceEqDiff, Nat.reduceBEq, Nat.reduceAdd, Nat.reduceMul, Nat.reduceSub, Nat.reduceLeDiff, Nat.reduceLT, reduceIte, reduceCtorEq, Int.reduceToNat, Int.reduceLE, Int.reduceLT, Int.reduceNeg, Bool.not_not, and_self, Bool.and_eq_false_iff, Int.cast_ofNat_Int, Int.reduceAdd, Int.reduceSub, Int.reduceMul, Int.reduceEq, Int.reduceNe]
            rintro ⟨rem, cur⟩ hrem
            simp only at hrem
            simp only [go_sem, Nat.reduceEqDiff, Nat.reduceBEq, Nat.reduceAdd, Nat.reduceMul, Nat.reduceSub, Nat.reduceLeDiff, Nat.reduceLT, reduceIte, reduceCtorEq, Int.reduceToNat, Int.reduceLE, Int.reduceLT, Int.reduceNeg, Bool.not_not, and_self, Bool.and_eq_false_iff, Int.cast_ofNat_Int, Int.reduceAdd, Int.reduceSub, Int.reduceMul, Int.reduceEq, Int.reduceNe, B16_2]
            refine ⟨fun hr => ?_, fun k hk => ?_⟩
            · simp only [go_sem, Nat.reduceEqDiff, Nat.reduceBEq, Nat.reduceAdd, Nat.reduceMul, Nat.reduceSub, Nat.reduceLeDiff, Nat.reduceLT, reduceIte, reduceCtorEq, Int.reduceToNat, Int.reduceLE, Int.reduceLT, Int.reduceNeg, Bool.not_not, and_self, Bool.and_eq_false_iff, Int.cast_ofNat_Int, Int.reduceAdd, Int.reduceSub, Int.reduceMul, Int.reduceEq, Int.reduceNe, R16_2, hel]
              refine runR_callgf (by simp only [go_sem, Nat.reduceEqDiff, Nat.reduceBEq, Nat.reduceAdd, Nat.reduceMul, Nat.reduceSub, Nat.reduceLeDiff, Nat.reduceLT, reduceIte, reduceCtorEq, Int.reduceToNat, Int.reduceLE, Int.reduceLT, Int.reduceNeg, Bool.not_not, and_self, Bool.and_eq_false_iff, Int.cast_ofNat_Int, Int.reduceAdd, Int.reduceSub, Int.reduceMul, Int.reduceEq, Int.reduceNe]) (by simp only [go_sem, Nat.reduceEqDiff, Nat.reduceBEq, Nat.reduceAdd, Nat.reduceMul, Nat.reduceSub, Nat.reduceLeDiff, Nat.reduceLT, reduceIte, reduceCtorEq, Int.reduceToNat, Int.reduceLE, Int.reduceLT, Int.reduceNeg, Bool.not_not, and_self, Bool.and_eq_false_iff, Int.cast_ofNat_Int, Int.reduceAdd, Int.reduceSub, Int.reduceMul, Int.reduceEq, Int.reduceNe]) (by simp only [go_sem, Nat.reduceEqDiff, Nat.reduceBEq, Nat.reduceAdd, Nat.reduceMul, Nat.reduceSub, Nat.reduceLeDiff, Nat.reduceLT, reduceIte, reduceCtorEq, Int.reduceToNat, Int.reduceLE, Int.reduceLT, Int.reduceNeg, Bool.not_not, and_self, Bool.and_eq_false_iff, Int.cast_ofNat_Int, Int.reduceAdd, Int.reduceSub, Int.reduceMul, Int.reduceEq, Int.reduceNe] <;> rfl) (fun _ => h60) rfl ?_
              simp only [go_sem, Nat.reduceEqDiff, Nat.reduceBEq, Nat.reduceAdd, Nat.reduceMul, Nat.reduceSub, Nat.reduceLeDiff, Nat.reduceLT, reduceIte, reduceCtorEq, Int.reduceToNat, Int.reduceLE, Int.reduceLT, Int.reduceNeg, Bool.not_not, and_self, Bool.and_eq_false_iff, Int.cast_ofNat_Int, Int.reduceAdd, Int.reduceSub, Int.reduceMul, Int.reduceEq, Int.reduceNe]
              exact ⟨⟨by omega, by omega⟩, ⟨i + 1, n2, laterT l n2, ej, c⟩, ⟨_, Weak.refl' _, rfl⟩, ⟨hlt, ⟨by show i + 1 ≤ 100; omega, hcl, hpj, by show (laterT l n2).length ≤ i + 1; omega, by show 0 ≤ n2; omega, by show n2 ≤ 255 * ((i + 1 : Nat) : Int); omega⟩⟩, by show A.length - (i + 1) < A.length - i; omega⟩
            · have hk2 := hrem k hk
              have hla := later_at hpj (List.getElem_mem hk2)
              have hgk : (ej.map enD).getD k default = enD ej[k] := by simp [List.getD_eq_getElem?_getD, hk2]
              rw [hgk]
              simp only [go_sem, Nat.reduceEqDiff, Nat.reduceBEq, Nat.reduceAdd, Nat.reduceMul, Nat.reduceSub, Nat.reduceLeDiff, Nat.reduceLT, reduceIte, reduceCtorEq, Int.reduceToNat, Int.reduceLE, Int.reduceLT, Int.reduceNeg, Bool.not_not, and_self, Bool.and_eq_false_iff, Int.cast_ofNat_Int, Int.reduceAdd, Int.reduceSub, Int.reduceMul, Int.reduceEq, Int.reduceNe, show ¬ ej[k].2.2 ≤ n2 by omega]
              refine ⟨(rem.erase k, some k), rfl, fun q hq => hrem q (List.mem_of_mem_erase hq), ?_⟩
              have := List.length_pos_of_mem hk
              show (rem.erase k).length < rem.length
              rw [List.length_erase_of_mem hk]
              omega
        · have hlen : l.length < 120 := by omega
          have hat : atB n2 = true := atB_of (by omega) (by omega)
          have h62 := fn62 l m8 n2 (by omega)
          rw [setT_ok hchk hat (by omega)] at h62
          refine runR_call (by simp only [go_sem, Nat.reduceEqDiff, Nat.reduceBEq, Nat.reduceAdd, Nat.reduceMul, Nat.reduceSub, Nat.reduceLeDiff, Nat.reduceLT, reduceIte, reduceCtorEq, Int.reduceToNat, Int.reduceLE, Int.reduceLT, Int.reduceNeg, Bool.not_not, and_self, Bool.and_eq_false_iff, Int.cast_ofNat_Int, Int.reduceAdd, Int.reduceSub, Int.reduceMul, Int.reduceEq, Int.reduceNe]) rfl (h62) (.inl rfl) trivial ?_
          have hck := check_ins' (x := ⟨n2, m8⟩) hchk hlen hat
          have hp2 := hpd.set hid m8 n2 c
          have hl2 : (insT (offT l m8) ⟨n2, m8⟩).length ≤ i + 1 := by rw [insT_len]; have : (offT l m8).length ≤ l.length := List.length_filter_le _ _; omega
          have hel := hp2.len
          have h60 := fn60 (insT (offT l m8) ⟨n2, m8⟩) (by omega)
          rw [hck, show errN true = 0 from rfl] at h60
          simp only [go_sem, Nat.reduceEqDiff, Nat.reduceBEq, Nat.reduceAdd, Nat.reduceMul, Nat.reduceSub, Nat.reduceLeDiff, Nat.reduceLT, reduceIte, reduceCtorEq, Int.reduceToNat, Int.reduceLE, Int.reduceLT, Int.reduceNeg, Bool.not_not, and_self, Bool.and_eq_false_iff, Int.cast_ofNat_Int, Int.reduceAdd, Int.reduceSub, Int.reduceMul, Int.reduceEq, Int.reduceNe, put_D, like_D, hel]
          refine runR_callgf (by simp only [go_sem, Nat.reduceEqDiff, Nat.reduceBEq, Nat.reduceAdd, Nat.reduceMul, Nat.reduceSub, Nat.reduceLeDiff, Nat.reduceLT, reduceIte, reduceCtorEq, Int.reduceToNat, Int.reduceLE, Int.reduceLT, Int.reduceNeg, Bool.not_not, and_self, Bool.and_eq_false_iff, Int.cast_ofNat_Int, Int.reduceAdd, Int.reduceSub, Int.reduceMul, Int.reduceEq, Int.reduceNe]) (by simp only [go_sem, Nat.reduceEqDiff, Nat.reduceBEq, Nat.reduceAdd, Nat.reduceMul, Nat.reduceSub, Nat.reduceLeDiff, Nat.reduceLT, reduceIte, reduceCtorEq, Int.reduceToNat, Int.reduceLE, Int.reduceLT, Int.reduceNeg, Bool.not_not, and_self, Bool.and_eq_false_iff, Int.cast_ofNat_Int, Int.reduceAdd, Int.reduceSub, Int.reduceMul, Int.reduceEq, Int.reduceNe]) (by simp only [go_sem, Nat.reduceEqDiff, Nat.reduceBEq, Nat.reduceAdd, Nat.reduceMul, Nat.reduceSub, Nat.reduceLeDiff, Nat.reduceLT, reduceIte, reduceCtorEq, Int.reduceToNat, Int.reduceLE, Int.reduceLT, Int.reduceNeg, Bool.not_not, and_self, Bool.and_eq_false_iff, Int.cast_ofNat_Int, Int.reduceAdd, Int.reduceSub, Int.reduceMul, Int.reduceEq, Int.reduceNe] <;> rfl) (fun _ => h60) rfl ?_
          simp only [go_sem, Nat.reduceEqDiff, Nat.reduceBEq, Nat.reduceAdd, Nat.reduceMul, Nat.reduceSub, Nat.reduceLeDiff, Nat.reduceLT, reduceIte, reduceCtorEq, Int.reduceToNat, Int.reduceLE, Int.reduceLT, Int.reduceNeg, Bool.not_not, and_self, Bool.and_eq_false_iff, Int.cast_ofNat_Int, Int.reduceAdd, Int.reduceSub, Int.reduceMul, Int.reduceEq, Int.reduceNe]
          exact ⟨⟨by omega, by omega⟩, ⟨i + 1, now, insT (offT l m8) ⟨n2, m8⟩, putD es m8 n2 c, _⟩, ⟨_, Weak.refl' _, rfl⟩, ⟨hlt, ⟨by show i + 1 ≤ 100; omega, hck, (hpd.set hid m8 n2 c), hl2, hn0, by show now ≤ 255 * ((i + 1 : Nat) : Int); omega⟩⟩, by show A.length - (i + 1) < A.length - i; omega⟩
      · simp only [go_sem, Nat.reduceEqDiff, Nat.reduceBEq, Nat.reduceAdd, Nat.reduceMul, Nat.reduceSub, Nat.reduceLeDiff, Nat.reduceLT, reduceIte, reduceCtorEq, Int.reduceToNat, Int.reduceLE, Int.reduceLT, Int.reduceNeg, Bool.not_not, and_self, Bool.and_eq_false_iff, Int.cast_ofNat_Int, Int.reduceAdd, Int.reduceSub, Int.reduceMul, Int.reduceEq, Int.reduceNe, B16_0, show (i : Int) < (A.length : Int) by omega, show ¬ (i : Int) < (B.length : Int) by omega, show (i : Int) < 100 by omega, hw, getD_map hlt, hm8]
        refine ⟨⟨by omega, by omega⟩, ?_⟩
        refine ⟨fun h5 => ?_, fun h5 => ⟨fun h6 => ?_, fun h6 => ?_⟩⟩
        · have h61 := fn61 l m8 (by omega)
          have hs : stopT l m8 = (offT l m8, decide (0 ≤ findT l m8)) := by unfold stopT; rw [if_neg (by rw [hchk]; simp), woT_off hid]
          rw [hs] at h61
          refine runR_call (by simp only [go_sem, Nat.reduceEqDiff, Nat.reduceBEq, Nat.reduceAdd, Nat.reduceMul, Nat.reduceSub, Nat.reduceLeDiff, Nat.reduceLT, reduceIte, reduceCtorEq, Int.reduceToNat, Int.reduceLE, Int.reduceLT, Int.reduceNeg, Bool.not_not, and_self, Bool.and_eq_false_iff, Int.cast_ofNat_Int, Int.reduceAdd, Int.reduceSub, Int.reduceMul, Int.reduceEq, Int.reduceNe]) rfl (h61) (.inl rfl) trivial ?_
          have hp2 := hpd.stop hid m8
          have hck := check_filter (fun y => decide (y.id ≠ m8)) hchk
          have hl2 : (offT l m8).length ≤ l.length := List.length_filter_le _ _
          have hel := hp2.len
          have h60 := fn60 (offT l m8) (by omega)
          rw [hck, show errN true = 0 from rfl] at h60
          rcases find_lk (n := m8) hpd hid with ⟨hf, v, hv⟩ | ⟨hf, hv⟩
          · simp only [go_sem, Nat.reduceEqDiff, Nat.reduceBEq, Nat.reduceAdd, Nat.reduceMul, Nat.reduceSub, Nat.reduceLeDiff, Nat.reduceLT, reduceIte, reduceCtorEq, Int.reduceToNat, Int.reduceLE, Int.reduceLT, Int.reduceNeg, Bool.not_not, and_self, Bool.and_eq_false_iff, Int.cast_ofNat_Int, Int.reduceAdd, Int.reduceSub, Int.reduceMul, Int.reduceEq, Int.reduceNe, lkp_D, hv, Option.map_some, like_D, hf, del_D, hel]
            refine runR_callgf (by simp only [go_sem, Nat.reduceEqDiff, Nat.reduceBEq, Nat.reduceAdd, Nat.reduceMul, Nat.reduceSub, Nat.reduceLeDiff, Nat.reduceLT, reduceIte, reduceCtorEq, Int.reduceToNat, Int.reduceLE, Int.reduceLT, Int.reduceNeg, Bool.not_not, and_self, Bool.and_eq_false_iff, Int.cast_ofNat_Int, Int.reduceAdd, Int.reduceSub, Int.reduceMul, Int.reduceEq, Int.reduceNe]) (by simp only [go_sem, Nat.reduceEqDiff, Nat.reduceBEq, Nat.reduceAdd, Nat.reduceMul, Nat.reduceSub, Nat.reduceLeDiff, Nat.reduceLT, reduceIte, reduceCtorEq, Int.reduceToNat, Int.reduceLE, Int.reduceLT, Int.reduceNeg, Bool.not_not, and_self, Bool.and_eq_false_iff, Int.cast_ofNat_Int, Int.reduceAdd, Int.reduceSub, Int.reduceMul, Int.reduceEq, Int.reduceNe]) (by simp only [go_sem, Nat.reduceEqDiff, Nat.reduceBEq, Nat.reduceAdd, Nat.reduceMul, Nat.reduceSub, Nat.reduceLeDiff, Nat.reduceLT, reduceIte, reduceCtorEq, Int.reduceToNat, Int.reduceLE, Int.reduceLT, Int.reduceNeg, Bool.not_not, and_self, Bool.and_eq_false_iff, Int.cast_ofNat_Int, Int.reduceAdd, Int.reduceSub, Int.reduceMul, Int.reduceEq, Int.reduceNe] <;> rfl) (fun _ => h60) rfl ?_
            simp only [go_sem, Nat.reduceEqDiff, Nat.reduceBEq, Nat.reduceAdd, Nat.reduceMul, Nat.reduceSub, Nat.reduceLeDiff, Nat.reduceLT, reduceIte, reduceCtorEq, Int.reduceToNat, Int.reduceLE, Int.reduceLT, Int.reduceNeg, Bool.not_not, and_self, Bool.and_eq_false_iff, Int.cast_ofNat_Int, Int.reduceAdd, Int.reduceSub, Int.reduceMul, Int.reduceEq, Int.reduceNe]
            exact ⟨⟨by omega, by omega⟩, ⟨i + 1, now, offT l m8, delD es m8, c⟩, ⟨_, Weak.refl' _, rfl⟩, ⟨hlt, ⟨by show i + 1 ≤ 100; omega, hck, hp2, by show (offT l m8).length ≤ i + 1; omega, hn0, by show now ≤ 255 * ((i + 1 : Nat) : Int); omega⟩⟩, by show A.length - (i + 1) < A.length - i; omega⟩
          · simp only [go_sem, Nat.reduceEqDiff, Nat.reduceBEq, Nat.reduceAdd, Nat.reduceMul, Nat.reduceSub, Nat.reduceLeDiff, Nat.reduceLT, reduceIte, reduceCtorEq, Int.reduceToNat, Int.reduceLE, Int.reduceLT, Int.reduceNeg, Bool.not_not, and_self, Bool.and_eq_false_iff, Int.cast_ofNat_Int, Int.reduceAdd, Int.reduceSub, Int.reduceMul, Int.reduceEq, Int.reduceNe, lkp_D, hv, Option.map_none, like_D, hf, del_D, hel]
            refine runR_callgf (by simp only [go_sem, Nat.reduceEqDiff, Nat.reduceBEq, Nat.reduceAdd, Nat.reduceMul, Nat.reduceSub, Nat.reduceLeDiff, Nat.reduceLT, reduceIte, reduceCtorEq, Int.reduceToNat, Int.reduceLE, Int.reduceLT, Int.reduceNeg, Bool.not_not, and_self, Bool.and_eq_false_iff, Int.cast_ofNat_Int, Int.reduceAdd, Int.reduceSub, Int.reduceMul, Int.reduceEq, Int.reduceNe]) (by simp only [go_sem, Nat.reduceEqDiff, Nat.reduceBEq, Nat.reduceAdd, Nat.reduceMul, Nat.reduceSub, Nat.reduceLeDiff, Nat.reduceLT, reduceIte, reduceCtorEq, Int.reduceToNat, Int.reduceLE, Int.reduceLT, Int.reduceNeg, Bool.not_not, and_self, Bool.and_eq_false_iff, Int.cast_ofNat_Int, Int.reduceAdd, Int.reduceSub, Int.reduceMul, Int.reduceEq, Int.reduceNe]) (by simp only [go_sem, Nat.reduceEqDiff, Nat.reduceBEq, Nat.reduceAdd, Nat.reduceMul, Nat.reduceSub, Nat.reduceLeDiff, Nat.reduceLT, reduceIte, reduceCtorEq, Int.reduceToNat, Int.reduceLE, Int.reduceLT, Int.reduceNeg, Bool.not_not, and_self, Bool.and_eq_false_iff, Int.cast_ofNat_Int, Int.reduceAdd, Int.reduceSub, Int.reduceMul, Int.reduceEq, Int.reduceNe] <;> rfl) (fun _ => h60) rfl ?_
            simp only [go_sem, Nat.reduceEqDiff, Nat.reduceBEq, Nat.reduceAdd, Nat.reduceMul, Nat.reduceSub, Nat.reduceLeDiff, Nat.reduceLT, reduceIte, reduceCtorEq, Int.reduceToNat, Int.reduceLE, Int.reduceLT, Int.reduceNeg, Bool.not_not, and_self, Bool.and_eq_false_iff, Int.cast_ofNat_Int, Int.reduceAdd, Int.reduceSub, Int.reduceMul, Int.reduceEq, Int.reduceNe]
            exact ⟨⟨by omega, by omega⟩, ⟨i + 1, now, offT l m8, delD es m8, c⟩, ⟨_, Weak.refl' _, rfl⟩, ⟨hlt, ⟨by show i + 1 ≤ 100; omega, hck, hp2, by show (offT l m8).length ≤ i + 1; omega, hn0, by show now ≤ 255 * ((i + 1 : Nat) : Int); omega⟩⟩, by show A.length - (i + 1) < A.length - i; omega⟩
        · have h54 := fn54 l now (by omega)
          rw [if_pos hchk, if_pos hchk] at h54
          refine runR_call (by simp only [go_sem, Nat.reduceEqDiff, Nat.reduceBEq, Nat.reduceAdd, Nat.reduceMul, Nat.reduceSub, Nat.reduceLeDiff, Nat.reduceLT, reduceIte, reduceCtorEq, Int.reduceToNat, Int.reduceLE, Int.reduceLT, Int.reduceNeg, Bool.not_not, and_self, Bool.and_eq_false_iff, Int.cast_ofNat_Int, Int.reduceAdd, Int.reduceSub, Int.reduceMul, Int.reduceEq, Int.reduceNe]) rfl (h54) (.inl rfl) trivial ?_
          simp only [go_sem, Nat.reduceEqDiff, Nat.reduceBEq, Nat.reduceAdd, Nat.reduceMul, Nat.reduceSub, Nat.reduceLeDiff, Nat.reduceLT, reduceIte, reduceCtorEq, Int.reduceToNat, Int.reduceLE, Int.reduceLT, Int.reduceNeg, Bool.not_not, and_self, Bool.and_eq_false_iff, Int.cast_ofNat_Int, Int.reduceAdd, Int.reduceSub, Int.reduceMul, Int.reduceEq, Int.reduceNe]
          obtain ⟨R, hR⟩ : ∃ R, rungT l now = R := ⟨_, rfl⟩
          have hRl : R.length ≤ l.length := by rw [← hR]; unfold rungT; rw [List.length_map]; exact List.length_filter_le _ _
          have hwu : WfL 1 (R.map pU) := wf_us R
          rw [hR]
          refine run_loop (T := Nat × List ED) (fun t => ⟨[(0, .pv (.lst (A.map p8))), (1, .pv (.lst (B.map p8))), (6, .mp 24), (8, .pv (pI i)), (10, .pv (pI now)), (15, .pv (tm (laterT l now))), (16, .pv (us R)), (17, .pv (pI t.1))], [(24, .mpd (t.2.map enD) c)]⟩) (fun t => t.1 ≤ R.length ∧ PD t.2 (leftT l (R.take t.1))) (fun t => R.length - t.1) (0, es) rfl ⟨Nat.zero_le _, by rw [List.take_zero, leftT_nil]; exact hpd⟩ ?_
          rintro ⟨j, ej⟩ ⟨hj, hpj⟩
          simp only at hj hpj
          by_cases hjl : j < R.length
          · have hrl : ∃ t ∈ leftT l (R.take j), t.at_ ≤ now ∧ t.id = R[j] := by subst hR; exact rung_left hid hjl
            obtain ⟨t, ht1, ht2, ht3⟩ := hrl
            have hlk := hpj.some (leftT_ids _ hid) ht1
            rw [ht3] at hlk
            simp only [go_sem, Nat.reduceEqDiff, Nat.reduceBEq, Nat.reduceAdd, Nat.reduceMul, Nat.reduceSub, Nat.reduceLeDiff, Nat.reduceLT, reduceIte, reduceCtorEq, Int.reduceToNat, Int.reduceLE, Int.reduceLT, Int.reduceNeg, Bool.not_not, and_self, Bool.and_eq_false_iff, Int.cast_ofNat_Int, Int.reduceAdd, Int.reduceSub, Int.reduceMul, Int.reduceEq, Int.reduceNe, B16_1, show (j : Int) < (R.length : Int) by omega, hwu, getD_map hjl, lkp_D, hlk, Option.map_some, like_D, del_D, show ¬ now < t.at_ by omega]
            refine ⟨⟨by omega, by omega⟩, (j + 1, delD ej R[j]), rfl, ⟨hjl, ?_⟩, by show R.length - (j + 1) < R.length - j; omega⟩
            rw [List.take_succ_eq_append_getElem hjl, ← leftT_off]
            exact hpj.stop (leftT_ids _ hid) R[j]
          · obtain rfl : j = R.length := by omega
            rw [List.take_length] at hpj
            subst hR
            rw [left_later hid] at hpj
            simp only [go_sem, Nat.reduceEqDiff, Nat.reduceBEq, Nat.reduceAdd, Nat.reduceMul, Nat.reduceSub, Nat.reduceLeDiff, Nat.reduceLT, reduceIte, reduceCtorEq, Int.reduceToNat, Int.reduceLE, Int.reduceLT, Int.reduceNeg, Bool.not_not, and_self, Bool.and_eq_false_iff, Int.cast_ofNat_Int, Int.reduceAdd, Int.reduceSub, Int.reduceMul, Int.reduceEq, Int.reduceNe, B16_1, R16_1, show ¬ ((rungT l now).length : Int) < ((rungT l now).length : Int) by omega]
            refine ⟨by omega, ?_⟩
            have hcl := check_filter (fun y => decide (now < y.at_)) hchk
            have hll2 : (laterT l now).length ≤ l.length := List.length_filter_le _ _
            have hel := hpj.len
            have h60 := fn60 (laterT l now) (by omega)
            rw [show checkT (laterT l now) = true from hcl, show errN true = 0 from rfl] at h60
            refine run_loopN (T := List Nat × Option Nat) [0, 1, 6, 8, 10, 15, 127] [24, 127] (fun t => ⟨[(0, .pv (.lst (A.map p8))), (1, .pv (.lst (B.map p8))), (6, .mp 24), (8, .pv (pI i)), (10, .pv (pI now)), (15, .pv (tm (laterT l now))), (127, .it 127)], [(24, .mpd (ej.map enD) c), (127, .mid 24 c ((ej.map enD).map (·.1)) t.1 t.2)]⟩) (fun t => ∀ k ∈ t.1, k < ej.length) (fun t => t.1.length) (List.range ej.length, none) ?_ (fun k hk => List.mem_range.1 hk) ?_
            · simp only [go_sem, Nat.reduceEqDiff, Nat.reduceBEq, Nat.reduceAdd, Nat.reduceMul, Nat.reduceSub, Nat.reduceLeDiff, Nat.reduceLT, reduceIte, reduceCtorEq, Int.reduceToNat, Int.reduceLE, Int.reduceLT, Int.reduceNeg, Bool.not_not, and_self, Bool.and_eq_false_iff, Int.cast_ofNat_Int, Int.reduceAdd, Int.reduceSub, Int.reduceMul, Int.reduceEq, Int.reduceNe]
            rintro ⟨rem, cur⟩ hrem
            simp only at hrem
            simp only [go_sem, Nat.reduceEqDiff, Nat.reduceBEq, Nat.reduceAdd, Nat.reduceMul, Nat.reduceSub, Nat.reduceLeDiff, Nat.reduceLT, reduceIte, reduceCtorEq, Int.reduceToNat, Int.reduceLE, Int.reduceLT, Int.reduceNeg, Bool.not_not, and_self, Bool.and_eq_false_iff, Int.cast_ofNat_Int, Int.reduceAdd, Int.reduceSub, Int.reduceMul, Int.reduceEq, Int.reduceNe, B16_2]
            refine ⟨fun hr => ?_, fun k hk => ?_⟩
            · simp only [go_sem, Nat.reduceEqDiff, Nat.reduceBEq, Nat.reduceAdd, Nat.reduceMul, Nat.reduceSub, Nat.reduceLeDiff, Nat.reduceLT, reduceIte, reduceCtorEq, Int.reduceToNat, Int.reduceLE, Int.reduceLT, Int.reduceNeg, Bool.not_not, and_self, Bool.and_eq_false_iff, Int.cast_ofNat_Int, Int.reduceAdd, Int.reduceSub, Int.reduceMul, Int.reduceEq, Int.reduceNe, R16_2, hel]
              refine runR_callgf (by simp only [go_sem, Nat.reduceEqDiff, Nat.reduceBEq, Nat.reduceAdd, Nat.reduceMul, Nat.reduceSub, Nat.reduceLeDiff, Nat.reduceLT, reduceIte, reduceCtorEq, Int.reduceToNat, Int.reduceLE, Int.reduceLT, Int.reduceNeg, Bool.not_not, and_self, Bool.and_eq_false_iff, Int.cast_ofNat_Int, Int.reduceAdd, Int.reduceSub, Int.reduceMul, Int.reduceEq, Int.reduceNe]) (by simp only [go_sem, Nat.reduceEqDiff, Nat.reduceBEq, Nat.reduceAdd, Nat.reduceMul, Nat.reduceSub, Nat.reduceLeDiff, Nat.reduceLT, reduceIte, reduceCtorEq, Int.reduceToNat, Int.reduceLE, Int.reduceLT, Int.reduceNeg, Bool.not_not, and_self, Bool.and_eq_false_iff, Int.cast_ofNat_Int, Int.reduceAdd, Int.reduceSub, Int.reduceMul, Int.reduceEq, Int.reduceNe]) (by simp only [go_sem, Nat.reduceEqDiff, Nat.reduceBEq, Nat.reduceAdd, Nat.reduceMul, Nat.reduceSub, Nat.reduceLeDiff, Nat.reduceLT, reduceIte, reduceCtorEq, Int.reduceToNat, Int.reduceLE, Int.reduceLT, Int.reduceNeg, Bool.not_not, and_self, Bool.and_eq_false_iff, Int.cast_ofNat_Int, Int.reduceAdd, Int.reduceSub, Int.reduceMul, Int.reduceEq, Int.reduceNe] <;> rfl) (fun _ => h60) rfl ?_
              simp only [go_sem, Nat.reduceEqDiff, Nat.reduceBEq, Nat.reduceAdd, Nat.reduceMul, Nat.reduceSub, Nat.reduceLeDiff, Nat.reduceLT, reduceIte, reduceCtorEq, Int.reduceToNat, Int.reduceLE, Int.reduceLT, Int.reduceNeg, Bool.not_not, and_self, Bool.and_eq_false_iff, Int.cast_ofNat_Int, Int.reduceAdd, Int.reduceSub, Int.reduceMul, Int.reduceEq, Int.reduceNe]
              exact ⟨⟨by omega, by omega⟩, ⟨i + 1, now, laterT l now, ej, c⟩, ⟨_, Weak.refl' _, rfl⟩, ⟨hlt, ⟨by show i + 1 ≤ 100; omega, hcl, hpj, by show (laterT l now).length ≤ i + 1; omega, by show 0 ≤ now; omega, by show now ≤ 255 * ((i + 1 : Nat) : Int); omega⟩⟩, by show A.length - (i + 1) < A.length - i; omega⟩
            · have hk2 := hrem k hk
              have hla := later_at hpj (List.getElem_mem hk2)
              have hgk : (ej.map enD).getD k default = enD ej[k] := by simp [List.getD_eq_getElem?_getD, hk2]
              rw [hgk]
              simp only [go_sem, Nat.reduceEqDiff, Nat.reduceBEq, Nat.reduceAdd, Nat.reduceMul, Nat.reduceSub, Nat.reduceLeDiff, Nat.reduceLT, reduceIte, reduceCtorEq, Int.reduceToNat, Int.reduceLE, Int.reduceLT, Int.reduceNeg, Bool.not_not, and_self, Bool.and_eq_false_iff, Int.cast_ofNat_Int, Int.reduceAdd, Int.reduceSub, Int.reduceMul, Int.reduceEq, Int.reduceNe, show ¬ ej[k].2.2 ≤ now by omega]
              refine ⟨(rem.erase k, some k), rfl, fun q hq => hrem q (List.mem_of_mem_erase hq), ?_⟩
              have := List.length_pos_of_mem hk
              show (rem.erase k).length < rem.length
              rw [List.length_erase_of_mem hk]
              omega
        · have hlen : l.length < 120 := by omega
          have hat : atB now = true := atB_of (by omega) (by omega)
          have h62 := fn62 l m8 now (by omega)
          rw [setT_ok hchk hat (by omega)] at h62
          refine runR_call (by simp only [go_sem, Nat.reduceEqDiff, Nat.reduceBEq, Nat.reduceAdd, Nat.reduceMul, Nat.reduceSub, Nat.reduceLeDiff, Nat.reduceLT, reduceIte, reduceCtorEq, Int.reduceToNat, Int.reduceLE, Int.reduceLT, Int.reduceNeg, Bool.not_not, and_self, Bool.and_eq_false_iff, Int.cast_ofNat_Int, Int.reduceAdd, Int.reduceSub, Int.reduceMul, Int.reduceEq, Int.reduceNe]) rfl (h62) (.inl rfl) trivial ?_
          have hck := check_ins' (x := ⟨now, m8⟩) hchk hlen hat
          have hp2 := hpd.set hid m8 now c
          have hl2 : (insT (offT l m8) ⟨now, m8⟩).length ≤ i + 1 := by rw [insT_len]; have : (offT l m8).length ≤ l.length := List.length_filter_le _ _; omega
          have hel := hp2.len
          have h60 := fn60 (insT (offT l m8) ⟨now, m8⟩) (by omega)
          rw [hck, show errN true = 0 from rfl] at h60
          simp only [go_sem, Nat.reduceEqDiff, Nat.reduceBEq, Nat.reduceAdd, Nat.reduceMul, Nat.reduceSub, Nat.reduceLeDiff, Nat.reduceLT, reduceIte, reduceCtorEq, Int.reduceToNat, Int.reduceLE, Int.reduceLT, Int.reduceNeg, Bool.not_not, and_self, Bool.and_eq_false_iff, Int.cast_ofNat_Int, Int.reduceAdd, Int.reduceSub, Int.reduceMul, Int.reduceEq, Int.reduceNe, put_D, like_D, hel]
          refine runR_callgf (by simp only [go_sem, Nat.reduceEqDiff, Nat.reduceBEq, Nat.reduceAdd, Nat.reduceMul, Nat.reduceSub, Nat.reduceLeDiff, Nat.reduceLT, reduceIte, reduceCtorEq, Int.reduceToNat, Int.reduceLE, Int.reduceLT, Int.reduceNeg, Bool.not_not, and_self, Bool.and_eq_false_iff, Int.cast_ofNat_Int, Int.reduceAdd, Int.reduceSub, Int.reduceMul, Int.reduceEq, Int.reduceNe]) (by simp only [go_sem, Nat.reduceEqDiff, Nat.reduceBEq, Nat.reduceAdd, Nat.reduceMul, Nat.reduceSub, Nat.reduceLeDiff, Nat.reduceLT, reduceIte, reduceCtorEq, Int.reduceToNat, Int.reduceLE, Int.reduceLT, Int.reduceNeg, Bool.not_not, and_self, Bool.and_eq_false_iff, Int.cast_ofNat_Int, Int.reduceAdd, Int.reduceSub, Int.reduceMul, Int.reduceEq, Int.reduceNe]) (by simp only [go_sem, Nat.reduceEqDiff, Nat.reduceBEq, Nat.reduceAdd, Nat.reduceMul, Nat.reduceSub, Nat.reduceLeDiff, Nat.reduceLT, reduceIte, reduceCtorEq, Int.reduceToNat, Int.reduceLE, Int.reduceLT, Int.reduceNeg, Bool.not_not, and_self, Bool.and_eq_false_iff, Int.cast_ofNat_Int, Int.reduceAdd, Int.reduceSub, Int.reduceMul, Int.reduceEq, Int.reduceNe] <;> rfl) (fun _ => h60) rfl ?_
          simp only [go_sem, Nat.reduceEqDiff, Nat.reduceBEq, Nat.reduceAdd, Nat.reduceMul, Nat.reduceSub, Nat.reduceLeDiff, Nat.reduceLT, reduceIte, reduceCtorEq, Int.reduceToNat, Int.reduceLE, Int.reduceLT, Int.reduceNeg, Bool.not_not, and_self, Bool.and_eq_false_iff, Int.cast_ofNat_Int, Int.reduceAdd, Int.reduceSub, Int.reduceMul, Int.reduceEq, Int.reduceNe]
          exact ⟨⟨by omega, by omega⟩, ⟨i + 1, now, insT (offT l m8) ⟨now, m8⟩, putD es m8 now c, _⟩, ⟨_, Weak.refl' _, rfl⟩, ⟨hlt, ⟨by show i + 1 ≤ 100; omega, hck, (hpd.set hid m8 now c), hl2, hn0, by show now ≤ 255 * ((i + 1 : Nat) : Int); omega⟩⟩, by show A.length - (i + 1) < A.length - i; omega⟩
    · simp only [go_sem, Nat.reduceEqDiff, Nat.reduceBEq, Nat.reduceAdd, Nat.reduceMul, Nat.reduceSub, Nat.reduceLeDiff, Nat.reduceLT, reduceIte, reduceCtorEq, Int.reduceToNat, Int.reduceLE, Int.reduceLT, Int.reduceNeg, Bool.not_not, and_self, Bool.and_eq_false_iff, Int.cast_ofNat_Int, Int.reduceAdd, Int.reduceSub, Int.reduceMul, Int.reduceEq, Int.reduceNe, B16_0, R16_0, show (i : Int) < (A.length : Int) by omega, show ¬ (i : Int) < 100 by omega]
      refine runR_callf (by simp only [go_sem, Nat.reduceEqDiff, Nat.reduceBEq, Nat.reduceAdd, Nat.reduceMul, Nat.reduceSub, Nat.reduceLeDiff, Nat.reduceLT, reduceIte, reduceCtorEq, Int.reduceToNat, Int.reduceLE, Int.reduceLT, Int.reduceNeg, Bool.not_not, and_self, Bool.and_eq_false_iff, Int.cast_ofNat_Int, Int.reduceAdd, Int.reduceSub, Int.reduceMul, Int.reduceEq, Int.reduceNe]) (by simp only [go_sem, Nat.reduceEqDiff, Nat.reduceBEq, Nat.reduceAdd, Nat.reduceMul, Nat.reduceSub, Nat.reduceLeDiff, Nat.reduceLT, reduceIte, reduceCtorEq, Int.reduceToNat, Int.reduceLE, Int.reduceLT, Int.reduceNeg, Bool.not_not, and_self, Bool.and_eq_false_iff, Int.cast_ofNat_Int, Int.reduceAdd, Int.reduceSub, Int.reduceMul, Int.reduceEq, Int.reduceNe] <;> rfl) (fn56) ⟨rfl, trivial⟩ trivial ?_
      simp only [go_sem, Nat.reduceEqDiff, Nat.reduceBEq, Nat.reduceAdd, Nat.reduceMul, Nat.reduceSub, Nat.reduceLeDiff, Nat.reduceLT, reduceIte, reduceCtorEq, Int.reduceToNat, Int.reduceLE, Int.reduceLT, Int.reduceNeg, Bool.not_not, and_self, Bool.and_eq_false_iff, Int.cast_ofNat_Int, Int.reduceAdd, Int.reduceSub, Int.reduceMul, Int.reduceEq, Int.reduceNe]
  · simp only [go_sem, Nat.reduceEqDiff, Nat.reduceBEq, Nat.reduceAdd, Nat.reduceMul, Nat.reduceSub, Nat.reduceLeDiff, Nat.reduceLT, reduceIte, reduceCtorEq, Int.reduceToNat, Int.reduceLE, Int.reduceLT, Int.reduceNeg, Bool.not_not, and_self, Bool.and_eq_false_iff, Int.cast_ofNat_Int, Int.reduceAdd, Int.reduceSub, Int.reduceMul, Int.reduceEq, Int.reduceNe, B16_0, R16_0, show ¬ (i : Int) < (A.length : Int) by omega]
    refine runR_callf (by simp only [go_sem, Nat.reduceEqDiff, Nat.reduceBEq, Nat.reduceAdd, Nat.reduceMul, Nat.reduceSub, Nat.reduceLeDiff, Nat.reduceLT, reduceIte, reduceCtorEq, Int.reduceToNat, Int.reduceLE, Int.reduceLT, Int.reduceNeg, Bool.not_not, and_self, Bool.and_eq_false_iff, Int.cast_ofNat_Int, Int.reduceAdd, Int.reduceSub, Int.reduceMul, Int.reduceEq, Int.reduceNe]) (by simp only [go_sem, Nat.reduceEqDiff, Nat.reduceBEq, Nat.reduceAdd, Nat.reduceMul, Nat.reduceSub, Nat.reduceLeDiff, Nat.reduceLT, reduceIte, reduceCtorEq, Int.reduceToNat, Int.reduceLE, Int.reduceLT, Int.reduceNeg, Bool.not_not, and_self, Bool.and_eq_false_iff, Int.cast_ofNat_Int, Int.reduceAdd, Int.reduceSub, Int.reduceMul, Int.reduceEq, Int.reduceNe] <;> rfl) (fn56) ⟨rfl, trivial⟩ trivial ?_
    simp only [go_sem, Nat.reduceEqDiff, Nat.reduceBEq, Nat.reduceAdd, Nat.reduceMul, Nat.reduceSub, Nat.reduceLeDiff, Nat.reduceLT, reduceIte, reduceCtorEq, Int.reduceToNat, Int.reduceLE, Int.reduceLT, Int.reduceNeg, Bool.not_not, and_self, Bool.and_eq_false_iff, Int.cast_ofNat_Int, Int.reduceAdd, Int.reduceSub, Int.reduceMul, Int.reduceEq, Int.reduceNe]
end Go.Vc

namespace Go.Vc
open Go.Proofs
set_option maxRecDepth 100000
/-- the program has none of the tables -/
theorem noTabsTry (w : World) : Tabs Try.prog w (fun _ => False) := fun t ht g hg => by
  simp only [tabList, List.mem_cons, List.not_mem_nil, or_false] at ht
  rcases ht with rfl | rfl
  · rw [show Try.prog.globalNamed "math/bits.deBruijn64tab" = none by kernel_rfl] at hg; cases hg
  · rw [show Try.prog.globalNamed "internal/strconv.uint64pow10" = none by kernel_rfl] at hg; cases hg
end Go.Vc
