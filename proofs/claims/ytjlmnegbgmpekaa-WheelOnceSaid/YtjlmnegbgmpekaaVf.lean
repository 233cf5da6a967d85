/- A part of the proofs of the seat Ytjlmnegbgmpekaa: the layer that turns the code of a function into what is to be shown (verification conditions), proved sound. -/
import Derived.Test.YtjlmnegbgmpekaaVe
import Derived.Test.YtjlmnegbgmpekaaVc
import Derived.ChangeArms
import Derived.ChangeShapes
import Derived.WideShapes
import Derived.Carry
import Derived.ProofKit
import Derived.OpenShut
import Derived.Below
import Derived.ChangeOld
import Derived.ShutString
import Derived.Shelf.SlSortCmp.NoneTotal
namespace Go.Vc
open Go.RowKit

/-! ## Arguments that came in, as pure values -/
inductive Sh where
  | int (k : IntKind)
  | bool
  | str
  | lst (agg : Bool) (cs : List Sh)
  deriving Inhabited

mutual
def OkSh : Sh → PV → Prop
  | .int k, p => ∃ n, p = .sc (.int k n) ∧ (Lit.int k n).wf = true
  | .bool, p => ∃ b, p = .sc (.bool b)
  | .str, p => ∃ s : ByteArray, p = .sc (.string s) ∧ s.size ≤ maxLen
  | .lst agg cs, p => ∃ xs, p = .lst xs ∧ xs.length ≤ maxLen ∧ ∀ x ∈ xs, (agg = true → ∃ qs, x = .agg qs ∧ OkShs cs qs) ∧ (agg = false → OkShs cs [x])
def OkShs : List Sh → List PV → Prop
  | [], ps => ps = []
  | s :: ss, ps => ∃ p r, ps = p :: r ∧ OkSh s p ∧ OkShs ss r
end

theorem OkShs.len : ∀ {ss : List Sh} {ps : List PV}, OkShs ss ps → ps.length = ss.length
  | [], _, h => by simp only [OkShs] at h; rw [h]; rfl
  | s :: ss, _, h => by
    simp only [OkShs] at h
    obtain ⟨p, r, rfl, _, h⟩ := h
    simp [OkShs.len h]
theorem OkShs.append : ∀ {ss ts : List Sh} {ps qs : List PV}, OkShs ss ps → OkShs ts qs → OkShs (ss ++ ts) (ps ++ qs)
  | [], _, _, _, h, h' => by simp only [OkShs] at h; subst h; exact h'
  | s :: ss, _, _, _, h, h' => by
    simp only [OkShs] at h
    obtain ⟨p, r, rfl, h1, h2⟩ := h
    simp only [List.cons_append, OkShs]
    exact ⟨p, _, rfl, h1, OkShs.append h2 h'⟩
theorem PRels.app {w : World} {F : Nat → Prop} : ∀ {ps qs : List PV} {cs ds : List Value}, PRels w F ps cs → PRels w F qs ds → PRels w F (ps ++ qs) (cs ++ ds)
  | [], _, _, _, h, h' => by simp only [PRels] at h; subst h; exact h'
  | p :: ps, _, _, _, h, h' => by
    simp only [PRels] at h
    obtain ⟨v, r, rfl, h1, h2⟩ := h
    simp only [List.cons_append, PRels]
    exact ⟨v, _, rfl, h1, PRels.app h2 h'⟩
def shFields (P : Program) (g : TypeId → Option (List Sh)) : Nat → List Field → Option (List Sh)
  | _, [] => some []
  | off, f :: fs => match g f.type with
    | some cs => if f.offset = off ∧ cs.length = P.cellsOf f.type then (match shFields P g (off + cs.length) fs with
      | some ds => some (cs ++ ds)
      | none => none) else none
    | none => none
def shOf (P : Program) : Nat → TypeId → Option (List Sh)
  | 0, _ => none
  | n + 1, t => match P.underlying t with
    | some .bool => some [.bool]
    | some (.int k) => some [.int k]
    | some .string => some [.str]
    | some (.slice e) => match shOf P n e with
      | some cs => if cs.length = P.cellsOf e ∧ 0 < cs.length ∧ (aggOf P e = true ∨ cs.length = 1) then some [.lst (aggOf P e) cs] else none
      | none => none
    | some (.struct fs) => match shFields P (shOf P n) 0 fs.toList with
      | some cs => if cs.length = P.cellsOf t then some cs else none
      | none => none
    | _ => none

section
variable {H : Type} {enc : TypeId × Value → H} {P : Program} {w : World} {base : Nat} {spare : Nat → Bool} {held : Bool}

theorem cells_at {a : Addr} {n : Nat} {cs : List Value} (h : w.cells? base a n = some cs) : cs.length = n ∧ ∀ i, i < n → w.cell? (a.add i) = cs[i]? := by
  unfold World.cells? at h
  split at h
  · exact ⟨by simpa using mapM_some_length h, fun i hi => mapM_some_get h i i (by simp [hi])⟩
  · cases h

theorem PCells_of {F : Nat → Prop} {b o : Nat} : ∀ {ps : List PV} {cs : List Value} {k : Nat}, PRels w F ps cs → (∀ i, i < cs.length → w.cell? ⟨b, o + k + i, none⟩ = cs[i]?) → PCells w F ps b (o + k)
  | [], _, _, _, _ => by simp only [PCells]
  | p :: ps, _, k, h, hc => by
    simp only [PRels] at h
    obtain ⟨v, r, rfl, h1, h2⟩ := h
    simp only [PCells]
    refine ⟨⟨v, by simpa using hc 0 (by simp), h1⟩, ?_⟩
    have := PCells_of (k := k + 1) (o := o) h2 (fun i hi => by
      have := hc (i + 1) (by simpa using hi)
      rw [List.getElem?_cons_succ] at this
      rw [← this]
      congr 2
      omega)
    rwa [Nat.add_assoc]

theorem OkShs_one {s : Sh} {p : PV} (h : OkShs [s] [p]) : OkSh s p := by
  simp only [OkShs] at h
  obtain ⟨q, r, e, h1, h2⟩ := h
  injection e with e1 e2
  subst e1
  exact h1
theorem OkSh_ne {s : Sh} {p : PV} (h : OkSh s p) : ∀ cs, p ≠ .agg cs := by
  intro cs e
  subst e
  cases s <;> simp [OkSh] at h
theorem PElems_cell {F : Nat → Prop} {p : PV} {xs : List PV} {b o : Nat} (hn : ∀ cs, p ≠ .agg cs) (h1 : ∃ v, w.cell? ⟨b, o, none⟩ = some v ∧ PRel w F p v) (h2 : PElems w F xs b (o + 1)) : PElems w F (p :: xs) b o := by
  cases p with
  | agg cs => exact absurd rfl (hn cs)
  | _ => simp only [PElems]; exact ⟨h1, h2⟩

theorem trod_sh : ∀ (f : Nat) (t : TypeId) (ss : List Sh), shOf P f t = some ss → ∀ (n : Nat) (cs : List Value) (x : DataW H × List MemPlace), DataW.trod enc P w base spare held n t cs = some x →
    ∃ ps, OkShs ss ps ∧ PRels w (fun _ => False) ps cs
  | 0, _, _, h => by simp [shOf] at h
  | f + 1, t, ss, h => by
    intro n cs x hx
    unfold shOf at h
    split at h
    · rename_i ht
      injection h with h; subst h
      obtain ⟨b, rfl, _⟩ := DataW.trod_bool ht hx
      exact ⟨[.sc (.bool b)], by simp [OkShs, OkSh], by simp [PRels, PRel]⟩
    · rename_i k ht
      injection h with h; subst h
      obtain ⟨m, rfl, _, hw⟩ := DataW.trod_int ht hx
      exact ⟨[.sc (.int k m)], by simp [OkShs, OkSh, hw], by simp [PRels, PRel]⟩
    · rename_i ht
      injection h with h; subst h
      obtain ⟨s, rfl, _, hw⟩ := DataW.trod_string ht hx
      exact ⟨[.sc (.string s)], by simp [OkShs, OkSh, hw], by simp [PRels, PRel]⟩
    · rename_i e ht
      split at h
      · rename_i es hes
        split at h
        · rename_i hc
          injection h with h; subst h
          obtain ⟨hc1, hc2, hc3⟩ := hc
          rcases DataW.trod_slice ht hx with ⟨rfl, _⟩ | ⟨a, len, cap, elems, rest, m, rfl, rfl, _, hb, hl, hm, hlen, hel, _, _⟩
          · refine ⟨[.lst []], by simp [OkShs, OkSh], ?_⟩
            simp only [PRels, PRel]
            exact ⟨_, _, rfl, ⟨none, 0, 0, rfl, rfl, Nat.le_refl _, fun h => absurd h (by omega)⟩, rfl⟩
          · by_cases h0 : len = 0
            · subst h0
              refine ⟨[.lst []], by simp [OkShs, OkSh], ?_⟩
              simp only [PRels, PRel]
              exact ⟨_, _, rfl, ⟨some a, 0, cap, rfl, rfl, Nat.zero_le _, fun h => absurd h (by omega)⟩, rfl⟩
            · have one : ∀ i, i < len → ∃ qs cs', OkShs es qs ∧ PRels w (fun _ => False) qs cs' ∧ cs'.length = es.length ∧ ∀ k, k < es.length → w.cell? ((a.add (i * P.cellsOf e)).add k) = cs'[k]? := by
                intro i hi
                have := hel i hi
                rw [List.getElem?_eq_getElem (show i < elems.length by omega)] at this
                simp only [Option.bind_eq_some_iff] at this
                obtain ⟨cs', h1, h2⟩ := this
                obtain ⟨qs, h3, h4⟩ := trod_sh f e es hes _ _ _ h2
                obtain ⟨h5, h6⟩ := cells_at h1
                exact ⟨qs, cs', h3, h4, by omega, fun k hk => h6 k (by omega)⟩
              obtain ⟨b, o, spot⟩ := a
              have hs : spot = none := by
                obtain ⟨qs, cs', h1, h2, h3, h4⟩ := one 0 (by omega)
                have h5 := h4 0 hc2
                rw [List.getElem?_eq_getElem (show 0 < cs'.length by omega)] at h5
                simpa [Addr.add] using World.cell?_spot h5
              subst hs
              have addr : ∀ i k : Nat, ((⟨b, o, none⟩ : Addr).add i).add k = ⟨b, o + i + k, none⟩ := by
                intro i k
                simp only [Addr.add]
                by_cases h1 : i = 0 <;> by_cases h2 : k = 0 <;> simp [h1, h2]
              have hbl : b < w.heap.size := by
                obtain ⟨qs, cs', h1, h2, h3, h4⟩ := one 0 (by omega)
                have h5 := h4 0 hc2
                rw [List.getElem?_eq_getElem (show 0 < cs'.length by omega), addr] at h5
                exact lt_of_cell h5
              have build : ∀ d, d ≤ len → ∃ xs : List PV, xs.length = d ∧ PElems w (fun _ => False) xs b (o + (len - d) * P.cellsOf e) ∧ ∀ x ∈ xs, (aggOf P e = true → ∃ qs, x = .agg qs ∧ OkShs es qs) ∧ (aggOf P e = false → OkShs es [x]) := by
                intro d
                induction d with
                | zero => intro _; exact ⟨[], rfl, by simp only [PElems], fun x hx => by cases hx⟩
                | succ d ih =>
                  intro hd
                  obtain ⟨xs, h1, h2, h3⟩ := ih (by omega)
                  obtain ⟨qs, cs', k1, k2, k3, k4⟩ := one (len - (d + 1)) (by omega)
                  have hql := OkShs.len k1
                  have hpc : PCells w (fun _ => False) qs b (o + (len - (d + 1)) * P.cellsOf e) := PCells_of k2 (fun i hi => by
                    have := k4 i (by omega)
                    rw [addr] at this
                    exact this)
                  have hnext : o + (len - (d + 1)) * P.cellsOf e + es.length = o + (len - d) * P.cellsOf e := by
                    rw [hc1, show len - d = (len - (d + 1)) + 1 by omega, Nat.add_mul]
                    omega
                  cases ha : aggOf P e with
                  | true =>
                    refine ⟨.agg qs :: xs, by simp [h1], ?_, ?_⟩
                    · simp only [PElems]
                      exact ⟨hpc, by rw [hql, hnext]; exact h2⟩
                    · intro x hx
                      rcases List.mem_cons.1 hx with rfl | hx
                      · exact ⟨fun _ => ⟨qs, rfl, k1⟩, fun h => (by cases h)⟩
                      · have := h3 x hx; rw [ha] at this; exact this
                  | false =>
                    have he1 : es.length = 1 := by rcases hc3 with h | h; rw [ha] at h; cases h; exact h
                    obtain ⟨q, rfl⟩ := List.length_eq_one_iff.1 (hql.trans he1)
                    obtain ⟨s, rfl⟩ := List.length_eq_one_iff.1 he1
                    have hnext' : o + (len - (d + 1)) * P.cellsOf e + 1 = o + (len - d) * P.cellsOf e := hnext
                    refine ⟨q :: xs, by simp [h1], ?_, ?_⟩
                    · simp only [PCells] at hpc
                      exact PElems_cell (OkSh_ne (OkShs_one k1)) hpc.1 (by rw [hnext']; exact h2)
                    · intro x hx
                      rcases List.mem_cons.1 hx with rfl | hx
                      · exact ⟨fun h => (by cases h), fun _ => k1⟩
                      · have := h3 x hx; rw [ha] at this; exact this
              obtain ⟨xs, h1, h2, h3⟩ := build len (Nat.le_refl _)
              rw [Nat.sub_self, Nat.zero_mul, Nat.add_zero] at h2
              refine ⟨[.lst xs], ?_, ?_⟩
              · simp only [OkShs, OkSh]
                exact ⟨_, _, rfl, ⟨xs, rfl, by omega, h3⟩, rfl⟩
              · simp only [PRels, PRel]
                exact ⟨_, _, rfl, ⟨_, len, cap, rfl, h1.symm, hl, fun _ => ⟨b, o, rfl, hbl, fun h => h, h2⟩⟩, rfl⟩
        · cases h
      · cases h
    · rename_i fs ht
      split at h
      · rename_i es hes
        split at h
        · rename_i hc
          injection h with h; subst h
          obtain ⟨xs, m, rfl, _, hl, hxl, hf⟩ := DataW.trod_struct ht hx
          have go : ∀ (r : List Field) (i off : Nat) (ds : List Sh), fs.toList.drop i = r → shFields P (shOf P f) off r = some ds → cs.length = off + ds.length →
              ∃ ps, OkShs ds ps ∧ PRels w (fun _ => False) ps (cs.drop off) := by
            intro r
            induction r with
            | nil =>
              intro i off ds _ hd hlen
              simp only [shFields, Option.some.injEq] at hd
              subst hd
              refine ⟨[], by simp [OkShs], ?_⟩
              rw [List.drop_eq_nil_of_le (by simpa using Nat.le_of_eq hlen)]
              simp [PRels]
            | cons fl r ih =>
              intro i off ds hdrop hd hlen
              simp only [shFields] at hd
              split at hd
              · rename_i c1 hc1
                split at hd
                · rename_i ho
                  split at hd
                  · rename_i d2 hd2
                    injection hd with hd; subst hd
                    obtain ⟨ho1, ho2⟩ := ho
                    rw [List.length_append] at hlen
                    have hfi : fs[i]? = some fl := by
                      have : fs.toList[i]? = some fl := by
                        have := congrArg List.head? hdrop
                        rw [List.head?_drop] at this
                        simpa using this
                      simpa using this
                    have hilt : i < fs.size := by
                      rw [Array.getElem?_eq_some_iff] at hfi
                      exact hfi.1
                    have h1 := hf i fl hfi
                    rw [List.getElem?_eq_getElem (show i < xs.length by omega), ho1] at h1
                    obtain ⟨ps, p1, p2⟩ := trod_sh f fl.type c1 hc1 _ _ _ h1
                    have hdrop' : fs.toList.drop (i + 1) = r := by
                      rw [← List.tail_drop, hdrop]; rfl
                    obtain ⟨qs, q1, q2⟩ := ih (i + 1) (off + c1.length) d2 hdrop' hd2 (by omega)
                    refine ⟨ps ++ qs, p1.append q1, ?_⟩
                    have : cs.drop off = (cs.drop off).take (P.cellsOf fl.type) ++ cs.drop (off + c1.length) := by
                      rw [ho2, ← List.drop_drop, List.take_append_drop]
                    rw [this]
                    exact PRels.app p2 q2
                  · cases hd
                · cases hd
              · cases hd
          have := go fs.toList 0 0 es rfl hes (by omega)
          simpa using this
        · cases h
      · cases h
    · cases h
end
end Go.Vc

namespace Go.Vc
open Go.RowKit Go.ChangeShapes Go.WideShapes Go.ChangeAt

/-! ## A law's statement out of its contract -/
def topOf (P : Program) (t : TypeId) : Option (Bool × List Sh) := match P.underlying t with
  | some (.struct _) => match shOf P 12 t with
    | some ss => some (true, ss)
    | none => none
  | some .bool | some (.int _) | some .string | some (.slice _) => match shOf P 12 t with
    | some ss => some (false, ss)
    | none => none
  | _ => none
def topsOf (P : Program) : List TypeId → Option (List (Bool × List Sh))
  | [] => some []
  | t :: ts => match topOf P t, topsOf P ts with
    | some a, some shs => some (a :: shs)
    | _, _ => none
def ArgOk : Bool × List Sh → PV → Prop
  | (true, ss), p => ∃ qs, p = .agg qs ∧ OkShs ss qs
  | (false, ss), p => OkShs ss [p]
def ArgsOk : List (Bool × List Sh) → List PV → Prop
  | [], ps => ps = []
  | a :: shs, ps => ∃ p r, ps = p :: r ∧ ArgOk a p ∧ ArgsOk shs r

section
variable {H : Type} {enc : TypeId × Value → H} {P : Program} {w : World} {base : Nat} {spare : Nat → Bool} {held : Bool} {r : Reach} {b0 : Nat}

theorem arg_one {t : TypeId} {ss : List Sh} {v : Value} {d : DataW H} {p : List MemPlace} (hv : v.cells.toList = [v]) (ht : shOf P 12 t = some ss) (h : DataW.Trod enc P w base spare held t v d p) :
    ∃ q, ArgOk (false, ss) q ∧ PRel w (fun _ => False) q v := by
  obtain ⟨n, hn⟩ := h
  obtain ⟨ps, h1, h2⟩ := trod_sh 12 t ss ht _ _ _ hn
  rw [hv] at h2
  have hl := PRels.length h2
  obtain ⟨q, rfl⟩ := List.length_eq_one_iff.1 (show ps.length = 1 from hl.symm)
  refine ⟨q, h1, ?_⟩
  simp only [PRels] at h2
  obtain ⟨v', r', e, h3, _⟩ := h2
  injection e with e1 e2
  subst e1
  exact h3
theorem arg_pv {t : TypeId} {a : Bool × List Sh} {v : Value} {d : DataW H} {p : List MemPlace} (ht : topOf P t = some a) (hv : Value.okWide P w r b0 t v) (h : DataW.Trod enc P w base spare held t v d p) :
    ∃ q, ArgOk a q ∧ PRel w (fun _ => False) q v := by
  unfold topOf at ht
  split at ht
  · rename_i fs hu
    split at ht
    · rename_i ss hs
      injection ht with ht; subst ht
      obtain ⟨cs, rfl, _⟩ := okWide_struct hu hv
      obtain ⟨n, hn⟩ := h
      obtain ⟨ps, h1, h2⟩ := trod_sh 12 t ss hs _ _ _ hn
      exact ⟨.agg ps, ⟨ps, rfl, h1⟩, by simp only [PRel]; exact ⟨cs.toList, rfl, h2⟩⟩
    · cases ht
  · rename_i hu
    split at ht
    · rename_i ss hs
      injection ht with ht; subst ht
      obtain ⟨b, rfl⟩ := okWide_bool hu hv
      exact arg_one rfl hs h
    · cases ht
  · rename_i k hu
    split at ht
    · rename_i ss hs
      injection ht with ht; subst ht
      obtain ⟨b, rfl⟩ := okWide_int hu hv
      exact arg_one rfl hs h
    · cases ht
  · rename_i hu
    split at ht
    · rename_i ss hs
      injection ht with ht; subst ht
      obtain ⟨b, rfl⟩ := okWide_string hu hv
      exact arg_one rfl hs h
    · cases ht
  · rename_i e hu
    split at ht
    · rename_i ss hs
      injection ht with ht; subst ht
      obtain ⟨_, _, _, rfl⟩ := okWide_slice hu hv
      exact arg_one rfl hs h
    · cases ht
  · cases ht
theorem args_pv : ∀ {ts : List TypeId} {shs : List (Bool × List Sh)} {vs : List Value} {ds : List (DataW H)} {ps : List MemPlace}, topsOf P ts = some shs → DataW.TrodAll enc P w base spare held ts vs ds ps →
    (∀ (j : Nat) t v, ts[j]? = some t → vs[j]? = some v → Value.okWide P w r b0 t v) → ds.length = ts.length ∧ ∃ qs, ArgsOk shs qs ∧ PRels w (fun _ => False) qs vs
  | [], shs, vs, ds, ps, ht, h, _ => by
    simp only [topsOf, Option.some.injEq] at ht
    subst ht
    obtain ⟨rfl, rfl, _⟩ := trodAll_nil h
    exact ⟨rfl, [], rfl, by simp only [PRels]⟩
  | t :: ts, shs, vs, ds, ps, ht, h, hv => by
    simp only [topsOf] at ht
    split at ht
    · rename_i a as' h1 h2
      injection ht with ht; subst ht
      obtain ⟨v, vs', d, ds', p, q, rfl, rfl, rfl, h3, h4⟩ := trodAll_cons h
      obtain ⟨x, h5, h6⟩ := arg_pv h1 (hv 0 t v rfl rfl) h3
      obtain ⟨hl, xs, h7, h8⟩ := args_pv h2 h4 (fun j t' v' hj hj' => hv (j + 1) t' v' (by simpa using hj) (by simpa using hj'))
      exact ⟨by simp [hl], x :: xs, ⟨x, xs, rfl, h5, h7⟩, by simp only [PRels]; exact ⟨v, vs', rfl, h6, h8⟩⟩
    · cases ht
theorem trodAll_stays (hl : laidOutB P = true) {W W' : World} (hb : Below W.heap.size W W') : ∀ {ts : List TypeId} {vs : List Value} {ds : List (DataW H)} {ps : List MemPlace},
    (∀ t ∈ ts, P.readableRec t = true ∧ t < P.types.size) → DataW.TrodAll enc P W 0 (fun _ => true) true ts vs ds ps →
    DataW.TrodAll enc P W' 0 (fun b => decide (b < W.heap.size)) true ts vs ds ps
  | [], _, _, _, _, h => by
    obtain ⟨rfl, rfl, rfl⟩ := trodAll_nil h
    exact trodAll_mk0
  | t :: ts, _, _, _, hr, h => by
    obtain ⟨v, vs', d, ds', p, q, rfl, rfl, rfl, h3, h4⟩ := trodAll_cons h
    have lt : ∀ x ∈ p, x.block < W.heap.size := by obtain ⟨m, hm⟩ := h3; exact DataW.trod_lt m _ _ _ hm
    exact trodAll_cons_mk (RowKit.Below.trod hl (hr t (by simp)).1 (hr t (by simp)).2 h3 hb.toGo lt) (trodAll_stays hl hb (fun t' ht' => hr t' (by simp [ht'])) h4)

theorem law_lifted {C : Checked} {os : Os} {f : FuncId} {fn : Func} {s : ChangeSpec} {conds : List PathCond} {shs : List (Bool × List Sh)} {tb : TypeId}
    (own : ownKnob C.prog.godebug = none) (started : os.Started) (noInit : C.prog.inits.idxOf? f = none) (hfn : C.prog.funcs[f]? = some fn)
    (witness : ∃ (w : World) (tape : Tape) (i : Input), w.os = os ∧ (w.forCall tape i).Shaped C.prog ∧ i.vars = [] ∧ Input.okWide C.prog (w.forCall tape i) .any w.heap.size f i ∧
      s.pre6 enc C.prog fn conds false (w.forCall tape i).memory i.args ∧ ({} : Assume).holds C.prog (lone (Frame.enter C.prog f i.args .normal) [] (w.forCall tape i)))
    (hvars : s.vars = []) (hres : fn.resultTypes = #[tb]) (htb : C.prog.underlying tb = some .bool) (laid : laidOutB C.prog = true)
    (hread : fn.params.toList.all (fun t => C.prog.readableRec t && decide (t < C.prog.types.size)) = true) (htop : topsOf C.prog fn.params.toList = some shs)
    (hs : ∀ ds : List (DataW H), ds.length = fn.params.toList.length → s.fn H ds = { results := [.lit (.bool true)], args := ds })
    (law : ∀ qs, ArgsOk shs qs → Fn C.prog f qs (.pv (.sc (.bool true))) []) (hT : ∀ w, Tabs C.prog w (fun _ => False)) :
    ReturnsInHanded {} C os f .any (s.pre6 enc C.prog fn conds false) (s.post enc C.prog fn false true false false) := by
  refine returnsInHanded_of_change own started noInit hfn witness ?_
  intro W base args ds gs before hval hW _ _
  have hW' := hW
  obtain ⟨p, q, hA0, hV, rfl, _, _⟩ := hW
  have hA : DataW.TrodAll enc C.prog W 0 (fun _ => true) true fn.params.toList args.toList ds p := hA0
  rw [hvars] at hV
  obtain ⟨rfl, rfl⟩ := trodVars_none hV
  obtain ⟨hl, qs, hok, hrel⟩ := args_pv (r := .any) (b0 := base) htop hA (fun j t v h1 h2 => hval j t v (by simpa using h1) (by simpa using h2))
  have hf := (law qs hok).2 W (fun _ => False) args.toList (fun b h => h.elim) (hT W) hrel
  refine hf.mono fun e W' h => ?_
  obtain ⟨cv, y, rfl, rfl, hr⟩ := h
  have hcv := hr.val
  simp only [VRel, PRel] at hcv
  subst hcv
  have hread' : ∀ t ∈ fn.params.toList, C.prog.readableRec t = true ∧ t < C.prog.types.size := by
    intro t ht
    have := List.all_eq_true.1 hread t ht
    simpa using this
  have hst := trodAll_stays laid hr.below hread' hA
  refine ⟨_, rfl, ds, [], p ++ [], [], p, [], hW', ?_, ?_, ?_, hr.below.toGo.frame _, fun h => by cases h⟩
  · rw [List.append_nil, hs ds hl, hres]
    exact trodAll_mk1 (shut_bool htb true)
  · rw [List.append_nil, hs ds hl]
    exact hst
  · rw [List.append_nil, hs ds hl, hvars]
    rfl
end
end Go.Vc

namespace Go.Vc
open Go.RowKit

/-! ## A result's own row as a value -/
theorem Res.row_pv {w : World} {F : Nat → Prop} {y : Cx} {v : AV} {s : Nat} {xs : List PV} {cv cr : Value} (hF : ∀ b, F b → b < w.heap.size) (h : Res w F y v [(s, xs)] cv) (hr : VRel y (.row 0 0 xs.length) cr) :
    PRel y.w F (.lst xs) cr := by
  have hrow := h.rows 0 s xs rfl
  have hfr := h.fresh 0 (by simp)
  simp only [Row.rel] at hrow
  simp only [VRel] at hr
  simp only [PRel]
  rcases hr with ⟨h0, _, a, rfl⟩ | ⟨c, hok, rfl, h2, h3, h4⟩
  · exact ⟨a, 0, 0, rfl, h0.symm, Nat.le_refl _, fun hn => absurd hn (by omega)⟩
  · refine ⟨_, xs.length, c, rfl, rfl, h2, fun hn => ?_⟩
    rcases hrow with ⟨h5, _⟩ | ⟨hs, _, _, _, ⟨arr, et, hh, _⟩, hE⟩
    · rw [h5] at hok; cases hok
    · refine ⟨_, _, rfl, (Array.getElem?_eq_some_iff.1 hh).1, fun hb => ?_, ?_⟩
      · have := hF _ hb
        have := hfr hok
        omega
      · have := PElems.kept (x := y) (y := ⟨y.w, F, y.ρ⟩) ⟨Nat.le_refl _, fun _ _ _ => rfl, fun b _ hb => (h.F b).2 (.inl hb)⟩ xs (fun hc => hc) hE
        simpa using this
theorem Fn.map {P : Program} {f : FuncId} {args : List PV} {v v' : AV} {rs : List (Nat × List PV)} (h : Fn P f args v rs)
    (hm : ∀ (w : World) (F : Nat → Prop) (y : Cx) (cv : Value), (∀ b, F b → b < w.heap.size) → Res w F y v rs cv → VRel ⟨y.w, F, y.ρ⟩ v' cv) : Fn P f args v' [] := by
  refine ⟨h.1, fun w F vs hF htb hvs => ?_⟩
  refine Calls.mono (h.2 w F vs hF htb hvs) ?_
  rintro en w' ⟨cv, y, he, hw, hr⟩
  exact ⟨cv, ⟨y.w, F, y.ρ⟩, he, hw, ⟨hr.below, hm w F y cv hF hr, fun i s xs hi => by simp at hi, fun i j hi => by simp at hi, fun i hi => by simp at hi, fun b => by simp⟩⟩
/-- a function that hands over a row may as well hand over a value -/
theorem Fn.row {P : Program} {f : FuncId} {args : List PV} {s n : Nat} {xs : List PV} (h : Fn P f args (.row 0 0 n) [(s, xs)]) (hn : n = xs.length) : Fn P f args (.pv (.lst xs)) [] := by
  subst hn
  refine h.map fun w F y cv hF hr => ?_
  simp only [VRel]
  exact hr.row_pv hF hr.val
end Go.Vc

namespace Go.Vc
set_option linter.unusedSimpArgs false

/-! ## What every program's contracts lean on -/
abbrev pS (s : ByteArray) : PV := .sc (.string s)
abbrev pI (n : Int) : PV := .sc (.int .i64 n)
abbrev pU (n : Int) : PV := .sc (.int .u64 n)
abbrev pB (b : Bool) : PV := .sc (.bool b)
abbrev p8 (n : Int) : PV := .sc (.int .u8 n)
theorem take_snoc {α : Type} [Inhabited α] {l : List α} {i : Nat} (h : i < l.length) : l.take (i + 1) = l.take i ++ [l[i]] := by
  rw [List.take_add_one, List.getElem?_eq_getElem h]; rfl
theorem getD_get {α : Type} [Inhabited α] {l : List α} {i : Nat} (h : i < l.length) : l.getD i default = l[i] := by simp [List.getD_eq_getElem?_getD, h]
theorem getD_map {α : Type} {f : α → PV} {l : List α} {i : Nat} (h : i < l.length) : (l.map f).getD i default = f l[i] := by simp [List.getD_eq_getElem?_getD, h]
theorem take_len_map {α β : Type} (f : α → β) (l : List α) : List.take l.length (l.map f) = l.map f := List.take_of_length_le (by simp)
theorem filt_snoc {α : Type} [Inhabited α] {q : α → Bool} {l : List α} {i : Nat} (h : i < l.length) : (l.take (i + 1)).filter q = (l.take i).filter q ++ if q l[i] = true then [l[i]] else [] := by
  rw [take_snoc h, List.filter_append]
  cases hq : q l[i] <;> simp [hq]
theorem filt_le {α : Type} {q : α → Bool} {l : List α} {i : Nat} : ((l.take i).filter q).length ≤ l.length := Nat.le_trans (List.length_filter_le _ _) (by simp; omega)
theorem wf_map {α : Type} {f : α → PV} {s : Nat} (h : ∀ a, (f a).cells.length = s ∧ ∀ c ∈ (f a).cells, c.one = true) (l : List α) : WfL s (l.map f) := fun p hp => by
  obtain ⟨a, _, rfl⟩ := List.mem_map.1 hp
  exact h a
abbrev us (l : List Int) : PV := .lst (l.map pU)
theorem wf_us (l : List Int) : WfL 1 (l.map pU) := wf_map (f := pU) (s := 1) (fun a => ⟨rfl, fun c hc => by simp only [PV.cells, List.mem_cons, List.not_mem_nil, or_false] at hc; subst hc; rfl⟩) l
theorem any_no {α : Type} {q : α → Bool} {l : List α} (h : ∀ j (hj : j < l.length), q l[j] = false) : l.any q = false := by
  rw [List.any_eq_false]
  intro x hx
  obtain ⟨j, hj, rfl⟩ := List.mem_iff_getElem.1 hx
  simp [h j hj]
/-- the first place, or -1 -/
def idxA {α : Type} (q : α → Bool) (l : List α) : Int := if l.any q then (l.findIdx q : Int) else -1
theorem idxA_yes {α : Type} {q : α → Bool} {l : List α} {i : Nat} (h : i < l.length) (h1 : q l[i] = true) (h2 : ∀ j (hj : j < l.length), j < i → q l[j] = false) : idxA q l = i := by
  have h3 : l.any q = true := List.any_eq_true.2 ⟨_, List.getElem_mem h, h1⟩
  have h4 : l.findIdx q = i := (List.findIdx_eq h).2 ⟨h1, fun j hji => h2 j (by omega) hji⟩
  simp [idxA, h3, h4]
theorem idxA_no {α : Type} {q : α → Bool} {l : List α} (h : ∀ j (hj : j < l.length), q l[j] = false) : idxA q l = -1 := by simp [idxA, any_no h]
theorem idxA_lt {α : Type} (q : α → Bool) (l : List α) : (idxA q l = -1 ∧ ∀ x ∈ l, q x = false) ∨ ∃ n, ∃ h : n < l.length, idxA q l = n ∧ q l[n] = true ∧ ∀ j (hj : j < l.length), j < n → q l[j] = false := by
  cases ha : l.any q with
  | false =>
    rw [List.any_eq_false] at ha
    exact .inl ⟨by simp [idxA]; simpa using ha, fun x hx => by simpa using ha x hx⟩
  | true =>
    obtain ⟨x, hx, hq⟩ := List.any_eq_true.1 ha
    have hlt : l.findIdx q < l.length := List.findIdx_lt_length_of_exists ⟨x, hx, hq⟩
    refine .inr ⟨_, hlt, by simp [idxA, ha], List.findIdx_getElem (w := hlt), fun j hj hjn => ?_⟩
    have := List.not_of_lt_findIdx hjn
    simpa using this
/-! an order of octets -/
end Go.Vc

namespace Go.Vc

/-! ## Arguments of a law, out of their shapes -/
theorem args2 {a b : Bool × List Sh} {qs : List PV} (h : ArgsOk [a, b] qs) : ∃ p q, qs = [p, q] ∧ ArgOk a p ∧ ArgOk b q := by
  simp only [ArgsOk] at h
  obtain ⟨p, _, rfl, h1, q, _, rfl, h2, rfl⟩ := h
  exact ⟨p, q, rfl, h1, h2⟩
theorem map_of {α : Type} {f : α → PV} : ∀ {xs : List PV}, (∀ x ∈ xs, ∃ a, x = f a) → ∃ l : List α, xs = l.map f
  | [], _ => ⟨[], rfl⟩
  | x :: xs, h => by
    obtain ⟨a, rfl⟩ := h x (by simp)
    obtain ⟨l, rfl⟩ := map_of (xs := xs) (fun y hy => h y (by simp [hy]))
    exact ⟨a :: l, rfl⟩
theorem ints_of {k : IntKind} {p : PV} (h : OkSh (.lst false [.int k]) p) : ∃ l : List Int, p = .lst (l.map fun n => .sc (.int k n)) ∧ l.length ≤ 9223372036854775807 ∧ ∀ x ∈ l, (Lit.int k x).wf = true := by
  simp only [OkSh] at h
  obtain ⟨xs, rfl, hl, hx⟩ := h
  obtain ⟨l, rfl⟩ := map_of (f := fun n : Int => PV.sc (.int k n)) (fun x hx' => by
    have := (hx x hx').2 trivial
    simp only [OkShs, OkSh] at this
    obtain ⟨_, _, e, ⟨n, rfl, _⟩, rfl⟩ := this
    injection e with e1 _
    exact ⟨n, e1⟩)
  refine ⟨l, rfl, by simpa [maxLen] using hl, fun x hx' => ?_⟩
  have := (hx _ (List.mem_map_of_mem hx')).2 trivial
  simp only [OkShs, OkSh] at this
  obtain ⟨_, _, e, ⟨n, rfl, hn⟩, rfl⟩ := this
  injection e with e1 _
  injection e1 with e1
  injection e1 with _ e1
  rw [e1]
  exact hn
end Go.Vc

namespace Go.Vc
open Go.RowKit Go.Proofs Go.Shelf Go.Lib Go.Sort
set_option linter.unusedSimpArgs false
set_option linter.unusedVariables false
set_option linter.constructorNameAsVariable false

/-! ## 'slices.SortFunc', out of the shelf -/
theorem below_grow {w w' : World} (h : Go.Vc.Below w.heap.size w w') : ∃ q os', w' = grow (w.drewN q) os' := by
  refine ⟨w'.drawn - w.drawn, w'.heap.extract w.heap.size w'.heap.size, ?_⟩
  obtain ⟨h1, h2, h3, h4, h5, h6⟩ := h
  have e1 : w.drawn + (w'.drawn - w.drawn) = w'.drawn := by omega
  have e2 : w.heap ++ w'.heap.extract w.heap.size w'.heap.size = w'.heap := by
    apply Array.ext_getElem?
    intro k
    rw [Array.getElem?_append]
    by_cases hk : k < w.heap.size
    · rw [if_pos hk]; exact (h5 k hk).symm
    · rw [if_neg hk, Array.getElem?_extract]
      by_cases hk2 : k < w'.heap.size
      · rw [if_pos (by omega)]; congr 1; omega
      · rw [if_neg (by omega), Array.getElem?_eq_none (by omega)]
  cases w; cases w'
  simp only [grow, World.drewN] at *
  subst h1; subst h2; subst h3
  simp [e1, e2]
section
variable {P : Program} {α : Type} [Inhabited α] {pv : α → PV} {enc : α → List Value} {k : Nat}

omit [Inhabited α] in
theorem flat_enc (he : ∀ x, pv x = .agg ((enc x).map .sc)) : ∀ d : List α, flat (d.map pv) = (d.flatMap enc).map .sc
  | [] => rfl
  | x :: d => by simp only [List.map_cons, flat, he, PV.cells, flat_enc he d, List.flatMap_cons, List.map_append]
theorem rels_sc_eq {w : World} {F : Nat → Prop} : ∀ {L : List Value} {vs : List Value}, PRels w F (L.map .sc) vs → vs = L
  | [], _, h => by simpa [PRels] using h
  | v :: L, _, h => by
    simp only [List.map_cons, PRels, PRel] at h
    obtain ⟨u, r, rfl, rfl, h⟩ := h
    rw [rels_sc_eq h]
theorem flatMap_get (hk : ∀ x, (enc x).length = k) (hk0 : 0 < k) : ∀ (d : List α) (j : Nat), j < d.length * k → (d.flatMap enc)[j]? = (enc (d.toArray[j / k]!))[j % k]?
  | [], j, h => by simp at h
  | x :: d, j, h => by
    rw [List.flatMap_cons]
    by_cases hj : j < k
    · rw [List.getElem?_append_left (by rw [hk]; exact hj), Nat.div_eq_of_lt hj, Nat.mod_eq_of_lt hj]
      rfl
    · rw [List.getElem?_append_right (by rw [hk]; omega), hk]
      have h' : j - k < d.length * k := by rw [List.length_cons, Nat.succ_mul] at h; omega
      rw [flatMap_get hk hk0 d (j - k) h']
      have e1 : j / k = (j - k) / k + 1 := by
        have : j = (j - k) + k := by omega
        conv => lhs; rw [this]
        exact Nat.add_div_right _ hk0
      have e2 : j % k = (j - k) % k := by
        have : j = (j - k) + k := by omega
        conv => lhs; rw [this]
        exact Nat.add_mod_right _ _
      rw [e1, e2]
      congr 2
      simp [List.getElem!_eq_getElem?_getD]
omit [Inhabited α] in
theorem flatMap_len (hk : ∀ x, (enc x).length = k) : ∀ d : List α, (d.flatMap enc).length = d.length * k
  | [] => by simp
  | x :: d => by rw [List.flatMap_cons, List.length_append, hk, flatMap_len hk d, List.length_cons, Nat.succ_mul]; omega
theorem flatK_at (hk : ∀ x, (enc x).length = k) (hk0 : 0 < k) (d : List α) (j : Nat) (h : j < d.length * k) : (d.flatMap enc)[j]? = some (flatK enc k d.toArray)[j]! := by
  rw [flatMap_get hk hk0 d j h, get_flatK enc k d.toArray j (by simpa using h)]
  have hm : j % k < (enc d.toArray[j / k]!).length := by rw [hk]; exact Nat.mod_lt _ hk0
  rw [List.getElem?_eq_getElem hm]
  congr 1
  exact (getElem!_pos (enc d.toArray[j / k]!) (j % k) hm).symm

theorem fnS_sort {ρ : Ren} (L : SlLaysF0.n6 P ρ) (aE : ∀ w, (isAgg (ρ.t 24)).run P w = .ok true w) (zE : ∀ w, (Go.sizeOf (ρ.t 24)).run P w = .ok k w) (hk0 : 0 < k) (he : ∀ x, pv x = .agg ((enc x).map .sc)) (hk : ∀ x, (enc x).length = k)
    (h1 : ∀ x, ∀ v ∈ enc x, v.oneCell' = true) (cf : α → α → Int) (hO : SWO (ltOf cf)) (hT : ∀ x y, (ltOf cf) x y = false → (ltOf cf) y x = false → x = y) {g : FuncId} (hg : ∀ x y, Fn P g [pv x, pv y] (.pv (.sc (.int .i64 (cf x y)))) [])
    (d : List α) (hd : d.length < 1000000) (nm : Nat) : FnS P (ρ.f 6) [.row nm 0 d.length, .fn g []] [(nm, .sl k (d.map pv))] (.tup []) [(nm, .sl k ((d.mergeSort fun x y => !(ltOf cf) y x).map pv))] := by
  have hwf : ∀ d : List α, WfL k (d.map pv) := fun d p hp => by
    obtain ⟨x, _, rfl⟩ := List.mem_map.1 hp
    rw [he]
    simp only [PV.cells, List.length_map, hk, true_and]
    intro c hc
    obtain ⟨v, hv, rfl⟩ := List.mem_map.1 hc
    exact h1 x v hv
  refine ⟨L.f6.enters rfl, fun x vs hlt htb hlent hv => ?_⟩
  simp only [VRels] at hv
  obtain ⟨u, r, rfl, hu, fv, r', rfl, hf, rfl⟩ := hv
  have hfv : fv = .func (.func g) #[] #[] := by
    simp only [VRel, VRels] at hf
    obtain ⟨vs, rfl, rfl⟩ := hf
    rfl
  subst hfv
  have hrow := hlent.st nm (.sl k (d.map pv)) (by simp)
  have own0 : ∀ {b : Nat} {row : Row}, Own [(nm, row)] x.ρ b ↔ (x.ρ nm).ok = true ∧ (x.ρ nm).blk = b := fun {b row} => by
    constructor
    · rintro ⟨r, w, h1, h2, h3⟩
      simp only [List.mem_singleton, Prod.mk.injEq] at h1
      obtain ⟨rfl, _⟩ := h1
      exact ⟨h2, h3⟩
    · exact fun h => ⟨nm, row, by simp, h.1, h.2⟩
  -- the world behind it, and what is told of it
  have fin : ∀ {w' : World} {row' : Row}, BelowL (Own [(nm, Row.sl k (d.map pv))] x.ρ) x.w w' → row'.rel ⟨w', x.F, x.ρ⟩ (x.ρ nm) → ResS x [(nm, .sl k (d.map pv))] ⟨w', x.F, x.ρ⟩ (.tup []) [(nm, row')] (.tuple #[]) := fun {w' row'} hb hr => {
    below := hb
    val := by simp only [VRel, VRels]; exact ⟨[], rfl, rfl⟩
    st := fun r row hm => by
      simp only [List.mem_singleton, Prod.mk.injEq] at hm
      obtain ⟨rfl, rfl⟩ := hm
      exact hr
    keys := by simp
    inj := fun r row r' row' hm hm' hne => by
      simp only [List.mem_singleton, Prod.mk.injEq] at hm hm'
      exact absurd (hm.1.trans hm'.1.symm) hne
    own := fun r row hm hok => by
      simp only [List.mem_singleton, Prod.mk.injEq] at hm
      obtain ⟨rfl, _⟩ := hm
      exact .inr (own0.2 ⟨hok, rfl⟩)
    F := fun b => by
      rw [own0, own0]
      by_cases h : (x.ρ nm).ok = true ∧ (x.ρ nm).blk = b
      · refine ⟨fun _ => .inr h, fun _ => ?_⟩
        rw [← h.2]; exact hlent.F nm (.sl k (d.map pv)) (by simp) h.1
      · exact ⟨fun hF => .inl ⟨hF, h⟩, fun hF => hF.elim (·.1) fun h' => absurd h' h⟩
    stay := fun _ _ => rfl }
  have none_ : ∀ (p : Option Addr) (cap : Nat), u = .slice p 0 cap → d = [] → Calls P (ρ.f 6) ⟨[u, .func (.func g) #[] #[]]⟩ x.w fun en w' => ∃ cv y, en = .returned cv ∧ y.w = w' ∧ ResS x [(nm, .sl k (d.map pv))] y (.tup []) [(nm, .sl k ((d.mergeSort fun x y => !(ltOf cf) y x).map pv))] cv := by
    intro p cap hu0 hd0
    subst hd0; subst hu0
    refine (AnyF.slices_SortFunc_none L p cap (.func (.func g) #[] #[]) x.w).mono fun en w' ⟨e1, e2⟩ => ?_
    subst e1; subst e2
    exact ⟨_, ⟨x.w, x.F, x.ρ⟩, rfl, rfl, fin (BelowL.refl _ _) (by simpa using hrow)⟩
  simp only [VRel] at hu
  simp only [Row.rel] at hrow
  rcases hu with ⟨hn, _, ad, e1⟩ | ⟨c, hok, e1, hnc, hcap, hlen⟩
  · have : d = [] := List.eq_nil_of_length_eq_zero hn
    exact none_ ad 0 (by rw [e1]) this
  rcases hrow with ⟨h0, _⟩ | ⟨hls, _, ⟨hln, hxc⟩, hwfd, ⟨⟨arr⟩, tb, hh, harr, hao⟩, hE⟩
  · rw [h0] at hok; cases hok
  have hlenk : (d.map pv).length = d.length := List.length_map _
  rw [hls] at harr
  have hbase : (x.ρ nm).base + 0 * (x.ρ nm).s = (x.ρ nm).base := by omega
  rw [hbase] at e1
  have hblk : (x.ρ nm).blk < x.w.heap.size := (Array.getElem?_eq_some_iff.1 hh).1
  have hcells : CellsAt x.w (x.ρ nm).blk (x.ρ nm).base (d.flatMap enc) := by
    rw [PElems.flat_iff, flat_enc he] at hE
    obtain ⟨cvs, k1, k2⟩ := hE.list
    rw [rels_sc_eq k1] at k2
    exact k2
  have hH : HoldsK enc k x.w (x.ρ nm).blk (x.ρ nm).base d.toArray := fun j hj => by
    rw [size_flatK] at hj
    have hj' : j < d.length * k := by simpa using hj
    refine ⟨?_, by simp [World.frozen?, hh]⟩
    exact hcells j _ (flatK_at hk hk0 d j hj')
  have hTab : ∀ m dk os, Tabs P (sortWorldK enc k x.w (x.ρ nm).blk (x.ρ nm).base m dk os) (fun _ => False) := fun m dk os => by
    have h0 : (putRowK enc k (Sort.ahead x.w m) (x.ρ nm).blk (x.ρ nm).base dk).heap = x.w.heap.modify (x.ρ nm).blk (onCells (putCells id (x.ρ nm).base (flatK enc k dk))) := rfl
    have hs : (putRowK enc k (Sort.ahead x.w m) (x.ρ nm).blk (x.ρ nm).base dk).heap.size = x.w.heap.size := by rw [h0]; simp
    refine htb.on (fun b hb hF => ?_) ?_ (fun _ _ h => h.elim)
    · unfold sortWorldK grow
      simp only
      rw [Array.getElem?_append_left (by rw [hs]; exact hb), h0, Array.getElem?_modify, if_neg (fun e : (x.ρ nm).blk = b => hF (e ▸ hlent.F nm (.sl k (d.map pv)) (by simp) hok))]
    · unfold sortWorldK grow
      simp only
      rw [Array.size_append, hs]; omega
  have hcmp : CmpLays P g #[] enc k cf (x.ρ nm).blk (x.ρ nm).base d.toArray.size x.w := fun m os dk hdk a b => by
    have := (hg a b).2 (sortWorldK enc k x.w (x.ρ nm).blk (x.ρ nm).base m dk os) (fun _ => False) [.agg (enc a).toArray, .agg (enc b).toArray] (fun _ h => h.elim) (hTab m dk os) (by
      simp only [PRels, he, PRel]
      exact ⟨_, _, rfl, ⟨_, rfl, rels_sc _⟩, _, _, rfl, ⟨_, rfl, rels_sc _⟩, rfl⟩)
    refine this.mono fun en w' ⟨cv, y, h2, h3, h4⟩ => ?_
    have h5 := h4.val
    simp only [VRel, PRel] at h5
    subst h2; subst h5; subst h3
    exact ⟨rfl, below_grow h4.below⟩
  rw [e1]
  have hS := AnyQ.slices_SortFunc_total L k aE zE enc hk h1 cf hO g #[] (x.ρ nm).blk (x.ρ nm).base c d.toArray x.w (hg default default).1 hcmp hH hblk (by simp; omega) hT
  simp only [List.size_toArray] at hS
  refine hS.mono fun en w' ⟨e2, n, os, e3⟩ => ?_
  subst e2
  obtain ⟨D, hD⟩ : ∃ D : List α, D = d.mergeSort fun x y => !(ltOf cf) y x := ⟨_, rfl⟩
  have hDl : D.length = d.length := by rw [hD]; exact List.length_mergeSort _
  rw [← hD] at e3 ⊢
  have heap0 : (putRowK enc k (Sort.ahead x.w n) (x.ρ nm).blk (x.ρ nm).base D.toArray).heap = x.w.heap.modify (x.ρ nm).blk (onCells (putCells id (x.ρ nm).base (flatK enc k D.toArray))) := rfl
  have hsz0 : (putRowK enc k (Sort.ahead x.w n) (x.ρ nm).blk (x.ρ nm).base D.toArray).heap.size = x.w.heap.size := by rw [heap0]; simp
  have hheap : ∀ b, b < x.w.heap.size → w'.heap[b]? = (x.w.heap.modify (x.ρ nm).blk (onCells (putCells id (x.ρ nm).base (flatK enc k D.toArray))))[b]? := fun b hb => by
    rw [e3]
    unfold sortWorldK grow
    simp only
    rw [Array.getElem?_append_left (by rw [hsz0]; exact hb), heap0]
  have hat : w'.heap[(x.ρ nm).blk]? = some (.cells (putCells id (x.ρ nm).base (flatK enc k D.toArray) ⟨arr⟩) tb (0, 0)) := by
    rw [hheap _ hblk, Array.getElem?_modify, if_pos rfl, hh]
    rfl
  have hH' : HoldsK enc k w' (x.ρ nm).blk (x.ρ nm).base D.toArray := by
    rw [e3]
    exact holdsK_sortWorldK_c enc k x.w (x.ρ nm).blk (x.ρ nm).base d.toArray D.toArray n os hH hblk (by simpa using hDl)
  have hcells' : CellsAt w' (x.ρ nm).blk (x.ρ nm).base (D.flatMap enc) := fun j v hj => by
    have hj' : j < D.length * k := by have := (List.getElem?_eq_some_iff.1 hj).1; rwa [flatMap_len hk] at this
    have := (hH' j (by rw [size_flatK]; simpa using hj')).1
    rw [this]
    rw [flatK_at hk hk0 D j hj'] at hj
    exact hj
  refine ⟨_, ⟨w', x.F, x.ρ⟩, rfl, rfl, fin ?_ ?_⟩
  · refine ⟨by rw [e3]; rfl, by rw [e3]; rfl, by rw [e3]; rfl, ?_, fun b hb hL => ?_, ?_⟩
    · rw [e3]; unfold sortWorldK grow; simp only [Array.size_append, hsz0]; omega
    · rw [hheap b hb, Array.getElem?_modify, if_neg]
      intro hbe
      exact hL (own0.2 ⟨hok, hbe⟩)
    · rw [e3]
      show x.w.drawn ≤ x.w.drawn + n
      omega
  · simp only [Row.rel]
    refine .inr ⟨hls, hok, ⟨by rw [List.length_map, hDl]; rw [hlenk] at hln; exact hln, by rw [List.length_map, hDl]; rw [hlenk] at hxc; exact hxc⟩, hwf D, ⟨_, tb, hat, ?_, ?_⟩, ?_⟩
    · rw [hls]
      simp only [putCells, Array.size_mapIdx]
      simpa using harr
    · intro cc hcc
      simp only [putCells, Array.toList_mapIdx, List.mem_mapIdx] at hcc
      obtain ⟨i, hi, rfl⟩ := hcc
      split
      · rename_i hin
        rw [size_flatK] at hin
        have hj' : i - (x.ρ nm).base < D.length * k := by simp at hin; omega
        have h5 := flatK_at hk hk0 D _ hj'
        have h6 := List.mem_of_getElem? h5
        obtain ⟨z, _, hz⟩ := List.mem_flatMap.1 h6
        exact h1 z _ hz
      · exact hao _ (List.getElem_mem hi)
    · rw [PElems.flat_iff, flat_enc he]
      exact PCells.of (rels_sc _) hcells'
end
end Go.Vc

namespace Go.Vc
open Go.RowKit
set_option linter.unusedSimpArgs false
set_option linter.unusedVariables false

/-! ## A box's nil slice, as a row of its own that has no block yet; told anew at a loop's head -/
theorem mem_stDel : ∀ {l : List (Nat × Row)} {k : Nat} {e : Nat × Row}, e ∈ l → e.1 ≠ k → e ∈ stDel l k
  | [], _, _, h, _ => by cases h
  | (k', v) :: l, k, e, h, hk => by
    simp only [stDel]
    rcases List.mem_cons.1 h with h | h
    · subst h
      rw [if_neg hk]; simp
    · have := mem_stDel h hk
      split
      · exact this
      · exact List.mem_cons_of_mem _ this
theorem ACells.reset {x : Cx} {v : AV} (hv : ∀ cv, VRel x .e0 cv → VRel x v cv) : ∀ {cs : List AV} {j b o : Nat}, cs.getD j .un = .e0 → ACells x cs b o → ACells x (cs.set j v) b o
  | [], j, b, o, h, _ => by simp at h
  | c :: cs, 0, b, o, h, hc => by
    simp only [List.getD_cons_zero] at h
    subst h
    simp only [ACells, List.set_cons_zero] at hc ⊢
    obtain ⟨⟨u, h1, h2⟩, h3⟩ := hc
    exact ⟨⟨u, h1, hv u h2⟩, h3⟩
  | c :: cs, j + 1, b, o, h, hc => by
    simp only [List.getD_cons_succ] at h
    simp only [ACells, List.set_cons_succ] at hc ⊢
    exact ⟨hc.1, ACells.reset hv h hc.2⟩
theorem SRel.recell {e : Env} {σ : St} {x : Cx} {a : Act} (h : SRel e σ x a) {b : Nat} {cs cs' : List AV} (hm : (b, .box cs) ∈ σ.st) (hl : cs'.length = cs.length) (hc : ∀ bl o, ACells x cs bl o → ACells x cs' bl o) :
    SRel e ⟨σ.fr, (b, .box cs') :: stDel σ.st b⟩ x a := by
  have old : ∀ q u, (q, u) ∈ (b, Row.box cs') :: stDel σ.st b → ∃ u', (q, u') ∈ σ.st ∧ ((q = b ∧ u = .box cs' ∧ u' = .box cs) ∨ u = u') := fun q u hq => by
    rcases List.mem_cons.1 hq with hq | hq
    · injection hq with h1 h2; subst h1; subst h2
      exact ⟨_, hm, .inl ⟨rfl, rfl, rfl⟩⟩
    · exact ⟨u, (stDel_mem hq).1, .inr rfl⟩
  have own : ∀ bb, Own ((b, Row.box cs') :: stDel σ.st b) x.ρ bb ↔ Own σ.st x.ρ bb := fun bb => by
    constructor
    · rintro ⟨q, u, h1, h2⟩
      obtain ⟨u', h3, _⟩ := old q u h1
      exact ⟨q, u', h3, h2⟩
    · rintro ⟨q, u, h1, h2⟩
      by_cases hq : q = b
      · subst hq; exact ⟨q, _, List.mem_cons_self .., h2⟩
      · exact ⟨q, u, List.mem_cons_of_mem _ (mem_stDel h1 hq), h2⟩
  exact { h with
    st := fun q u hq => by
      obtain ⟨u', h1, h2⟩ := old q u hq
      rcases h2 with ⟨rfl, rfl, rfl⟩ | rfl
      · have := h.st q _ h1
        simp only [Row.rel, hl] at this ⊢
        exact ⟨this.1, this.2.1, hc _ _ this.2.2⟩
      · exact h.st q u h1
    keys := by
      simp only [List.map_cons, List.nodup_cons]
      refine ⟨fun hk => ?_, stDel_keys h.keys⟩
      obtain ⟨⟨q, u⟩, h1, h2⟩ := List.mem_map.1 hk
      exact (stDel_mem h1).2 h2
    inj := fun q u q' u' hq hq' => by
      obtain ⟨u1, h1, _⟩ := old q u hq
      obtain ⟨u2, h2, _⟩ := old q' u' hq'
      exact h.inj q u1 q' u2 h1 h2
    F := fun bb => (h.F bb).trans (or_congr Iff.rfl (own bb).symm)
    own := fun q u hq => by
      obtain ⟨u1, h1, _⟩ := old q u hq
      exact h.own q u1 h1 }
def St.virtB (σ : St) (b j r s : Nat) : St := match stGet σ.st r with
  | none => if r < 200000 then (match stGet (σ.newRow r (.sl s [])).st b with
    | some (.box cs) => (match cs.getD j .un with
      | .e0 => ⟨(σ.newRow r (.sl s [])).fr, (b, .box (cs.set j (.row r 0 0))) :: stDel (σ.newRow r (.sl s [])).st b⟩
      | _ => σ)
    | _ => σ) else σ
  | some _ => σ
theorem SRel.virtB {e : Env} {σ : St} {x : Cx} {a : Act} (h : SRel e σ x a) (b j r s : Nat) : ∃ y, y.w = x.w ∧ SRel e (σ.virtB b j r s) y a := by
  unfold St.virtB
  split
  · split
    · rename_i hr2
      have h3 := h.fresh (w' := x.w) (Below.refl _ _) r (.sl s []) ⟨0, 0, 0, s, false, 0⟩ (fun hf => by cases hf) (.inl ⟨rfl, rfl⟩) hr2
      split
      · rename_i cs hb
        split
        · rename_i hj
          refine ⟨newCx e σ x x.w r (.sl s []) ⟨0, 0, 0, s, false, 0⟩, rfl, h3.recell (stGet_mem hb) (by simp) fun bl o hc => ACells.reset (fun cv h2 => ?_) hj hc⟩
          simp only [VRel] at h2
          unfold VRel
          exact .inl ⟨rfl, fun hk => by simp [newCx, updρ] at hk, h2⟩
        · exact ⟨x, rfl, h⟩
      · exact ⟨x, rfl, h⟩
    · exact ⟨x, rfl, h⟩
  · exact ⟨x, rfl, h⟩
/-- a box's nil slice, as an empty value -/
def St.nilB (σ : St) (b j : Nat) : St := match stGet σ.st b with
  | some (.box cs) => (match cs.getD j .un with
    | .e0 => ⟨σ.fr, (b, .box (cs.set j (.pv (.lst [])))) :: stDel σ.st b⟩
    | _ => σ)
  | _ => σ
theorem SRel.nilB {e : Env} {σ : St} {x : Cx} {a : Act} (h : SRel e σ x a) (b j : Nat) : SRel e (σ.nilB b j) x a := by
  unfold St.nilB
  split
  · rename_i cs hb
    split
    · rename_i hj
      refine h.recell (stGet_mem hb) (by simp) fun bl o hc => ACells.reset (fun cv h2 => ?_) hj hc
      simp only [VRel] at h2
      obtain ⟨a, rfl⟩ := h2
      simp only [VRel, PRel]
      exact ⟨a, 0, 0, rfl, rfl, Nat.le_refl _, fun hn => absurd hn (by omega)⟩
    · exact h
  · exact h
def St.virtBs (σ : St) : List (Nat × Nat × Nat × Nat) → St
  | [] => σ
  | (b, j, r, s) :: l => (if s = 0 then σ.nilB b j else σ.virtB b j r s).virtBs l
theorem SRel.virtBs {e : Env} {a : Act} : ∀ (l : List (Nat × Nat × Nat × Nat)) {σ : St} {x : Cx}, SRel e σ x a → ∃ y, y.w = x.w ∧ SRel e (σ.virtBs l) y a
  | [], _, x, h => ⟨x, rfl, h⟩
  | (b, j, r, s) :: l, σ, x, h => by
    unfold St.virtBs
    split
    · exact SRel.virtBs l (h.nilB b j)
    · obtain ⟨y, h1, h2⟩ := h.virtB b j r s
      obtain ⟨z, h3, h4⟩ := SRel.virtBs l h2
      exact ⟨z, h3.trans h1, h4⟩
theorem Weak.virts (σ : St) (vs : List (Nat × Nat × Nat)) : Weak σ (σ.virts vs) := fun _ _ _ h => h.virts vs
theorem Weak.virtBs (σ : St) (l : List (Nat × Nat × Nat × Nat)) : Weak σ (σ.virtBs l) := fun _ _ _ h => h.virtBs l
attribute [go_sem] St.virtBs St.virtB St.nilB
end Go.Vc

namespace Go.Vc
open Go.RowKit
set_option linter.unusedSimpArgs false
set_option linter.unusedVariables false

/-! ## A family of rows: the slots of a made slice of slices, each with a growing row of its own -/
def tb {α : Type} (n : Nat) (f : Nat → α) : List α := (List.range n).map f


section
variable {e : Env} {σ : St} {x : Cx} {a : Act}
end
/-- at a loop's head: whatever is weaker -/
def GX (keep rows : List Nat) (σ τ : St) : Prop := ∃ υ, Weak σ υ ∧ υ.norm keep rows = τ
theorem run_loopX {P : Program} {R : Exit → St → Prop} {k : List KI} {σ : St} {b : MC} {T : Type} (keep rows : List Nat) (I : T → St) (G : T → Prop) (μ : T → Nat) (t₀ : T)
    (h0 : GX keep rows σ (I t₀)) (hG : G t₀)
    (h : ∀ t, G t → run P R b (.lp (fun σ' => ∃ t', GX keep rows σ' (I t') ∧ G t' ∧ μ t' < μ t) :: k) (I t)) : run P R (.loop b) k σ :=
  run_loopW I (fun σ' t => GX keep rows σ' (I t)) (fun σ' t ⟨τ, h1, h2⟩ => by rw [← h2]; exact h1.trans (Weak.norm _ _ _)) G μ t₀ h0 hG h
theorem Weak.refl' (σ : St) : Weak σ σ := fun e x a h => ⟨x, rfl, h⟩
end Go.Vc
