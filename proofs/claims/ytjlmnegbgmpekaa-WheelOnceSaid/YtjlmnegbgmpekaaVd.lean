/- A part of the proofs of the seat Ytjlmnegbgmpekaa: the layer that turns the code of a function into what is to be shown (verification conditions), proved sound. -/
import Derived.Test.YtjlmnegbgmpekaaVc
import Derived.OrdersHeld
import Derived.LoopN
namespace Go.Vc
open Go.RowKit
set_option linter.constructorNameAsVariable false

/-! ## From the dump's operations to the IR -/
def zav : Value → AV
  | .slice none 0 0 => .e0
  | v => .pv (.sc v)
def zpv : Value → PV
  | .slice none 0 0 => .lst []
  | v => .sc v
def zelem : Value → PV
  | .agg cs => .agg (cs.toList.map zpv)
  | v => zpv v
def onesB : List PV → Bool
  | [] => true
  | p :: ps => p.one && onesB ps


def partsOf (places : List (Nat × Nat)) : List (Nat × Operand) → Option (List (Nat × Nat × Opd))
  | [] => some []
  | (i, y) :: ps => match places[i]?, Opd.of y, partsOf places ps with
    | some (off, n), some z, some r => some ((off, n, z) :: r)
    | _, _, _ => none

def optOf : Option Operand → Option (Option Opd)
  | none => some none
  | some y => match Opd.of y with
    | some z => some (some z)
    | none => none

def isSoftA (owns : List Nat) : Option Nat → Bool
  | some d => owns.contains (d + 1000000)
  | none => false
def isSlotA (owns : List Nat) : Option Nat → Bool
  | some d => owns.contains (d + 2000000)
  | none => false
def isOwn (owns : List Nat) : Option Nat → Bool
  | some d => owns.contains d
  | none => false

def isNilS : Value → Bool
  | .slice none 0 0 => true
  | _ => false
theorem isNilS_eq {v : Value} (h : isNilS v = true) : v = .slice none 0 0 := by
  unfold isNilS at h
  split at h
  · rfl
  · cases h
/-- a map's keys -/
def kkOf (P : Program) (t : TypeId) : Option Kk := match P.underlying t with
  | some (.int _) => some .int
  | some .string => some .str
  | some (.struct fs) => match fieldKinds P 0 fs.toList with
    | some ks => if P.stoodInHeld t = false then some (.st ks) else none
    | none => none
  | some (.array n e) => match P.underlying e, P.info? e with
    | some (.int _), some i => if i.size = 1 then some (.st (List.replicate n 0)) else none
    | _, _ => none
  | _ => none
def zavA : Value → AV
  | .agg cs => mkAgg (cs.toList.map zav)
  | v => zav v
def mapOf? (P : Program) (t : TypeId) : Option (Kk × TypeId) := match P.underlying t with
  | some (.map kt et) => match kkOf P kt with
    | some str => some (str, et)
    | none => none
  | _ => none

def IOp.of (P : Program) (owns : List Nat) (o : Oper) : Option IOp :=
  match o.op with
  | .move x => match Opd.of x with
    | some z => some (.q (.mv z))
    | none => none
  | .assign x => match Opd.of x with
    | some z => some (.q (.mv z))
    | none => none
  | .binOp op t x y _ => match Opd.of x, Opd.of y with
    | some a, some b => match P.underlying t with
      | some .bool => match op with
        | .eql => some (.q (.beq false a b))
        | .neq => some (.q (.beq true a b))
        | _ => none
      | some (.int _) => match op with
        | .shl => some (.q (.shf true a b))
        | .shr => some (.q (.shf false a b))
        | _ => some (.q (.bin op a b))
      | some .string => some (.q (.bin op a b))
      | some (.slice _) => match op, b with
        | .eql, .nil => some (.isnil a false)
        | .neq, .nil => some (.isnil a true)
        | _, _ => none
      | some (.struct fields) => match fieldKinds P 0 fields.toList with
        | some ks => if P.stoodInHeld t = false ∧ P.eqGuardType P.depth t = false then (match op with
            | .eql => some (.q (.seq false ks a b))
            | .neq => some (.q (.seq true ks a b))
            | _ => none) else none
        | none => none
      | some (.array n e) => match P.underlying e, P.info? e with
        | some (.int _), some i => if i.size = 1 ∧ P.eqGuardType P.depth t = false then (match op with
            | .eql => some (.q (.seq false (List.replicate n 0) a b))
            | .neq => some (.q (.seq true (List.replicate n 0) a b))
            | _ => none) else none
        | _, _ => none
      | _ => none
    | _, _ => none
  | .unOp .not _ x => match Opd.of x with
    | some z => some (.q (.not z))
    | none => none
  | .unOp .neg t x => match Opd.of x, P.underlying t with
    | some z, some (.int k) => some (.q (.bin .sub (.c (.int k 0)) z))
    | _, _ => none
  | .pick c x y => match Opd.of c, Opd.of x, Opd.of y with
    | some c, some a, some b => some (.q (.pick c a b))
    | _, _, _ => none
  | .extract x i => match Opd.of x with
    | some z => some (.q (.ext z i))
    | none => none
  | .fieldAddr s x f => match Opd.of x, P.underlying s with
    | some z, some (.struct fields) => match fields[f]? with
      | some fl => match P.info? fl.type with
        | some i => if i.size = 0 then none else some (.q (.fa z fl.offset))
        | none => none
      | none => none
    | _, _ => none
  | .indexAddr t x i => match Opd.of x, Opd.of i with
    | some a, some b => match P.underlying t with
      | some (.slice et) => match P.info? et with
        | some i => some (.q (.ia a b i.size))
        | none => none
      | some (.array len et) => match P.info? et with
        | some i => some (.q (.iaa a b len i.size))
        | none => none
      | _ => none
    | _, _ => none
  | .load t x => match Opd.of x, P.underlying t, P.info? t with
    | some z, some _, some i => some (.q (.ld z i.size (aggOf P t)))
    | _, _, _ => none
  | .field s x f => match Opd.of x, P.underlying s with
    | some z, some (.struct fields) => match fields[f]? with
      | some fl => match P.underlying fl.type, P.info? fl.type with
        | some _, some i => some (.q (.fld z fl.offset i.size (aggOf P fl.type)))
        | _, _ => none
      | none => none
    | _, _ => none
  | .slice t x lo hi none => match Opd.of x, optOf lo, optOf hi with
    | some z, some l, some h => match P.underlying t with
      | some .string => some (.q (.slc z l h 0 true))
      | some (.slice et) => match P.info? et with
        | some i => some (.q (if isOwn owns o.dst then .slcx z l h i.size else .slc z l h i.size false))
        | none => none
      | _ => none
    | _, _, _ => none
  | .slice t x (some lo) (some hi) (some mx) => match Opd.of x, Opd.of lo, Opd.of hi, Opd.of mx, P.underlying t with
    | some z, some l, some h, some m, some (.slice et) => match P.info? et with
      | some _ => some (.q (.chk z l h m))
      | none => none
    | _, _, _, _, _ => none
  | .convert s t x => match Opd.of x, P.underlying s, P.underlying t with
    | some z, some _, some (.int k) => some (.q (.conv k z))
    | some z, some (.slice et), some .string => match P.underlying et with
      | some (.int .u8) => some (.q (.sob z))
      | _ => none
    | _, _, _ => none
  | .build t parts => match P.underlying t, P.info? t with
    | some (.struct fields), some i => match i.zero, placesOf P fields.toList with
      | some zv, some places => match partsOf places parts.toList with
        | some qs => some (.q (.mk (zv.cells.toList.map zav) qs))
        | none => none
      | _, _ => none
    | some (.array n e), some i => match i.zero, P.info? e with
      | some zv, some ie => match partsOf ((List.range n).map fun j => (j * ie.size, ie.size)) parts.toList with
        | some qs => some (.q (.mk (zv.cells.toList.map zav) qs))
        | none => none
      | _, _ => none
    | _, _ => none
  | .makeFunc (.func f) first captured => if first.size = 0 then match opdsOf captured.toList with
      | some zs => some (.q (.clo f zs))
      | none => none
    else none
  | .index t x i => match Opd.of x, Opd.of i, P.underlying t with
    | some a, some b, some .string => some (.q (.idx a b))
    | some a, some b, some (.array n e) => match P.underlying e, P.info? e with
      | some (.int _), some i => if i.size = 1 then some (.q (.idxa a b n)) else none
      | _, _ => none
    | _, _, _ => none
  | .lookup t x i comma => match Opd.of x, Opd.of i, mapOf? P t with
    | some a, some b, some (str, et) => match P.info? et with
      | some i => match i.zero with
        | some zv => some (.q (.mget a b comma str (zavA zv)))
        | none => none
      | none => none
    | _, _, _ => none
  | .makeMap _ none => some .mkm
  | .makeMap t (some y) => match Opd.of y, P.underlying t with
    | some z, some (.map _ _) => some (.mkmr z)
    | _, _ => none
  | .mapUpdate t m k v => match Opd.of m, Opd.of k, Opd.of v, mapOf? P t with
    | some a, some b, some c, some (str, _) => some (.mset a b c str)
    | _, _, _, _ => none
  | .insert t m k v => match Opd.of m, Opd.of k, Opd.of v, mapOf? P t with
    | some a, some b, some c, some (str, _) => some (.mset a b c str)
    | _, _, _, _ => none
  | .range t y => match Opd.of y, P.underlying t with
    | some z, some (.map _ _) => some (.rngm z)
    | some z, some .string => some (.rngs z)
    | _, _ => none
  | .next y str => match Opd.of y with
    | some z => some (if str then .nxts z else .nxtm z)
    | none => none
  | .entry y => match Opd.of y with
    | some z => some (.q (.ent z))
    | none => none
  | .alloc t => match P.info? t with
    | some i => match i.zero with
      | some zv => some (.alloc (zv.cells.toList.map zav))
      | none => none
    | none => none
  | .box _ x => match Opd.of x with
    | some z => some (.box z)
    | none => none
  | .buildSlice t n parts => match P.underlying t with
    | some (.slice et) => match P.info? et with
      | some i => match i.zero, opdsOf (parts.toList.map (·.2)) with
        | some _, some zs => if parts.toList.map (·.1) = List.range n ∧ 0 < i.size then
            some (if isOwn owns o.dst then .own zs i.size else .lits zs i.size) else none
        | _, _ => none
      | none => none
    | _ => none
  | .makeSlice t l c => match Opd.of l, Opd.of c, P.underlying t with
    | some a, some b, some (.slice et) => match P.info? et with
      | some i => match i.zero with
        | some zv => if zv.cells.size = i.size ∧ 0 < i.size ∧ onesB (zelem zv).cells = true then some (if (isOwn owns o.dst && (isNilS zv && i.size == 1)) = true then .mkx a b i.bytes .e0 else .mks a b i.size i.bytes (zelem zv)) else none
        | none => none
      | none => none
    | _, _, _ => none
  | .store t p v => match Opd.of p, Opd.of v, P.info? t with
    | some a, some b, some i => some (.st a b i.size)
    | _, _, _ => none
  | .call c => match c.callee with
    | .builtin .len => match c.args.toList, c.argTypes.toList with
      | [x], [t] => match Opd.of x, P.underlying t with
        | some z, some .string => some (.q (.len z true))
        | some z, some (.slice _) => some (.q (.len z false))
        | some z, some (.map _ _) => some (.q (.mlen z))
        | _, _ => none
      | _, _ => none
    | .builtin .min => match c.args.toList with
      | [x, y] => match Opd.of x, Opd.of y with
        | some a, some b => some (.q (.mm false a b))
        | _, _ => none
      | _ => none
    | .builtin .max => match c.args.toList with
      | [x, y] => match Opd.of x, Opd.of y with
        | some a, some b => some (.q (.mm true a b))
        | _, _ => none
      | _ => none
    | .builtin .append => match c.args.toList, c.argTypes.toList with
      | [x, y], [t, t2] => match Opd.of x, Opd.of y, P.underlying t, P.underlying t2 with
        | some a, some b, some (.slice et), some (.slice _) => match P.info? et with
          | some i => match i.zero with
            | some zv => if zv.cells.size = i.size ∧ onesB (zelem zv).cells = true then some (if (isSlotA owns o.dst && i.size == 1) = true then .appx a b i.bytes else if isSoftA owns o.dst then .appn a b i.size i.bytes else if isOwn owns o.dst then .appi a b i.size i.bytes else .app a b i.size i.bytes) else none
            | none => none
          | none => none
        | some a, some b, some (.slice et), some (.int _) => match P.info? et with
          | some i => match i.zero with
            | some zv => if zv.cells.size = i.size ∧ 0 < i.size ∧ onesB (zelem zv).cells = true then some (.appz a b i.size i.bytes (zelem zv)) else none
            | none => none
          | none => none
        | _, _, _, _ => none
      | _, _ => none
    | .builtin .delete => match c.args.toList, c.argTypes.toList with
      | [x, y], [t, _] => match Opd.of x, Opd.of y, mapOf? P t with
        | some a, some b, some (kk, _) => some (.mdel a b kk)
        | _, _, _ => none
      | _, _ => none
    | .builtin .clear => match c.args.toList, c.argTypes.toList with
      | [x], [t] => match Opd.of x, P.underlying t with
        | some a, some (.slice et) => match P.info? et with
          | some i => match i.zero with
            | some zv => if zv.cells.size = i.size ∧ 0 < i.size ∧ onesB (zelem zv).cells = true then some (.clr a i.size (zelem zv)) else none
            | none => none
          | none => none
        | _, _ => none
      | _, _ => none
    | .builtin .cap => match c.args.toList, c.argTypes.toList with
      | [x], [t] => match Opd.of x, P.underlying t with
        | some a, some (.slice _) => some (.capr a)
        | _, _ => none
      | _, _ => none
    | .builtin .copy => match c.args.toList, c.argTypes.toList with
      | [x, y], [t, _] => match Opd.of x, Opd.of y, P.underlying t with
        | some a, some b, some (.slice et) => match P.info? et with
          | some i => some (.cpy a b i.size)
          | none => none
        | _, _, _ => none
      | _, _ => none
    | .value f => match Opd.of f, opdsOf c.args.toList with
      | some z, some zs => some (if isOwn owns o.dst then .calls z zs else .call z zs)
      | _, _ => none
    | _ => none
  | _ => none

/-! ## What is to be shown -/
def AV.isB : AV → Prop
  | .pv (.sc (.bool _)) => True
  | _ => False
def AV.gvB (b : Bool) : AV → Bool
  | .pv (.sc (.bool c)) => c == b
  | _ => false
def AV.gok : AV → Prop
  | .pv (.sc (.bool _)) => True
  | .whn c v => c = false ∨ v.isB
  | _ => False
def AV.gv (b : Bool) : AV → Bool
  | .pv (.sc (.bool c)) => c == b
  | .whn c' v => c' && v.gvB b
  | _ => false

/-- a callee's contract is wanted -/
def CallVC (P : Program) (g : FuncId) (ps : List PV) (pure : Bool) (k : AV → List (Nat × List PV) → Prop) : Prop :=
  ∃ v rs, Fn P g ps v rs ∧ (pure = true ∨ (v.flat = true ∧ flatRows rs)) ∧ okRows v rs ∧ k v rs
/-- the same of a call that is carried out only where b holds -/
def CallGd (P : Program) (b : Bool) (g : FuncId) (ps : List PV) (pure : Bool) (k : PV → Prop) : Prop :=
  ∃ p, (b = true → Fn P g ps (.pv p) [] ∧ (pure = true ∨ p.flat = true)) ∧ k p

def callArgs (σ : St) (f : Opd) (args : List Opd) : Option (FuncId × List PV × Bool) :=
  match calleeOf (f.sv σ) with
  | some (g, caps) => match snapL (snap σ.st 4) (evs σ args ++ caps) with
    | some ps => some (g, ps, allPure (evs σ args ++ caps))
    | none => none
  | none => none

def intV : AV → Int
  | .pv (.sc (.int _ n)) => n
  | _ => 0

def rowXs : Option Row → List PV
  | some (.sl _ xs) => xs
  | _ => []
def rowIs (s : Nat) : Option Row → Prop
  | some (.sl s' _) => s' = s
  | _ => False

/-- a store -/
def stOk (σ : St) (n : Nat) (v : AV) : AV → Prop
  | .ptr r off => match stGet σ.st r with
    | some (.box cs) => okc v = true ∧ v.cells.length = n ∧ AV.allOne v.cells = true ∧ off + n ≤ cs.length
    | _ => False
  | .rptr r k off => match stGet σ.st r with
    | some (.sl s xs) => 0 < n ∧ okc v = true ∧ v.cells.length = n ∧ (∃ ps, allPv v.cells = some ps ∧ onesB ps = true) ∧ k < xs.length ∧ off + n ≤ s
    | some (.bxs cs) => okc v = true ∧ v.cells.length = n ∧ n = 1 ∧ AV.allOne v.cells = true ∧ off = 0 ∧ k < cs.length
    | _ => False
  | _ => False
def pvsOf (l : List AV) : List PV := match allPv l with
  | some ps => ps
  | none => []
def stTo (σ : St) (v : AV) : AV → St
  | .ptr r off => match stGet σ.st r with
    | some (.box cs) => ⟨σ.fr, (r, .box (lay cs off v.cells)) :: stDel σ.st r⟩
    | _ => σ
  | .rptr r k off => match stGet σ.st r with
    | some (.sl s xs) => ⟨σ.fr, (r, .sl s (xs.set k (setElem (xs.getD k default) off (pvsOf v.cells)))) :: stDel σ.st r⟩
    | some (.bxs cs) => ⟨σ.fr, (r, .bxs (lay cs k v.cells)) :: stDel σ.st r⟩
    | _ => σ
  | _ => σ

/-- an append: the row that it makes, its elements, where the base's own row is named -/
def appRow (d : Nat) : AV → Nat
  | .row r _ _ => r
  | _ => d
def appOld (σ : St) : AV → List PV
  | .row r off n => ((rowXs (stGet σ.st r)).drop off).take n
  | _ => []
def appLen : AV → Nat
  | .row _ _ n => n
  | _ => 0
def appOk (σ : St) (s bytes : Nat) (vb vs : AV) : Prop :=
  (match vb with
    | .e0 => True
    | .row r _ _ => rowIs s (stGet σ.st r) ∧ r < 200000
    | _ => False) ∧
  (match vs with
    | .row r _ _ => rowIs s (stGet σ.st r)
    | _ => True) ∧
  ∃ ps, srcP σ vs = some ps ∧ WfL s ps ∧ (appLen vb + ps.length) * bytes ≤ 140737488355328 ∧ appLen vb + ps.length ≤ 9223372036854775807
def appTo (σ : St) (d s : Nat) (vb vs : AV) : St :=
  (σ.newRow (appRow d vb) (.sl s (appOld σ vb ++ (srcP σ vs).getD []))).put d (.row (appRow d vb) 0 (appLen vb + ((srcP σ vs).getD []).length))

/-- an append of one slot to a slice of slots -/
def slotL : AV → List AV
  | .lit xs => xs
  | _ => []
def appxOlds (σ : St) : AV → List AV
  | .row r _ _ => match stGet σ.st r with
    | some (.bxs cs) => cs
    | _ => []
  | _ => []
def appxOk (σ : St) (bytes : Nat) (vb vs : AV) : Prop :=
  (match vs with
    | .lit [v] => v.one = true
    | _ => False) ∧
  (match vb with
    | .e0 => True
    | .row r off n => (match stGet σ.st r with
      | some (.bxs cs) => off = 0 ∧ n = cs.length ∧ 0 < n
      | _ => False) ∧ r < 200000
    | _ => False) ∧ (appLen vb + 1) * bytes ≤ 140737488355328 ∧ appLen vb + 1 ≤ 9223372036854775807
def appxTo (σ : St) (d : Nat) (vb vs : AV) : St :=
  (σ.newRow (appRow d vb) (.bxs (AV.clips (only (appRow d vb)) (appxOlds σ vb ++ slotL vs)))).put d (.row (appRow d vb) 0 (appLen vb + 1))
/-- an append in place -/
def appiGo (σ : St) (d s bytes : Nat) (K : St → Prop) (vb vs : AV) : Prop := match vb with
  | .row r off n => match stGet σ.st r with
    | some (.sl s' xs) => if off + n < xs.length then s' = s ∧ off < xs.length ∧ (match vs with
        | .row q _ _ => rowIs s (stGet σ.st q)
        | _ => True) ∧ ∃ ps, srcP σ vs = some ps ∧ WfL s ps ∧ off + n + ps.length ≤ xs.length ∧ K (St.put ⟨σ.fr, (r, .sl s (laidAt xs (off + n) ps)) :: stDel σ.st r⟩ d (.row r off (n + ps.length)))
      else appOk σ s bytes (.row r off n) vs ∧ K ((appTo σ d s (.row r off n) vs).frz1 r)
    | some (.slf s' xs) => s' = s ∧ off < xs.length ∧ (match vs with
        | .row q _ _ => rowIs s (stGet σ.st q)
        | _ => True) ∧ ∃ ps, srcP σ vs = some ps ∧ WfL s ps ∧ xs.length < off + n + ps.length ∧ (n + ps.length) * bytes ≤ 140737488355328 ∧ n + ps.length ≤ 9223372036854775807 ∧
          K ((St.newRow ⟨σ.fr, (r, .sl s xs) :: stDel σ.st r⟩ d (.sl s ((xs.drop off).take n ++ ps))).put d (.row d 0 (n + ps.length)))
    | _ => False
  | .e0 => appOk σ s bytes .e0 vs ∧ K ((appTo σ d s .e0 vs).frz1 d)
  | _ => False
/-- 'cap' of an own row, 'copy' into one -/
def caprGo (σ : St) (d : Nat) (K : St → Prop) : AV → Prop
  | .row r off _ => match stGet σ.st r with
    | some (.sl s xs) => off = 0 ∧ r < 200000 ∧ ∀ sp, WfL s sp → K (St.put ⟨σ.fr, (r, .slf s (xs ++ sp)) :: stDel σ.st r⟩ d (vint .i64 ((xs.length + sp.length : Nat) : Int)))
    | _ => False
  | _ => False
def appzGo (σ : St) (d s bytes : Nat) (z : PV) (K : St → Prop) (vb vn : AV) : Prop := match vb, vn with
  | .row r off n, .pv (.sc (.int _ m)) => match stGet σ.st r with
    | some (.slf s' xs) => s' = s ∧ 0 < m ∧ off < xs.length ∧ xs.length < off + n + m.toNat ∧ (n + m.toNat) * bytes ≤ 140737488355328 ∧ n + m.toNat ≤ 9223372036854775807 ∧
        K ((St.newRow ⟨σ.fr, (r, .sl s xs) :: stDel σ.st r⟩ d (.sl s ((xs.drop off).take n ++ List.replicate m.toNat z))).put d (.row d 0 (n + m.toNat)))
    | _ => False
  | _, _ => False
def cpyOf (σ : St) (d s : Nat) (K : St → Prop) (r off n : Nat) (xs : List PV) (vs : AV) : Prop :=
  0 < n ∧ (match vs with
    | .row q _ _ => rowS (stGet σ.st q) = some s
    | _ => True) ∧ ∃ ps N, cpSrc σ vs = some ps ∧ WfL s ps ∧ 0 < N ∧ Nat.min ps.length n = N ∧ K (St.put ⟨σ.fr, (r, .sl s (laidAt xs off (ps.take N))) :: stDel σ.st r⟩ d (vint .i64 (N : Int)))
def cpyGo (σ : St) (d s : Nat) (K : St → Prop) (vd vs : AV) : Prop := match vd with
  | .row r off n => match stGet σ.st r with
    | some (.sl s' xs) => s' = s ∧ cpyOf σ d s K r off n xs vs
    | some (.slf s' xs) => s' = s ∧ cpyOf σ d s K r off n xs vs
    | _ => False
  | _ => False
def clrGo (σ : St) (s : Nat) (z : PV) (K : St → Prop) : AV → Prop
  | .row r off n => match stGet σ.st r with
    | some (.sl s' xs) => s' = s ∧ 0 < xs.length ∧ off + n ≤ xs.length ∧ K ⟨σ.fr, (r, .sl s (laidAt xs off (List.replicate n z))) :: stDel σ.st r⟩
    | _ => False
  | _ => False
/-- the length of a slice, for a test against nil -/
def nilLen : AV → Option Nat
  | .pv (.lst ps) => some ps.length
  | .row _ _ n => some n
  | .e0 => some 0
  | _ => none

/-- a map's entry is laid -/
def msetGo (σ : St) (kk : Kk) (K : St → Prop) : AV → AV → AV → Prop
  | .mp r, .pv k, .pv v => match stGet σ.st r with
    | some (.mp es) => keyIs kk k ∧ keysLike kk k es ∧ K ⟨σ.fr, (r, .mp (mput k v es)) :: stDel σ.st r⟩
    | some (.mpd es clock) => keyIs kk k ∧ keysLike kk k (esD es) ∧ K ⟨σ.fr, (r, .mpd (mputD k v clock es) (clkD k es clock)) :: stDel σ.st r⟩
    | _ => False
  | _, _, _ => False
/-- a map's entry is taken away -/
def mdelGo (σ : St) (kk : Kk) (K : St → Prop) : AV → AV → Prop
  | .mp r, .pv k => match stGet σ.st r with
    | some (.mpd es clock) => keyIs kk k ∧ keysLike kk k (esD es) ∧ K ⟨σ.fr, (r, .mpd (mdelD k es) clock) :: stDel σ.st r⟩
    | _ => False
  | _, _ => False

/-- a map's iterator, a string's -/
def rngmGo (σ : St) (d : Nat) (K : St → Prop) : AV → Prop
  | .mp r => match stGet σ.st r with
    | some (.mp es) => r ≠ d ∧ K ((σ.newRow d (.mit r es.length (List.range es.length) none)).put d (.it d))
    | some (.mpd es clock) => r ≠ d ∧ K ((σ.newRow d (.mid r clock (es.map (·.1)) (List.range es.length) none)).put d (.it d))
    | _ => False
  | _ => False
def rngsGo (σ : St) (d : Nat) (K : St → Prop) : AV → Prop
  | .pv (.sc (.string s)) => K ((σ.newRow d (.sit s 0)).put d (.it d))
  | _ => False
def nxtmGo (σ : St) (d : Nat) (K : St → Prop) : AV → Prop
  | .it r => match stGet σ.st r with
    | some (.mit m n rem _) => (match stGet σ.st m with
      | some (.mp es) => es.length = n ∧ (rem = [] → K (σ.put d (.tup [vbool false]))) ∧
          (∀ i, i ∈ rem → K (St.put ⟨σ.fr, (r, .mit m n (rem.erase i) (some i)) :: stDel σ.st r⟩ d (.tup [vbool true, .pv (es.getD i default).1, .pv (es.getD i default).2])))
      | _ => False)
    | some (.mid m n bs rem _) => (match stGet σ.st m with
      | some (.mpd es clock) => (es.map (·.1) = bs ∧ clock = n) ∧ (rem = [] → K (σ.put d (.tup [vbool false]))) ∧
          (∀ i, i ∈ rem → K (St.put ⟨σ.fr, (r, .mid m n bs (rem.erase i) (some i)) :: stDel σ.st r⟩ d (.tup [vbool true, .pv (es.getD i default).2.1, .pv (es.getD i default).2.2])))
      | _ => False)
    | _ => False
  | _ => False
def nxtsGo (σ : St) (d : Nat) (K : St → Prop) : AV → Prop
  | .it r => match stGet σ.st r with
    | some (.sit s pos) => (pos < s.size → K (St.put ⟨σ.fr, (r, .sit s (pos + (Utf8.decode s pos).2)) :: stDel σ.st r⟩ d (.tup [vbool true, vint .i64 (pos : Nat), vint .i32 ((Utf8.decode s pos).1 : Nat)]))) ∧
        (¬ pos < s.size → K (σ.put d (.tup [vbool false])))
    | _ => False
  | _ => False
/-- the contract of a callee that is lent rows is wanted -/
def CallSVC (P : Program) (σ : St) (d : Nat) (g : FuncId) (avs : List AV) (k : St → Prop) : Prop :=
  ∃ (m : Nat → Nat) (args : List AV) (st st' : List (Nat × Row)) (v : AV), AV.rns m args = avs ∧ (∀ r row, (r, row) ∈ st → (m r, row.rn m) ∈ σ.st) ∧ (st.map (·.1)).Nodup ∧ ((st.map (·.1)).map m).Nodup ∧
    ((st'.map (·.1)).map m).Nodup ∧ (∀ r row, (r, row) ∈ st' → r < 200000 → m r < 200000) ∧ FnS P g args st v st' ∧ k (σ.afterS d m st v st')

def vcOp (P : Program) (σ : St) (d : Option Nat) : IOp → (St → Prop) → Prop
  | .q q, k => match d with
    | some d => q.pre σ ∧ k (σ.put d (q.val σ))
    | none => False
  | .alloc zero, k => match d with
    | some d => k ((σ.newRow d (.box (AV.clips (only d) zero))).put d (.ptr d 0))
    | none => False
  | .box x, k => match d with
    | some d => x.cd σ = true ∧ okc (x.sv σ) = true ∧ k ((σ.newRow d (.box (AV.clips (only d) (x.sv σ).cells))).put d (.ptr d 0))
    | none => False
  | .lits xs s, k => match d with
    | some d => (cds σ xs = true ∧ allOk (evs σ xs) = true ∧ allW s (evs σ xs) ∧ xs.length * s ≤ 16777216) ∧ k (σ.put d (mkLit (evs σ xs)))
    | none => False
  | .own xs s, k => match d with
    | some d => (cds σ xs = true ∧ allOk (evs σ xs) = true ∧ allW s (evs σ xs) ∧ xs.length * s ≤ 16777216 ∧ (∀ v ∈ evs σ xs, ∀ c ∈ v.cells, AV.one c = true) ∧ ∃ ps, allPv (evs σ xs) = some ps) ∧
        k ((σ.newRow d (.sl s (pvsOf (evs σ xs)))).put d (.row d 0 xs.length))
    | none => False
  | .mks l c s bytes z, k => match d with
    | some d => (l.cd σ = true ∧ c.cd σ = true ∧ isInt (l.sv σ) ∧ isInt (c.sv σ) ∧ 0 ≤ intV (l.sv σ) ∧ intV (l.sv σ) ≤ intV (c.sv σ) ∧ (bytes : Int) * intV (c.sv σ) ≤ 281474976710656 ∧ intV (c.sv σ) ≤ 9223372036854775807) ∧
        k ((σ.newRow d (.sl s (List.replicate (intV (l.sv σ)).toNat z))).put d (.row d 0 (intV (l.sv σ)).toNat))
    | none => False
  | .mkx l c bytes z, k => match d with
    | some d => (l.cd σ = true ∧ c.cd σ = true ∧ isInt (l.sv σ) ∧ isInt (c.sv σ) ∧ 0 ≤ intV (l.sv σ) ∧ intV (l.sv σ) = intV (c.sv σ) ∧ (bytes : Int) * intV (c.sv σ) ≤ 281474976710656 ∧ intV (c.sv σ) ≤ 9223372036854775807) ∧
        k ((σ.newRow d (.bxs (List.replicate (intV (l.sv σ)).toNat z))).put d (.row d 0 (intV (l.sv σ)).toNat))
    | none => False
  | .st p x n, k => match d with
    | none => (p.cd σ = true ∧ x.cd σ = true ∧ stOk σ n (x.sv σ) (p.sv σ)) ∧ k (stTo σ (x.sv σ) (p.sv σ))
    | some _ => False
  | .app b src s bytes, k => match d with
    | some d => (b.cd σ = true ∧ src.cd σ = true ∧ appOk σ s bytes (b.sv σ) (src.sv σ)) ∧ k (appTo σ d s (b.sv σ) (src.sv σ))
    | none => False
  | .appn b src s bytes, k => match d with
    | some d => (b.cd σ = true ∧ src.cd σ = true ∧ b.sv σ = .e0 ∧ appOk σ s bytes .e0 (src.sv σ)) ∧ k (σ.put d (.pv (.lst ((srcP σ (src.sv σ)).getD []))))
    | none => False
  | .appx b src bytes, k => match d with
    | some d => (b.cd σ = true ∧ src.cd σ = true ∧ appxOk σ bytes (b.sv σ) (src.sv σ)) ∧ k (appxTo σ d (b.sv σ) (src.sv σ))
    | none => False
  | .appi b src s bytes, k => match d with
    | some d => (b.cd σ = true ∧ src.cd σ = true) ∧ appiGo σ d s bytes k (b.sv σ) (src.sv σ)
    | none => False
  | .appz b y s bytes z, k => match d with
    | some d => (b.cd σ = true ∧ y.cd σ = true) ∧ appzGo σ d s bytes z k (b.sv σ) (y.sv σ)
    | none => False
  | .capr x, k => match d with
    | some d => x.cd σ = true ∧ caprGo σ d k (x.sv σ)
    | none => False
  | .cpy b y s, k => match d with
    | some d => (b.cd σ = true ∧ y.cd σ = true) ∧ cpyGo σ d s k (b.sv σ) (y.sv σ)
    | none => False
  | .clr x s z, k => match d with
    | none => x.cd σ = true ∧ clrGo σ s z k (x.sv σ)
    | some _ => False
  | .call f args, k => match d with
    | some d => (f.cd σ = true ∧ cds σ args = true) ∧ match callArgs σ f args with
      | some (g, ps, pure) => CallVC P g ps pure (fun v rs => k (σ.after d v rs) ∨ k ((σ.after d v rs).frz1 (1000 + d)))
      | none => False
    | none => False
  | .isnil x neg, k => match d with
    | some d => x.cd σ = true ∧ match nilLen (x.sv σ) with
      | some n => ∀ b : Bool, (b = true → n = 0) → k (σ.put d (vbool (if neg then !b else b)))
      | none => False
    | none => False

  | .mkmr y, k => match d with
    | some d => (y.cd σ = true ∧ isInt (y.sv σ)) ∧ k ((σ.newRow d (.mp [])).put d (.mp d))
    | none => False
  | .mkm, k => match d with
    | some d => k ((σ.newRow d (.mp [])).put d (.mp d))
    | none => False
  | .mset m q v kk, k => match d with
    | none => (m.cd σ = true ∧ q.cd σ = true ∧ v.cd σ = true) ∧ msetGo σ kk k (m.sv σ) (q.sv σ) (v.sv σ)
    | some _ => False
  | .calls f args, k => match d with
    | some d => (f.cd σ = true ∧ cds σ args = true) ∧ match calleeOf (f.sv σ) with
      | some (g, caps) => CallSVC P σ d g (evs σ args ++ caps) k ∨ ∃ v, FnX P g (evs σ args ++ caps) σ.st v ∧ k (σ.put d v)
      | none => False
    | none => False
  | .mdel m q kk, k => match d with
    | none => (m.cd σ = true ∧ q.cd σ = true) ∧ mdelGo σ kk k (m.sv σ) (q.sv σ)
    | _ => False
  | .rngm y, k => match d with
    | some d => y.cd σ = true ∧ rngmGo σ d k (y.sv σ)
    | none => False
  | .rngs y, k => match d with
    | some d => y.cd σ = true ∧ rngsGo σ d k (y.sv σ)
    | none => False
  | .nxtm y, k => match d with
    | some d => y.cd σ = true ∧ nxtmGo σ d k (y.sv σ)
    | none => False
  | .nxts y, k => match d with
    | some d => y.cd σ = true ∧ nxtsGo σ d k (y.sv σ)
    | none => False

/-- of an operation that is carried out only where its guard held -/
def vcGd (P : Program) (σ : St) (d : Option Nat) (g : AV) (b : Bool) : IOp → (St → Prop) → Prop
  | .q q, k => match d with
    | some d => g.gok ∧ (g.gv b = true → q.pre σ) ∧ k (σ.put d (.whn (g.gv b) (q.val σ)))
    | none => False
  | .lits xs s, k => match d with
    | some d => g.gok ∧ (g.gv b = true → cds σ xs = true ∧ allOk (evs σ xs) = true ∧ allW s (evs σ xs) ∧ xs.length * s ≤ 16777216) ∧ k (σ.put d (.whn (g.gv b) (mkLit (evs σ xs))))
    | none => False
  | .call f args, k => match d with
    | some d => g.gok ∧ (g.gv b = true → f.cd σ = true ∧ cds σ args = true) ∧ match callArgs σ f args with
      | some (h, ps, pure) => CallGd P (g.gv b) h ps pure (fun p => k (σ.put d (.whn (g.gv b) (.pv p))))
      | none => False
    | none => False
  | op, k => g.gok ∧ g.gv b = true ∧ vcOp P σ d op k

def vcOps (P : Program) : List Inst → St → (St → Prop) → Prop
  | [], σ, K => K σ
  | ⟨d, none, op⟩ :: is, σ, K => vcOp P σ d op (fun σ' => vcOps P is σ' K)
  | ⟨d, some (t, b), op⟩ :: is, σ, K => vcGd P σ d (frGet σ.fr t) b op (fun σ' => vcOps P is σ' K)
end Go.Vc

namespace Go.Vc
open Go.RowKit
set_option linter.constructorNameAsVariable false
section
variable {P : Program} {e : Env} {σ : St} {x : Cx} {a : Act} {o : Oper} {owns : List Nat}

theorem zav_rel (y : Cx) (v : Value) : VRel y (zav v) v := by
  by_cases h : v = .slice none 0 0
  · subst h; simp only [zav, VRel]; exact ⟨none, rfl⟩
  · have : zav v = .pv (.sc v) := by
      unfold zav; split
      · exact absurd rfl h
      · rfl
    rw [this]; simp only [VRel, PRel]
theorem zavs_rel (y : Cx) : ∀ vs : List Value, VRels y (vs.map zav) vs
  | [] => by simp [VRels]
  | v :: vs => by simp only [List.map_cons, VRels]; exact ⟨v, vs, rfl, zav_rel y v, zavs_rel y vs⟩
theorem zpv_rel (w : World) (F : Nat → Prop) (v : Value) : PRel w F (zpv v) v := by
  by_cases h : v = .slice none 0 0
  · subst h; simp only [zpv, PRel]; exact ⟨none, 0, 0, rfl, rfl, Nat.le_refl _, fun hn => absurd hn (by omega)⟩
  · have : zpv v = .sc v := by
      unfold zpv; split
      · exact absurd rfl h
      · rfl
    rw [this]; simp only [PRel]
theorem zpvs_rel (w : World) (F : Nat → Prop) : ∀ vs : List Value, PRels w F (vs.map zpv) vs
  | [] => by simp [PRels]
  | v :: vs => by simp only [List.map_cons, PRels]; exact ⟨v, vs, rfl, zpv_rel w F v, zpvs_rel w F vs⟩
theorem zelem_rel (w : World) (F : Nat → Prop) (v : Value) : PRels w F (zelem v).cells v.cells.toList := by
  by_cases h : ∃ cs, v = .agg cs
  · obtain ⟨cs, rfl⟩ := h
    simp only [zelem, PV.cells, Value.cells]
    exact zpvs_rel w F cs.toList
  · have e1 : zelem v = zpv v := by
      unfold zelem; split
      · rename_i cs; exact absurd ⟨cs, rfl⟩ h
      · rfl
    have e2 : v.cells.toList = [v] := by
      unfold Value.cells; split
      · rename_i cs; exact absurd ⟨cs, rfl⟩ h
      · rfl
    have e3 : (zpv v).cells = [zpv v] := by
      unfold zpv; split <;> rfl
    rw [e1, e2, e3]
    simp only [PRels]
    exact ⟨v, [], rfl, zpv_rel w F v, rfl⟩

theorem partsOf_ok {places : List (Nat × Nat)} : ∀ {ps : List (Nat × Operand)} {qs : List (Nat × Nat × Opd)}, partsOf places ps = some qs → PartsOK (fun i => places[i]?) ps qs
  | [], qs, h => by simp only [partsOf, Option.some.injEq] at h; subst h; simp [PartsOK]
  | (i, y) :: ps, qs, h => by
    simp only [partsOf] at h
    split at h
    · rename_i off n z r h1 h2 h3
      injection h with h; subst h
      simp only [PartsOK]
      exact ⟨off, n, z, r, rfl, h1, h2, partsOf_ok h3⟩
    · cases h

theorem opt_case (h : SRel e σ x a) {y : Option Operand} {z : Option Opd} (hz : optOf y = some z) (hc : cds σ (optL z) = true) (hp : bndP σ z) :
    (y.map a.eval = none ∧ z = none) ∨ ∃ k q, z = some q ∧ y.map a.eval = some (.int k (bnd (q.sv σ))) := by
  cases y with
  | none => simp only [optOf, Option.some.injEq] at hz; subst hz; exact .inl ⟨rfl, rfl⟩
  | some y =>
    simp only [optOf] at hz
    split at hz
    · rename_i q hq
      injection hz with hz; subst hz
      simp only [optL, cds, Bool.and_true] at hc
      obtain ⟨k, hk⟩ := bnd_opt h hq hc hp
      exact .inr ⟨k, q, rfl, by simp [hk]⟩
    · cases hz

theorem cds_append (σ : St) : ∀ (us vs : List Opd), cds σ (us ++ vs) = (cds σ us && cds σ vs)
  | [], vs => by simp [cds]
  | u :: us, vs => by simp only [List.cons_append, cds, cds_append σ us vs, Bool.and_assoc]

theorem kkOf_is {t : TypeId} {kk : Kk} (h : kkOf P t = some kk) : kkIs P t kk := by
  unfold kkOf at h
  split at h
  · rename_i k hk; injection h with h; subst h; exact ⟨k, hk⟩
  · rename_i hk; injection h with h; subst h; exact hk
  · rename_i fs hk
    split at h
    · rename_i ks hf
      split at h
      · rename_i hs; injection h with h; subst h; exact .inl ⟨fs, hk, hf, hs⟩
      · cases h
    · cases h
  · rename_i n e hk
    split at h
    · rename_i k i he hi
      split at h
      · rename_i hs; injection h with h; subst h; exact .inr ⟨n, e, k, i, hk, he, hi, hs, rfl⟩
      · cases h
    · cases h
  · cases h
theorem mapOf_parts {t et : TypeId} {kk : Kk} (h : mapOf? P t = some (kk, et)) : ∃ kt, P.underlying t = some (.map kt et) ∧ kkIs P kt kk := by
  unfold mapOf? at h
  split at h
  · rename_i kt et' ht
    split at h
    · rename_i kk' hk
      injection h with h; injection h with h1 h2
      subst h1; subst h2
      exact ⟨kt, ht, kkOf_is hk⟩
    · cases h
  · cases h
theorem zavA_rel (y : Cx) (v : Value) : VRel y (zavA v) v := by
  unfold zavA
  split
  · rename_i cs
    exact mkAgg_rel (zavs_rel y cs.toList)
  · exact zav_rel y _

theorem of_q {q : Q} (hof : IOp.of P owns o = some (.q q)) (h : SRel e σ x a) (hp : q.pre σ) : QOK P x o a.eval (q.val σ) := by
  obtain ⟨hcd, hp⟩ := hp
  cases hop : o.op with
  | move y =>
    simp only [IOp.of, hop] at hof
    split at hof
    · rename_i z hz; injection hof with hof; injection hof with hof; subst hof
      exact q_mv (.inl hop) (Opd.of_sv h hz hcd)
    · cases hof
  | assign y =>
    simp only [IOp.of, hop] at hof
    split at hof
    · rename_i z hz; injection hof with hof; injection hof with hof; subst hof
      exact q_mv (.inr hop) (Opd.of_sv h hz hcd)
    · cases hof
  | binOp op t y z t' =>
    simp only [IOp.of, hop] at hof
    split at hof
    · rename_i u v hu hv
      have bin : ∀ {d : TypeDesc}, P.underlying t = some d → some (IOp.q (.bin op u v)) = some (.q q) → QOK P x o a.eval (q.val σ) := by
        intro d _ hq
        injection hq with hq; injection hq with hq; subst hq
        simp only [Q.cd, Bool.and_eq_true] at hcd
        exact q_bin hop (Opd.of_sv h hu hcd.1) (Opd.of_sv h hv hcd.2) hp
      split at hof
      · rename_i ht
        split at hof
        · injection hof with hof; injection hof with hof; subst hof
          simp only [Q.cd, Bool.and_eq_true] at hcd
          exact q_beq (neg := false) hop ht (Opd.of_sv h hu hcd.1) (Opd.of_sv h hv hcd.2) hp
        · injection hof with hof; injection hof with hof; subst hof
          simp only [Q.cd, Bool.and_eq_true] at hcd
          exact q_beq (neg := true) hop ht (Opd.of_sv h hu hcd.1) (Opd.of_sv h hv hcd.2) hp
        · cases hof
      · rename_i ht
        split at hof
        · injection hof with hof; injection hof with hof; subst hof
          simp only [Q.cd, Bool.and_eq_true] at hcd
          exact q_shf (left := true) hop (Opd.of_sv h hu hcd.1) (Opd.of_sv h hv hcd.2) hp
        · injection hof with hof; injection hof with hof; subst hof
          simp only [Q.cd, Bool.and_eq_true] at hcd
          exact q_shf (left := false) hop (Opd.of_sv h hu hcd.1) (Opd.of_sv h hv hcd.2) hp
        · exact bin ht hof
      · rename_i ht; exact bin ht hof
      · split at hof <;> cases hof
      · rename_i fields ht
        split at hof
        · rename_i ks hks
          split at hof
          · rename_i hg
            split at hof
            · injection hof with hof; injection hof with hof; subst hof
              simp only [Q.cd, Bool.and_eq_true] at hcd
              exact q_seq (neg := false) hop ht hks hg.1 hg.2 (Opd.of_sv h hu hcd.1) (Opd.of_sv h hv hcd.2) hp
            · injection hof with hof; injection hof with hof; subst hof
              simp only [Q.cd, Bool.and_eq_true] at hcd
              exact q_seq (neg := true) hop ht hks hg.1 hg.2 (Opd.of_sv h hu hcd.1) (Opd.of_sv h hv hcd.2) hp
            · cases hof
          · cases hof
        · cases hof
      · rename_i n ea ht
        split at hof
        · rename_i j i he hi
          split at hof
          · rename_i hg
            split at hof
            · injection hof with hof; injection hof with hof; subst hof
              simp only [Q.cd, Bool.and_eq_true] at hcd
              exact q_seqA (neg := false) hop ht he hi hg.1 hg.2 (Opd.of_sv h hu hcd.1) (Opd.of_sv h hv hcd.2) hp
            · injection hof with hof; injection hof with hof; subst hof
              simp only [Q.cd, Bool.and_eq_true] at hcd
              exact q_seqA (neg := true) hop ht he hi hg.1 hg.2 (Opd.of_sv h hu hcd.1) (Opd.of_sv h hv hcd.2) hp
            · cases hof
          · cases hof
        · cases hof
      · cases hof
    · cases hof
  | unOp op t y =>
    cases op with
    | not =>
      simp only [IOp.of, hop] at hof
      split at hof
      · rename_i z hz; injection hof with hof; injection hof with hof; subst hof
        exact q_not hop (Opd.of_sv h hz hcd) hp
      · cases hof
    | neg =>
      simp only [IOp.of, hop] at hof
      split at hof
      · rename_i z k hz hk
        injection hof with hof; injection hof with hof; subst hof
        simp only [Q.cd, Bool.and_eq_true] at hcd
        exact q_neg hop (Opd.of_sv h hz hcd.2) hp
      · cases hof
    | _ => simp [IOp.of, hop] at hof
  | pick c y z =>
    simp only [IOp.of, hop] at hof
    split at hof
    · rename_i c' y' z' hc hy hz; injection hof with hof; injection hof with hof; subst hof
      simp only [Q.cd, Bool.and_eq_true] at hcd
      obtain ⟨h1, h2⟩ := hcd
      refine q_pick hop (Opd.of_sv h hc h1) hp.1 hp.2.1 hp.2.2 (fun hb => Opd.of_sv h hy ?_) (fun hb => Opd.of_sv h hz ?_)
      · rw [hb] at h2; exact h2
      · rw [hb] at h2; exact h2
    · cases hof
  | extract y i =>
    simp only [IOp.of, hop] at hof
    split at hof
    · rename_i z hz; injection hof with hof; injection hof with hof; subst hof
      exact q_ext hop (Opd.of_sv h hz hcd) hp
    · cases hof
  | fieldAddr s y f =>
    simp only [IOp.of, hop] at hof
    split at hof
    · rename_i z fields hz hs
      split at hof
      · rename_i fl hf
        split at hof
        · rename_i i hi
          split at hof
          · cases hof
          · rename_i hne
            injection hof with hof; injection hof with hof; subst hof
            exact q_fa hop hs hf hi hne (Opd.of_sv h hz hcd) hp
        · cases hof
      · cases hof
    · cases hof
  | indexAddr t y z =>
    simp only [IOp.of, hop] at hof
    split at hof
    · rename_i u v hu hv
      split at hof
      · rename_i et ht
        split at hof
        · rename_i i hi
          injection hof with hof; injection hof with hof; subst hof
          simp only [Q.cd, Bool.and_eq_true] at hcd
          exact q_ia h hop ht hi (Opd.of_sv h hu hcd.1) (Opd.of_sv h hv hcd.2) hp
        · cases hof
      · rename_i len et ht
        split at hof
        · rename_i i hi
          injection hof with hof; injection hof with hof; subst hof
          simp only [Q.cd, Bool.and_eq_true] at hcd
          exact q_iaa hop ht hi (Opd.of_sv h hu hcd.1) (Opd.of_sv h hv hcd.2) hp
        · cases hof
      · cases hof
    · cases hof
  | load t y =>
    simp only [IOp.of, hop] at hof
    split at hof
    · rename_i z d i hz ht hi
      injection hof with hof; injection hof with hof; subst hof
      exact q_ld h hop ht hi (Opd.of_sv h hz hcd) hp
    · cases hof
  | field s y f =>
    simp only [IOp.of, hop] at hof
    split at hof
    · rename_i z fields hz hs
      split at hof
      · rename_i fl hf
        split at hof
        · rename_i d i ht hi
          injection hof with hof; injection hof with hof; subst hof
          exact q_fld hop hs hf ht hi (Opd.of_sv h hz hcd) hp
        · cases hof
      · cases hof
    · cases hof
  | slice t y lo hi mx =>
    cases mx with
    | some m =>
      cases lo with
      | none => simp [IOp.of, hop] at hof
      | some lo => cases hi with
        | none => simp [IOp.of, hop] at hof
        | some hi =>
          simp only [IOp.of, hop] at hof
          split at hof
          · rename_i z l hh mm et hz hl hhh hmm ht
            split at hof
            · rename_i i hi'
              injection hof with hof; injection hof with hof; subst hof
              simp only [Q.cd, cds, Bool.and_eq_true] at hcd
              exact q_chk hop ht hi' (Opd.of_sv h hz hcd.1) (Opd.of_sv h hl hcd.2.1) (Opd.of_sv h hhh hcd.2.2.1) (Opd.of_sv h hmm hcd.2.2.2.1) hp
            · cases hof
          · cases hof
    | none =>
      simp only [IOp.of, hop] at hof
      split at hof
      · rename_i z l hh hz hl hhh
        have fin : ∀ {s : Nat} {str : Bool}, q = .slc z l hh s str → (str = true ∧ P.underlying t = some .string ∨ str = false ∧ ∃ et i, P.underlying t = some (.slice et) ∧ P.info? et = some i ∧ i.size = s) → QOK P x o a.eval (q.val σ) := by
          intro s str hq hk
          subst hq
          simp only [Q.cd] at hcd
          have hcd' : cds σ ((z :: optL l) ++ optL hh) = true := hcd
          rw [cds_append] at hcd'
          simp only [cds, Bool.and_eq_true] at hcd'
          obtain ⟨⟨h1, h2⟩, h3⟩ := hcd'
          simp only [] at hp
          have hlo : lo.map a.eval = none ∧ loOf σ l = 0 ∨ ∃ k, lo.map a.eval = some (.int k (loOf σ l)) := by
            rcases opt_case h hl h2 hp.1 with ⟨g1, rfl⟩ | ⟨k, q, rfl, g2⟩
            · exact .inl ⟨g1, rfl⟩
            · exact .inr ⟨k, g2⟩
          have hhi : hi.map a.eval = none ∧ hiOf σ (sizeOfV (z.sv σ)) hh = sizeOfV (z.sv σ) ∨ ∃ k, hi.map a.eval = some (.int k (hiOf σ (sizeOfV (z.sv σ)) hh)) := by
            rcases opt_case h hhh h3 hp.2.1 with ⟨g1, rfl⟩ | ⟨k, q, rfl, g2⟩
            · exact .inl ⟨g1, rfl⟩
            · exact .inr ⟨k, g2⟩
          exact q_slc hop ⟨a, h⟩ hlo hhi hk (Opd.of_sv h hz h1) hp.2.2
        have finx : ∀ {et : TypeId} {i : TypeInfo}, q = .slcx z l hh i.size → P.underlying t = some (.slice et) → P.info? et = some i → QOK P x o a.eval (q.val σ) := by
          intro et i hq hk hk2
          subst hq
          simp only [Q.cd] at hcd
          have hcd' : cds σ ((z :: optL l) ++ optL hh) = true := hcd
          rw [cds_append] at hcd'
          simp only [cds, Bool.and_eq_true] at hcd'
          obtain ⟨⟨h1, h2⟩, h3⟩ := hcd'
          simp only [] at hp
          have hlo : lo.map a.eval = none ∧ loOf σ l = 0 ∨ ∃ k, lo.map a.eval = some (.int k (loOf σ l)) := by
            rcases opt_case h hl h2 hp.1 with ⟨g1, rfl⟩ | ⟨k, q, rfl, g2⟩
            · exact .inl ⟨g1, rfl⟩
            · exact .inr ⟨k, g2⟩
          have hhi : hi.map a.eval = none ∧ hiOf σ (sizeOfV (z.sv σ)) hh = sizeOfV (z.sv σ) ∨ ∃ k, hi.map a.eval = some (.int k (hiOf σ (sizeOfV (z.sv σ)) hh)) := by
            rcases opt_case h hhh h3 hp.2.1 with ⟨g1, rfl⟩ | ⟨k, q, rfl, g2⟩
            · exact .inl ⟨g1, rfl⟩
            · exact .inr ⟨k, g2⟩
          exact q_slcx hop h hlo hhi hk hk2 (Opd.of_sv h hz h1) hp.2.2
        split at hof
        · rename_i ht
          injection hof with hof; injection hof with hof
          exact fin hof.symm (.inl ⟨rfl, ht⟩)
        · rename_i et ht
          split at hof
          · rename_i i hi'
            injection hof with hof; injection hof with hof
            cases hb : isOwn owns o.dst with
            | true => rw [hb] at hof; simp only [if_true] at hof; exact finx hof.symm ht hi'
            | false => rw [hb] at hof; simp only [Bool.false_eq_true, if_false] at hof; exact fin hof.symm (.inr ⟨rfl, et, i, ht, hi', rfl⟩)
          · cases hof
        · cases hof
      · cases hof
  | convert s t y =>
    simp only [IOp.of, hop] at hof
    split at hof
    · rename_i z ds k hz hs ht
      injection hof with hof; injection hof with hof; subst hof
      exact q_conv hop hs ht (Opd.of_sv h hz hcd) hp
    · rename_i z et hz hs ht
      split at hof
      · rename_i het
        injection hof with hof; injection hof with hof; subst hof
        exact q_str h hop hs ht het (Opd.of_sv h hz hcd) hp
      · cases hof
    · cases hof
  | build t parts =>
    simp only [IOp.of, hop] at hof
    split at hof
    · rename_i fields i ht hi
      split at hof
      · rename_i zv places hzv hpl
        split at hof
        · rename_i qs hqs
          injection hof with hof; injection hof with hof; subst hof
          exact q_mk h hop ht hi hzv (zavs_rel x _) hpl (partsOf_ok hqs) hcd hp
        · cases hof
      · cases hof
    · rename_i n ea i ht hi
      split at hof
      · rename_i zv ie hzv hie
        split at hof
        · rename_i qs hqs
          injection hof with hof; injection hof with hof; subst hof
          exact q_mkA h hop ht hi hie hzv (zavs_rel x _) (partsOf_ok hqs) hcd hp
        · cases hof
      · cases hof
    · cases hof
  | makeFunc fn first captured =>
    cases fn with
    | func f =>
      simp only [IOp.of, hop] at hof
      split at hof
      · rename_i hf
        split at hof
        · rename_i zs hzs
          injection hof with hof; injection hof with hof; subst hof
          have : first = #[] := Array.eq_empty_of_size_eq_zero hf
          subst this
          exact q_clo h hop hzs hcd
        · cases hof
      · cases hof
    | _ => simp [IOp.of, hop] at hof
  | index t y z =>
    simp only [IOp.of, hop] at hof
    split at hof
    · rename_i u v hu hv ht
      injection hof with hof; injection hof with hof; subst hof
      simp only [Q.cd, Bool.and_eq_true] at hcd
      exact q_idx hop ht (Opd.of_sv h hu hcd.1) (Opd.of_sv h hv hcd.2) hp
    · rename_i u v n ea hu hv ht
      split at hof
      · rename_i j i he hi
        split at hof
        · rename_i hi1
          injection hof with hof; injection hof with hof; subst hof
          simp only [Q.cd, Bool.and_eq_true] at hcd
          exact q_idxa hop ht he hi hi1 (Opd.of_sv h hu hcd.1) (Opd.of_sv h hv hcd.2) hp
        · cases hof
      · cases hof
    · cases hof
  | call c =>
    obtain ⟨callee, args, argTypes⟩ := c
    simp only [IOp.of, hop] at hof
    split at hof
    · split at hof
      · rename_i y t hargs htys
        have e1 : args = #[y] := Array.toList_inj.1 (by simpa using hargs)
        have e2 : argTypes[0]? = some t := by rw [← Array.getElem?_toList, htys]; rfl
        subst e1
        split at hof
        · rename_i z hz ht
          injection hof with hof; injection hof with hof; subst hof
          exact q_len hop e2 (Opd.of_sv h hz hcd) hp (fun _ => ht) (fun h => by cases h)
        · rename_i z et hz ht
          injection hof with hof; injection hof with hof; subst hof
          exact q_len hop e2 (Opd.of_sv h hz hcd) hp (fun h => by cases h) (fun _ => ⟨et, ht⟩)
        · rename_i z kt et hz ht
          injection hof with hof; injection hof with hof; subst hof
          have e3 : argTypes = #[t] := Array.toList_inj.1 (by simpa using htys)
          subst e3
          exact q_mlen h hop ht (Opd.of_sv h hz hcd) hp
        · cases hof
      · cases hof
    · split at hof
      · rename_i y z hargs
        have e1 : args = #[y, z] := Array.toList_inj.1 (by simpa using hargs)
        subst e1
        split at hof
        · rename_i u v hu hv
          injection hof with hof; injection hof with hof; subst hof
          simp only [Q.cd, Bool.and_eq_true] at hcd
          exact q_mm (mx := false) hop (Opd.of_sv h hu hcd.1) (Opd.of_sv h hv hcd.2) hp
        · cases hof
      · cases hof
    · split at hof
      · rename_i y z hargs
        have e1 : args = #[y, z] := Array.toList_inj.1 (by simpa using hargs)
        subst e1
        split at hof
        · rename_i u v hu hv
          injection hof with hof; injection hof with hof; subst hof
          simp only [Q.cd, Bool.and_eq_true] at hcd
          exact q_mm (mx := true) hop (Opd.of_sv h hu hcd.1) (Opd.of_sv h hv hcd.2) hp
        · cases hof
      · cases hof
    · split at hof
      · split at hof
        · split at hof
          · split at hof
            · split at hof
              · injection hof with hof
                split at hof
                · cases hof
                cases hs : isSoftA owns o.dst <;> cases hb : isOwn owns o.dst <;> simp [hb, hs] at hof
              · cases hof
            · cases hof
          · cases hof
        · repeat' split at hof
          all_goals cases hof
        · cases hof
      · cases hof
    · repeat' split at hof
      all_goals cases hof
    · repeat' split at hof
      all_goals cases hof
    · repeat' split at hof
      all_goals cases hof
    · repeat' split at hof
      all_goals cases hof
    · split at hof
      · injection hof with hof
        cases hb : isOwn owns o.dst <;> simp [hb] at hof
      · cases hof
    · cases hof
  | range t y =>
    simp only [IOp.of, hop] at hof
    split at hof <;> cases hof
  | next y str =>
    simp only [IOp.of, hop] at hof
    split at hof
    · injection hof with hof
      cases str <;> simp at hof
    · cases hof
  | entry y =>
    simp only [IOp.of, hop] at hof
    split at hof
    · rename_i z hz; injection hof with hof; injection hof with hof; subst hof
      exact q_ent h hop (Opd.of_sv h hz hcd) hp
    · cases hof
  | lookup t y z comma =>
    simp only [IOp.of, hop] at hof
    split at hof
    · rename_i u v str et hu hv hmap
      split at hof
      · rename_i i hi
        split at hof
        · rename_i zv hz
          injection hof with hof; injection hof with hof; subst hof
          simp only [Q.cd, Bool.and_eq_true] at hcd
          obtain ⟨kt, h1, h2⟩ := mapOf_parts hmap
          exact q_mget h hop h1 h2 hi hz (zavA_rel x zv) (Opd.of_sv h hu hcd.1) (Opd.of_sv h hv hcd.2) hp
        · cases hof
      · cases hof
    · cases hof
  | makeMap t r =>
    cases r with
    | none => simp [IOp.of, hop] at hof
    | some y => simp only [IOp.of, hop] at hof; split at hof <;> cases hof
  | mapUpdate t m k v => simp only [IOp.of, hop] at hof; split at hof <;> cases hof
  | insert t m k v => simp only [IOp.of, hop] at hof; split at hof <;> cases hof
  | alloc t => simp only [IOp.of, hop] at hof; split at hof <;> first | (split at hof <;> cases hof) | cases hof
  | box t y => simp only [IOp.of, hop] at hof; split at hof <;> cases hof
  | buildSlice t n parts =>
    simp only [IOp.of, hop] at hof
    split at hof
    · split at hof
      · split at hof
        · split at hof
          · injection hof with hof
            cases hb : isOwn owns o.dst <;> simp [hb] at hof
          · cases hof
        · cases hof
      · cases hof
    · cases hof
  | makeSlice t l c =>
    simp only [IOp.of, hop] at hof
    split at hof
    · split at hof
      · split at hof
        · split at hof
          · injection hof with hof
            split at hof <;> cases hof
          · cases hof
        · cases hof
      · cases hof
    · cases hof
  | store t p v =>
    simp only [IOp.of, hop] at hof
    split at hof
    · cases hof
    · cases hof
  | _ => simp [IOp.of, hop] at hof
end
end Go.Vc

namespace Go.Vc
open Go.RowKit
set_option linter.constructorNameAsVariable false

def IOp.soft : IOp → Bool
  | .alloc _ | .box _ | .lits _ _ | .own _ _ | .appn _ _ _ _ | .mks _ _ _ _ _ | .mkx _ _ _ _ | .call _ _ | .isnil _ _ | .mkm | .mkmr _ | .rngm _ | .rngs _ => true
  | _ => false
def IOp.hard : IOp → Bool
  | .st _ _ _ | .app _ _ _ _ | .appx _ _ _ | .appi _ _ _ _ | .clr _ _ _ | .capr _ | .appz _ _ _ _ _ | .cpy _ _ _ | .mset _ _ _ _ | .mdel _ _ _ | .calls _ _ | .nxtm _ | .nxts _ => true
  | _ => false
def IOp.quiet : IOp → Bool
  | .q _ => true
  | _ => false

section
variable {P : Program} {e : Env} {σ : St} {x : Cx} {a : Act} {o : Oper} {owns : List Nat} {K : St → Prop}

theorem onesB_mem : ∀ {ps : List PV}, onesB ps = true → ∀ c ∈ ps, c.one = true
  | [], _, c, hc => by cases hc
  | p :: ps, h, c, hc => by
    simp only [onesB, Bool.and_eq_true] at h
    rcases List.mem_cons.1 hc with rfl | hc
    · exact h.1
    · exact onesB_mem h.2 c hc

theorem isInt_at (h : SRel e σ x a) {y : Operand} {z : Opd} (hz : Opd.of y = some z) (hc : z.cd σ = true) (hi : isInt (z.sv σ)) : ∃ k, a.eval y = .int k (intV (z.sv σ)) := by
  have := Opd.of_sv h hz hc
  unfold isInt at hi
  split at hi
  · rename_i k n he
    rw [he] at this ⊢
    simp only [VRel, PRel] at this
    exact ⟨k, this⟩
  · exact hi.elim

theorem zip_snd : ∀ (l : List (Nat × Operand)) (k : Nat), l.map (·.1) = List.range' k l.length → l = ((l.map (·.2)).zipIdx k).map fun q => (q.2, q.1)
  | [], _, _ => rfl
  | (i, y) :: l, k, h => by
    simp only [List.map_cons, List.length_cons, List.range'_succ, List.cons.injEq] at h
    simp only [List.map_cons, List.zipIdx_cons]
    rw [h.1]
    congr 1
    exact zip_snd l (k + 1) h.2

theorem lit_of {t et : TypeId} {n : Nat} {parts : Array (Nat × Operand)} (hop : o.op = .buildSlice t n parts) {i : TypeInfo} {zv : Value} {zs : List Opd} (ht : P.underlying t = some (.slice et)) (hi : P.info? et = some i) (hz : i.zero = some zv)
    (hzs : opdsOf (parts.toList.map (·.2)) = some zs) (hr : parts.toList.map (·.1) = List.range n) (hs : 0 < i.size) : LitOf P o zs i.size := by
  have hlen : parts.toList.length = n := by have := congrArg List.length hr; simpa using this
  refine ⟨t, et, i, zv, parts, parts.toList.map (·.2), ?_, ?_, hzs, ht, hi, hz, hs, rfl⟩
  · rw [hop, List.length_map, hlen]
  · exact zip_snd parts.toList 0 (by rw [hr, List.range_eq_range', hlen])

theorem of_soft [EP e P] {op : IOp} (hof : IOp.of P owns o = some op) (hsoft : op.soft = true) (hd : ∀ d, o.dst = some d → d < e.n) (h : SRel e σ x a) (hk : vcOp P σ o.dst op K) : LStep P e o a x.w K := by
  cases hop : o.op with
  | alloc t =>
    simp only [IOp.of, hop] at hof
    split at hof
    · rename_i i hi
      split at hof
      · rename_i zv hz
        injection hof with hof; subst hof
        simp only [vcOp] at hk
        split at hk
        · rename_i d hdst
          exact l_alloc h d (hd d hdst) hdst hop hi hz (fun y => zavs_rel y _) hk
        · exact hk.elim
      · cases hof
    · cases hof
  | box t y =>
    simp only [IOp.of, hop] at hof
    split at hof
    · rename_i z hz
      injection hof with hof; subst hof
      simp only [vcOp] at hk
      split at hk
      · rename_i d hdst
        exact l_box h d (hd d hdst) hdst hop hz hk.1 hk.2.1 hk.2.2
      · exact hk.elim
    · cases hof
  | buildSlice t n parts =>
    simp only [IOp.of, hop] at hof
    split at hof
    · rename_i et ht
      split at hof
      · rename_i i hi
        split at hof
        · rename_i zv zs hz hzs
          split at hof
          · rename_i hr
            injection hof with hof
            have hl := lit_of hop ht hi hz hzs hr.1 hr.2
            cases hb : isOwn owns o.dst
            · rw [hb] at hof
              simp only [Bool.false_eq_true, if_false] at hof
              subst hof
              simp only [vcOp] at hk
              split at hk
              · rename_i d hdst
                exact l_lits h d (hd d hdst) hdst hl hk.1.1 hk.1.2.1 hk.1.2.2.1 hk.1.2.2.2 hk.2
              · exact hk.elim
            · rw [hb] at hof
              simp only [if_true] at hof
              subst hof
              simp only [vcOp] at hk
              split at hk
              · rename_i d hdst
                obtain ⟨⟨k1, k2, k3, k4, k5, ps, k6⟩, k7⟩ := hk
                have e1 : pvsOf (evs σ zs) = ps := by unfold pvsOf; rw [k6]
                rw [e1] at k7
                exact l_own h d (hd d hdst) hdst hl k1 k2 k3 k4 k5 k6 k7
              · exact hk.elim
          · cases hof
        · cases hof
      · cases hof
    · cases hof
  | makeSlice t yl yc =>
    simp only [IOp.of, hop] at hof
    split at hof
    · rename_i zl zc et hl hc ht
      split at hof
      · rename_i i hi
        split at hof
        · rename_i zv hz
          split at hof
          · rename_i hcond
            split at hof
            · rename_i hbx
              injection hof with hof; subst hof
              simp only [vcOp] at hk
              split at hk
              · rename_i d hdst
                obtain ⟨⟨k1, k2, k3, k4, k5, k6, k7, k8⟩, k9⟩ := hk
                obtain ⟨kl, e1⟩ := isInt_at h hl k1 k3
                obtain ⟨kc, e2⟩ := isInt_at h hc k2 k4
                exact l_mkx h d (hd d hdst) hdst hop ht hi hz e1 e2 k5 k6 k7 k8 (isNilS_eq (by simp only [Bool.and_eq_true] at hbx; exact hbx.2.1)) (by simp only [Bool.and_eq_true, beq_iff_eq] at hbx; exact hbx.2.2) k9
              · exact hk.elim
            · injection hof with hof; subst hof
              simp only [vcOp] at hk
              split at hk
              · rename_i d hdst
                obtain ⟨⟨k1, k2, k3, k4, k5, k6, k7, k8⟩, k9⟩ := hk
                obtain ⟨kl, e1⟩ := isInt_at h hl k1 k3
                obtain ⟨kc, e2⟩ := isInt_at h hc k2 k4
                exact l_mks h d (hd d hdst) hdst hop ht hi hz e1 e2 k5 k6 k7 k8 (fun w F => zelem_rel w F zv) (onesB_mem hcond.2.2) hcond.1 hcond.2.1 k9
              · exact hk.elim
          · cases hof
        · cases hof
      · cases hof
    · cases hof
  | binOp bop t y z t' =>
    simp only [IOp.of, hop] at hof
    split at hof
    · rename_i u v hu hv
      split at hof
      · split at hof
        · injection hof with hof; subst hof; simp [IOp.soft] at hsoft
        · injection hof with hof; subst hof; simp [IOp.soft] at hsoft
        · cases hof
      · (split at hof <;> (injection hof with hof; subst hof; simp [IOp.soft] at hsoft))
      · injection hof with hof; subst hof; simp [IOp.soft] at hsoft
      · rename_i et ht
        have fin : ∀ neg, bop = (if neg then .neq else .eql) → v = .nil → op = .isnil u neg → LStep P e o a x.w K := by
          intro neg hb hvn hop'
          subst hb; subst hvn; subst hop'
          have hz : a.eval z = .slice none 0 0 := by
            cases z with
            | const c =>
              by_cases hn : c = .slice none 0 0
              · rw [hn]; rfl
              · have : Opd.of (.const c) = some (.c c) := by
                  unfold Opd.of
                  split <;> first | rfl | contradiction | (rename_i he; injection he with he; first | (exact absurd he hn) | (rw [he]))
                rw [this] at hv; injection hv with hv; cases hv
            | tmp k => simp [Opd.of] at hv
            | global g => simp [Opd.of] at hv
            | func f => simp [Opd.of] at hv
          simp only [vcOp] at hk
          split at hk
          · rename_i d hdst
            obtain ⟨k1, k2⟩ := hk
            split at k2
            · rename_i n hn
              refine l_isnil h d (hd d hdst) hdst hop ht (Opd.of_sv h hu k1) hz (n := n) ?_ k2
              unfold nilLen at hn
              split at hn
              · rename_i ps he; injection hn with hn; exact .inl ⟨ps, he, hn⟩
              · rename_i r off m he; injection hn with hn; subst hn; exact .inr (.inl ⟨r, off, he⟩)
              · rename_i he; injection hn with hn; exact .inr (.inr ⟨he, hn.symm⟩)
              · cases hn
            · exact k2.elim
          · exact hk.elim
        split at hof
        · injection hof with hof; exact fin false rfl rfl hof.symm
        · injection hof with hof; exact fin true rfl rfl hof.symm
        · cases hof
      · split at hof
        · split at hof
          · split at hof
            · injection hof with hof; subst hof; simp [IOp.soft] at hsoft
            · injection hof with hof; subst hof; simp [IOp.soft] at hsoft
            · cases hof
          · cases hof
        · cases hof
      · repeat' split at hof
        all_goals first | (cases hof; done) | (injection hof with hof; subst hof; simp [IOp.soft] at hsoft)
      · cases hof
    · cases hof
  | call c =>
    obtain ⟨callee, args, argTypes⟩ := c
    simp only [IOp.of, hop] at hof
    split at hof
    · split at hof
      · split at hof
        · injection hof with hof; subst hof; simp [IOp.soft] at hsoft
        · injection hof with hof; subst hof; simp [IOp.soft] at hsoft
        · injection hof with hof; subst hof; simp [IOp.soft] at hsoft
        · cases hof
      · cases hof
    · split at hof
      · split at hof
        · injection hof with hof; subst hof; simp [IOp.soft] at hsoft
        · cases hof
      · cases hof
    · split at hof
      · split at hof
        · injection hof with hof; subst hof; simp [IOp.soft] at hsoft
        · cases hof
      · cases hof
    · split at hof
      · rename_i y z t t2 hargs htys
        have e1 : args = #[y, z] := Array.toList_inj.1 (by simpa using hargs)
        have e2 : argTypes = #[t, t2] := Array.toList_inj.1 (by simpa using htys)
        subst e1; subst e2
        split at hof
        · rename_i u v et et2 hu hv ht ht2
          split at hof
          · rename_i i hi
            split at hof
            · rename_i zv hz
              split at hof
              · injection hof with hof
                cases hxA : (isSlotA owns o.dst && i.size == 1)
                case true => rw [hxA] at hof; simp only [if_true] at hof; subst hof; simp [IOp.soft] at hsoft
                rw [hxA] at hof
                simp only [Bool.false_eq_true, if_false] at hof
                cases hsA : isSoftA owns o.dst
                case false => rw [hsA] at hof; cases hb : isOwn owns o.dst <;> simp [hb] at hof <;> subst hof <;> simp [IOp.soft] at hsoft
                case true =>
                  rw [hsA] at hof
                  simp only [if_true] at hof
                  subst hof
                  simp only [vcOp] at hk
                  split at hk
                  · rename_i d hdst
                    obtain ⟨⟨k1, k2, k3, _, g2, ps, g3, g4, g5, g6⟩, k4⟩ := hk
                    have ru := Opd.of_sv h hu k1
                    have rv := Opd.of_sv h hv k2
                    rw [k3] at ru
                    rw [g3] at k4
                    simp only [Option.getD_some] at k4
                    simp only [appLen, Nat.zero_add] at g5 g6
                    refine l_appn h d (hd d hdst) hdst hop ht ht2 hi hz ru rv g3 g4 (fun r off m he => ?_) g5 g6 k4
                    rw [he] at g2
                    simp only [rowIs] at g2
                    cases hq : stGet σ.st r with
                    | none => rw [hq] at g2; exact g2.elim
                    | some row =>
                      rw [hq] at g2
                      cases row with
                      | sl s'' xs' => exact ⟨xs', by rw [show s'' = i.size from g2]⟩
                      | _ => exact g2.elim
                  · exact hk.elim
              · cases hof
            · cases hof
          · cases hof
        · repeat' split at hof
          all_goals first | (cases hof; done) | (injection hof with hof; subst hof; simp [IOp.soft] at hsoft)
        · cases hof
      · cases hof
    · repeat' split at hof
      all_goals first | (cases hof; done) | (injection hof with hof; subst hof; simp [IOp.soft] at hsoft)
    · repeat' split at hof
      all_goals first | (cases hof; done) | (injection hof with hof; subst hof; simp [IOp.soft] at hsoft)
    · repeat' split at hof
      all_goals first | (cases hof; done) | (injection hof with hof; subst hof; simp [IOp.soft] at hsoft)
    · repeat' split at hof
      all_goals first | (cases hof; done) | (injection hof with hof; subst hof; simp [IOp.soft] at hsoft)
    · rename_i f
      split at hof
      · rename_i z zs hz hzs
        injection hof with hof
        have hb : isOwn owns o.dst = false := by
          cases hb : isOwn owns o.dst
          · rfl
          · rw [hb] at hof; simp only [if_true] at hof; subst hof; simp [IOp.soft] at hsoft
        rw [hb] at hof
        simp only [Bool.false_eq_true, if_false] at hof
        subst hof
        simp only [vcOp] at hk
        split at hk
        · rename_i d hdst
          obtain ⟨⟨k1, k2⟩, k3⟩ := hk
          split at k3
          · rename_i g ps pure hca
            obtain ⟨v, rs, f1, f2, f3, f4⟩ := k3
            unfold callArgs at hca
            split at hca
            · rename_i g' caps hg
              split at hca
              · rename_i ps' hps
                injection hca with hca; injection hca with h1 h2; injection h2 with h2 h3
                subst h1; subst h2; subst h3
                rcases f4 with f4 | f4
                · exact l_call h d (hd d hdst) hdst hop (Opd.of_sv h hz k1) hg hzs k2 hps f1 f2 f3 f4
                · exact l_callz h d (hd d hdst) hdst hop (Opd.of_sv h hz k1) hg hzs k2 hps f1 f2 f3 _ f4
              · cases hca
            · cases hca
          · exact k3.elim
        · exact hk.elim
      · cases hof
    · cases hof
  | makeMap t rv =>
    cases rv with
    | some q =>
      simp only [IOp.of, hop] at hof
      split at hof
      · rename_i z kt et hz ht
        injection hof with hof; subst hof
        simp only [vcOp] at hk
        split at hk
        · rename_i d hdst
          obtain ⟨⟨k1, k2⟩, k3⟩ := hk
          obtain ⟨kk, hy⟩ := isInt_at h hz k1 k2
          exact l_mkmr h d (hd d hdst) hdst hop ht hy k3
        · exact hk.elim
      · cases hof
    | none =>
      simp only [IOp.of, hop, Option.some.injEq] at hof
      subst hof
      simp only [vcOp] at hk
      split at hk
      · rename_i d hdst
        exact l_mkm h d (hd d hdst) hdst hop hk
      · exact hk.elim
  | range t y =>
    simp only [IOp.of, hop] at hof
    split at hof
    · rename_i z kt et hz ht
      injection hof with hof; subst hof
      simp only [vcOp] at hk
      split at hk
      · rename_i d hdst
        obtain ⟨k1, k2⟩ := hk
        have ry := Opd.of_sv h hz k1
        unfold rngmGo at k2
        split at k2
        · rename_i r he
          rw [he] at ry
          split at k2
          · rename_i es hst
            exact l_rngm h d (hd d hdst) hdst hop ht hst ry k2.1 k2.2
          · rename_i es ck hst
            exact l_rngmD h d (hd d hdst) hdst hop ht hst ry k2.1 k2.2
          · exact k2.elim
        · exact k2.elim
      · exact hk.elim
    · rename_i z hz ht
      injection hof with hof; subst hof
      simp only [vcOp] at hk
      split at hk
      · rename_i d hdst
        obtain ⟨k1, k2⟩ := hk
        have ry := Opd.of_sv h hz k1
        unfold rngsGo at k2
        split at k2
        · rename_i s he
          rw [he] at ry
          exact l_rngs h d (hd d hdst) hdst hop ht ry k2
        · exact k2.elim
      · exact hk.elim
    · cases hof
  | next y str =>
    simp only [IOp.of, hop] at hof
    split at hof
    · injection hof with hof
      cases str <;> simp at hof <;> subst hof <;> simp [IOp.soft] at hsoft
    · cases hof
  | _ =>
    exfalso
    simp only [IOp.of, hop] at hof
    repeat' split at hof
    all_goals first
      | contradiction
      | (injection hof with hof; subst hof; simp [IOp.soft] at hsoft; done)
      | (cases hof; done)

theorem stDel_twice : ∀ (l : List (Nat × Row)) (r : Nat), stDel (stDel l r) r = stDel l r
  | [], _ => rfl
  | (k, v) :: l, r => by
    simp only [stDel]
    by_cases h : k = r
    · simp only [if_pos h, stDel_twice l r]
    · simp only [if_neg h, stDel, stDel_twice l r]
theorem of_hard [EP e P] {op : IOp} (hof : IOp.of P owns o = some op) (hhard : op.hard = true) (hd : ∀ d, o.dst = some d → d < e.n) (h : SRel e σ x a) (hk : vcOp P σ o.dst op K) :
    ∀ Q, o.wp P a x.w (fun a' w' => ∃ σ' y, SRel e σ' y a' ∧ y.w = w' ∧ K σ') Q := by
  cases hop : o.op with
  | store t yp yv =>
    simp only [IOp.of, hop] at hof
    split at hof
    · rename_i zp zv i hp hv hi
      · injection hof with hof; subst hof
        simp only [vcOp] at hk
        split at hk
        · rename_i hdst
          obtain ⟨⟨k1, k2, k3⟩, k4⟩ := hk
          have rp := Opd.of_sv h hp k1
          have rv := Opd.of_sv h hv k2
          unfold stOk at k3
          unfold stTo at k4
          split at k3
          · rename_i r off he
            rw [he] at rp
            rw [he] at k4
            simp only at k4
            split at k3
            · rename_i cs hr
              rw [hr] at k4
              exact l_st_box h hdst hop hi rp rv hr k3.1 k3.2.1 k3.2.2.1 k3.2.2.2 k4
            · exact k3.elim
          · rename_i r k off he
            rw [he] at rp
            rw [he] at k4
            simp only at k4
            split at k3
            · rename_i s xs hr
              obtain ⟨hpos, g1, g2, ⟨ps, g3, g4⟩, g5, g6⟩ := k3
              rw [hr] at k4
              have e1 : pvsOf (zv.sv σ).cells = ps := by unfold pvsOf; rw [g3]
              simp only [e1] at k4
              exact l_st_sl h hdst hop hi rp rv hr g1 g2 hpos g3 (onesB_mem g4) g5 g6 k4
            · rename_i cs hr
              obtain ⟨g1, g2, g3, g4, g5, g6⟩ := k3
              subst g5
              rw [hr] at k4
              exact l_st_bxs h hdst hop hi rp rv hr g1 g2 g3 g4 g6 k4
            · exact k3.elim
          · exact k3.elim
        · exact hk.elim
    · cases hof
  | mapUpdate t m k v =>
    simp only [IOp.of, hop] at hof
    split at hof
    · rename_i a' b' c' str et ha hb hc hmap
      injection hof with hof; subst hof
      obtain ⟨kt, g1, g2⟩ := mapOf_parts hmap
      simp only [vcOp] at hk
      split at hk
      · rename_i hdst
        obtain ⟨⟨k1, k2, k3⟩, k4⟩ := hk
        have ra := Opd.of_sv h ha k1
        have rb := Opd.of_sv h hb k2
        have rc := Opd.of_sv h hc k3
        unfold msetGo at k4
        split at k4
        · rename_i r key val e1 e2 e3
          rw [e1] at ra; rw [e2] at rb; rw [e3] at rc
          split at k4
          · rename_i es hst
            exact l_mset h hdst (.inl hop) g1 g2 hst ra rb rc k4.1 k4.2.1 k4.2.2
          · rename_i es ck hst
            exact l_msetD h hdst (.inl hop) g1 g2 hst ra rb rc k4.1 k4.2.1 k4.2.2
          · exact k4.elim
        · exact k4.elim
      · exact hk.elim
    · cases hof
  | insert t m k v =>
    simp only [IOp.of, hop] at hof
    split at hof
    · rename_i a' b' c' str et ha hb hc hmap
      injection hof with hof; subst hof
      obtain ⟨kt, g1, g2⟩ := mapOf_parts hmap
      simp only [vcOp] at hk
      split at hk
      · rename_i hdst
        obtain ⟨⟨k1, k2, k3⟩, k4⟩ := hk
        have ra := Opd.of_sv h ha k1
        have rb := Opd.of_sv h hb k2
        have rc := Opd.of_sv h hc k3
        unfold msetGo at k4
        split at k4
        · rename_i r key val e1 e2 e3
          rw [e1] at ra; rw [e2] at rb; rw [e3] at rc
          split at k4
          · rename_i es hst
            exact l_mset h hdst (.inr hop) g1 g2 hst ra rb rc k4.1 k4.2.1 k4.2.2
          · rename_i es ck hst
            exact l_msetD h hdst (.inr hop) g1 g2 hst ra rb rc k4.1 k4.2.1 k4.2.2
          · exact k4.elim
        · exact k4.elim
      · exact hk.elim
    · cases hof
  | call c =>
    obtain ⟨callee, args, argTypes⟩ := c
    simp only [IOp.of, hop] at hof
    split at hof
    · split at hof
      · split at hof
        · injection hof with hof; subst hof; simp [IOp.hard] at hhard
        · injection hof with hof; subst hof; simp [IOp.hard] at hhard
        · injection hof with hof; subst hof; simp [IOp.hard] at hhard
        · cases hof
      · cases hof
    · split at hof
      · split at hof
        · injection hof with hof; subst hof; simp [IOp.hard] at hhard
        · cases hof
      · cases hof
    · split at hof
      · split at hof
        · injection hof with hof; subst hof; simp [IOp.hard] at hhard
        · cases hof
      · cases hof
    · split at hof
      · rename_i y z t t2 hargs htys
        have e1 : args = #[y, z] := Array.toList_inj.1 (by simpa using hargs)
        have e2 : argTypes = #[t, t2] := Array.toList_inj.1 (by simpa using htys)
        subst e1; subst e2
        split at hof
        · rename_i u v et et2 hu hv ht ht2
          split at hof
          · rename_i i hi
            split at hof
            · rename_i zv hz
              split at hof
              · rename_i hzs'
                obtain ⟨hzs, hzo'⟩ := hzs'
                have hzo : ∀ c ∈ zv.cells.toList, c.oneCell' = true := (zelem_rel x.w x.F zv).ones (onesB_mem hzo')
                injection hof with hof
                cases hxA : (isSlotA owns o.dst && i.size == 1)
                case true =>
                  rw [hxA] at hof
                  simp only [if_true] at hof
                  subst hof
                  simp only [vcOp] at hk
                  split at hk
                  · rename_i d hdst
                    obtain ⟨⟨k1, k2, g1, g2, g3, g4⟩, k4⟩ := hk
                    have ru := Opd.of_sv h hu k1
                    have rv := Opd.of_sv h hv k2
                    have hs1 : i.size = 1 := by simp only [Bool.and_eq_true, beq_iff_eq] at hxA; exact hxA.2
                    unfold appxTo at k4
                    split at g1
                    · rename_i w he
                      rw [he] at rv k4
                      have w1 : ∀ cs, w ≠ .agg cs := fun cs e => by subst e; simp [AV.one] at g1
                      have w2 : ∀ cs, w ≠ .pv (.agg cs) := fun cs e => by subst e; simp [AV.one, PV.one] at g1
                      split at g2
                      · rename_i he2
                        rw [he2] at k4 g3 g4 ru
                        refine l_appx h d (hd d hdst) hdst hop ht ht2 hi hz hzs hs1 (r := d) (n := 0) (olds := []) ru rv g1 w1 w2 (.inl ⟨rfl, rfl, rfl⟩) g3 g4 (Nat.lt_of_lt_of_le (hd d hdst) (Nat.le_trans h.small (by omega))) ?_
                        simpa only [appRow, appxOlds, appLen, slotL] using k4
                      · rename_i r off n he2
                        rw [he2] at k4 g3 g4 ru
                        obtain ⟨g2, g5⟩ := g2
                        split at g2
                        · rename_i cs hcs
                          obtain ⟨rfl, hn, hn0⟩ := g2
                          refine l_appx h d (hd d hdst) hdst hop ht ht2 hi hz hzs hs1 (r := r) (n := n) (olds := cs) ru rv g1 w1 w2 (.inr ⟨rfl, hcs, hn, hn0⟩) g3 g4 g5 ?_
                          simpa only [appRow, appxOlds, appLen, slotL, hcs] using k4
                        · exact g2.elim
                      · exact g2.elim
                    · exact g1.elim
                  · exact hk.elim
                rw [hxA] at hof
                simp only [Bool.false_eq_true, if_false] at hof
                cases hsA : isSoftA owns o.dst
                case true => rw [hsA] at hof; simp only [if_true] at hof; subst hof; simp [IOp.hard] at hhard
                rw [hsA] at hof
                simp only [Bool.false_eq_true, if_false] at hof
                have rowIs_xs : ∀ {r s : Nat}, rowIs s (stGet σ.st r) → ∃ xs, stGet σ.st r = some (.sl s xs) := fun {r s} hr => by
                  unfold rowIs at hr
                  split at hr
                  · rename_i s' xs he; exact ⟨xs, by rw [he, hr]⟩
                  · exact hr.elim
                have main : ∀ {K : St → Prop} (d : Nat), o.dst = some d → VRel x (u.sv σ) (a.eval y) → VRel x (v.sv σ) (a.eval z) → appOk σ i.size i.bytes (u.sv σ) (v.sv σ) → K (appTo σ d i.size (u.sv σ) (v.sv σ)) →
                    ∀ Q, o.wp P a x.w (fun a' w' => ∃ σ' y, SRel e σ' y a' ∧ y.w = w' ∧ K σ') Q := fun {K} d hdst ru rv ⟨g1, g2, ps, g3, g4, g5, g6⟩ k4 => by
                  unfold appTo at k4
                  rw [g3] at k4
                  simp only [Option.getD_some] at k4
                  have hrow : ∀ r off m, v.sv σ = .row r off m → ∃ xs, stGet σ.st r = some (.sl i.size xs) := fun r off m he => by
                    rw [he] at g2
                    exact rowIs_xs g2
                  split at g1
                  · rename_i he
                    rw [he] at k4 g5 g6 ru
                    refine l_app h d (hd d hdst) hdst hop ht ht2 hi hz hzs hzo (r := d) (off := 0) (n := 0) (olds := []) ru rv g3 g4 hrow (.inl ⟨rfl, rfl, rfl⟩) g5 g6 (Nat.lt_of_lt_of_le (hd d hdst) (Nat.le_trans h.small (by omega))) ?_
                    simpa only [appRow, appOld, appLen] using k4
                  · rename_i r off n he
                    rw [he] at k4 g5 g6 ru
                    obtain ⟨xs, hxs⟩ := rowIs_xs g1.1
                    refine l_app h d (hd d hdst) hdst hop ht ht2 hi hz hzs hzo (r := r) (off := off) (n := n) (olds := (xs.drop off).take n) ru rv g3 g4 hrow (.inr ⟨rfl, xs, hxs, rfl⟩) g5 g6 g1.2 ?_
                    simpa only [appRow, appOld, appLen, hxs, rowXs] using k4
                  · exact g1.elim
                have mainz : ∀ (d r : Nat), o.dst = some d → VRel x (u.sv σ) (a.eval y) → VRel x (v.sv σ) (a.eval z) → appOk σ i.size i.bytes (u.sv σ) (v.sv σ) → K ((appTo σ d i.size (u.sv σ) (v.sv σ)).frz1 r) →
                    ∀ Q, o.wp P a x.w (fun a' w' => ∃ σ' y, SRel e σ' y a' ∧ y.w = w' ∧ K σ') Q := fun d r hdst ru rv g k4 Q => by
                  refine Oper.wp_mono (fun a' w' ⟨σ', y, g1, g2, g3⟩ => ?_) (main (K := fun σ' => K (σ'.frz1 r)) d hdst ru rv g k4 Q)
                  obtain ⟨z, q1, q2⟩ := g1.frz1 r
                  exact ⟨_, z, q2, q1.trans g2, g3⟩
                cases hb : isOwn owns o.dst
                case true =>
                  rw [hb] at hof
                  simp only [if_true] at hof
                  subst hof
                  simp only [vcOp] at hk
                  split at hk
                  · rename_i d hdst
                    obtain ⟨⟨k1, k2⟩, k3⟩ := hk
                    have ru := Opd.of_sv h hu k1
                    have rv := Opd.of_sv h hv k2
                    unfold appiGo at k3
                    split at k3
                    · rename_i r off n he
                      rw [he] at ru
                      split at k3
                      · rename_i s' xs hr
                        split at k3
                        rotate_left
                        · rw [← he] at k3 ru
                          exact mainz d r hdst ru rv k3.1 k3.2
                        obtain ⟨rfl, g1, g2, ps, g3, g4, g5, g6⟩ := k3
                        refine l_appi h d (hd d hdst) hdst hop ht ht2 hi ru rv g3 g4 (fun q off' m he' => ?_) hr (by omega) g5 g1 g6
                        rw [he'] at g2
                        simp only [rowIs] at g2
                        cases hq : stGet σ.st q with
                        | none => rw [hq] at g2; exact g2.elim
                        | some row =>
                          rw [hq] at g2
                          cases row with
                          | sl s'' xs' => exact ⟨xs', by rw [show s'' = i.size from g2]⟩
                          | _ => exact g2.elim
                      · rename_i s' xs hr
                        obtain ⟨rfl, g1, g2, ps, g3, g4, g5, g7, g8, g6⟩ := k3
                        refine l_appf h d (hd d hdst) hdst hop ht ht2 hi hz hzs hzo ru rv g3 g4 (fun q off' m he' => ?_) hr g1 g5 g7 g8 g6
                        rw [he'] at g2
                        simp only [rowIs] at g2
                        cases hq : stGet σ.st q with
                        | none => rw [hq] at g2; exact g2.elim
                        | some row =>
                          rw [hq] at g2
                          cases row with
                          | sl s'' xs' => exact ⟨xs', by rw [show s'' = i.size from g2]⟩
                          | _ => exact g2.elim
                      · exact k3.elim
                    · rename_i he
                      rw [← he] at k3
                      exact mainz d d hdst ru rv k3.1 k3.2
                    · exact k3.elim
                  · exact hk.elim
                rw [hb] at hof
                simp only [Bool.false_eq_true, if_false] at hof
                subst hof
                simp only [vcOp] at hk
                split at hk
                · rename_i d hdst
                  obtain ⟨⟨k1, k2, g⟩, k4⟩ := hk
                  exact main d hdst (Opd.of_sv h hu k1) (Opd.of_sv h hv k2) g k4
                · exact hk.elim
              · cases hof
            · cases hof
          · cases hof
        · rename_i u v et k2 hu hv ht ht2
          split at hof
          · rename_i i hi
            split at hof
            · rename_i zv hz
              split at hof
              · rename_i hzs'
                obtain ⟨hzs, hz0, hzo'⟩ := hzs'
                have hzo : ∀ c ∈ zv.cells.toList, c.oneCell' = true := (zelem_rel x.w x.F zv).ones (onesB_mem hzo')
                injection hof with hof; subst hof
                simp only [vcOp] at hk
                split at hk
                · rename_i d hdst
                  obtain ⟨⟨k1, k2⟩, k3⟩ := hk
                  have ru := Opd.of_sv h hu k1
                  have rv := Opd.of_sv h hv k2
                  unfold appzGo at k3
                  split at k3
                  · rename_i r off n kk m he he2
                    rw [he] at ru
                    rw [he2] at rv
                    split at k3
                    · rename_i s' xs hr
                      obtain ⟨rfl, g0, g1, g5, g7, g8, g6⟩ := k3
                      exact l_appz h d (hd d hdst) hdst hop ht ht2 hi hz hzs hzo hz0 (fun w F => zelem_rel w F zv) (onesB_mem hzo') ru (by simpa only [VRel, PRel] using rv) g0 hr g1 g5 g7 g8 g6
                    · exact k3.elim
                  · exact k3.elim
                · exact hk.elim
              · cases hof
            · cases hof
          · cases hof
        · cases hof
      · cases hof
    · split at hof
      · rename_i y z t t2 hargs htys
        have e1 : args = #[y, z] := Array.toList_inj.1 (by simpa using hargs)
        have e2 : argTypes = #[t, t2] := Array.toList_inj.1 (by simpa using htys)
        subst e1; subst e2
        split at hof
        · rename_i u v kk et hu hv hmap
          injection hof with hof; subst hof
          obtain ⟨kt, g1, g2⟩ := mapOf_parts hmap
          simp only [vcOp] at hk
          split at hk
          · rename_i hdst
            obtain ⟨⟨k1, k2⟩, k3⟩ := hk
            have ru := Opd.of_sv h hu k1
            have rv := Opd.of_sv h hv k2
            unfold mdelGo at k3
            split at k3
            · rename_i r key e1 e2
              rw [e1] at ru; rw [e2] at rv
              split at k3
              · rename_i es ck hst
                exact l_mdel h hdst hop g1 g2 hst ru rv k3.1 k3.2.1 k3.2.2
              · exact k3.elim
            · exact k3.elim
          · exact hk.elim
        · cases hof
      · cases hof
    · split at hof
      · rename_i y t hargs htys
        have e1 : args = #[y] := Array.toList_inj.1 (by simpa using hargs)
        have e2 : argTypes = #[t] := Array.toList_inj.1 (by simpa using htys)
        subst e1; subst e2
        split at hof
        · rename_i u et hu ht
          split at hof
          · rename_i i hi
            split at hof
            · rename_i zv hz
              split at hof
              · rename_i hcond
                obtain ⟨hzs, hpos, hone⟩ := hcond
                injection hof with hof; subst hof
                simp only [vcOp] at hk
                split at hk
                · rename_i hdst
                  obtain ⟨k1, k2⟩ := hk
                  have ru := Opd.of_sv h hu k1
                  unfold clrGo at k2
                  split at k2
                  · rename_i r off n he
                    rw [he] at ru
                    split at k2
                    · rename_i s' xs hr
                      obtain ⟨rfl, g1, g2, g3⟩ := k2
                      have hpz := zelem_rel x.w x.F zv
                      exact l_clr h hdst hop ht hi hz ru hr g1 g2 hpz ⟨by have := hpz.length; rw [← this]; simpa using hzs, onesB_mem hone⟩ g3
                    · exact k2.elim
                  · exact k2.elim
                · exact hk.elim
              · cases hof
            · cases hof
          · cases hof
        · cases hof
      · cases hof
    · split at hof
      · rename_i y t hargs htys
        have e1 : args = #[y] := Array.toList_inj.1 (by simpa using hargs)
        have e2 : argTypes = #[t] := Array.toList_inj.1 (by simpa using htys)
        subst e1; subst e2
        split at hof
        · rename_i u et hu ht
          injection hof with hof; subst hof
          simp only [vcOp] at hk
          split at hk
          · rename_i d hdst
            obtain ⟨k1, k2⟩ := hk
            have ru := Opd.of_sv h hu k1
            unfold caprGo at k2
            split at k2
            · rename_i r off n he
              rw [he] at ru
              split at k2
              · rename_i s xs hr
                obtain ⟨rfl, g1, g2⟩ := k2
                exact l_cap h d (hd d hdst) hdst hop ht ru hr g1 g2
              · exact k2.elim
            · exact k2.elim
          · exact hk.elim
        · cases hof
      · cases hof
    · split at hof
      · rename_i y z t t2 hargs htys
        have e1 : args = #[y, z] := Array.toList_inj.1 (by simpa using hargs)
        have e2 : argTypes = #[t, t2] := Array.toList_inj.1 (by simpa using htys)
        subst e1; subst e2
        split at hof
        · rename_i u v et hu hv ht
          split at hof
          · rename_i i hi
            injection hof with hof; subst hof
            simp only [vcOp] at hk
            split at hk
            · rename_i d hdst
              obtain ⟨⟨k1, k2⟩, k3⟩ := hk
              have ru := Opd.of_sv h hu k1
              have rv := Opd.of_sv h hv k2
              have src : ∀ {ps : List PV} {N n : Nat}, (match v.sv σ with
                  | .row q _ _ => rowS (stGet σ.st q) = some i.size
                  | _ => True) → cpSrc σ (v.sv σ) = some ps → WfL i.size ps → 0 < N → Nat.min ps.length n = N →
                  ∃ news, (∀ w', w'.heap = x.w.heap → (Builtin.firstCells i.size N (a.eval z)).run P w' = .ok news.toArray w') ∧ (∀ w', (Builtin.lenOf (a.eval z)).run P w' = .ok ps.length w') ∧ PRels x.w x.F (flat (ps.take N)) news := by
                intro ps N n g1 g2 g3 g4 g5
                refine cp_src h rv g2 g3 (fun q off m he => ?_) (by rw [← g5]; exact Nat.min_le_left _ _) g4
                rw [he] at g1
                exact g1
              unfold cpyGo at k3
              split at k3
              · rename_i r off n he
                rw [he] at ru
                split at k3
                · rename_i s' xs hr
                  obtain ⟨rfl, g0, g1, ps, N, g2, g3, g4, g5, g6⟩ := k3
                  obtain ⟨news, n1, n2, n3⟩ := src g1 g2 g3 g4 g5
                  exact l_cpy h d (hd d hdst) hdst hop ht hi g5 ru n1 n2 (by rw [List.length_take, ← g5]; have := Nat.min_le_left ps.length n; exact Nat.min_eq_left this) n3 g3.take hr g0 g6
                · rename_i s' xs hr
                  obtain ⟨rfl, g0, g1, ps, N, g2, g3, g4, g5, g6⟩ := k3
                  obtain ⟨news, n1, n2, n3⟩ := src g1 g2 g3 g4 g5
                  refine l_cpy (h.weakF hr) d (hd d hdst) hdst hop ht hi g5 ru n1 n2 (by rw [List.length_take, ← g5]; have := Nat.min_le_left ps.length n; exact Nat.min_eq_left this) n3 g3.take (xs := xs) (by simp [stGet]) g0 ?_
                  have e1 : stDel ((r, Row.sl i.size xs) :: stDel σ.st r) r = stDel σ.st r := by
                    simp only [stDel, if_true]
                    exact stDel_twice _ _
                  rw [e1]
                  exact g6
                · exact k3.elim
              · exact k3.elim
            · exact hk.elim
          · cases hof
        · cases hof
      · cases hof
    · rename_i f
      split at hof
      · rename_i z zs hz hzs
        injection hof with hof
        have hb : isOwn owns o.dst = true := by
          cases hb : isOwn owns o.dst
          · rw [hb] at hof; simp only [Bool.false_eq_true, if_false] at hof; subst hof; simp [IOp.hard] at hhard
          · rfl
        rw [hb] at hof
        simp only [if_true] at hof
        subst hof
        simp only [vcOp] at hk
        split at hk
        · rename_i d hdst
          obtain ⟨⟨k1, k2⟩, k3⟩ := hk
          split at k3
          · rename_i g caps hg
            rcases k3 with k3 | ⟨v, f1, f2⟩
            case inr => exact l_callx h d (hd d hdst) hdst hop (Opd.of_sv h hz k1) hg hzs k2 f1 f2
            obtain ⟨m, as, st, st', v, f1, f2, f3, f4, f5, f6, f7, f8⟩ := k3
            exact l_calls h d (hd d hdst) hdst hop (Opd.of_sv h hz k1) hg hzs k2 f1 f2 f3 f4 f5 f6 f7 f8
          · exact k3.elim
        · exact hk.elim
      · cases hof
    · cases hof
  | next y str =>
    simp only [IOp.of, hop] at hof
    split at hof
    · rename_i z hz
      injection hof with hof
      cases str
      · simp only [Bool.false_eq_true, if_false] at hof
        subst hof
        simp only [vcOp] at hk
        split at hk
        · rename_i d hdst
          obtain ⟨k1, k2⟩ := hk
          have ry := Opd.of_sv h hz k1
          unfold nxtmGo at k2
          split at k2
          · rename_i r he
            rw [he] at ry
            split at k2
            · rename_i m n rem cur hst
              split at k2
              · rename_i es hsm
                exact l_nxtm h d (hd d hdst) hdst hop hst hsm k2.1 ry k2.2.1 k2.2.2
              · exact k2.elim
            · rename_i m n bs rem cur hst
              split at k2
              · rename_i es ck hsm
                exact l_nxtmD h d (hd d hdst) hdst hop hst hsm k2.1 ry k2.2.1 k2.2.2
              · exact k2.elim
            · exact k2.elim
          · exact k2.elim
        · exact hk.elim
      · simp only [if_true] at hof
        subst hof
        simp only [vcOp] at hk
        split at hk
        · rename_i d hdst
          obtain ⟨k1, k2⟩ := hk
          have ry := Opd.of_sv h hz k1
          unfold nxtsGo at k2
          split at k2
          · rename_i r he
            rw [he] at ry
            split at k2
            · rename_i s pos hst
              exact l_nxts h d (hd d hdst) hdst hop hst ry k2.1 k2.2
            · exact k2.elim
          · exact k2.elim
        · exact hk.elim
    · cases hof
  | _ =>
    exfalso
    simp only [IOp.of, hop] at hof
    repeat' split at hof
    all_goals first
      | contradiction
      | (injection hof with hof; subst hof; simp [IOp.hard] at hhard; done)
      | (injection hof with hof; cases hb : isOwn owns o.dst <;> simp [hb] at hof <;> subst hof <;> simp [IOp.hard] at hhard; done)
      | (cases hof; done)
end
end Go.Vc

namespace Go.Vc
open Go.RowKit
set_option linter.constructorNameAsVariable false

/-! ## Regions -/
def gOf (ops : Array Oper) : Option (Nat × Bool) → Option (Option (Nat × Bool))
  | none => some none
  | some (j, b) => match ops[j]? with
    | some oj => match oj.dst with
      | some t => some (some (t, b))
      | none => none
    | none => none
def dstOk (n : Nat) : Option Nat → Bool
  | none => true
  | some d => decide (d < n)
def instOf (P : Program) (owns : List Nat) (n : Nat) (ops : Array Oper) (o : Oper) : Option Inst :=
  match IOp.of P owns o, gOf ops o.guard with
  | some op, some g => if dstOk n o.dst then some ⟨o.dst, g, op⟩ else none
  | _, _ => none

section
variable {P : Program} {e : Env} {σ : St} {x : Cx} {a : Act} {o : Oper} {owns : List Nat} {K : St → Prop} {ops : Array Oper}

theorem instOf_parts {i : Inst} (h : instOf P owns e.n ops o = some i) : IOp.of P owns o = some i.op ∧ gOf ops o.guard = some i.g ∧ i.d = o.dst ∧ ∀ d, o.dst = some d → d < e.n := by
  unfold instOf at h
  split at h
  · rename_i op g h1 h2
    split at h
    · rename_i hd
      injection h with h; subst h
      refine ⟨h1, h2, rfl, fun d hdst => ?_⟩
      rw [hdst] at hd
      simpa [dstOk] using hd
    · cases h
  · cases h

theorem get_known (h : SRel e σ x a) {t : Nat} (hk : frGet σ.fr t ≠ .un) : ∃ cv, a.tmps[t]? = some cv ∧ VRel x (frGet σ.fr t) cv := by
  rcases frGet_mem (l := σ.fr) (k := t) with h1 | h1
  · exact absurd h1 hk
  · exact h.fr _ _ h1

def asB : Value → Option Bool
  | .bool b => some b
  | _ => none

theorem wanted_none (hg : o.guard = none) (y : Nat → Option Bool) : Region.wanted o y = true := by simp [Region.wanted, hg]
theorem wanted_gv (h : SRel e σ x a) {t : Nat} {b : Bool} (hg : gOf ops o.guard = some (some (t, b))) (hok : (frGet σ.fr t).gok) : Region.wanted o (yielded ops a.tmps) = (frGet σ.fr t).gv b := by
  cases hgd : o.guard with
  | none => rw [hgd] at hg; simp [gOf] at hg
  | some jb =>
    obtain ⟨j, b'⟩ := jb
    rw [hgd] at hg
    simp only [gOf] at hg
    split at hg
    · rename_i oj hj
      split at hg
      · rename_i t' ht
        injection hg with hg; injection hg with hg; injection hg with h1 h2
        subst h1; subst h2
        have hne : frGet σ.fr t' ≠ .un := fun hu => by rw [hu] at hok; exact hok
        obtain ⟨cv, h1, h2⟩ := get_known h hne
        have hy : yielded ops a.tmps j = asB cv := by
          unfold yielded
          simp only [hj, Option.bind_some, ht, h1]
          cases cv <;> rfl
        unfold Region.wanted
        rw [hgd]
        simp only [hy]
        unfold AV.gok at hok
        split at hok
        · rename_i c he
          rw [he] at h2
          simp only [VRel, PRel] at h2
          subst h2
          simp only [he, AV.gv]
          cases c <;> cases b' <;> rfl
        · rename_i c' v he
          rw [he] at h2
          simp only [VRel] at h2
          simp only [he, AV.gv]
          cases c' with
          | false => rw [h2.2 rfl]; simp [undef, asB]
          | true =>
            have hv := h2.1 rfl
            have hb : v.isB := hok.resolve_left (by simp)
            unfold AV.isB at hb
            split at hb
            · rename_i c
              simp only [VRel, PRel] at hv
              rw [hv]
              cases c <;> cases b' <;> rfl
            · exact hb.elim
        · exact hok.elim
      · cases hg
    · cases hg

theorem SRel.whn {d : Nat} {v : AV} {c : Bool} (h : SRel e (σ.put d v) x a) (hc : c = true) : SRel e (σ.put d (.whn c v)) x a :=
  { h with
    fr := fun k u hm => by
      simp only [St.put, frPut] at hm
      rcases List.mem_cons.1 hm with hm | hm
      · injection hm with h1 h2
        subst h1; subst h2
        obtain ⟨cv, g1, g2⟩ := h.fr k v (by simp [St.put, frPut])
        exact ⟨cv, g1, by simp only [VRel]; exact ⟨fun _ => g2, fun hf => by rw [hc] at hf; cases hf⟩⟩
      · exact h.fr k u (by simp only [St.put, frPut]; exact List.mem_cons_of_mem _ hm) }
theorem SRel.skip (h : SRel e σ x a) {d : Nat} (hd : d < e.n) {v : AV} {c : Bool} (hc : c = false) : SRel e (σ.put d (.whn c v)) x (a.put (some d) undef) :=
  h.put hd (by unfold VRel; exact ⟨fun ht => (by rw [hc] at ht; cases ht), fun _ => rfl⟩)

theorem guard_none {g : Option (Nat × Bool)} (h2 : gOf ops g = some none) : g = none := by
  cases g with
  | none => rfl
  | some jb =>
    obtain ⟨j, b⟩ := jb
    simp only [gOf] at h2
    repeat' split at h2
    all_goals cases h2

theorem inst_quiet {i : Inst} {is : List Inst} (hi : instOf P owns e.n ops o = some i) (hq : i.op.quiet = true) (h : SRel e σ x a) (hk : vcOps P (i :: is) σ K) :
    ∃ cv σ', YieldsIf P ops (Agr x.w) o cv a ∧ SRel e σ' x (a.put o.dst cv) ∧ vcOps P is σ' K := by
  obtain ⟨h1, h2, h3, h4⟩ := instOf_parts hi
  obtain ⟨d, g, op⟩ := i
  simp only at h1 h2 h3 hq
  subst h3
  cases op with
  | q q =>
    cases g with
    | none =>
      simp only [vcOps, vcOp] at hk
      split at hk
      · rename_i d hdst
        obtain ⟨cv, k1, k2⟩ := of_q h1 h hk.1
        have hg : o.guard = none := guard_none h2
        rw [hdst]
        exact ⟨cv, _, .inl ⟨wanted_none hg _, fun w hw => k2 w hw⟩, h.put (h4 d hdst) k1, hk.2⟩
      · exact hk.elim
    | some tb =>
      obtain ⟨t, b⟩ := tb
      simp only [vcOps, vcGd] at hk
      split at hk
      · rename_i d hdst
        obtain ⟨g1, g2, g3⟩ := hk
        have hw := wanted_gv h h2 g1
        rw [hdst]
        cases hb : (frGet σ.fr t).gv b
        · rw [hb] at hw g3
          exact ⟨undef, _, .inr ⟨hw, rfl⟩, h.skip (h4 d hdst) rfl, g3⟩
        · rw [hb] at hw g3
          obtain ⟨cv, k1, k2⟩ := of_q h1 h (g2 hb)
          exact ⟨cv, _, .inl ⟨hw, fun w hw => k2 w hw⟩, (h.put (h4 d hdst) k1).whn rfl, g3⟩
      · exact hk.elim
  | _ => simp [IOp.quiet] at hq

/-- what holds behind an operation -/
def Behind (P : Program) (e : Env) (is : List Inst) (K : St → Prop) (a : Act) (w : World) : Prop := ∃ σ' y, SRel e σ' y a ∧ y.w = w ∧ vcOps P is σ' K

theorem inst_soft [EP e P] {i : Inst} {is : List Inst} (hi : instOf P owns e.n ops o = some i) (hs : i.op.soft = true) (h : SRel e σ x a) (hk : vcOps P (i :: is) σ K) (Q : Exit → Act → World → Prop) :
    if Region.wanted o (yielded ops a.tmps) then o.wp P a x.w (fun a' w' => Agr x.w w' ∧ Behind P e is K a' w') Q else Agr x.w x.w ∧ Behind P e is K (a.put o.dst undef) x.w := by
  obtain ⟨h1, h2, h3, h4⟩ := instOf_parts hi
  obtain ⟨d, g, op⟩ := i
  simp only at h1 h2 h3 hs
  subst h3
  cases g with
  | none =>
    rw [if_pos (wanted_none (guard_none h2) _)]
    simp only [vcOps] at hk
    exact Oper.wp_mono (fun a' w' ⟨σ', y, g1, g2, g3, g4⟩ => ⟨g4, σ', y, g1, g2, g3⟩) (of_soft h1 hs h4 h hk Q)
  | some tb =>
    obtain ⟨t, b⟩ := tb
    simp only [vcOps] at hk
    cases op with
    | lits xs s =>
      simp only [vcGd] at hk
      split at hk
      · rename_i d hdst
        obtain ⟨g1, g2, g3⟩ := hk
        have hw := wanted_gv h h2 g1
        cases hb : (frGet σ.fr t).gv b
        · rw [hw, hb, if_neg (by simp), hdst]
          rw [hb] at g3
          exact ⟨Agr.refl _, _, x, h.skip (h4 d hdst) rfl, rfl, g3⟩
        · rw [hw, hb, if_pos rfl]
          rw [hb] at g3
          have hv : vcOp P σ o.dst (.lits xs s) (fun σ' => σ' = σ.put d (mkLit (evs σ xs))) := by
            simp only [vcOp, hdst]
            exact ⟨g2 hb, trivial⟩
          exact Oper.wp_mono (fun a' w' ⟨σ', y, k1, k2, k3, k4⟩ => ⟨k4, _, y, by rw [k3] at k1; exact k1.whn rfl, k2, g3⟩) (of_soft h1 rfl h4 h hv Q)
      · exact hk.elim
    | call f args =>
      simp only [vcGd] at hk
      split at hk
      · rename_i d hdst
        obtain ⟨g1, g2, g3⟩ := hk
        have hw := wanted_gv h h2 g1
        split at g3
        · rename_i gg ps pure hca
          obtain ⟨p, f1, f2⟩ := g3
          cases hb : (frGet σ.fr t).gv b
          · rw [hw, hb, if_neg (by simp), hdst]
            rw [hb] at f2
            exact ⟨Agr.refl _, _, x, h.skip (h4 d hdst) rfl, rfl, f2⟩
          · rw [hw, hb, if_pos rfl]
            rw [hb] at f2
            have hv : vcOp P σ o.dst (.call f args) (fun σ' => σ' = σ.put d (.pv p)) := by
              simp only [vcOp, hdst, hca]
              exact ⟨g2 hb, .pv p, [], (f1 hb).1, (f1 hb).2.imp id (fun hf => ⟨hf, trivial⟩), trivial, .inl rfl⟩
            exact Oper.wp_mono (fun a' w' ⟨σ', y, k1, k2, k3, k4⟩ => ⟨k4, _, y, by rw [k3] at k1; exact k1.whn rfl, k2, f2⟩) (of_soft h1 rfl h4 h hv Q)
        · exact g3.elim
      · exact hk.elim
    | q q => simp [IOp.soft] at hs
    | _ =>
      simp only [vcGd] at hk
      obtain ⟨g1, g2, g3⟩ := hk
      rw [wanted_gv h h2 g1, g2, if_pos rfl]
      exact Oper.wp_mono (fun a' w' ⟨σ', y, g1, g2, g3, g4⟩ => ⟨g4, σ', y, g1, g2, g3⟩) (of_soft h1 hs h4 h g3 Q)

theorem inst_hard [EP e P] {i : Inst} {is : List Inst} (hi : instOf P owns e.n ops o = some i) (hh : i.op.hard = true) (h : SRel e σ x a) (hk : vcOps P (i :: is) σ K) (Q : Exit → Act → World → Prop) :
    Region.wanted o (yielded ops a.tmps) = true ∧ o.wp P a x.w (Behind P e is K) Q := by
  obtain ⟨h1, h2, h3, h4⟩ := instOf_parts hi
  obtain ⟨d, g, op⟩ := i
  simp only at h1 h2 h3 hh
  subst h3
  cases g with
  | none =>
    simp only [vcOps] at hk
    exact ⟨wanted_none (guard_none h2) _, of_hard h1 hh h4 h hk Q⟩
  | some tb =>
    obtain ⟨t, b⟩ := tb
    simp only [vcOps] at hk
    cases op with
    | q _ => simp [IOp.hard] at hh
    | lits _ _ => simp [IOp.hard] at hh
    | call _ _ => simp [IOp.hard] at hh
    | _ =>
      simp only [vcGd] at hk
      obtain ⟨g1, g2, g3⟩ := hk
      exact ⟨by rw [wanted_gv h h2 g1, g2], of_hard h1 hh h4 h g3 Q⟩

theorem kinds (op : IOp) : op.quiet = true ∨ op.soft = true ∨ op.hard = true := by cases op <;> simp [IOp.quiet, IOp.soft, IOp.hard]

/-- one operation, whatever its kind -/
theorem inst_any [EP e P] {i : Inst} {is : List Inst} (hi : instOf P owns e.n ops o = some i) (h : SRel e σ x a) (hk : vcOps P (i :: is) σ K) (Q : Exit → Act → World → Prop) :
    if Region.wanted o (yielded ops a.tmps) then o.wp P a x.w (Behind P e is K) Q else Behind P e is K (a.put o.dst undef) x.w := by
  rcases kinds i.op with hq | hs | hh
  · obtain ⟨cv, σ', hy, h1, h2⟩ := inst_quiet hi hq h hk
    rcases hy with ⟨hw, hr⟩ | ⟨hw, hv⟩
    · rw [hw, if_pos rfl]
      exact wp_value (hr x.w (Agr.refl _)) ⟨σ', x, h1, rfl, h2⟩
    · rw [hw, if_neg (by simp)]
      subst hv
      exact ⟨σ', x, h1, rfl, h2⟩
  · have := inst_soft hi hs h hk Q
    split at this
    · rename_i hw; rw [if_pos hw]; exact Oper.wp_mono (fun _ _ hb => hb.2) this
    · rename_i hw; rw [if_neg hw]; exact this.2
  · obtain ⟨hw, h1⟩ := inst_hard hi hh h hk Q
    rw [hw, if_pos rfl]; exact h1

/-! ### in the text's order -/
def instsOf (P : Program) (owns : List Nat) (n : Nat) (ops : Array Oper) : List Oper → Option (List Inst)
  | [] => some []
  | o :: os => match instOf P owns n ops o, instsOf P owns n ops os with
    | some i, some is => some (i :: is)
    | _, _ => none

theorem list_sound [EP e P] {Q : Exit → Act → World → Prop} (hQ : ∀ a w σ y, SRel e σ y a → y.w = w → K σ → Q .normal a w) : ∀ (os : List Oper) (is : List Inst) (σ : St) (x : Cx) (a : Act), instsOf P owns e.n ops os = some is → SRel e σ x a →
    vcOps P is σ K → wpList P ops Q os a x.w
  | [], is, σ, x, a, hi, h, hk => by
    simp only [instsOf, Option.some.injEq] at hi; subst hi
    exact hQ a x.w σ x h rfl hk
  | o :: os, is, σ, x, a, hi, h, hk => by
    simp only [instsOf] at hi
    split at hi
    · rename_i i is' h1 h2
      injection hi with hi; subst hi
      have := inst_any h1 h hk Q
      unfold wpList
      split
      · rename_i hw
        rw [if_pos hw] at this
        exact .inl (Oper.wp_mono (fun a' w' ⟨σ', y, g1, g2, g3⟩ => by rw [← g2]; exact list_sound hQ os is' σ' y a' h2 g1 g3) this)
      · rename_i hw
        rw [if_neg hw] at this
        obtain ⟨σ', y, g1, g2, g3⟩ := this
        rw [← g2]
        exact list_sound hQ os is' σ' y _ h2 g1 g3
    · cases hi
end
end Go.Vc

namespace Go.Vc
open Go.RowKit

/-! ## Regions whose order is drawn -/
section
variable {P : Program} {ops : Array Oper} {Q : Exit → Act → World → Prop} {calm : Nat → Bool}

/-- whatever order is picked from here on; a calm operation turns nothing that was there -/
def wpAnyK (P : Program) (ops : Array Oper) (Q : Exit → Act → World → Prop) (calm : Nat → Bool) : Nat → Array Bool → Act → World → Prop
  | 0, listed, a, w => Region.ready .any ops listed = [] ∧ Q .normal a w
  | fuel + 1, listed, a, w =>
    (Region.ready .any ops listed = [] → Q .normal a w) ∧
    ∀ i ∈ Region.ready .any ops listed, wpOp P ops Q i (fun a' w' => (calm i = true → Agr w w') ∧ wpAnyK P ops Q calm fuel (listed.setIfInBounds i true) a' w') a w

theorem wpAny_of_K : ∀ (fuel : Nat) (listed : Array Bool) (a : Act) (w : World), wpAnyK P ops Q calm fuel listed a w → wpAny P .any ops Q fuel listed a w
  | 0, _, _, _, h => h
  | fuel + 1, _, _, _, h => ⟨h.1, fun i hi => wpOp_mono (fun a' w' h' => wpAny_of_K fuel _ a' w' h'.2) (h.2 i hi)⟩



/-- .. and every operation keeps the class S -/
def wpAnyS (P : Program) (ops : Array Oper) (Q : Exit → Act → World → Prop) (calm : Nat → Bool) (S : World → Prop) : Nat → Array Bool → Act → World → Prop
  | 0, listed, a, w => Region.ready .any ops listed = [] ∧ Q .normal a w
  | fuel + 1, listed, a, w =>
    (Region.ready .any ops listed = [] → Q .normal a w) ∧
    ∀ i ∈ Region.ready .any ops listed, wpOp P ops Q i (fun a' w' => (calm i = true → Agr w w') ∧ S w' ∧ wpAnyS P ops Q calm S fuel (listed.setIfInBounds i true) a' w') a w
theorem wpAnyK_of_S {S : World → Prop} : ∀ (fuel : Nat) (listed : Array Bool) (a : Act) (w : World), wpAnyS P ops Q calm S fuel listed a w → wpAnyK P ops Q calm fuel listed a w
  | 0, _, _, _, h => h
  | fuel + 1, _, _, _, h => ⟨h.1, fun i hi => wpOp_mono (fun a' w' h' => ⟨h'.1, wpAnyK_of_S fuel _ a' w' h'.2.2⟩) (h.2 i hi)⟩
theorem wpAnyS_mono {S T : World → Prop} (hs : ∀ w, S w → T w) : ∀ (fuel : Nat) (listed : Array Bool) (a : Act) (w : World), wpAnyS P ops Q calm S fuel listed a w → wpAnyS P ops Q calm T fuel listed a w
  | 0, _, _, _, h => h
  | fuel + 1, _, _, _, h => ⟨h.1, fun i hi => wpOp_mono (fun a' w' h' => ⟨h'.1, hs _ h'.2.1, wpAnyS_mono hs fuel _ a' w' h'.2.2⟩) (h.2 i hi)⟩
/-- an operation that may come up and only reads what stays is taken first -/
theorem wpAnyS_first {S T : World → Prop} {i : Nat} {oi : Oper} {v : Value} {D : Nat → Bool} (hi : ops[i]? = some oi) (hsel : ∀ (j : Nat) (o : Oper) cs b, ops[j]? = some o → o.op ≠ .select cs b)
    (hQ : ∀ c a w, ¬ Q (.panic c) a w)
    (hD : ∀ d, D d = true → d ≠ i → ∀ od, ops[d]? = some od → ∃ e ∈ od.after, Region.binds .any e = true ∧ D e.on = true) :
    ∀ (fuel : Nat) (listed : Array Bool) (a : Act) (w : World),
      (∀ d, D d = true → listed.getD d false = false) → D i = true →
      (∀ j oj, ops[j]? = some oj → D j = false → listed.getD j true = false → (∀ w w', (calm j = true → Agr w w') → S w' → T w → T w') ∧ oi.apart ops oj = true) →
      i ∈ Region.ready .any ops listed → S w → T w → YieldsIf P ops T oi v a →
      wpAnyS P ops Q calm S fuel (listed.setIfInBounds i true) (a.put oi.dst v) w → wpAnyS P ops Q calm S (fuel + 1) listed a w := by
  have took : ∀ (fuel : Nat) (listed : Array Bool) (a : Act) (w : World), S w → T w → YieldsIf P ops T oi v a → wpAnyS P ops Q calm S fuel (listed.setIfInBounds i true) (a.put oi.dst v) w →
      wpOp P ops Q i (fun a' w' => (calm i = true → Agr w w') ∧ S w' ∧ wpAnyS P ops Q calm S fuel (listed.setIfInBounds i true) a' w') a w := fun fuel listed a w hs ht hy H =>
    hy.wpOp hi ht ⟨fun _ => Agr.refl w, hs, H⟩
  intro fuel
  induction fuel with
  | zero =>
    intro listed a w _ _ hfree hr hs ht hy H
    refine ⟨fun h => (by rw [h] at hr; cases hr), fun j hj => ?_⟩
    by_cases hji : j = i
    · subst hji; exact took 0 listed a w hs ht hy H
    · have := ready_mono hj hji
      rw [H.1] at this
      cases this
  | succ fuel ih =>
    intro listed a w hdis hDi hfree hr hs ht hy H
    refine ⟨fun h => (by rw [h] at hr; cases hr), fun j hj => ?_⟩
    by_cases hji : j = i
    · subst hji; exact took (fuel + 1) listed a w hs ht hy H
    · have h1 := H.2 j (ready_mono hj hji)
      obtain ⟨hjun, oj, hoj, hall⟩ := mem_ready.1 hj
      have hjD : D j = false := by
        cases hDj : D j
        · rfl
        · obtain ⟨e, he, hb, hDe⟩ := hD j hDj hji oj hoj
          have h2 := hall e he hb
          rw [hdis _ hDe] at h2
          cases h2
      obtain ⟨hstay, hap⟩ := hfree j oj hoj hjD hjun
      have h2 := wpOp_putIf hoj hap (fun cs b => hsel i oi cs b hi) (fun cs b => hsel j oj cs b hoj) (fun c a w hp => (hQ _ _ _ hp).elim) hy h1
      refine wpOp_mono (fun a' w' h3 => ⟨h3.2.1, h3.2.2.1, ?_⟩) h2
      refine ih (listed.setIfInBounds j true) a' w' (fun d hd => ?_) hDi (fun k ok hk hkD hun => ?_) (ready_mono hr (Ne.symm hji)) h3.2.2.1 (hstay w w' h3.2.1 h3.2.2.1 ht) h3.1 ?_
      · have hjd : j ≠ d := fun h => by rw [h] at hjD; rw [hjD] at hd; cases hd
        rw [getD_set_ne false hjd]
        exact hdis d hd
      · refine hfree k ok hk hkD ?_
        by_cases hjk : j = k
        · subst hjk; exact hjun
        · rw [getD_set_ne true hjk] at hun; exact hun
      · rw [Array.setIfInBounds_comm _ _ hji]
        exact h3.2.2.2

/-! ### the environment of what stands now -/
/-- the environment that begins here -/
def Env.at (e : Env) (σ : St) (x : Cx) : Env := { e with w0 := x.w, L := Own σ.st x.ρ, ρ0 := x.ρ }
instance {e : Env} {σ : St} {x : Cx} [EP e P] : EP (e.at σ x) P := ⟨EP.eq (e := e)⟩
theorem Own.old {e : Env} {σ : St} {x : Cx} {a : Act} (h : SRel e σ x a) {b : Nat} (ho : Own σ.st x.ρ b) : e.w0.heap.size ≤ b ∨ e.L b := by
  obtain ⟨r, row, h1, h2, h3⟩ := ho
  rw [← h3]; exact h.own r row h1 h2
theorem SRel.at {e : Env} [EP e P] {σ : St} {x : Cx} {a : Act} (h : SRel e σ x a) : SRel (e.at σ x) σ x a :=
  { h with
    own := fun r row h1 h2 => .inr ⟨r, row, h1, h2, rfl⟩
    f0 := fun b hb => ⟨Nat.lt_of_lt_of_le (h.f0 b hb).1 h.below.size, fun ho => by
      rcases Own.old h ho with h1 | h1
      · exact absurd (h.f0 b hb).1 (by omega)
      · exact (h.f0 b hb).2 h1⟩
    below := BelowL.refl _ _
    fix := fun _ _ => rfl
    tabs := by
      have h1 := h.now (P := P)
      have h2 : e.P = P := EP.eq
      show Tabs e.P x.w (fun b => e.F0 b ∨ Own σ.st x.ρ b)
      rw [h2]
      exact h1.on (fun _ _ _ => rfl) (Nat.le_refl _) fun b _ hb => (h.F b).2 hb }
theorem SRel.back {e : Env} {σ τ : St} {x y : Cx} {a a' : Act} (h : SRel e σ x a) (k : SRel (e.at σ x) τ y a') : SRel e τ y a' :=
  { k with
    own := fun r row h1 h2 => by
      rcases k.own r row h1 h2 with h3 | h3
      · exact .inl (Nat.le_trans h.below.size h3)
      · exact Own.old h h3
    f0 := h.f0
    below := ⟨k.below.os.trans h.below.os, k.below.tape.trans h.below.tape, k.below.output.trans h.below.output, Nat.le_trans h.below.size k.below.size,
      fun b hb hl => (k.below.block b (Nat.lt_of_lt_of_le hb h.below.size) fun ho => by
        rcases Own.old h ho with h1 | h1
        · omega
        · exact hl h1).trans (h.below.block b hb hl), Nat.le_trans h.below.drawn k.below.drawn⟩
    fix := fun r hr => (k.fix r hr).trans (h.fix r hr)
    tabs := h.tabs }

/-! ### the plan of a region -/
/-- those that wait for number i (the bits of m) do -/
def bitsWait (i m : Nat) : Nat → List Oper → Bool
  | _, [] => true
  | j, o :: os => (!m.testBit j || j == i || o.after.toList.any (fun e => Region.binds .any e && m.testBit e.on)) && bitsWait i m (j + 1) os
def bitsRest (ops : Array Oper) (oi : Oper) (m c : Nat) : Nat → List Oper → List Bool → Bool
  | j, o :: os, l :: ls => (m.testBit j && !l || (!m.testBit j && (l || (c.testBit j && oi.apart ops o)))) && bitsRest ops oi m c (j + 1) os ls
  | _, [], [] => true
  | _, _, _ => false

theorem bitsWait_spec {i m : Nat} : ∀ {l : List Oper} {k : Nat}, bitsWait i m k l = true → ∀ d od, l[d]? = some od → m.testBit (k + d) = true → k + d ≠ i → ∃ e ∈ od.after, Region.binds .any e = true ∧ m.testBit e.on = true
  | [], _, _, d, od, h, _, _ => by simp at h
  | o :: os, k, h, 0, od, hd, hm, hne => by
    simp only [List.getElem?_cons_zero, Option.some.injEq] at hd
    subst hd
    simp only [bitsWait, Bool.and_eq_true, Bool.or_eq_true, Bool.not_eq_true', beq_iff_eq, Nat.add_zero] at h hm hne
    rcases h.1 with (h1 | h1) | h1
    · rw [hm] at h1; cases h1
    · exact absurd h1 hne
    · obtain ⟨e, he, h2⟩ := List.any_eq_true.1 h1
      simp only [Bool.and_eq_true] at h2
      exact ⟨e, by simpa using he, h2⟩
  | o :: os, k, h, d + 1, od, hd, hm, hne => by
    simp only [bitsWait, Bool.and_eq_true] at h
    have h1 : k + 1 + d = k + (d + 1) := by omega
    exact bitsWait_spec h.2 d od (by simpa using hd) (by rw [h1]; exact hm) (by rw [h1]; exact hne)

theorem bitsRest_spec {oi : Oper} {m c : Nat} : ∀ {l : List Oper} {ls : List Bool} {k : Nat}, bitsRest ops oi m c k l ls = true → ∀ d od, l[d]? = some od →
    (m.testBit (k + d) = true ∧ ls[d]? = some false) ∨ (m.testBit (k + d) = false ∧ ∃ b, ls[d]? = some b ∧ (b = false → c.testBit (k + d) = true ∧ oi.apart ops od = true))
  | [], _, _, _, d, od, h => by simp at h
  | o :: os, [], _, h, _, _, _ => by simp [bitsRest] at h
  | o :: os, b :: ls, k, h, 0, od, hd => by
    simp only [List.getElem?_cons_zero, Option.some.injEq] at hd
    subst hd
    simp only [bitsRest, Bool.and_eq_true, Bool.or_eq_true, Bool.not_eq_true'] at h
    simp only [List.getElem?_cons_zero, Nat.add_zero]
    rcases h.1 with ⟨h1, h2⟩ | ⟨h1, h2⟩
    · exact .inl ⟨h1, by rw [h2]⟩
    · refine .inr ⟨h1, b, rfl, fun hb => ?_⟩
      rcases h2 with h2 | h2
      · rw [hb] at h2; cases h2
      · exact h2
  | o :: os, b :: ls, k, h, d + 1, od, hd => by
    simp only [bitsRest, Bool.and_eq_true] at h
    have h1 : k + 1 + d = k + (d + 1) := by omega
    have := bitsRest_spec h.2 d od (by simpa using hd)
    rw [h1] at this
    simpa using this

theorem bitsRest_dis {oi : Oper} {m c : Nat} {listed : Array Bool} (h : bitsRest ops oi m c 0 ops.toList listed.toList = true) (d : Nat) (hd : m.testBit d = true) : listed.getD d false = false := by
  rcases Nat.lt_or_ge d ops.size with hlt | hge
  · have hod' : ops.toList[d]? = some ops[d] := by simp [hlt]
    rcases bitsRest_spec h d _ hod' with ⟨_, g⟩ | ⟨g, _⟩
    · have g' : listed[d]? = some false := by simpa using g
      simp [Array.getD_eq_getD_getElem?, g']
    · rw [Nat.zero_add] at g; rw [g] at hd; cases hd
  · have hlen : listed.size = ops.size := by
      have : ∀ (l : List Oper) (ls : List Bool) (k : Nat), bitsRest ops oi m c k l ls = true → ls.length = l.length := by
        intro l
        induction l with
        | nil => intro ls k hb; cases ls with
          | nil => rfl
          | cons _ _ => simp [bitsRest] at hb
        | cons _ _ ih2 => intro ls k hb; cases ls with
          | nil => simp [bitsRest] at hb
          | cons _ _ =>
            simp only [bitsRest, Bool.and_eq_true] at hb
            simp [ih2 _ _ hb.2]
      simpa using this _ _ _ h
    have : listed[d]? = none := Array.getElem?_eq_none (by omega)
    simp [Array.getD_eq_getD_getElem?, this]
theorem bitsRest_free {oi : Oper} {m c : Nat} {listed : Array Bool} (h : bitsRest ops oi m c 0 ops.toList listed.toList = true) (j : Nat) (oj : Oper) (hoj : ops[j]? = some oj) (hj : m.testBit j = false) (hun : listed.getD j true = false) :
    c.testBit j = true ∧ oi.apart ops oj = true := by
  have hoj' : ops.toList[j]? = some oj := by simpa using hoj
  rcases bitsRest_spec h j _ hoj' with ⟨g, _⟩ | ⟨_, b, g1, g2⟩
  · rw [Nat.zero_add] at g; rw [g] at hj; cases hj
  · have g' : listed[j]? = some b := by simpa using g1
    have hb : b = false := by simpa [Array.getD_eq_getD_getElem?, g'] using hun
    have := g2 hb
    rwa [Nat.zero_add] at this

def planStep (ops : Array Oper) (listed : Array Bool) (c i m : Nat) (o : Oper) (quiet hard : Bool) : Bool :=
  if m == 0 then Region.ready .any ops listed == [i] && (!hard || !c.testBit i)
  else quiet && m.testBit i && (Region.ready .any ops listed).contains i && bitsWait i m 0 ops.toList && bitsRest ops o m c 0 ops.toList listed.toList

/-- a load of what is frozen may be taken first, whatever the others write -/
def planStepC (ops : Array Oper) (listed : Array Bool) (i m : Nat) (o : Oper) : Bool :=
  m.testBit i && (Region.ready .any ops listed).contains i && bitsWait i m 0 ops.toList && bitsRest ops o m (2 ^ ops.size - 1) 0 ops.toList listed.toList
def toC : Inst → Option Inst
  | ⟨d, g, .q (.ld x n agg)⟩ => some ⟨d, g, .q (.ldc x n agg)⟩
  | ⟨d, g, .q (.mv x)⟩ => some ⟨d, g, .q (.mv x)⟩
  | _ => none
def plan (P : Program) (owns : List Nat) (n : Nat) (ops : Array Oper) (c : Nat) : List (Nat × Nat) → Array Bool → Option (List Inst)
  | [], listed => if (Region.ready .any ops listed).isEmpty then some [] else none
  | (i, m) :: r, listed => match ops[i]? with
    | some o => match instOf P owns n ops o with
      | some inst => if planStep ops listed c i m o inst.op.quiet inst.op.hard then match plan P owns n ops c r (listed.setIfInBounds i true) with
          | some is => some (inst :: is)
          | none => none
        else if planStepC ops listed i m o then match toC inst, plan P owns n ops c r (listed.setIfInBounds i true) with
          | some ci, some is => some (ci :: is)
          | _, _ => none
        else none
      | none => none
    | none => none

theorem of_ldc {owns : List Nat} {o : Oper} {z : Opd} {n : Nat} {agg : Bool} {e : Env} {σ : St} {x : Cx} {a : Act} (hof : IOp.of P owns o = some (.q (.ld z n agg))) (h : SRel e σ x a) (hp : (Go.Vc.Q.ldc z n agg).pre σ) :
    ∃ cv, VRel x ((Go.Vc.Q.ldc z n agg).val σ) cv ∧ ∀ w', Kept x ⟨w', x.F, x.ρ⟩ → (execOp a.eval o).run P w' = .ok (.value cv) w' := by
  obtain ⟨hcd, hp⟩ := hp
  cases hop : o.op with
  | load t y =>
    simp only [IOp.of, hop] at hof
    split at hof
    · rename_i z' d i hz ht hi
      injection hof with hof; injection hof with hof; injection hof with h1 h2 h3
      subst h1; subst h2; subst h3
      have hy := Opd.of_sv h hz hcd
      simp only [Go.Vc.Q.val]
      simp only at hp
      generalize z'.sv σ = v at hp hy
      have pure : ∀ (cs : List PV) (b o' off : Nat), a.eval y = .pointer (some ⟨b, o' + off, none⟩) → ¬ x.F b → PCells x.w x.F cs b o' → off + i.size ≤ cs.length → (aggOf P t = true ∨ i.size = 1) →
          ∃ cv, VRel x (.pv (ccut cs off i.size (aggOf P t))) cv ∧ ∀ w', Kept x ⟨w', x.F, x.ρ⟩ → (execOp a.eval o).run P w' = .ok (.value cv) w' := by
        intro cs b o' off he hF hc hl hag
        obtain ⟨vs, h2, h3, h4⟩ := hc.cut off i.size hl
        refine ⟨if aggOf P t then .agg ⟨vs⟩ else vs.getD 0 undef, ?_, fun w' k => ?_⟩
        · unfold ccut
          cases ha : aggOf P t
          · rcases hag with h1 | h1
            · rw [ha] at h1; cases h1
            · rw [h1] at h3 h2
              have hlt : off < cs.length := by omega
              have e : (cs.drop off).take 1 = [cs.getD off default] := by
                rw [List.drop_eq_getElem_cons hlt, List.take_succ_cons, List.take_zero]; simp [List.getD_eq_getElem?_getD, hlt]
              rw [e] at h3
              simp only [PRels] at h3
              obtain ⟨v0, r, rfl, h5, _⟩ := h3
              simpa [VRel, h1] using h5
          · simp only [if_true, VRel]
            exact h3.agg
        · have h5 : CellsAt w' b (o' + off) vs := fun j c hc => k.cell hF (h4 j c hc)
          simp only [execOp, hop, he]
          simp only [Sem.run_bind, run_loadVar ht hi b (o' + off) vs h2 hag h5, Result.andThen_ok, Sem.run_pure]
      unfold ldcP at hp
      split at hp
      · rename_i cs off
        simp only [VRel] at hy
        obtain ⟨b, o', he, hb, hF, hc⟩ := hy
        exact pure _ _ _ off he hF hc hp.1 hp.2
      · rename_i cs
        simp only [VRel, PRel] at hy
        obtain ⟨b, o', he, hb, hF, hc⟩ := hy
        exact pure _ _ _ 0 he hF hc (by simpa using hp.1) hp.2
      · exact hp.elim
    · cases hof
  | _ =>
    exfalso
    simp only [IOp.of, hop] at hof
    repeat' split at hof
    all_goals first | contradiction | (cases hof; done) | (simp at hof; done)
theorem below_kept {e : Env} {σ : St} {x : Cx} {a : Act} (h : SRel e σ x a) {w' : World} (k : BelowL (Own σ.st x.ρ) x.w w') : Kept x ⟨w', x.F, x.ρ⟩ :=
  ⟨k.size, fun b hF hb => k.block b hb fun ho => hF ((h.F b).2 (.inr ho)), fun _ _ hb => hb⟩
theorem of_mvc {owns : List Nat} {o : Oper} {z : Opd} {e : Env} {σ : St} {x : Cx} {a : Act} (hof : IOp.of P owns o = some (.q (.mv z))) (h : SRel e σ x a) (hp : (Go.Vc.Q.mv z).pre σ) :
    ∃ cv, VRel x ((Go.Vc.Q.mv z).val σ) cv ∧ ∀ w', Kept x ⟨w', x.F, x.ρ⟩ → (execOp a.eval o).run P w' = .ok (.value cv) w' := by
  obtain ⟨hcd, hp⟩ := hp
  cases hop : o.op with
  | move y =>
    simp only [IOp.of, hop] at hof
    split at hof
    · rename_i z' hz
      injection hof with hof; injection hof with hof; injection hof with h1
      subst h1
      exact ⟨_, Opd.of_sv h hz hcd, fun w' _ => by simp [execOp, hop]⟩
    · cases hof
  | assign y =>
    simp only [IOp.of, hop] at hof
    split at hof
    · rename_i z' hz
      injection hof with hof; injection hof with hof; injection hof with h1
      subst h1
      exact ⟨_, Opd.of_sv h hz hcd, fun w' _ => by simp [execOp, hop]⟩
    · cases hof
  | _ =>
    exfalso
    simp only [IOp.of, hop] at hof
    repeat' split at hof
    all_goals first | contradiction | (cases hof; done) | (simp at hof; done)
theorem inst_core {owns : List Nat} {K : St → Prop} {o : Oper} {d : Option Nat} {g : Option (Nat × Bool)} {q q' : Go.Vc.Q} {is : List Inst} {e : Env} {σ : St} {x : Cx} {a : Act} (hi : instOf P owns e.n ops o = some ⟨d, g, .q q⟩)
    (core : IOp.of P owns o = some (.q q) → q'.pre σ → ∃ cv, VRel x (q'.val σ) cv ∧ ∀ w', Kept x ⟨w', x.F, x.ρ⟩ → (execOp a.eval o).run P w' = .ok (.value cv) w')
    (h : SRel e σ x a) (hk : vcOps P (⟨d, g, .q q'⟩ :: is) σ K) :
    ∃ cv σ', YieldsIf P ops (BelowL (Own σ.st x.ρ) x.w) o cv a ∧ SRel e σ' x (a.put o.dst cv) ∧ vcOps P is σ' K := by
  obtain ⟨h1, h2, h3, h4⟩ := instOf_parts hi
  simp only at h1 h2 h3
  subst h3
  cases g with
  | none =>
    simp only [vcOps, vcOp] at hk
    split at hk
    · rename_i d hdst
      obtain ⟨cv, k1, k2⟩ := core h1 hk.1
      have hg : o.guard = none := guard_none h2
      rw [hdst]
      exact ⟨cv, _, .inl ⟨wanted_none hg _, fun w hw => k2 w (below_kept h hw)⟩, h.put (h4 d hdst) k1, hk.2⟩
    · exact hk.elim
  | some tb =>
    obtain ⟨t, b⟩ := tb
    simp only [vcOps, vcGd] at hk
    split at hk
    · rename_i d hdst
      obtain ⟨g1, g2, g3⟩ := hk
      have hw := wanted_gv h h2 g1
      rw [hdst]
      cases hb : (frGet σ.fr t).gv b
      · rw [hb] at hw g3
        exact ⟨undef, _, .inr ⟨hw, rfl⟩, h.skip (h4 d hdst) rfl, g3⟩
      · rw [hb] at hw g3
        obtain ⟨cv, k1, k2⟩ := core h1 (g2 hb)
        exact ⟨cv, _, .inl ⟨hw, fun w hw => k2 w (below_kept h hw)⟩, (h.put (h4 d hdst) k1).whn rfl, g3⟩
    · exact hk.elim
theorem inst_ldc {owns : List Nat} {K : St → Prop} {o : Oper} {i j : Inst} {is : List Inst} {e : Env} {σ : St} {x : Cx} {a : Act} (hi : instOf P owns e.n ops o = some i) (hj : toC i = some j) (h : SRel e σ x a) (hk : vcOps P (j :: is) σ K) :
    ∃ cv σ', YieldsIf P ops (BelowL (Own σ.st x.ρ) x.w) o cv a ∧ SRel e σ' x (a.put o.dst cv) ∧ vcOps P is σ' K := by
  unfold toC at hj
  split at hj
  · injection hj with hj; subst hj
    exact inst_core hi (fun hof hp => of_ldc hof h hp) h hk
  · injection hj with hj; subst hj
    exact inst_core hi (fun hof hp => of_mvc hof h hp) h hk
  · cases hj
theorem plan_sound {owns : List Nat} {K : St → Prop} {c : Nat} (hsel : Region.noSelect ops = true) (hQ : ∀ c a w, ¬ Q (.panic c) a w) :
    ∀ (steps : List (Nat × Nat)) (is : List Inst) (listed : Array Bool) (e : Env) (_ : EP e P) (S : World → Prop) (σ : St) (x : Cx) (a : Act),
    (∀ a w σ y, SRel e σ y a → y.w = w → K σ → Q .normal a w) → (∀ σ y a, SRel e σ y a → S y.w) →
    plan P owns e.n ops c steps listed = some is → SRel e σ x a → vcOps P is σ K → wpAnyS P ops Q c.testBit S steps.length listed a x.w
  | [], is, listed, e, hE, S, σ, x, a, hN, hS, hp, h, hk => by
    simp only [plan] at hp
    split at hp
    · rename_i hr
      injection hp with hp; subst hp
      exact ⟨List.isEmpty_iff.1 hr, hN a x.w σ x h rfl hk⟩
    · cases hp
  | (i, m) :: r, is, listed, e, hE, S, σ, x, a, hN, hS, hp, h, hk => by
    simp only [plan] at hp
    split at hp
    · rename_i o ho
      split at hp
      · rename_i inst hinst
        split at hp
        · rename_i hstep
          split at hp
          · rename_i is' his
            injection hp with hp; subst hp
            have ih : ∀ a' w', Behind P e is' K a' w' → S w' ∧ wpAnyS P ops Q c.testBit S r.length (listed.setIfInBounds i true) a' w' := fun a' w' ⟨σ', y, g1, g2, g3⟩ => by
              rw [← g2]
              exact ⟨hS _ _ _ g1, plan_sound hsel hQ r is' _ e hE S σ' y a' hN hS his g1 g3⟩
            unfold planStep at hstep
            split at hstep
            · -- whatever its kind, it alone may come up
              simp only [Bool.and_eq_true, Bool.or_eq_true, Bool.not_eq_true', beq_iff_eq] at hstep
              obtain ⟨hr, hc⟩ := hstep
              refine ⟨fun h0 => (by rw [h0] at hr; cases hr), fun j hj => ?_⟩
              rw [hr] at hj
              have hji : j = i := by simpa using hj
              subst hji
              unfold wpOp
              simp only [ho]
              have key : if Region.wanted o (yielded ops a.tmps) then o.wp P a x.w (fun a' w' => (c.testBit j = true → Agr x.w w') ∧ Behind P e is' K a' w') Q
                  else (c.testBit j = true → Agr x.w x.w) ∧ Behind P e is' K (a.put o.dst undef) x.w := by
                rcases kinds inst.op with hq | hs | hh
                · obtain ⟨cv, σ', hy, h1, h2⟩ := inst_quiet hinst hq h hk
                  rcases hy with ⟨hw, hr⟩ | ⟨hw, hv⟩
                  · rw [hw, if_pos rfl]
                    exact wp_value (hr x.w (Agr.refl _)) ⟨fun _ => Agr.refl _, σ', x, h1, rfl, h2⟩
                  · rw [hw, if_neg (by simp)]
                    subst hv
                    exact ⟨fun _ => Agr.refl _, σ', x, h1, rfl, h2⟩
                · have := inst_soft hinst hs h hk Q
                  split at this
                  · rename_i hw; rw [if_pos hw]; exact Oper.wp_mono (fun _ _ hb => ⟨fun _ => hb.1, hb.2⟩) this
                  · rename_i hw; rw [if_neg hw]; exact ⟨fun _ => this.1, this.2⟩
                · obtain ⟨hw, h1⟩ := inst_hard hinst hh h hk Q
                  have hcf : c.testBit j = false := by
                    rcases hc with hc | hc
                    · rw [hh] at hc; cases hc
                    · exact hc
                  rw [hw, if_pos rfl]
                  exact Oper.wp_mono (fun _ _ hb => ⟨fun ht => (by rw [hcf] at ht; cases ht), hb⟩) h1
              split
              · rename_i hw
                rw [if_pos hw] at key
                exact .inl (Oper.wp_mono (fun a' w' hb => ⟨hb.1, ih a' w' hb.2⟩) key)
              · rename_i hw
                rw [if_neg hw] at key
                exact ⟨key.1, ih _ _ key.2⟩
            · simp only [Bool.and_eq_true] at hstep
              obtain ⟨⟨⟨⟨hq, hmi⟩, hr⟩, hwait⟩, hrest⟩ := hstep
              obtain ⟨cv, σ', hy, h1, h2⟩ := inst_quiet hinst hq h hk
              exact wpAnyS_first (T := Agr x.w) (D := m.testBit) ho (Region.noSelect_spec hsel) hQ (fun d hd hne od hod => bitsWait_spec hwait d od (by simpa using hod) (by simpa using hd) (by simpa using hne)) r.length listed a x.w
                (bitsRest_dis hrest) hmi (fun j oj hoj hj hun => ⟨fun w w' hc _ ht => ht.trans (hc (bitsRest_free hrest j oj hoj hj hun).1), (bitsRest_free hrest j oj hoj hj hun).2⟩) (by simpa using hr) (hS _ _ _ h) (Agr.refl _) hy
                (ih _ _ ⟨σ', x, h1, rfl, h2⟩).2
          · cases hp
        · split at hp
          · rename_i hstep
            split at hp
            · rename_i ci is' hci his
              injection hp with hp; subst hp
              simp only [planStepC, Bool.and_eq_true] at hstep
              obtain ⟨⟨⟨hmi, hr⟩, hwait⟩, hrest⟩ := hstep
              have h0 : SRel (e.at σ x) σ x a := SRel.at h
              obtain ⟨cv, σ', hy, h1, h2⟩ := inst_ldc (e := e.at σ x) hinst hci h0 hk
              refine wpAnyS_mono (S := fun w => S w ∧ BelowL (Own σ.st x.ρ) x.w w) (fun w h => h.1) _ _ _ _ ?_
              exact wpAnyS_first (T := BelowL (Own σ.st x.ρ) x.w) (D := m.testBit) ho (Region.noSelect_spec hsel) hQ (fun d hd hne od hod => bitsWait_spec hwait d od (by simpa using hod) (by simpa using hd) (by simpa using hne)) r.length listed a x.w
                (bitsRest_dis hrest) hmi (fun j oj hoj hj hun => ⟨fun w w' _ hs _ => hs.2, (bitsRest_free hrest j oj hoj hj hun).2⟩) (by simpa using hr) ⟨hS _ _ _ h, BelowL.refl _ _⟩ (BelowL.refl _ _) hy
                (plan_sound hsel hQ r is' _ (e.at σ x) inferInstance _ σ' x _ (fun a w σ y k => hN a w σ y (SRel.back h k)) (fun σ y a k => ⟨hS _ _ _ (SRel.back h k), k.below⟩) his h1 h2)
            · cases hp
          · cases hp
      · cases hp
    · cases hp
end
end Go.Vc

namespace Go.Vc
open Go.RowKit

/-! ## Code -/
def frSome : List (Nat × AV) → Nat → Option AV
  | [], _ => none
  | (k', v) :: r, k => if k' = k then some v else frSome r k
def frKeep (l : List (Nat × AV)) : List Nat → List (Nat × AV)
  | [] => []
  | t :: ts => match frSome l t with
    | some v => (t, v) :: frKeep l ts
    | none => frKeep l ts
def stKeep (l : List (Nat × Row)) : List Nat → List (Nat × Row)
  | [] => []
  | t :: ts => if ts.contains t then stKeep l ts else match stGet l t with
    | some v => (t, v) :: stKeep l ts
    | none => stKeep l ts
/-- what is still wanted of a state -/
def St.norm (σ : St) (keep rows : List Nat) : St := ⟨frKeep σ.fr keep, stKeep σ.st rows⟩

theorem frSome_mem : ∀ {l : List (Nat × AV)} {k : Nat} {v : AV}, frSome l k = some v → (k, v) ∈ l
  | [], _, _, h => by simp [frSome] at h
  | (k', v') :: r, k, v, h => by
    simp only [frSome] at h
    split at h
    · rename_i hk; injection h with h; subst h; subst hk; simp
    · exact List.mem_cons_of_mem _ (frSome_mem h)
theorem frKeep_mem {l : List (Nat × AV)} : ∀ {ts : List Nat} {k : Nat} {v : AV}, (k, v) ∈ frKeep l ts → (k, v) ∈ l
  | [], _, _, h => by simp [frKeep] at h
  | t :: ts, k, v, h => by
    simp only [frKeep] at h
    split at h
    · rename_i u hu
      rcases List.mem_cons.1 h with h | h
      · injection h with h1 h2; subst h1; subst h2; exact frSome_mem hu
      · exact frKeep_mem h
    · exact frKeep_mem h
theorem stKeep_mem {l : List (Nat × Row)} : ∀ {ts : List Nat} {k : Nat} {v : Row}, (k, v) ∈ stKeep l ts → (k, v) ∈ l ∧ k ∈ ts
  | [], _, _, h => by simp [stKeep] at h
  | t :: ts, k, v, h => by
    simp only [stKeep] at h
    split at h
    · have := stKeep_mem h; exact ⟨this.1, List.mem_cons_of_mem _ this.2⟩
    · split at h
      · rename_i u hu
        rcases List.mem_cons.1 h with h | h
        · injection h with h1 h2; subst h1; subst h2; exact ⟨stGet_mem hu, by simp⟩
        · have := stKeep_mem h; exact ⟨this.1, List.mem_cons_of_mem _ this.2⟩
      · have := stKeep_mem h; exact ⟨this.1, List.mem_cons_of_mem _ this.2⟩
theorem stKeep_keys {l : List (Nat × Row)} : ∀ {ts : List Nat}, ((stKeep l ts).map (·.1)).Nodup
  | [] => by simp [stKeep]
  | t :: ts => by
    simp only [stKeep]
    split
    · exact stKeep_keys
    · rename_i hn
      split
      · simp only [List.map_cons, List.nodup_cons]
        refine ⟨fun hm => ?_, stKeep_keys⟩
        obtain ⟨⟨q, row⟩, h1, h2⟩ := List.mem_map.1 hm
        have h2' : q = t := h2
        subst h2'
        exact hn (by simpa using (stKeep_mem h1).2)
      · exact stKeep_keys

theorem Row.kept {x y : Cx} (k : Kept x y) (hρ : y.ρ = x.ρ) {l : Loc} (hb : l.ok = true → y.w.heap[l.blk]? = x.w.heap[l.blk]?) {row : Row} (h : row.rel x l) : row.rel y l := by
  have := Row.clip_rel (y := y) k (D := fun _ => false) (fun _ _ => by rw [hρ]) hb h
  cases row <;> simp only [Row.clip, clips_none, Bool.false_eq_true, if_false] at this <;> exact this

theorem SRel.norm {e : Env} {σ : St} {x : Cx} {a : Act} (h : SRel e σ x a) (keep rows : List Nat) :
    SRel e (σ.norm keep rows) ⟨x.w, fun b => e.F0 b ∨ Own (σ.norm keep rows).st x.ρ b, x.ρ⟩ a := by
  have k : Kept x ⟨x.w, fun b => e.F0 b ∨ Own (σ.norm keep rows).st x.ρ b, x.ρ⟩ := ⟨Nat.le_refl _, fun _ _ _ => rfl, fun b _ hb => (h.F b).2 (hb.imp id fun ⟨r, row, h1, h2⟩ => ⟨r, row, (stKeep_mem h1).1, h2⟩)⟩
  exact {
    defers := h.defers
    size := h.size
    fr := fun t v hm => let ⟨cv, h1, h2⟩ := h.fr t v (frKeep_mem hm); ⟨cv, h1, h2.kept k rfl⟩
    st := fun r row hm => Row.kept k rfl (fun _ => rfl) (h.st r row (stKeep_mem hm).1)
    keys := stKeep_keys
    inj := fun r row r' row' h1 h2 => h.inj r row r' row' (stKeep_mem h1).1 (stKeep_mem h2).1
    F := fun b => Iff.rfl
    own := fun r row hm => h.own r row (stKeep_mem hm).1
    f0 := h.f0
    tabs := h.tabs
    below := h.below
    fix := h.fix
    small := h.small }

/-- a slice without room, as a row of its own that has no block yet -/
def St.virt1 (σ : St) (t r s : Nat) : St := match frSome σ.fr t with
  | some .e0 => (match stGet σ.st r with
    | none => if r < 200000 then (σ.newRow r (.sl s [])).put t (.row r 0 0) else σ
    | some _ => σ)
  | _ => σ
/-- a nil slice, as an empty value -/
def St.nil1 (σ : St) (t : Nat) : St := match frSome σ.fr t with
  | some .e0 => σ.put t (.pv (.lst []))
  | _ => σ
def St.virts (σ : St) : List (Nat × Nat × Nat) → St
  | [] => σ
  | (t, r, s) :: vs => (if s = 0 then (if t = r then σ.frz1 r else σ.nil1 t) else σ.virt1 t r s).virts vs

theorem SRel.setv {e : Env} {σ : St} {x : Cx} {a : Act} (h : SRel e σ x a) {t : Nat} {v : AV} {cv : Value} (ht : a.tmps[t]? = some cv) (hv : VRel x v cv) : SRel e (σ.put t v) x a :=
  { h with
    fr := fun k u hm => by
      simp only [St.put, frPut] at hm
      rcases List.mem_cons.1 hm with hm | hm
      · injection hm with h1 h2
        subst h1; subst h2
        exact ⟨cv, ht, hv⟩
      · exact h.fr k u (frDel_mem hm).1 }
theorem SRel.virt1 {e : Env} {σ : St} {x : Cx} {a : Act} (h : SRel e σ x a) (t r s : Nat) : ∃ y, y.w = x.w ∧ SRel e (σ.virt1 t r s) y a := by
  unfold St.virt1
  split
  · rename_i he
    split
    · split
      case isFalse => exact ⟨x, rfl, h⟩
      rename_i hr2
      have hm := frSome_mem he
      obtain ⟨cv, h1, h2⟩ := h.fr t _ hm
      simp only [VRel] at h2
      have h3 := h.fresh (w' := x.w) (Below.refl _ _) r (.sl s []) ⟨0, 0, 0, s, false, 0⟩ (fun hf => by cases hf) (.inl ⟨rfl, rfl⟩) hr2
      refine ⟨newCx e σ x x.w r (.sl s []) ⟨0, 0, 0, s, false, 0⟩, rfl, h3.setv h1 ?_⟩
      unfold VRel
      exact .inl ⟨rfl, fun hk => by simp [newCx, updρ] at hk, h2⟩
    · exact ⟨x, rfl, h⟩
  · exact ⟨x, rfl, h⟩
theorem SRel.nil1 {e : Env} {σ : St} {x : Cx} {a : Act} (h : SRel e σ x a) (t : Nat) : SRel e (σ.nil1 t) x a := by
  unfold St.nil1
  split
  · rename_i he
    obtain ⟨cv, h1, h2⟩ := h.fr t _ (frSome_mem he)
    refine h.setv h1 ?_
    simp only [VRel] at h2
    obtain ⟨a, rfl⟩ := h2
    simp only [VRel, PRel]
    exact ⟨a, 0, 0, rfl, rfl, Nat.le_refl _, fun hn => absurd hn (by omega)⟩
  · exact h
theorem SRel.virts {e : Env} {a : Act} : ∀ (vs : List (Nat × Nat × Nat)) {σ : St} {x : Cx}, SRel e σ x a → ∃ y, y.w = x.w ∧ SRel e (σ.virts vs) y a
  | [], _, x, h => ⟨x, rfl, h⟩
  | (t, r, s) :: vs, σ, x, h => by
    unfold St.virts
    split
    · split
      · obtain ⟨y, h1, h2⟩ := h.frz1 r
        obtain ⟨z, h3, h4⟩ := SRel.virts vs h2
        exact ⟨z, h3.trans h1, h4⟩
      · exact SRel.virts vs (h.nil1 t)
    · obtain ⟨y, h1, h2⟩ := h.virt1 t r s
      obtain ⟨z, h3, h4⟩ := SRel.virts vs h2
      exact ⟨z, h3.trans h1, h4⟩

end Go.Vc
