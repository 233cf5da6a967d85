/- A part of the proofs of the seat YtjkldmepdenlfaaDoor: the contracts of functions, each proved out of its code. -/
import Derived.Test.YtjkldmepdenlfaaDoorVh
import Derived.Test.YtjkldmepdenlfaaDoorProg
import Derived.Test.YtjkldmepdenlfaaDoorNa
import Derived.Shelf.Strings.Search2
import Derived.Shelf.Strings.Count
import Derived.Shelf.Small.Strs
namespace Go.Vc
open Go.Proofs
set_option maxRecDepth 100000

/-- 'trystlaw02.Few' -/
def M19 : MC := (.seq (.reg [⟨(some 2), none, (.q (.mv (.c (.string ⟨#[]⟩))))⟩] [] [0] []) (.seq (.seq (.reg [⟨(some 3), none, (.q (.mv (.t 0)))⟩, ⟨(some 4), none, (.q (.len (.t 3) true))⟩, ⟨(some 5),
  none, (.q (.bin .gtr (.t 4) (.c (.int .i64 60))))⟩] [] [0, 5] []) (.cond (.t 5) (.seq (.reg [⟨(some 6), none, (.q (.mv (.t 0)))⟩, ⟨(some 7), none, (.q (.slc (.t 6) none (some (.c (.int .i64 60)))
  0 true))⟩, ⟨(some 2), none, (.q (.mv (.t 7)))⟩] [] [2] []) .ret) .skip)) (.seq (.reg [⟨(some 8), none, (.q (.mv (.t 0)))⟩, ⟨(some 2), none, (.q (.mv (.t 8)))⟩] [] [2] []) .ret)))
theorem mc19 : ofCode Tryd.prog [] Tryd.f19.ntmps [(0, ⟨[0], [], [], 0, [], none⟩),
    (1, ⟨[0, 5], [], [], 0, [], none⟩),
    (2, ⟨[2], [], [], 0, [], none⟩),
    (3, ⟨[2], [], [], 0, [], none⟩)] (Tryd.f19.body.getD .skip) = some M19 := by kernel_rfl
theorem Run19 {args : List PV} {v : AV} {rs : List (Nat × List PV)} (ids : List Bool) (h : args.length ≤ 9) (hv : run Tryd.prog (retK [RV.tmp 2] ids v rs) M19 [] ⟨entry 0 args, []⟩) : Fn Tryd.prog 19 args v rs :=
  Fn_run ids (by kernel_rfl) Tryd.func19 (by decide) rfl mc19 (by kernel_rfl) (by rw [Tryd.ntmps19]; exact h) (by rw [Tryd.ntmps19]; decide) hv














end Go.Vc

namespace Go.Vc
open Go.Proofs Go.Shelf Go.RowKit
set_option linter.unusedSimpArgs false
set_option linter.unusedVariables false

/-! ## Names: strings out of the shelf, split at the dot -/
/-! ## 'Index', 'Cut', 'Split' at the dot -/
abbrev ss (l : List ByteArray) : PV := .lst (l.map pS)
theorem wf_ss (l : List ByteArray) : WfL 1 (l.map pS) := wf_map (f := pS) (s := 1) (fun a => ⟨rfl, fun c hc => by simp only [PV.cells, List.mem_cons, List.not_mem_nil, or_false] at hc; subst hc; rfl⟩) l
end Go.Vc
