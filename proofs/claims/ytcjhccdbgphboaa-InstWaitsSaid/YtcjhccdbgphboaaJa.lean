/- A part of the proofs of the seat Ytcjhccdbgphboaa: the contracts of functions, each proved out of its code. -/
import Derived.Test.YtcjhccdbgphboaaVf
import Derived.Test.YtcjhccdbgphboaaProg
namespace Go.Vc
open Go.Proofs
set_option maxRecDepth 100000

/-- 'trystlaw09.Kind' -/
def M17 : MC := ((MC.reg
        [{ d := some 1, g := none, op := IOp.box (Opd.t 0) },
          { d := some 2, g := none,
            op :=
              IOp.alloc
                [AV.pv (PV.sc (Value.string { data := #[] })), AV.pv (PV.sc (Value.int IntKind.i64 0)),
                  AV.pv (PV.sc (Value.int IntKind.i64 0)), AV.pv (PV.sc (Value.int IntKind.i64 0))] }]
        [] [1, 2] [1, 2]).seq
    (((MC.reg
              [{ d := some 3, g := none, op := IOp.q (Q.fa (Opd.t 1) 0) },
                { d := some 4, g := none, op := IOp.q (Q.ld (Opd.t 3) 1 false) },
                { d := some 5, g := none, op := IOp.q (Q.len (Opd.t 4) true) },
                { d := some 6, g := none, op := IOp.q (Q.bin BinOp.gtr (Opd.t 5) (Opd.c (Value.int IntKind.i64 10))) }]
              [] [1, 2, 6] [1, 2]).seq
          (MC.cond (Opd.t 6)
            (MC.reg
              [{ d := some 7, g := none, op := IOp.q (Q.fa (Opd.t 1) 0) },
                { d := some 8, g := none, op := IOp.q (Q.ld (Opd.t 7) 1 false) },
                { d := some 9, g := none,
                  op := IOp.q (Q.slc (Opd.t 8) none (some (Opd.c (Value.int IntKind.i64 10))) 0 true) },
                { d := some 10, g := none, op := IOp.q (Q.fa (Opd.t 1) 0) },
                { d := none, g := none, op := IOp.st (Opd.t 10) (Opd.t 9) 1 }]
              [] [1, 2] [1, 2])
            MC.skip)).seq
      ((MC.reg
            [{ d := some 11, g := none, op := IOp.q (Q.ld (Opd.t 1) 4 true) },
              { d := none, g := none, op := IOp.st (Opd.t 2) (Opd.t 11) 4 }]
            [] [2] [2]).seq
        MC.ret)))
theorem mc17 : ofCode Try.prog [] Try.f17.ntmps [(0, ⟨[1, 2], [1, 2], [], 0, [], none⟩),
    (1, ⟨[1, 2, 6], [1, 2], [], 0, [], none⟩),
    (2, ⟨[1, 2], [1, 2], [], 0, [], none⟩),
    (3, ⟨[2], [2], [], 0, [], none⟩)] (Try.f17.body.getD .skip) = some M17 := by kernel_rfl
theorem Run17 {args : List PV} {v : AV} {rs : List (Nat × List PV)} (ids : List Bool) (h : args.length ≤ 12) (hv : run Try.prog (retK [RV.cell 2 4 true] ids v rs) M17 [] ⟨entry 0 args, []⟩) : Fn Try.prog 17 args v rs :=
  Fn_run ids (by kernel_rfl) Try.func17 (by decide) rfl mc17 (by kernel_rfl) (by rw [Try.ntmps17]; exact h) (by rw [Try.ntmps17]; decide) hv

/-- 'trystlaw09.Few' -/
def M18 : MC := ((MC.reg [{ d := some 2, g := none, op := IOp.q (Q.mv Opd.nil) }] [] [0] []).seq
    (((MC.reg
              [{ d := some 3, g := none, op := IOp.q (Q.mv (Opd.t 0)) },
                { d := some 4, g := none, op := IOp.q (Q.len (Opd.t 3) false) },
                { d := some 5, g := none, op := IOp.q (Q.bin BinOp.gtr (Opd.t 4) (Opd.c (Value.int IntKind.i64 31))) }]
              [] [0, 5] []).seq
          (MC.cond (Opd.t 5)
            (MC.reg
              [{ d := some 6, g := none, op := IOp.q (Q.mv (Opd.t 0)) },
                { d := some 7, g := none,
                  op := IOp.q (Q.slc (Opd.t 6) none (some (Opd.c (Value.int IntKind.i64 31))) 3 false) },
                { d := some 0, g := none, op := IOp.q (Q.mv (Opd.t 7)) }]
              [] [0] [])
            MC.skip)).seq
      ((MC.reg
            [{ d := some 8, g := none, op := IOp.lits [] 3 }, { d := some 9, g := none, op := IOp.q (Q.mv (Opd.t 0)) },
              { d := some 10, g := none, op := IOp.app (Opd.t 8) (Opd.t 9) 3 24 },
              { d := some 2, g := none, op := IOp.q (Q.mv (Opd.t 10)) }]
            [] [2] [10]).seq
        MC.ret)))
theorem mc18 : ofCode Try.prog [] Try.f18.ntmps [(0, ⟨[0], [], [], 0, [], none⟩),
    (1, ⟨[0, 5], [], [], 0, [], none⟩),
    (2, ⟨[0], [], [], 0, [], none⟩),
    (3, ⟨[2], [10], [], 0, [], none⟩)] (Try.f18.body.getD .skip) = some M18 := by kernel_rfl
theorem Run18 {args : List PV} {v : AV} {rs : List (Nat × List PV)} (ids : List Bool) (h : args.length ≤ 11) (hv : run Try.prog (retK [RV.tmp 2] ids v rs) M18 [] ⟨entry 0 args, []⟩) : Fn Try.prog 18 args v rs :=
  Fn_run ids (by kernel_rfl) Try.func18 (by decide) rfl mc18 (by kernel_rfl) (by rw [Try.ntmps18]; exact h) (by rw [Try.ntmps18]; decide) hv

/-- 'trystref09.Same' -/
def M21 : MC := ((MC.reg [{ d := some 4, g := none, op := IOp.q (Q.mv (Opd.c (Value.bool false))) }] [] [0, 1] []).seq
    (((MC.reg
              [{ d := some 6, g := none, op := IOp.q (Q.mv (Opd.t 0)) },
                { d := some 7, g := none, op := IOp.q (Q.len (Opd.t 6) false) },
                { d := some 8, g := none, op := IOp.q (Q.mv (Opd.t 1)) },
                { d := some 9, g := none, op := IOp.q (Q.len (Opd.t 8) false) },
                { d := some 10, g := none, op := IOp.q (Q.bin BinOp.neq (Opd.t 7) (Opd.t 9)) }]
              [] [0, 1, 10] []).seq
          (MC.cond (Opd.t 10)
            ((MC.reg [{ d := some 4, g := none, op := IOp.q (Q.mv (Opd.c (Value.bool false))) }] [] [4] []).seq MC.ret)
            MC.skip)).seq
      (((MC.reg [{ d := some 5, g := none, op := IOp.q (Q.mv (Opd.c (Value.int IntKind.i64 0))) }] [] [0, 1, 5] []).seq
            (MC.block 0
              (((MC.reg
                          [{ d := some 11, g := none, op := IOp.q (Q.mv (Opd.t 5)) },
                            { d := some 12, g := none, op := IOp.q (Q.mv (Opd.t 0)) },
                            { d := some 13, g := none, op := IOp.q (Q.len (Opd.t 12) false) },
                            { d := some 14, g := none, op := IOp.q (Q.bin BinOp.lss (Opd.t 11) (Opd.t 13)) }]
                          [] [0, 1, 5, 14] []).seq
                      (MC.cond (Opd.t 14) MC.skip (MC.exit 0))).seq
                  ((MC.block 1
                        ((MC.reg
                              [{ d := some 17, g := none, op := IOp.q (Q.mv (Opd.t 0)) },
                                { d := some 18, g := none, op := IOp.q (Q.mv (Opd.t 5)) },
                                { d := some 19, g := none, op := IOp.q (Q.ia (Opd.t 17) (Opd.t 18) 3) },
                                { d := some 20, g := none, op := IOp.q (Q.ld (Opd.t 19) 3 true) },
                                { d := some 21, g := none, op := IOp.q (Q.mv (Opd.t 1)) },
                                { d := some 22, g := none, op := IOp.q (Q.mv (Opd.t 5)) },
                                { d := some 23, g := none, op := IOp.q (Q.ia (Opd.t 21) (Opd.t 22) 3) },
                                { d := some 24, g := none, op := IOp.q (Q.ld (Opd.t 23) 3 true) },
                                { d := some 25, g := none, op := IOp.q (Q.seq true [0, 0, 0] (Opd.t 20) (Opd.t 24)) }]
                              [] [0, 1, 5, 25] []).seq
                          (MC.cond (Opd.t 25)
                            ((MC.reg [{ d := some 4, g := none, op := IOp.q (Q.mv (Opd.c (Value.bool false))) }] [] [4]
                                  []).seq
                              MC.ret)
                            MC.skip))).seq
                    (MC.reg
                      [{ d := some 15, g := none, op := IOp.q (Q.mv (Opd.t 5)) },
                        { d := some 16, g := none,
                          op := IOp.q (Q.bin BinOp.add (Opd.t 15) (Opd.c (Value.int IntKind.i64 1))) },
                        { d := some 5, g := none, op := IOp.q (Q.mv (Opd.t 16)) }]
                      [] [0, 1, 5] []))).loop)).seq
        ((MC.reg [{ d := some 4, g := none, op := IOp.q (Q.mv (Opd.c (Value.bool true))) }] [] [4] []).seq MC.ret))))
theorem mc21 : ofCode Try.prog [] Try.f21.ntmps [(0, ⟨[0, 1], [], [], 0, [], none⟩),
    (1, ⟨[0, 1, 10], [], [], 0, [], none⟩),
    (2, ⟨[4], [], [], 0, [], none⟩),
    (3, ⟨[0, 1, 5], [], [], 0, [], none⟩),
    (4, ⟨[0, 1, 5, 14], [], [], 0, [], none⟩),
    (5, ⟨[0, 1, 5], [], [], 0, [], none⟩),
    (6, ⟨[0, 1, 5, 25], [], [(0, 269), (1, 270), (2, 268), (3, 264), (4, 464), (5, 480), (6, 448), (7, 384), (8, 256)], 511, [], none⟩),
    (7, ⟨[4], [], [], 0, [], none⟩),
    (8, ⟨[4], [], [], 0, [], none⟩)] (Try.f21.body.getD .skip) = some M21 := by kernel_rfl
theorem Run21 {args : List PV} {v : AV} {rs : List (Nat × List PV)} (ids : List Bool) (h : args.length ≤ 26) (hv : run Try.prog (retK [RV.tmp 4] ids v rs) M21 [] ⟨entry 0 args, []⟩) : Fn Try.prog 21 args v rs :=
  Fn_run ids (by kernel_rfl) Try.func21 (by decide) rfl mc21 (by kernel_rfl) (by rw [Try.ntmps21]; exact h) (by rw [Try.ntmps21]; decide) hv

/-- 'join.May' -/
def M22 : MC := ((MC.reg
        [{ d := some 1, g := none, op := IOp.box (Opd.t 0) },
          { d := some 2, g := none, op := IOp.q (Q.mv (Opd.c (Value.bool false))) }]
        [] [1] [1]).seq
    (((MC.reg
              [{ d := some 3, g := none, op := IOp.q (Q.fa (Opd.t 1) 1) },
                { d := some 4, g := none, op := IOp.q (Q.ld (Opd.t 3) 1 false) },
                { d := some 5, g := none, op := IOp.q (Q.bin BinOp.lss (Opd.t 4) (Opd.c (Value.int IntKind.i64 1))) },
                { d := some 6, g := none, op := IOp.q (Q.mv (Opd.t 5)) },
                { d := some 7, g := some (6, false), op := IOp.q (Q.fa (Opd.t 1) 1) },
                { d := some 8, g := some (6, false), op := IOp.q (Q.ld (Opd.t 7) 1 false) },
                { d := some 9, g := some (6, false),
                  op := IOp.q (Q.bin BinOp.gtr (Opd.t 8) (Opd.c (Value.int IntKind.i64 6))) },
                { d := some 10, g := none, op := IOp.q (Q.pick (Opd.t 6) (Opd.c (Value.bool true)) (Opd.t 9)) },
                { d := some 11, g := none, op := IOp.q (Q.mv (Opd.t 10)) },
                { d := some 12, g := some (11, false), op := IOp.q (Q.fa (Opd.t 1) 3) },
                { d := some 13, g := some (11, false), op := IOp.q (Q.ld (Opd.t 12) 1 false) },
                { d := some 14, g := some (11, false),
                  op := IOp.q (Q.bin BinOp.lss (Opd.t 13) (Opd.c (Value.int IntKind.i64 0))) },
                { d := some 15, g := none, op := IOp.q (Q.pick (Opd.t 11) (Opd.c (Value.bool true)) (Opd.t 14)) },
                { d := some 16, g := none, op := IOp.q (Q.mv (Opd.t 15)) },
                { d := some 17, g := some (16, false), op := IOp.q (Q.fa (Opd.t 1) 3) },
                { d := some 18, g := some (16, false), op := IOp.q (Q.ld (Opd.t 17) 1 false) },
                { d := some 19, g := some (16, false),
                  op := IOp.q (Q.bin BinOp.gtr (Opd.t 18) (Opd.c (Value.int IntKind.i64 1073741824))) },
                { d := some 20, g := none, op := IOp.q (Q.pick (Opd.t 16) (Opd.c (Value.bool true)) (Opd.t 19)) }]
              [] [1, 20] [1]).seq
          (MC.cond (Opd.t 20)
            ((MC.reg [{ d := some 2, g := none, op := IOp.q (Q.mv (Opd.c (Value.bool false))) }] [] [2] []).seq MC.ret)
            MC.skip)).seq
      (((MC.reg
                [{ d := some 21, g := none, op := IOp.q (Q.fa (Opd.t 1) 0) },
                  { d := some 22, g := none, op := IOp.q (Q.ld (Opd.t 21) 1 false) }]
                [] [1, 22] [1]).seq
            (MC.block 0
              (((MC.reg
                        [{ d := some 24, g := none,
                            op :=
                              IOp.q (Q.bin BinOp.eql (Opd.t 22) (Opd.c (Value.string { data := #[97, 108, 108] }))) },
                          { d := some 23, g := none, op := IOp.q (Q.mv (Opd.t 24)) }]
                        [] [1, 22, 23] [1]).seq
                    (MC.cond (Opd.t 23) MC.skip
                      (MC.reg
                        [{ d := some 25, g := none,
                            op :=
                              IOp.q (Q.bin BinOp.eql (Opd.t 22) (Opd.c (Value.string { data := #[97, 110, 121] }))) },
                          { d := some 23, g := none, op := IOp.q (Q.mv (Opd.t 25)) }]
                        [] [1, 22, 23] [1]))).seq
                (MC.cond (Opd.t 23)
                  ((MC.reg
                        [{ d := some 26, g := none, op := IOp.q (Q.fa (Opd.t 1) 2) },
                          { d := some 27, g := none, op := IOp.q (Q.ld (Opd.t 26) 1 false) },
                          { d := some 28, g := none,
                            op := IOp.q (Q.bin BinOp.eql (Opd.t 27) (Opd.c (Value.int IntKind.i64 0))) },
                          { d := some 2, g := none, op := IOp.q (Q.mv (Opd.t 28)) }]
                        [] [2] []).seq
                    MC.ret)
                  ((MC.reg
                        [{ d := some 30, g := none,
                            op :=
                              IOp.q
                                (Q.bin BinOp.eql (Opd.t 22)
                                  (Opd.c (Value.string { data := #[99, 111, 117, 110, 116] }))) },
                          { d := some 29, g := none, op := IOp.q (Q.mv (Opd.t 30)) }]
                        [] [1, 29] [1]).seq
                    (MC.cond (Opd.t 29)
                      ((MC.reg
                            [{ d := some 31, g := none, op := IOp.q (Q.fa (Opd.t 1) 2) },
                              { d := some 32, g := none, op := IOp.q (Q.ld (Opd.t 31) 1 false) },
                              { d := some 33, g := none,
                                op := IOp.q (Q.bin BinOp.geq (Opd.t 32) (Opd.c (Value.int IntKind.i64 1))) },
                              { d := some 34, g := none, op := IOp.q (Q.mv (Opd.t 33)) },
                              { d := some 35, g := some (34, true), op := IOp.q (Q.fa (Opd.t 1) 2) },
                              { d := some 36, g := some (34, true), op := IOp.q (Q.ld (Opd.t 35) 1 false) },
                              { d := some 37, g := some (34, true),
                                op := IOp.q (Q.bin BinOp.leq (Opd.t 36) (Opd.c (Value.int IntKind.i64 30))) },
                              { d := some 38, g := none,
                                op := IOp.q (Q.pick (Opd.t 34) (Opd.t 37) (Opd.c (Value.bool false))) },
                              { d := some 2, g := none, op := IOp.q (Q.mv (Opd.t 38)) }]
                            [] [2] []).seq
                        MC.ret)
                      MC.skip)))))).seq
        ((MC.reg [{ d := some 2, g := none, op := IOp.q (Q.mv (Opd.c (Value.bool false))) }] [] [2] []).seq MC.ret))))
theorem mc22 : ofCode Try.prog [] Try.f22.ntmps [(0, ⟨[1], [1], [], 0, [], none⟩),
    (1, ⟨[1, 20], [1], [], 0, [], none⟩),
    (2, ⟨[2], [], [], 0, [], none⟩),
    (3, ⟨[1, 22], [1], [], 0, [], none⟩),
    (4, ⟨[1, 22, 23], [1], [], 0, [], none⟩),
    (5, ⟨[1, 22, 23], [1], [], 0, [], none⟩),
    (6, ⟨[2], [], [], 0, [], none⟩),
    (7, ⟨[1, 29], [1], [], 0, [], none⟩),
    (8, ⟨[2], [], [], 0, [], none⟩),
    (9, ⟨[2], [], [], 0, [], none⟩)] (Try.f22.body.getD .skip) = some M22 := by kernel_rfl
theorem Run22 {args : List PV} {v : AV} {rs : List (Nat × List PV)} (ids : List Bool) (h : args.length ≤ 39) (hv : run Try.prog (retK [RV.tmp 2] ids v rs) M22 [] ⟨entry 0 args, []⟩) : Fn Try.prog 22 args v rs :=
  Fn_run ids (by kernel_rfl) Try.func22 (by decide) rfl mc22 (by kernel_rfl) (by rw [Try.ntmps22]; exact h) (by rw [Try.ntmps22]; decide) hv

/-- 'trystref09.May' -/
def M23 : MC := ((MC.reg
        [{ d := some 1, g := none, op := IOp.box (Opd.t 0) },
          { d := some 2, g := none, op := IOp.q (Q.mv (Opd.c (Value.bool false))) }]
        [] [1] [1]).seq
    (((MC.reg
              [{ d := some 3, g := none, op := IOp.q (Q.fa (Opd.t 1) 0) },
                { d := some 4, g := none, op := IOp.q (Q.ld (Opd.t 3) 1 false) },
                { d := some 5, g := none,
                  op :=
                    IOp.q (Q.bin BinOp.eql (Opd.t 4) (Opd.c (Value.string { data := #[99, 111, 117, 110, 116] }))) }]
              [] [1, 5] [1]).seq
          (MC.cond (Opd.t 5)
            ((MC.reg
                  [{ d := some 6, g := none, op := IOp.q (Q.fa (Opd.t 1) 2) },
                    { d := some 7, g := none, op := IOp.q (Q.ld (Opd.t 6) 1 false) },
                    { d := some 8, g := none,
                      op := IOp.q (Q.bin BinOp.lss (Opd.t 7) (Opd.c (Value.int IntKind.i64 1))) },
                    { d := some 9, g := none, op := IOp.q (Q.mv (Opd.t 8)) },
                    { d := some 10, g := some (9, false), op := IOp.q (Q.fa (Opd.t 1) 2) },
                    { d := some 11, g := some (9, false), op := IOp.q (Q.ld (Opd.t 10) 1 false) },
                    { d := some 12, g := some (9, false),
                      op := IOp.q (Q.bin BinOp.gtr (Opd.t 11) (Opd.c (Value.int IntKind.i64 30))) },
                    { d := some 13, g := none, op := IOp.q (Q.pick (Opd.t 9) (Opd.c (Value.bool true)) (Opd.t 12)) }]
                  [] [1, 13] [1]).seq
              (MC.cond (Opd.t 13)
                ((MC.reg [{ d := some 2, g := none, op := IOp.q (Q.mv (Opd.c (Value.bool false))) }] [] [2] []).seq
                  MC.ret)
                MC.skip))
            ((MC.reg
                  [{ d := some 14, g := none, op := IOp.q (Q.fa (Opd.t 1) 0) },
                    { d := some 15, g := none, op := IOp.q (Q.ld (Opd.t 14) 1 false) },
                    { d := some 16, g := none,
                      op := IOp.q (Q.bin BinOp.neq (Opd.t 15) (Opd.c (Value.string { data := #[97, 108, 108] }))) },
                    { d := some 17, g := none, op := IOp.q (Q.mv (Opd.t 16)) },
                    { d := some 18, g := some (17, true), op := IOp.q (Q.fa (Opd.t 1) 0) },
                    { d := some 19, g := some (17, true), op := IOp.q (Q.ld (Opd.t 18) 1 false) },
                    { d := some 20, g := some (17, true),
                      op := IOp.q (Q.bin BinOp.neq (Opd.t 19) (Opd.c (Value.string { data := #[97, 110, 121] }))) },
                    { d := some 21, g := none, op := IOp.q (Q.pick (Opd.t 17) (Opd.t 20) (Opd.c (Value.bool false))) },
                    { d := some 22, g := none, op := IOp.q (Q.mv (Opd.t 21)) },
                    { d := some 23, g := some (22, false), op := IOp.q (Q.fa (Opd.t 1) 2) },
                    { d := some 24, g := some (22, false), op := IOp.q (Q.ld (Opd.t 23) 1 false) },
                    { d := some 25, g := some (22, false),
                      op := IOp.q (Q.bin BinOp.neq (Opd.t 24) (Opd.c (Value.int IntKind.i64 0))) },
                    { d := some 26, g := none, op := IOp.q (Q.pick (Opd.t 22) (Opd.c (Value.bool true)) (Opd.t 25)) }]
                  [] [1, 26] [1]).seq
              (MC.cond (Opd.t 26)
                ((MC.reg [{ d := some 2, g := none, op := IOp.q (Q.mv (Opd.c (Value.bool false))) }] [] [2] []).seq
                  MC.ret)
                MC.skip)))).seq
      ((MC.reg
            [{ d := some 27, g := none, op := IOp.q (Q.fa (Opd.t 1) 1) },
              { d := some 28, g := none, op := IOp.q (Q.ld (Opd.t 27) 1 false) },
              { d := some 29, g := none, op := IOp.q (Q.bin BinOp.leq (Opd.c (Value.int IntKind.i64 1)) (Opd.t 28)) },
              { d := some 30, g := none, op := IOp.q (Q.mv (Opd.t 29)) },
              { d := some 31, g := some (30, true), op := IOp.q (Q.fa (Opd.t 1) 1) },
              { d := some 32, g := some (30, true), op := IOp.q (Q.ld (Opd.t 31) 1 false) },
              { d := some 33, g := some (30, true),
                op := IOp.q (Q.bin BinOp.leq (Opd.t 32) (Opd.c (Value.int IntKind.i64 6))) },
              { d := some 34, g := none, op := IOp.q (Q.pick (Opd.t 30) (Opd.t 33) (Opd.c (Value.bool false))) },
              { d := some 35, g := none, op := IOp.q (Q.mv (Opd.t 34)) },
              { d := some 36, g := some (35, true), op := IOp.q (Q.fa (Opd.t 1) 3) },
              { d := some 37, g := some (35, true), op := IOp.q (Q.ld (Opd.t 36) 1 false) },
              { d := some 38, g := some (35, true),
                op := IOp.q (Q.bin BinOp.leq (Opd.c (Value.int IntKind.i64 0)) (Opd.t 37)) },
              { d := some 39, g := none, op := IOp.q (Q.pick (Opd.t 35) (Opd.t 38) (Opd.c (Value.bool false))) },
              { d := some 40, g := none, op := IOp.q (Q.mv (Opd.t 39)) },
              { d := some 41, g := some (40, true), op := IOp.q (Q.fa (Opd.t 1) 3) },
              { d := some 42, g := some (40, true), op := IOp.q (Q.ld (Opd.t 41) 1 false) },
              { d := some 43, g := some (40, true),
                op := IOp.q (Q.bin BinOp.leq (Opd.t 42) (Opd.c (Value.int IntKind.i64 1073741824))) },
              { d := some 44, g := none, op := IOp.q (Q.pick (Opd.t 40) (Opd.t 43) (Opd.c (Value.bool false))) },
              { d := some 2, g := none, op := IOp.q (Q.mv (Opd.t 44)) }]
            [] [2] []).seq
        MC.ret)))
theorem mc23 : ofCode Try.prog [] Try.f23.ntmps [(0, ⟨[1], [1], [], 0, [], none⟩),
    (1, ⟨[1, 5], [1], [], 0, [], none⟩),
    (2, ⟨[1, 13], [1], [], 0, [], none⟩),
    (3, ⟨[2], [], [], 0, [], none⟩),
    (4, ⟨[1, 26], [1], [], 0, [], none⟩),
    (5, ⟨[2], [], [], 0, [], none⟩),
    (6, ⟨[2], [], [], 0, [], none⟩)] (Try.f23.body.getD .skip) = some M23 := by kernel_rfl
theorem Run23 {args : List PV} {v : AV} {rs : List (Nat × List PV)} (ids : List Bool) (h : args.length ≤ 45) (hv : run Try.prog (retK [RV.tmp 2] ids v rs) M23 [] ⟨entry 0 args, []⟩) : Fn Try.prog 23 args v rs :=
  Fn_run ids (by kernel_rfl) Try.func23 (by decide) rfl mc23 (by kernel_rfl) (by rw [Try.ntmps23]; exact h) (by rw [Try.ntmps23]; decide) hv

/-- 'trystlaw09.awake' -/
def M26 : MC := ((MC.reg [{ d := some 0, g := none, op := IOp.q (Q.mv (Opd.c (Value.bool false))) }] [] [] []).seq
    ((MC.reg
          [{ d := some 18, g := none,
              op :=
                IOp.q
                  (Q.mk
                    [AV.pv (PV.sc (Value.string { data := #[] })), AV.pv (PV.sc (Value.int IntKind.i64 0)),
                      AV.pv (PV.sc (Value.int IntKind.i64 0)), AV.pv (PV.sc (Value.int IntKind.i64 0))]
                    [(0, 1, Opd.c (Value.string { data := #[97, 108, 108] })), (1, 1, Opd.c (Value.int IntKind.i64 2)),
                      (3, 1, Opd.c (Value.int IntKind.i64 9))]) },
            { d := some 1, g := none,
              op :=
                IOp.alloc
                  [AV.pv (PV.sc (Value.string { data := #[] })), AV.pv (PV.sc (Value.int IntKind.i64 0)),
                    AV.pv (PV.sc (Value.int IntKind.i64 0)), AV.pv (PV.sc (Value.int IntKind.i64 0))] },
            { d := none, g := none, op := IOp.st (Opd.t 1) (Opd.t 18) 4 }]
          [] [1] [1]).seq
      ((MC.reg
            [{ d := some 20, g := none, op := IOp.q (Q.ld (Opd.t 1) 4 true) },
              { d := some 21, g := none,
                op :=
                  IOp.q
                    (Q.mk
                      [AV.pv (PV.sc (Value.int IntKind.i64 0)), AV.pv (PV.sc (Value.int IntKind.u64 0)),
                        AV.pv (PV.sc (Value.int IntKind.i64 0))]
                      [(1, 1, Opd.c (Value.int IntKind.u64 1))]) },
              { d := some 22, g := none, op := IOp.call (Opd.f 19) [Opd.t 20, Opd.nil, Opd.t 21] },
              { d := some 19, g := none, op := IOp.q (Q.mv (Opd.t 22)) },
              { d := some 23, g := none, op := IOp.q (Q.ext (Opd.t 19) 0) },
              { d := some 24, g := none, op := IOp.q (Q.ext (Opd.t 19) 1) },
              { d := some 25, g := none, op := IOp.q (Q.ext (Opd.t 19) 2) },
              { d := some 26, g := none, op := IOp.q (Q.ext (Opd.t 19) 3) },
              { d := some 2, g := none, op := IOp.q (Q.mv (Opd.t 23)) },
              { d := some 3, g := none, op := IOp.q (Q.mv (Opd.t 24)) },
              { d := some 4, g := none, op := IOp.q (Q.mv (Opd.t 25)) },
              { d := some 5, g := none, op := IOp.q (Q.mv (Opd.t 26)) }]
            [] [1, 2, 5] [1, 1022]).seq
        ((MC.reg
              [{ d := some 28, g := none, op := IOp.q (Q.ld (Opd.t 1) 4 true) },
                { d := some 29, g := none, op := IOp.q (Q.mv (Opd.t 2)) },
                { d := some 30, g := none,
                  op :=
                    IOp.q
                      (Q.mk
                        [AV.pv (PV.sc (Value.int IntKind.i64 0)), AV.pv (PV.sc (Value.int IntKind.u64 0)),
                          AV.pv (PV.sc (Value.int IntKind.i64 0))]
                        [(1, 1, Opd.c (Value.int IntKind.u64 2))]) },
                { d := some 31, g := none, op := IOp.call (Opd.f 19) [Opd.t 28, Opd.t 29, Opd.t 30] },
                { d := some 27, g := none, op := IOp.q (Q.mv (Opd.t 31)) },
                { d := some 32, g := none, op := IOp.q (Q.ext (Opd.t 27) 0) },
                { d := some 33, g := none, op := IOp.q (Q.ext (Opd.t 27) 1) },
                { d := some 34, g := none, op := IOp.q (Q.ext (Opd.t 27) 2) },
                { d := some 35, g := none, op := IOp.q (Q.ext (Opd.t 27) 3) },
                { d := some 6, g := none, op := IOp.q (Q.mv (Opd.t 32)) },
                { d := some 7, g := none, op := IOp.q (Q.mv (Opd.t 33)) },
                { d := some 8, g := none, op := IOp.q (Q.mv (Opd.t 34)) },
                { d := some 9, g := none, op := IOp.q (Q.mv (Opd.t 35)) }]
              [] [1, 5, 6, 9] [1, 1022, 1031]).seq
          ((MC.reg
                [{ d := some 37, g := none, op := IOp.q (Q.ld (Opd.t 1) 4 true) },
                  { d := some 38, g := none, op := IOp.q (Q.mv (Opd.t 6)) },
                  { d := some 39, g := none,
                    op :=
                      IOp.q
                        (Q.mk
                          [AV.pv (PV.sc (Value.int IntKind.i64 0)), AV.pv (PV.sc (Value.int IntKind.u64 0)),
                            AV.pv (PV.sc (Value.int IntKind.i64 0))]
                          [(0, 1, Opd.c (Value.int IntKind.i64 1)), (1, 1, Opd.c (Value.int IntKind.u64 3))]) },
                  { d := some 40, g := none, op := IOp.call (Opd.f 19) [Opd.t 37, Opd.t 38, Opd.t 39] },
                  { d := some 36, g := none, op := IOp.q (Q.mv (Opd.t 40)) },
                  { d := some 41, g := none, op := IOp.q (Q.ext (Opd.t 36) 0) },
                  { d := some 42, g := none, op := IOp.q (Q.ext (Opd.t 36) 1) },
                  { d := some 43, g := none, op := IOp.q (Q.ext (Opd.t 36) 2) },
                  { d := some 44, g := none, op := IOp.q (Q.ext (Opd.t 36) 3) },
                  { d := some 10, g := none, op := IOp.q (Q.mv (Opd.t 41)) },
                  { d := some 11, g := none, op := IOp.q (Q.mv (Opd.t 42)) },
                  { d := some 12, g := none, op := IOp.q (Q.mv (Opd.t 43)) },
                  { d := some 13, g := none, op := IOp.q (Q.mv (Opd.t 44)) }]
                [] [5, 9, 10, 11, 13] [1022, 1031, 1040]).seq
            ((MC.reg
                  [{ d := some 46, g := none,
                      op :=
                        IOp.q
                          (Q.mk
                            [AV.pv (PV.sc (Value.string { data := #[] })), AV.pv (PV.sc (Value.int IntKind.i64 0)),
                              AV.pv (PV.sc (Value.int IntKind.i64 0)), AV.pv (PV.sc (Value.int IntKind.i64 0))]
                            [(0, 1, Opd.c (Value.string { data := #[97, 110, 121] })),
                              (1, 1, Opd.c (Value.int IntKind.i64 1))]) },
                    { d := some 47, g := none,
                      op :=
                        IOp.q
                          (Q.mk
                            [AV.pv (PV.sc (Value.int IntKind.i64 0)), AV.pv (PV.sc (Value.int IntKind.u64 0)),
                              AV.pv (PV.sc (Value.int IntKind.i64 0))]
                            [(1, 1, Opd.c (Value.int IntKind.u64 1))]) },
                    { d := some 48, g := none, op := IOp.call (Opd.f 19) [Opd.t 46, Opd.nil, Opd.t 47] },
                    { d := some 45, g := none, op := IOp.q (Q.mv (Opd.t 48)) },
                    { d := some 49, g := none, op := IOp.q (Q.ext (Opd.t 45) 0) },
                    { d := some 50, g := none, op := IOp.q (Q.ext (Opd.t 45) 1) },
                    { d := some 51, g := none, op := IOp.q (Q.ext (Opd.t 45) 2) },
                    { d := some 52, g := none, op := IOp.q (Q.ext (Opd.t 45) 3) },
                    { d := some 14, g := none, op := IOp.q (Q.mv (Opd.t 49)) },
                    { d := some 15, g := none, op := IOp.q (Q.mv (Opd.t 50)) },
                    { d := some 16, g := none, op := IOp.q (Q.mv (Opd.t 51)) },
                    { d := some 17, g := none, op := IOp.q (Q.mv (Opd.t 52)) }]
                  [] [5, 9, 10, 11, 13, 15, 17] [1022, 1031, 1040, 1048]).seq
              ((MC.reg
                    [{ d := some 53, g := none, op := IOp.q (Q.mv (Opd.t 5)) },
                      { d := some 54, g := none,
                        op := IOp.q (Q.bin BinOp.eql (Opd.t 53) (Opd.c (Value.int IntKind.i64 0))) },
                      { d := some 55, g := none, op := IOp.q (Q.mv (Opd.t 54)) },
                      { d := some 56, g := some (55, true), op := IOp.q (Q.mv (Opd.t 9)) },
                      { d := some 57, g := some (55, true),
                        op := IOp.q (Q.bin BinOp.eql (Opd.t 56) (Opd.c (Value.int IntKind.i64 0))) },
                      { d := some 58, g := none,
                        op := IOp.q (Q.pick (Opd.t 55) (Opd.t 57) (Opd.c (Value.bool false))) },
                      { d := some 59, g := none, op := IOp.q (Q.mv (Opd.t 58)) },
                      { d := some 60, g := some (59, true), op := IOp.q (Q.mv (Opd.t 13)) },
                      { d := some 61, g := some (59, true),
                        op := IOp.q (Q.bin BinOp.eql (Opd.t 60) (Opd.c (Value.int IntKind.i64 0))) },
                      { d := some 62, g := none,
                        op := IOp.q (Q.pick (Opd.t 59) (Opd.t 61) (Opd.c (Value.bool false))) },
                      { d := some 63, g := none, op := IOp.q (Q.mv (Opd.t 62)) },
                      { d := some 64, g := some (63, true), op := IOp.q (Q.mv (Opd.t 17)) },
                      { d := some 65, g := some (63, true),
                        op := IOp.q (Q.bin BinOp.eql (Opd.t 64) (Opd.c (Value.int IntKind.i64 0))) },
                      { d := some 66, g := none,
                        op := IOp.q (Q.pick (Opd.t 63) (Opd.t 65) (Opd.c (Value.bool false))) },
                      { d := some 67, g := none, op := IOp.q (Q.mv (Opd.t 66)) },
                      { d := some 68, g := some (67, true), op := IOp.q (Q.mv (Opd.t 10)) },
                      { d := some 69, g := some (67, true),
                        op :=
                          IOp.q
                            (Q.mk
                              [AV.pv (PV.sc (Value.int IntKind.i64 0)), AV.pv (PV.sc (Value.int IntKind.u64 0)),
                                AV.pv (PV.sc (Value.int IntKind.i64 0))]
                              [(1, 1, Opd.c (Value.int IntKind.u64 2))]) },
                      { d := some 70, g := some (67, true), op := IOp.lits [Opd.t 69] 3 },
                      { d := some 71, g := some (67, true), op := IOp.call (Opd.f 21) [Opd.t 68, Opd.t 70] },
                      { d := some 72, g := none,
                        op := IOp.q (Q.pick (Opd.t 67) (Opd.t 71) (Opd.c (Value.bool false))) },
                      { d := some 73, g := none, op := IOp.q (Q.mv (Opd.t 72)) },
                      { d := some 74, g := some (73, true), op := IOp.q (Q.mv (Opd.t 11)) },
                      { d := some 75, g := some (73, true),
                        op :=
                          IOp.q
                            (Q.mk
                              [AV.pv (PV.sc (Value.int IntKind.i64 0)), AV.pv (PV.sc (Value.int IntKind.u64 0)),
                                AV.pv (PV.sc (Value.int IntKind.i64 0))]
                              [(1, 1, Opd.c (Value.int IntKind.u64 1))]) },
                      { d := some 76, g := some (73, true),
                        op :=
                          IOp.q
                            (Q.mk
                              [AV.pv (PV.sc (Value.int IntKind.i64 0)), AV.pv (PV.sc (Value.int IntKind.u64 0)),
                                AV.pv (PV.sc (Value.int IntKind.i64 0))]
                              [(0, 1, Opd.c (Value.int IntKind.i64 1)), (1, 1, Opd.c (Value.int IntKind.u64 3))]) },
                      { d := some 77, g := some (73, true), op := IOp.lits [Opd.t 75, Opd.t 76] 3 },
                      { d := some 78, g := some (73, true), op := IOp.call (Opd.f 21) [Opd.t 74, Opd.t 77] },
                      { d := some 79, g := none,
                        op := IOp.q (Q.pick (Opd.t 73) (Opd.t 78) (Opd.c (Value.bool false))) },
                      { d := some 80, g := none, op := IOp.q (Q.mv (Opd.t 79)) },
                      { d := some 81, g := some (80, true), op := IOp.q (Q.mv (Opd.t 15)) },
                      { d := some 82, g := some (80, true), op := IOp.q (Q.len (Opd.t 81) false) },
                      { d := some 83, g := some (80, true),
                        op := IOp.q (Q.bin BinOp.eql (Opd.t 82) (Opd.c (Value.int IntKind.i64 1))) },
                      { d := some 84, g := none,
                        op := IOp.q (Q.pick (Opd.t 80) (Opd.t 83) (Opd.c (Value.bool false))) },
                      { d := some 85, g := none, op := IOp.q (Q.mv (Opd.t 84)) },
                      { d := some 86, g := none,
                        op := IOp.q (Q.pick (Opd.t 85) (Opd.c (Value.bool true)) (Opd.c (Value.bool false))) },
                      { d := some 87, g := none, op := IOp.q (Q.mv (Opd.t 86)) },
                      { d := some 88, g := none,
                        op := IOp.q (Q.pick (Opd.t 87) (Opd.c (Value.bool true)) (Opd.c (Value.bool false))) },
                      { d := some 89, g := none, op := IOp.q (Q.mv (Opd.t 88)) },
                      { d := some 90, g := none,
                        op := IOp.q (Q.pick (Opd.t 89) (Opd.c (Value.bool true)) (Opd.c (Value.bool false))) },
                      { d := some 0, g := none, op := IOp.q (Q.mv (Opd.t 90)) }]
                    [] [0] [1022, 1031, 1040, 1048, 1071, 1078]).seq
                MC.ret)))))))
theorem mc26 : ofCode Try.prog [] Try.f26.ntmps [(0, ⟨[], [], [], 0, [], none⟩),
    (1, ⟨[1], [1], [], 0, [], none⟩),
    (2, ⟨[1, 2, 5], [1, 1022], [], 0, [], none⟩),
    (3, ⟨[1, 5, 6, 9], [1, 1022, 1031], [], 0, [], none⟩),
    (4, ⟨[5, 9, 10, 11, 13], [1022, 1031, 1040], [], 0, [], none⟩),
    (5, ⟨[5, 9, 10, 11, 13, 15, 17], [1022, 1031, 1040, 1048], [], 0, [], none⟩),
    (6, ⟨[0], [1022, 1031, 1040, 1048, 1071, 1078], [], 0, [], none⟩)] (Try.f26.body.getD .skip) = some M26 := by kernel_rfl
theorem Run26 {args : List PV} {v : AV} {rs : List (Nat × List PV)} (ids : List Bool) (h : args.length ≤ 91) (hv : run Try.prog (retK [RV.tmp 0] ids v rs) M26 [] ⟨entry 0 args, []⟩) : Fn Try.prog 26 args v rs :=
  Fn_run ids (by kernel_rfl) Try.func26 (by decide) rfl mc26 (by kernel_rfl) (by rw [Try.ntmps26]; exact h) (by rw [Try.ntmps26]; decide) hv

/-- 'join.fits' -/
def M45 : MC := ((MC.reg
        [{ d := some 2, g := none, op := IOp.box (Opd.t 0) }, { d := some 3, g := none, op := IOp.box (Opd.t 1) },
          { d := some 4, g := none, op := IOp.q (Q.mv (Opd.c (Value.bool false))) }]
        [] [2, 3] [2, 3]).seq
    ((MC.reg
          [{ d := some 5, g := none, op := IOp.q (Q.fa (Opd.t 3) 0) },
            { d := some 6, g := none, op := IOp.q (Q.ld (Opd.t 5) 1 false) },
            { d := some 7, g := none, op := IOp.q (Q.bin BinOp.geq (Opd.t 6) (Opd.c (Value.int IntKind.i64 0))) },
            { d := some 8, g := none, op := IOp.q (Q.mv (Opd.t 7)) },
            { d := some 9, g := some (8, true), op := IOp.q (Q.fa (Opd.t 3) 0) },
            { d := some 10, g := some (8, true), op := IOp.q (Q.ld (Opd.t 9) 1 false) },
            { d := some 11, g := some (8, true), op := IOp.q (Q.fa (Opd.t 2) 1) },
            { d := some 12, g := some (8, true), op := IOp.q (Q.ld (Opd.t 11) 1 false) },
            { d := some 13, g := some (8, true), op := IOp.q (Q.bin BinOp.lss (Opd.t 10) (Opd.t 12)) },
            { d := some 14, g := none, op := IOp.q (Q.pick (Opd.t 8) (Opd.t 13) (Opd.c (Value.bool false))) },
            { d := some 15, g := none, op := IOp.q (Q.mv (Opd.t 14)) },
            { d := some 16, g := some (15, true), op := IOp.q (Q.fa (Opd.t 3) 2) },
            { d := some 17, g := some (15, true), op := IOp.q (Q.ld (Opd.t 16) 1 false) },
            { d := some 18, g := some (15, true), op := IOp.call (Opd.f 50) [Opd.t 17] },
            { d := some 19, g := none, op := IOp.q (Q.pick (Opd.t 15) (Opd.t 18) (Opd.c (Value.bool false))) },
            { d := some 4, g := none, op := IOp.q (Q.mv (Opd.t 19)) }]
          [] [4] [1018]).seq
      MC.ret))
theorem mc45 : ofCode Try.prog [] Try.f45.ntmps [(0, ⟨[2, 3], [2, 3], [], 0, [], none⟩),
    (1, ⟨[4], [1018], [], 0, [], none⟩)] (Try.f45.body.getD .skip) = some M45 := by kernel_rfl
theorem Run45 {args : List PV} {v : AV} {rs : List (Nat × List PV)} (ids : List Bool) (h : args.length ≤ 20) (hv : run Try.prog (retK [RV.tmp 4] ids v rs) M45 [] ⟨entry 0 args, []⟩) : Fn Try.prog 45 args v rs :=
  Fn_run ids (by kernel_rfl) Try.func45 (by decide) rfl mc45 (by kernel_rfl) (by rw [Try.ntmps45]; exact h) (by rw [Try.ntmps45]; decide) hv

/-- 'join.time' -/
def M50 : MC := ((MC.reg [{ d := some 2, g := none, op := IOp.q (Q.mv (Opd.c (Value.bool false))) }] [] [0] []).seq
    ((MC.reg
          [{ d := some 3, g := none, op := IOp.q (Q.mv (Opd.t 0)) },
            { d := some 4, g := none, op := IOp.q (Q.bin BinOp.geq (Opd.t 3) (Opd.c (Value.int IntKind.i64 0))) },
            { d := some 5, g := none, op := IOp.q (Q.mv (Opd.t 4)) },
            { d := some 6, g := some (5, true), op := IOp.q (Q.mv (Opd.t 0)) },
            { d := some 7, g := some (5, true),
              op := IOp.q (Q.bin BinOp.leq (Opd.t 6) (Opd.c (Value.int IntKind.i64 1099511627775))) },
            { d := some 8, g := none, op := IOp.q (Q.pick (Opd.t 5) (Opd.t 7) (Opd.c (Value.bool false))) },
            { d := some 2, g := none, op := IOp.q (Q.mv (Opd.t 8)) }]
          [] [2] []).seq
      MC.ret))
theorem mc50 : ofCode Try.prog [] Try.f50.ntmps [(0, ⟨[0], [], [], 0, [], none⟩),
    (1, ⟨[2], [], [], 0, [], none⟩)] (Try.f50.body.getD .skip) = some M50 := by kernel_rfl
theorem Run50 {args : List PV} {v : AV} {rs : List (Nat × List PV)} (ids : List Bool) (h : args.length ≤ 9) (hv : run Try.prog (retK [RV.tmp 2] ids v rs) M50 [] ⟨entry 0 args, []⟩) : Fn Try.prog 50 args v rs :=
  Fn_run ids (by kernel_rfl) Try.func50 (by decide) rfl mc50 (by kernel_rfl) (by rw [Try.ntmps50]; exact h) (by rw [Try.ntmps50]; decide) hv

/-- 'join.Check' -/
def M24 : MC := ((MC.reg
        [{ d := some 2, g := none, op := IOp.box (Opd.t 0) },
          { d := some 4, g := none, op := IOp.q (Q.mv (Opd.c (Value.int IntKind.i64 0))) }]
        [] [1, 2] [2]).seq
    (((MC.reg
              [{ d := some 7, g := none, op := IOp.q (Q.ld (Opd.t 2) 4 true) },
                { d := some 8, g := none, op := IOp.call (Opd.f 22) [Opd.t 7] },
                { d := some 9, g := none, op := IOp.q (Q.not (Opd.t 8)) },
                { d := some 10, g := none, op := IOp.q (Q.mv (Opd.t 9)) },
                { d := some 11, g := some (10, false), op := IOp.q (Q.mv (Opd.t 1)) },
                { d := some 12, g := some (10, false), op := IOp.q (Q.len (Opd.t 11) false) },
                { d := some 13, g := some (10, false),
                  op := IOp.q (Q.bin BinOp.geq (Opd.t 12) (Opd.c (Value.int IntKind.i64 30))) },
                { d := some 14, g := none, op := IOp.q (Q.pick (Opd.t 10) (Opd.c (Value.bool true)) (Opd.t 13)) }]
              [] [1, 2, 14] [2, 1008]).seq
          (MC.cond (Opd.t 14)
            ((MC.reg [{ d := some 4, g := none, op := IOp.q (Q.mv (Opd.c (Value.int IntKind.i64 1))) }] [] [4] []).seq
              MC.ret)
            MC.skip)).seq
      (((MC.reg
                [{ d := some 15, g := none, op := IOp.q (Q.mv (Opd.t 1)) },
                  { d := some 16, g := none, op := IOp.q (Q.len (Opd.t 15) false) },
                  { d := some 17, g := none, op := IOp.q (Q.mv (Opd.c (Value.int IntKind.i64 0))) }]
                [] [1, 2, 15, 16, 17] [2]).seq
            (MC.block 0
              ((MC.reg [{ d := some 18, g := none, op := IOp.q (Q.bin BinOp.lss (Opd.t 17) (Opd.t 16)) }] []
                      [1, 2, 15, 16, 17, 18] [2]).seq
                  ((MC.cond (Opd.t 18) MC.skip (MC.exit 0)).seq
                    ((MC.block 1
                          ((MC.reg
                                [{ d := some 19, g := none, op := IOp.q (Q.mv (Opd.t 17)) },
                                  { d := some 20, g := none, op := IOp.q (Q.ia (Opd.t 15) (Opd.t 17) 3) },
                                  { d := some 21, g := none, op := IOp.q (Q.ld (Opd.t 20) 3 true) },
                                  { d := some 6, g := none,
                                    op :=
                                      IOp.alloc
                                        [AV.pv (PV.sc (Value.int IntKind.i64 0)),
                                          AV.pv (PV.sc (Value.int IntKind.u64 0)),
                                          AV.pv (PV.sc (Value.int IntKind.i64 0))] },
                                  { d := some 5, g := none, op := IOp.q (Q.mv (Opd.t 19)) },
                                  { d := none, g := none, op := IOp.st (Opd.t 6) (Opd.t 21) 3 }]
                                [] [1, 2, 5, 6, 15, 16, 17] [2, 6]).seq
                            ((MC.reg
                                  [{ d := some 22, g := none, op := IOp.q (Q.ld (Opd.t 2) 4 true) },
                                    { d := some 23, g := none, op := IOp.q (Q.ld (Opd.t 6) 3 true) },
                                    { d := some 24, g := none, op := IOp.call (Opd.f 45) [Opd.t 22, Opd.t 23] },
                                    { d := some 25, g := none, op := IOp.q (Q.not (Opd.t 24)) },
                                    { d := some 26, g := none, op := IOp.q (Q.mv (Opd.t 25)) },
                                    { d := some 27, g := some (26, false), op := IOp.q (Q.mv (Opd.t 1)) },
                                    { d := some 28, g := some (26, false), op := IOp.q (Q.mv (Opd.t 5)) },
                                    { d := some 29, g := some (26, false),
                                      op := IOp.q (Q.slc (Opd.t 27) none (some (Opd.t 28)) 3 false) },
                                    { d := some 30, g := some (26, false), op := IOp.q (Q.fa (Opd.t 6) 2) },
                                    { d := some 31, g := some (26, false), op := IOp.q (Q.ld (Opd.t 30) 1 false) },
                                    { d := some 32, g := some (26, false),
                                      op := IOp.call (Opd.f 46) [Opd.t 29, Opd.t 31] },
                                    { d := some 33, g := none,
                                      op := IOp.q (Q.pick (Opd.t 26) (Opd.c (Value.bool true)) (Opd.t 32)) },
                                    { d := some 34, g := none, op := IOp.q (Q.mv (Opd.t 33)) },
                                    { d := some 35, g := some (34, false), op := IOp.q (Q.mv (Opd.t 1)) },
                                    { d := some 36, g := some (34, false), op := IOp.q (Q.mv (Opd.t 5)) },
                                    { d := some 37, g := some (34, false),
                                      op := IOp.q (Q.slc (Opd.t 35) none (some (Opd.t 36)) 3 false) },
                                    { d := some 38, g := some (34, false), op := IOp.q (Q.fa (Opd.t 6) 1) },
                                    { d := some 39, g := some (34, false), op := IOp.q (Q.ld (Opd.t 38) 1 false) },
                                    { d := some 40, g := some (34, false),
                                      op := IOp.call (Opd.f 47) [Opd.t 37, Opd.t 39] },
                                    { d := some 41, g := none,
                                      op := IOp.q (Q.pick (Opd.t 34) (Opd.c (Value.bool true)) (Opd.t 40)) }]
                                  [] [1, 2, 15, 16, 17, 41] [2, 1024, 1032, 1040]).seq
                              (MC.cond (Opd.t 41)
                                ((MC.reg
                                      [{ d := some 4, g := none, op := IOp.q (Q.mv (Opd.c (Value.int IntKind.i64 1))) }]
                                      [] [4] []).seq
                                  MC.ret)
                                MC.skip)))).seq
                      (MC.reg
                        [{ d := some 42, g := none,
                            op := IOp.q (Q.bin BinOp.add (Opd.t 17) (Opd.c (Value.int IntKind.i64 1))) },
                          { d := some 17, g := none, op := IOp.q (Q.mv (Opd.t 42)) }]
                        [] [1, 2, 15, 16, 17] [2])))).loop)).seq
        (((MC.reg
                  [{ d := some 43, g := none, op := IOp.q (Q.ld (Opd.t 2) 4 true) },
                    { d := some 44, g := none, op := IOp.q (Q.mv (Opd.t 1)) },
                    { d := some 45, g := none, op := IOp.call (Opd.f 48) [Opd.t 43, Opd.t 44] },
                    { d := some 46, g := none, op := IOp.q (Q.len (Opd.t 45) false) },
                    { d := some 47, g := none,
                      op := IOp.q (Q.bin BinOp.gtr (Opd.t 46) (Opd.c (Value.int IntKind.i64 0))) }]
                  [] [47] []).seq
              (MC.cond (Opd.t 47)
                ((MC.reg [{ d := some 4, g := none, op := IOp.q (Q.mv (Opd.c (Value.int IntKind.i64 1))) }] [] [4]
                      []).seq
                  MC.ret)
                MC.skip)).seq
          ((MC.reg [{ d := some 4, g := none, op := IOp.q (Q.mv (Opd.c (Value.int IntKind.i64 0))) }] [] [4] []).seq
            MC.ret)))))
theorem mc24 : ofCode Try.prog [] Try.f24.ntmps [(0, ⟨[1, 2], [2], [], 0, [], none⟩),
    (1, ⟨[1, 2, 14], [2, 1008], [], 0, [], none⟩),
    (2, ⟨[4], [], [], 0, [], none⟩),
    (3, ⟨[1, 2, 15, 16, 17], [2], [], 0, [], none⟩),
    (4, ⟨[1, 2, 15, 16, 17, 18], [2], [], 0, [], none⟩),
    (5, ⟨[1, 2, 5, 6, 15, 16, 17], [2, 6], [], 0, [], none⟩),
    (6, ⟨[1, 2, 15, 16, 17, 41], [2, 1024, 1032, 1040], [(0, 1048573), (1, 1048574), (2, 0), (3, 1048568), (4, 1048560), (5, 1047712), (6, 1047744), (7, 1047680), (8, 1048320), (9, 1048064), (10, 0), (11, 1046528), (12, 1044480), (13, 827392), (14, 835584), (15, 819200), (16, 983040), (17, 917504), (18, 0), (19, 524288)], 1048575, [], none⟩),
    (7, ⟨[4], [], [], 0, [], none⟩),
    (8, ⟨[1, 2, 15, 16, 17], [2], [], 0, [], none⟩),
    (9, ⟨[47], [], [], 0, [], none⟩),
    (10, ⟨[4], [], [], 0, [], none⟩),
    (11, ⟨[4], [], [], 0, [], none⟩)] (Try.f24.body.getD .skip) = some M24 := by kernel_rfl
theorem Run24 {args : List PV} {v : AV} {rs : List (Nat × List PV)} (ids : List Bool) (h : args.length ≤ 48) (hv : run Try.prog (retK [RV.tmp 4] ids v rs) M24 [] ⟨entry 0 args, []⟩) : Fn Try.prog 24 args v rs :=
  Fn_run ids (by kernel_rfl) Try.func24 (by decide) rfl mc24 (by kernel_rfl) (by rw [Try.ntmps24]; exact h) (by rw [Try.ntmps24]; decide) hv

/-- 'trystref09.Check' -/
def M25 : MC := ((MC.reg
        [{ d := some 2, g := none, op := IOp.box (Opd.t 0) },
          { d := some 4, g := none, op := IOp.q (Q.mv (Opd.c (Value.bool false))) }]
        [] [1, 2] [2]).seq
    (((MC.reg
              [{ d := some 9, g := none, op := IOp.q (Q.ld (Opd.t 2) 4 true) },
                { d := some 10, g := none, op := IOp.call (Opd.f 23) [Opd.t 9] },
                { d := some 11, g := none, op := IOp.q (Q.not (Opd.t 10)) },
                { d := some 12, g := none, op := IOp.q (Q.mv (Opd.t 11)) },
                { d := some 13, g := some (12, false), op := IOp.q (Q.mv (Opd.t 1)) },
                { d := some 14, g := some (12, false), op := IOp.q (Q.len (Opd.t 13) false) },
                { d := some 15, g := some (12, false),
                  op := IOp.q (Q.bin BinOp.geq (Opd.t 14) (Opd.c (Value.int IntKind.i64 30))) },
                { d := some 16, g := none, op := IOp.q (Q.pick (Opd.t 12) (Opd.c (Value.bool true)) (Opd.t 15)) }]
              [] [1, 2, 16] [2, 1010]).seq
          (MC.cond (Opd.t 16)
            ((MC.reg [{ d := some 4, g := none, op := IOp.q (Q.mv (Opd.c (Value.bool false))) }] [] [4] [1092]).seq
              MC.ret)
            MC.skip)).seq
      (((MC.reg [{ d := some 5, g := none, op := IOp.q (Q.mv (Opd.c (Value.int IntKind.i64 0))) }] [] [1, 2, 5] [2]).seq
            (MC.block 0
              (((MC.reg
                          [{ d := some 17, g := none, op := IOp.q (Q.mv (Opd.t 5)) },
                            { d := some 18, g := none, op := IOp.q (Q.mv (Opd.t 1)) },
                            { d := some 19, g := none, op := IOp.q (Q.len (Opd.t 18) false) },
                            { d := some 20, g := none, op := IOp.q (Q.bin BinOp.lss (Opd.t 17) (Opd.t 19)) }]
                          [] [1, 2, 5, 20] [2]).seq
                      (MC.cond (Opd.t 20) MC.skip (MC.exit 0))).seq
                  ((MC.block 1
                        (((MC.reg
                                  [{ d := some 23, g := none, op := IOp.q (Q.mv (Opd.t 1)) },
                                    { d := some 24, g := none, op := IOp.q (Q.mv (Opd.t 5)) },
                                    { d := some 25, g := none, op := IOp.q (Q.ia (Opd.t 23) (Opd.t 24) 3) },
                                    { d := some 26, g := none, op := IOp.q (Q.fa (Opd.t 25) 0) },
                                    { d := some 27, g := none, op := IOp.q (Q.ld (Opd.t 26) 1 false) },
                                    { d := some 28, g := none,
                                      op := IOp.q (Q.bin BinOp.lss (Opd.t 27) (Opd.c (Value.int IntKind.i64 0))) },
                                    { d := some 29, g := none, op := IOp.q (Q.mv (Opd.t 28)) },
                                    { d := some 30, g := some (29, false), op := IOp.q (Q.mv (Opd.t 1)) },
                                    { d := some 31, g := some (29, false), op := IOp.q (Q.mv (Opd.t 5)) },
                                    { d := some 32, g := some (29, false), op := IOp.q (Q.ia (Opd.t 30) (Opd.t 31) 3) },
                                    { d := some 33, g := some (29, false), op := IOp.q (Q.fa (Opd.t 32) 0) },
                                    { d := some 34, g := some (29, false), op := IOp.q (Q.ld (Opd.t 33) 1 false) },
                                    { d := some 35, g := some (29, false), op := IOp.q (Q.fa (Opd.t 2) 1) },
                                    { d := some 36, g := some (29, false), op := IOp.q (Q.ld (Opd.t 35) 1 false) },
                                    { d := some 37, g := some (29, false),
                                      op := IOp.q (Q.bin BinOp.geq (Opd.t 34) (Opd.t 36)) },
                                    { d := some 38, g := none,
                                      op := IOp.q (Q.pick (Opd.t 29) (Opd.c (Value.bool true)) (Opd.t 37)) },
                                    { d := some 39, g := none, op := IOp.q (Q.mv (Opd.t 38)) },
                                    { d := some 40, g := some (39, false), op := IOp.q (Q.mv (Opd.t 1)) },
                                    { d := some 41, g := some (39, false), op := IOp.q (Q.mv (Opd.t 5)) },
                                    { d := some 42, g := some (39, false), op := IOp.q (Q.ia (Opd.t 40) (Opd.t 41) 3) },
                                    { d := some 43, g := some (39, false), op := IOp.q (Q.fa (Opd.t 42) 2) },
                                    { d := some 44, g := some (39, false), op := IOp.q (Q.ld (Opd.t 43) 1 false) },
                                    { d := some 45, g := some (39, false),
                                      op := IOp.q (Q.bin BinOp.lss (Opd.t 44) (Opd.c (Value.int IntKind.i64 0))) },
                                    { d := some 46, g := none,
                                      op := IOp.q (Q.pick (Opd.t 39) (Opd.c (Value.bool true)) (Opd.t 45)) },
                                    { d := some 47, g := none, op := IOp.q (Q.mv (Opd.t 46)) },
                                    { d := some 48, g := some (47, false), op := IOp.q (Q.mv (Opd.t 1)) },
                                    { d := some 49, g := some (47, false), op := IOp.q (Q.mv (Opd.t 5)) },
                                    { d := some 50, g := some (47, false), op := IOp.q (Q.ia (Opd.t 48) (Opd.t 49) 3) },
                                    { d := some 51, g := some (47, false), op := IOp.q (Q.fa (Opd.t 50) 2) },
                                    { d := some 52, g := some (47, false), op := IOp.q (Q.ld (Opd.t 51) 1 false) },
                                    { d := some 53, g := some (47, false),
                                      op :=
                                        IOp.q
                                          (Q.bin BinOp.gtr (Opd.t 52) (Opd.c (Value.int IntKind.i64 1099511627775))) },
                                    { d := some 54, g := none,
                                      op := IOp.q (Q.pick (Opd.t 47) (Opd.c (Value.bool true)) (Opd.t 53)) },
                                    { d := some 55, g := none, op := IOp.q (Q.mv (Opd.t 54)) },
                                    { d := some 56, g := some (55, false), op := IOp.q (Q.mv (Opd.t 5)) },
                                    { d := some 57, g := some (55, false),
                                      op := IOp.q (Q.bin BinOp.gtr (Opd.t 56) (Opd.c (Value.int IntKind.i64 0))) },
                                    { d := some 58, g := some (55, false), op := IOp.q (Q.mv (Opd.t 57)) },
                                    { d := some 59, g := some (58, true), op := IOp.q (Q.mv (Opd.t 1)) },
                                    { d := some 60, g := some (58, true), op := IOp.q (Q.mv (Opd.t 5)) },
                                    { d := some 61, g := some (58, true),
                                      op := IOp.q (Q.bin BinOp.sub (Opd.t 60) (Opd.c (Value.int IntKind.i64 1))) },
                                    { d := some 62, g := some (58, true), op := IOp.q (Q.ia (Opd.t 59) (Opd.t 61) 3) },
                                    { d := some 63, g := some (58, true), op := IOp.q (Q.fa (Opd.t 62) 2) },
                                    { d := some 64, g := some (58, true), op := IOp.q (Q.ld (Opd.t 63) 1 false) },
                                    { d := some 65, g := some (58, true), op := IOp.q (Q.mv (Opd.t 1)) },
                                    { d := some 66, g := some (58, true), op := IOp.q (Q.mv (Opd.t 5)) },
                                    { d := some 67, g := some (58, true), op := IOp.q (Q.ia (Opd.t 65) (Opd.t 66) 3) },
                                    { d := some 68, g := some (58, true), op := IOp.q (Q.fa (Opd.t 67) 2) },
                                    { d := some 69, g := some (58, true), op := IOp.q (Q.ld (Opd.t 68) 1 false) },
                                    { d := some 70, g := some (58, true),
                                      op := IOp.q (Q.bin BinOp.gtr (Opd.t 64) (Opd.t 69)) },
                                    { d := some 71, g := some (55, false),
                                      op := IOp.q (Q.pick (Opd.t 58) (Opd.t 70) (Opd.c (Value.bool false))) },
                                    { d := some 72, g := none,
                                      op := IOp.q (Q.pick (Opd.t 55) (Opd.c (Value.bool true)) (Opd.t 71)) }]
                                  [] [1, 2, 5, 72] [2]).seq
                              (MC.cond (Opd.t 72)
                                ((MC.reg [{ d := some 4, g := none, op := IOp.q (Q.mv (Opd.c (Value.bool false))) }] []
                                      [4] [1092]).seq
                                  MC.ret)
                                MC.skip)).seq
                          ((MC.reg [{ d := some 6, g := none, op := IOp.q (Q.mv (Opd.c (Value.int IntKind.i64 0))) }] []
                                [1, 2, 5, 6] [2]).seq
                            (MC.block 2
                              (((MC.reg
                                          [{ d := some 73, g := none, op := IOp.q (Q.mv (Opd.t 6)) },
                                            { d := some 74, g := none, op := IOp.q (Q.mv (Opd.t 5)) },
                                            { d := some 75, g := none,
                                              op := IOp.q (Q.bin BinOp.lss (Opd.t 73) (Opd.t 74)) }]
                                          [] [1, 2, 5, 6, 75] [2]).seq
                                      (MC.cond (Opd.t 75) MC.skip (MC.exit 2))).seq
                                  ((MC.block 3
                                        ((MC.reg
                                              [{ d := some 78, g := none, op := IOp.q (Q.mv (Opd.t 1)) },
                                                { d := some 79, g := none, op := IOp.q (Q.mv (Opd.t 6)) },
                                                { d := some 80, g := none, op := IOp.q (Q.ia (Opd.t 78) (Opd.t 79) 3) },
                                                { d := some 81, g := none, op := IOp.q (Q.fa (Opd.t 80) 1) },
                                                { d := some 82, g := none, op := IOp.q (Q.ld (Opd.t 81) 1 false) },
                                                { d := some 83, g := none, op := IOp.q (Q.mv (Opd.t 1)) },
                                                { d := some 84, g := none, op := IOp.q (Q.mv (Opd.t 5)) },
                                                { d := some 85, g := none, op := IOp.q (Q.ia (Opd.t 83) (Opd.t 84) 3) },
                                                { d := some 86, g := none, op := IOp.q (Q.fa (Opd.t 85) 1) },
                                                { d := some 87, g := none, op := IOp.q (Q.ld (Opd.t 86) 1 false) },
                                                { d := some 88, g := none,
                                                  op := IOp.q (Q.bin BinOp.eql (Opd.t 82) (Opd.t 87)) }]
                                              [] [1, 2, 5, 6, 88] [2]).seq
                                          (MC.cond (Opd.t 88)
                                            ((MC.reg
                                                  [{ d := some 4, g := none,
                                                      op := IOp.q (Q.mv (Opd.c (Value.bool false))) }]
                                                  [] [4] [1092]).seq
                                              MC.ret)
                                            MC.skip))).seq
                                    (MC.reg
                                      [{ d := some 76, g := none, op := IOp.q (Q.mv (Opd.t 6)) },
                                        { d := some 77, g := none,
                                          op := IOp.q (Q.bin BinOp.add (Opd.t 76) (Opd.c (Value.int IntKind.i64 1))) },
                                        { d := some 6, g := none, op := IOp.q (Q.mv (Opd.t 77)) }]
                                      [] [1, 2, 5, 6] [2]))).loop)))).seq
                    (MC.reg
                      [{ d := some 21, g := none, op := IOp.q (Q.mv (Opd.t 5)) },
                        { d := some 22, g := none,
                          op := IOp.q (Q.bin BinOp.add (Opd.t 21) (Opd.c (Value.int IntKind.i64 1))) },
                        { d := some 5, g := none, op := IOp.q (Q.mv (Opd.t 22)) }]
                      [] [1, 2, 5] [2]))).loop)).seq
        ((MC.reg
              [{ d := some 90, g := none, op := IOp.q (Q.ld (Opd.t 2) 4 true) },
                { d := some 91, g := none, op := IOp.q (Q.mv (Opd.t 1)) },
                { d := some 92, g := none, op := IOp.call (Opd.f 49) [Opd.t 90, Opd.t 91] },
                { d := some 89, g := none, op := IOp.q (Q.mv (Opd.t 92)) },
                { d := some 93, g := none, op := IOp.q (Q.ext (Opd.t 89) 0) },
                { d := some 94, g := none, op := IOp.q (Q.ext (Opd.t 89) 1) },
                { d := some 7, g := none, op := IOp.q (Q.mv (Opd.t 93)) },
                { d := some 8, g := none, op := IOp.q (Q.mv (Opd.t 94)) }]
              [] [8] [1092]).seq
          ((MC.reg
                [{ d := some 95, g := none, op := IOp.q (Q.mv (Opd.t 8)) },
                  { d := some 96, g := none, op := IOp.q (Q.not (Opd.t 95)) },
                  { d := some 4, g := none, op := IOp.q (Q.mv (Opd.t 96)) }]
                [] [4] [1092]).seq
            MC.ret)))))
theorem mc25 : ofCode Try.prog [] Try.f25.ntmps [(0, ⟨[1, 2], [2], [], 0, [], none⟩),
    (1, ⟨[1, 2, 16], [2, 1010], [], 0, [], none⟩),
    (2, ⟨[4], [1092], [], 0, [], none⟩),
    (3, ⟨[1, 2, 5], [2], [], 0, [], none⟩),
    (4, ⟨[1, 2, 5, 20], [2], [], 0, [], none⟩),
    (5, ⟨[1, 2, 5], [2], [], 0, [], none⟩),
    (6, ⟨[1, 2, 5, 72], [2], [(0, 1125899906842621), (1, 1125899906842622), (2, 1125899906842620), (3, 1125899906842616), (4, 1125899906842608), (5, 1125899906842592), (6, 1125899906842560), (7, 1125899906829952), (8, 1125899906830080), (9, 1125899906829824), (10, 1125899906829312), (11, 1125899906828288), (12, 1125899906838528), (13, 1125899906834432), (14, 1125899906826240), (15, 1125899906809856), (16, 1125899906777088), (17, 1125899906449408), (18, 1125899906580480), (19, 1125899906318336), (20, 1125899905794048), (21, 1125899904745472), (22, 1125899902648320), (23, 1125899898454016), (24, 1125899890065408), (25, 1125899806179328), (26, 1125899839733760), (27, 1125899772624896), (28, 1125899638407168), (29, 1125899369971712), (30, 1125898833100800), (31, 1125897759358976), (32, 1125895611875328), (33, 1125891316908032), (34, 1125882726973440), (35, 1125865547104256), (36, 989079428661248), (37, 989423026044928), (38, 989285587091456), (39, 989010709184512), (40, 988460953370624), (41, 987361441742848), (42, 1112705767309312), (43, 1117103813820416), (44, 1108307720798208), (45, 1090715534753792), (46, 1055531162664960), (47, 985162418487296), (48, 844424930131968), (49, 562949953421312)], 1125899906842623, [], none⟩),
    (7, ⟨[4], [1092], [], 0, [], none⟩),
    (8, ⟨[1, 2, 5, 6], [2], [], 0, [], none⟩),
    (9, ⟨[1, 2, 5, 6, 75], [2], [], 0, [], none⟩),
    (10, ⟨[1, 2, 5, 6], [2], [], 0, [], none⟩),
    (11, ⟨[1, 2, 5, 6, 88], [2], [(0, 1053), (1, 1054), (2, 1052), (3, 1048), (4, 1040), (5, 1952), (6, 1984), (7, 1920), (8, 1792), (9, 1536), (10, 1024)], 2047, [], none⟩),
    (12, ⟨[4], [1092], [], 0, [], none⟩),
    (13, ⟨[8], [1092], [], 0, [], none⟩),
    (14, ⟨[4], [1092], [], 0, [], none⟩)] (Try.f25.body.getD .skip) = some M25 := by kernel_rfl
theorem Run25 {args : List PV} {v : AV} {rs : List (Nat × List PV)} (ids : List Bool) (h : args.length ≤ 97) (hv : run Try.prog (retK [RV.tmp 4] ids v rs) M25 [] ⟨entry 0 args, []⟩) : Fn Try.prog 25 args v rs :=
  Fn_run ids (by kernel_rfl) Try.func25 (by decide) rfl mc25 (by kernel_rfl) (by rw [Try.ntmps25]; exact h) (by rw [Try.ntmps25]; decide) hv

/-- 'join.early' -/
def M46 : MC := ((MC.reg [{ d := some 4, g := none, op := IOp.q (Q.mv (Opd.c (Value.bool false))) }] [] [0, 1] []).seq
    ((MC.reg
          [{ d := some 5, g := none, op := IOp.q (Q.mv (Opd.t 0)) },
            { d := some 6, g := none, op := IOp.q (Q.len (Opd.t 5) false) },
            { d := some 7, g := none, op := IOp.q (Q.bin BinOp.gtr (Opd.t 6) (Opd.c (Value.int IntKind.i64 0))) },
            { d := some 8, g := none, op := IOp.q (Q.mv (Opd.t 7)) },
            { d := some 9, g := some (8, true), op := IOp.q (Q.mv (Opd.t 1)) },
            { d := some 10, g := some (8, true), op := IOp.q (Q.mv (Opd.t 0)) },
            { d := some 11, g := some (8, true), op := IOp.q (Q.mv (Opd.t 0)) },
            { d := some 12, g := some (8, true), op := IOp.q (Q.len (Opd.t 11) false) },
            { d := some 13, g := some (8, true),
              op := IOp.q (Q.bin BinOp.sub (Opd.t 12) (Opd.c (Value.int IntKind.i64 1))) },
            { d := some 14, g := some (8, true), op := IOp.q (Q.ia (Opd.t 10) (Opd.t 13) 3) },
            { d := some 15, g := some (8, true), op := IOp.q (Q.fa (Opd.t 14) 2) },
            { d := some 16, g := some (8, true), op := IOp.q (Q.ld (Opd.t 15) 1 false) },
            { d := some 17, g := some (8, true), op := IOp.q (Q.bin BinOp.lss (Opd.t 9) (Opd.t 16)) },
            { d := some 18, g := none, op := IOp.q (Q.pick (Opd.t 8) (Opd.t 17) (Opd.c (Value.bool false))) },
            { d := some 4, g := none, op := IOp.q (Q.mv (Opd.t 18)) }]
          [] [4] []).seq
      MC.ret))
theorem mc46 : ofCode Try.prog [] Try.f46.ntmps [(0, ⟨[0, 1], [], [], 0, [], none⟩),
    (1, ⟨[4], [], [], 0, [], none⟩)] (Try.f46.body.getD .skip) = some M46 := by kernel_rfl
theorem Run46 {args : List PV} {v : AV} {rs : List (Nat × List PV)} (ids : List Bool) (h : args.length ≤ 19) (hv : run Try.prog (retK [RV.tmp 4] ids v rs) M46 [] ⟨entry 0 args, []⟩) : Fn Try.prog 46 args v rs :=
  Fn_run ids (by kernel_rfl) Try.func46 (by decide) rfl mc46 (by kernel_rfl) (by rw [Try.ntmps46]; exact h) (by rw [Try.ntmps46]; decide) hv

/-- 'join.there' -/
def M47 : MC := ((MC.reg
        [{ d := some 3, g := none, op := IOp.box (Opd.t 1) },
          { d := some 4, g := none, op := IOp.q (Q.mv (Opd.c (Value.bool false))) }]
        [] [0, 3] [3]).seq
    ((MC.reg
          [{ d := some 5, g := none, op := IOp.q (Q.mv (Opd.t 0)) },
            { d := some 6, g := none, op := IOp.q (Q.clo 60 [Opd.t 3]) },
            { d := some 7, g := none, op := IOp.call (Opd.f 59) [Opd.t 5, Opd.t 6] },
            { d := some 4, g := none, op := IOp.q (Q.mv (Opd.t 7)) }]
          [] [4] [1007]).seq
      MC.ret))
theorem mc47 : ofCode Try.prog [] Try.f47.ntmps [(0, ⟨[0, 3], [3], [], 0, [], none⟩),
    (1, ⟨[4], [1007], [], 0, [], none⟩)] (Try.f47.body.getD .skip) = some M47 := by kernel_rfl
theorem Run47 {args : List PV} {v : AV} {rs : List (Nat × List PV)} (ids : List Bool) (h : args.length ≤ 8) (hv : run Try.prog (retK [RV.tmp 4] ids v rs) M47 [] ⟨entry 0 args, []⟩) : Fn Try.prog 47 args v rs :=
  Fn_run ids (by kernel_rfl) Try.func47 (by decide) rfl mc47 (by kernel_rfl) (by rw [Try.ntmps47]; exact h) (by rw [Try.ntmps47]; decide) hv

/-- 'api.Kept]' -/
def M51 : MC := ((MC.reg [{ d := some 2, g := none, op := IOp.q (Q.mv Opd.nil) }] [] [0] []).seq
    (((MC.reg
              [{ d := some 3, g := none, op := IOp.q (Q.mv (Opd.t 0)) },
                { d := some 4, g := none, op := IOp.isnil (Opd.t 3) false }]
              [] [0, 4] []).seq
          (MC.cond (Opd.t 4)
            ((MC.reg [{ d := some 2, g := none, op := IOp.q (Q.mv Opd.nil) }] [(2, 2002, 3)] [2] [7, 2002]).seq MC.ret)
            MC.skip)).seq
      ((MC.reg
            [{ d := some 5, g := none, op := IOp.lits [] 3 }, { d := some 6, g := none, op := IOp.q (Q.mv (Opd.t 0)) },
              { d := some 7, g := none, op := IOp.app (Opd.t 5) (Opd.t 6) 3 24 },
              { d := some 2, g := none, op := IOp.q (Q.mv (Opd.t 7)) }]
            [] [2] [7, 2002]).seq
        MC.ret)))
theorem mc51 : ofCode Try.prog [] Try.f51.ntmps [(0, ⟨[0], [], [], 0, [], none⟩),
    (1, ⟨[0, 4], [], [], 0, [], none⟩),
    (2, ⟨[2], [7, 2002], [], 0, [(2, 2002, 3)], none⟩),
    (3, ⟨[2], [7, 2002], [], 0, [], none⟩)] (Try.f51.body.getD .skip) = some M51 := by kernel_rfl
theorem Run51 {args : List PV} {v : AV} {rs : List (Nat × List PV)} (ids : List Bool) (h : args.length ≤ 8) (hv : run Try.prog (retK [RV.tmp 2] ids v rs) M51 [] ⟨entry 0 args, []⟩) : Fn Try.prog 51 args v rs :=
  Fn_run ids (by kernel_rfl) Try.func51 (by decide) rfl mc51 (by kernel_rfl) (by rw [Try.ntmps51]; exact h) (by rw [Try.ntmps51]; decide) hv

/-- 'api.Kept]' -/
def M59 : MC := ((MC.reg [{ d := some 4, g := none, op := IOp.q (Q.mv (Opd.c (Value.bool false))) }] [] [0, 1] []).seq
    ((MC.reg
          [{ d := some 5, g := none, op := IOp.q (Q.mv (Opd.t 0)) },
            { d := some 6, g := none, op := IOp.q (Q.mv (Opd.t 1)) },
            { d := some 7, g := none, op := IOp.call (Opd.f 70) [Opd.t 5, Opd.t 6] },
            { d := some 8, g := none, op := IOp.q (Q.bin BinOp.geq (Opd.t 7) (Opd.c (Value.int IntKind.i64 0))) },
            { d := some 4, g := none, op := IOp.q (Q.mv (Opd.t 8)) }]
          [] [4] [1007]).seq
      MC.ret))
theorem mc59 : ofCode Try.prog [] Try.f59.ntmps [(0, ⟨[0, 1], [], [], 0, [], none⟩),
    (1, ⟨[4], [1007], [], 0, [], none⟩)] (Try.f59.body.getD .skip) = some M59 := by kernel_rfl
theorem Run59 {args : List PV} {v : AV} {rs : List (Nat × List PV)} (ids : List Bool) (h : args.length ≤ 9) (hv : run Try.prog (retK [RV.tmp 4] ids v rs) M59 [] ⟨entry 0 args, []⟩) : Fn Try.prog 59 args v rs :=
  Fn_run ids (by kernel_rfl) Try.func59 (by decide) rfl mc59 (by kernel_rfl) (by rw [Try.ntmps59]; exact h) (by rw [Try.ntmps59]; decide) hv

/-- 'join.there.1' -/
def M60 : MC := ((MC.reg
        [{ d := some 2, g := none, op := IOp.box (Opd.t 0) },
          { d := some 3, g := none, op := IOp.q (Q.mv (Opd.c (Value.bool false))) }]
        [] [1, 2] [2]).seq
    ((MC.reg
          [{ d := some 4, g := none, op := IOp.q (Q.fa (Opd.t 2) 1) },
            { d := some 5, g := none, op := IOp.q (Q.ld (Opd.t 4) 1 false) },
            { d := some 6, g := none, op := IOp.q (Q.ld (Opd.t 1) 1 false) },
            { d := some 7, g := none, op := IOp.q (Q.bin BinOp.eql (Opd.t 5) (Opd.t 6)) },
            { d := some 3, g := none, op := IOp.q (Q.mv (Opd.t 7)) }]
          [] [3] []).seq
      MC.ret))
theorem mc60 : ofCode Try.prog [] Try.f60.ntmps [(0, ⟨[1, 2], [2], [], 0, [], none⟩),
    (1, ⟨[3], [], [], 0, [], none⟩)] (Try.f60.body.getD .skip) = some M60 := by kernel_rfl
theorem Run60 {args : List PV} {v : AV} {rs : List (Nat × List PV)} (ids : List Bool) (h : args.length ≤ 8) (hv : run Try.prog (retK [RV.tmp 3] ids v rs) M60 [] ⟨entry 0 args, []⟩) : Fn Try.prog 60 args v rs :=
  Fn_run ids (by kernel_rfl) Try.func60 (by decide) rfl mc60 (by kernel_rfl) (by rw [Try.ntmps60]; exact h) (by rw [Try.ntmps60]; decide) hv

/-- 'api.Kept]' -/
def M70 : MC := ((MC.reg [{ d := some 4, g := none, op := IOp.q (Q.mv (Opd.c (Value.int IntKind.i64 0))) }] [] [0, 1] []).seq
    (((MC.reg
              [{ d := some 6, g := none, op := IOp.q (Q.mv (Opd.t 0)) },
                { d := some 7, g := none, op := IOp.q (Q.len (Opd.t 6) false) },
                { d := some 8, g := none, op := IOp.q (Q.mv (Opd.c (Value.int IntKind.i64 0))) }]
              [] [0, 1, 7, 8] []).seq
          (MC.block 0
            ((MC.reg [{ d := some 9, g := none, op := IOp.q (Q.bin BinOp.lss (Opd.t 8) (Opd.t 7)) }] [] [0, 1, 7, 8, 9]
                    []).seq
                ((MC.cond (Opd.t 9) MC.skip (MC.exit 0)).seq
                  ((MC.block 1
                        ((MC.reg
                              [{ d := some 10, g := none, op := IOp.q (Q.mv (Opd.t 8)) },
                                { d := some 5, g := none, op := IOp.q (Q.mv (Opd.t 10)) }]
                              [] [0, 1, 5, 7, 8] []).seq
                          ((MC.reg
                                [{ d := some 11, g := none, op := IOp.q (Q.mv (Opd.t 1)) },
                                  { d := some 12, g := none, op := IOp.q (Q.mv (Opd.t 0)) },
                                  { d := some 13, g := none, op := IOp.q (Q.mv (Opd.t 5)) },
                                  { d := some 14, g := none, op := IOp.q (Q.ia (Opd.t 12) (Opd.t 13) 3) },
                                  { d := some 15, g := none, op := IOp.q (Q.ld (Opd.t 14) 3 true) },
                                  { d := some 16, g := none, op := IOp.call (Opd.t 11) [Opd.t 15] }]
                                [] [0, 1, 5, 7, 8, 16] [1016]).seq
                            (MC.cond (Opd.t 16)
                              ((MC.reg
                                    [{ d := some 17, g := none, op := IOp.q (Q.mv (Opd.t 5)) },
                                      { d := some 4, g := none, op := IOp.q (Q.mv (Opd.t 17)) }]
                                    [] [4] []).seq
                                MC.ret)
                              MC.skip)))).seq
                    (MC.reg
                      [{ d := some 18, g := none,
                          op := IOp.q (Q.bin BinOp.add (Opd.t 8) (Opd.c (Value.int IntKind.i64 1))) },
                        { d := some 8, g := none, op := IOp.q (Q.mv (Opd.t 18)) }]
                      [] [0, 1, 7, 8] [])))).loop)).seq
      ((MC.reg [{ d := some 4, g := none, op := IOp.q (Q.mv (Opd.c (Value.int IntKind.i64 (-1)))) }] [] [4] []).seq
        MC.ret)))
theorem mc70 : ofCode Try.prog [] Try.f70.ntmps [(0, ⟨[0, 1], [], [], 0, [], none⟩),
    (1, ⟨[0, 1, 7, 8], [], [], 0, [], none⟩),
    (2, ⟨[0, 1, 7, 8, 9], [], [], 0, [], none⟩),
    (3, ⟨[0, 1, 5, 7, 8], [], [], 0, [], none⟩),
    (4, ⟨[0, 1, 5, 7, 8, 16], [1016], [], 0, [], none⟩),
    (5, ⟨[4], [], [], 0, [], none⟩),
    (6, ⟨[0, 1, 7, 8], [], [], 0, [], none⟩),
    (7, ⟨[4], [], [], 0, [], none⟩)] (Try.f70.body.getD .skip) = some M70 := by kernel_rfl
theorem Run70 {args : List PV} {v : AV} {rs : List (Nat × List PV)} (ids : List Bool) (h : args.length ≤ 19) (hv : run Try.prog (retK [RV.tmp 4] ids v rs) M70 [] ⟨entry 0 args, []⟩) : Fn Try.prog 70 args v rs :=
  Fn_run ids (by kernel_rfl) Try.func70 (by decide) rfl mc70 (by kernel_rfl) (by rw [Try.ntmps70]; exact h) (by rw [Try.ntmps70]; decide) hv

/-- 'join.upto' -/
def M63 : MC := ((MC.reg [{ d := some 4, g := none, op := IOp.q (Q.mv Opd.nil) }] [] [0, 1] []).seq
    (((MC.reg
              [{ d := some 7, g := none, op := IOp.q (Q.mv (Opd.t 1)) },
                { d := some 8, g := none, op := IOp.q (Q.mv (Opd.t 0)) },
                { d := some 9, g := none, op := IOp.q (Q.bin BinOp.lss (Opd.t 7) (Opd.t 8)) }]
              [] [0, 9] []).seq
          (MC.cond (Opd.t 9) ((MC.reg [{ d := some 4, g := none, op := IOp.q (Q.mv Opd.nil) }] [] [4] [11]).seq MC.ret)
            MC.skip)).seq
      ((MC.reg
            [{ d := some 10, g := none, op := IOp.q (Q.mv (Opd.t 0)) },
              { d := some 11, g := none, op := IOp.mks (Opd.t 10) (Opd.t 10) 1 8 (PV.sc (Value.int IntKind.i64 0)) },
              { d := some 5, g := none, op := IOp.q (Q.mv (Opd.t 11)) }]
            [] [5] [11]).seq
        (((MC.reg
                  [{ d := some 12, g := none, op := IOp.q (Q.mv (Opd.t 5)) },
                    { d := some 13, g := none, op := IOp.q (Q.len (Opd.t 12) false) },
                    { d := some 14, g := none, op := IOp.q (Q.mv (Opd.c (Value.int IntKind.i64 0))) }]
                  [] [5, 13, 14] [11]).seq
              (MC.block 0
                ((MC.reg [{ d := some 15, g := none, op := IOp.q (Q.bin BinOp.lss (Opd.t 14) (Opd.t 13)) }] []
                        [5, 13, 14, 15] [11]).seq
                    ((MC.cond (Opd.t 15) MC.skip (MC.exit 0)).seq
                      ((MC.block 1
                            ((MC.reg
                                  [{ d := some 16, g := none, op := IOp.q (Q.mv (Opd.t 14)) },
                                    { d := some 6, g := none, op := IOp.q (Q.mv (Opd.t 16)) }]
                                  [] [5, 6, 13, 14] [11]).seq
                              (MC.reg
                                [{ d := some 17, g := none, op := IOp.q (Q.mv (Opd.t 5)) },
                                  { d := some 18, g := none, op := IOp.q (Q.mv (Opd.t 6)) },
                                  { d := some 19, g := none, op := IOp.q (Q.mv (Opd.t 6)) },
                                  { d := some 20, g := none, op := IOp.q (Q.ia (Opd.t 17) (Opd.t 18) 1) },
                                  { d := none, g := none, op := IOp.st (Opd.t 20) (Opd.t 19) 1 }]
                                [] [5, 13, 14] [11]))).seq
                        (MC.reg
                          [{ d := some 21, g := none,
                              op := IOp.q (Q.bin BinOp.add (Opd.t 14) (Opd.c (Value.int IntKind.i64 1))) },
                            { d := some 14, g := none, op := IOp.q (Q.mv (Opd.t 21)) }]
                          [] [5, 13, 14] [11])))).loop)).seq
          ((MC.reg
                [{ d := some 22, g := none, op := IOp.q (Q.mv (Opd.t 5)) },
                  { d := some 4, g := none, op := IOp.q (Q.mv (Opd.t 22)) }]
                [] [4] [11]).seq
            MC.ret)))))
theorem mc63 : ofCode Try.prog [] Try.f63.ntmps [(0, ⟨[0, 1], [], [], 0, [], none⟩),
    (1, ⟨[0, 9], [], [], 0, [], none⟩),
    (2, ⟨[4], [11], [], 0, [], none⟩),
    (3, ⟨[5], [11], [], 0, [], none⟩),
    (4, ⟨[5, 13, 14], [11], [], 0, [], none⟩),
    (5, ⟨[5, 13, 14, 15], [11], [], 0, [], none⟩),
    (6, ⟨[5, 6, 13, 14], [11], [], 0, [], none⟩),
    (7, ⟨[5, 13, 14], [11], [], 0, [], none⟩),
    (8, ⟨[5, 13, 14], [11], [], 0, [], none⟩),
    (9, ⟨[4], [11], [], 0, [], none⟩)] (Try.f63.body.getD .skip) = some M63 := by kernel_rfl
theorem Run63 {args : List PV} {v : AV} {rs : List (Nat × List PV)} (ids : List Bool) (h : args.length ≤ 23) (hv : run Try.prog (retK [RV.tmp 4] ids v rs) M63 [] ⟨entry 0 args, []⟩) : Fn Try.prog 63 args v rs :=
  Fn_run ids (by kernel_rfl) Try.func63 (by decide) rfl mc63 (by kernel_rfl) (by rw [Try.ntmps63]; exact h) (by rw [Try.ntmps63]; decide) hv

/-- 'join.meets.3' -/
def M64 : MC := ((MC.reg [{ d := some 2, g := none, op := IOp.q (Q.mv Opd.nil) }] [] [0, 1] []).seq
    ((MC.reg
          [{ d := some 3, g := none, op := IOp.q (Q.fa (Opd.t 0) 2) },
            { d := some 4, g := none, op := IOp.q (Q.ld (Opd.t 3) 1 false) },
            { d := some 5, g := none, op := IOp.q (Q.ld (Opd.t 1) 1 false) },
            { d := some 6, g := none, op := IOp.q (Q.len (Opd.t 5) false) },
            { d := some 7, g := none, op := IOp.call (Opd.f 63) [Opd.t 4, Opd.t 6] },
            { d := some 2, g := none, op := IOp.q (Q.mv (Opd.t 7)) }]
          [] [2] [1007]).seq
      MC.ret))
theorem mc64 : ofCode Try.prog [] Try.f64.ntmps [(0, ⟨[0, 1], [], [], 0, [], none⟩),
    (1, ⟨[2], [1007], [], 0, [], none⟩)] (Try.f64.body.getD .skip) = some M64 := by kernel_rfl
theorem Run64 {args : List PV} {v : AV} {rs : List (Nat × List PV)} (ids : List Bool) (h : args.length ≤ 8) (hv : run Try.prog (retK [RV.tmp 2] ids v rs) M64 [] ⟨entry 0 args, []⟩) : Fn Try.prog 64 args v rs :=
  Fn_run ids (by kernel_rfl) Try.func64 (by decide) rfl mc64 (by kernel_rfl) (by rw [Try.ntmps64]; exact h) (by rw [Try.ntmps64]; decide) hv

/-- 'join.meets.2' -/
def M62 : MC := ((MC.reg [{ d := some 1, g := none, op := IOp.q (Q.mv Opd.nil) }] [] [0] []).seq
    ((MC.reg
          [{ d := some 2, g := none, op := IOp.q (Q.ld (Opd.t 0) 1 false) },
            { d := some 3, g := none, op := IOp.q (Q.len (Opd.t 2) false) },
            { d := some 4, g := none, op := IOp.call (Opd.f 63) [Opd.c (Value.int IntKind.i64 1), Opd.t 3] },
            { d := some 1, g := none, op := IOp.q (Q.mv (Opd.t 4)) }]
          [] [1] [1004]).seq
      MC.ret))
theorem mc62 : ofCode Try.prog [] Try.f62.ntmps [(0, ⟨[0], [], [], 0, [], none⟩),
    (1, ⟨[1], [1004], [], 0, [], none⟩)] (Try.f62.body.getD .skip) = some M62 := by kernel_rfl
theorem Run62 {args : List PV} {v : AV} {rs : List (Nat × List PV)} (ids : List Bool) (h : args.length ≤ 5) (hv : run Try.prog (retK [RV.tmp 1] ids v rs) M62 [] ⟨entry 0 args, []⟩) : Fn Try.prog 62 args v rs :=
  Fn_run ids (by kernel_rfl) Try.func62 (by decide) rfl mc62 (by kernel_rfl) (by rw [Try.ntmps62]; exact h) (by rw [Try.ntmps62]; decide) hv

/-- 'join.meets.1' -/
def M61 : MC := ((MC.reg [{ d := some 2, g := none, op := IOp.q (Q.mv Opd.nil) }] [] [0, 1] []).seq
    ((MC.reg
          [{ d := some 3, g := none,
              op :=
                IOp.alloc
                  [AV.pv (PV.sc (Value.bool false)), AV.pv (PV.sc (Value.bool false)), AV.pv (PV.sc (Value.bool false)),
                    AV.pv (PV.sc (Value.bool false)), AV.pv (PV.sc (Value.bool false)),
                    AV.pv (PV.sc (Value.bool false))] }]
          [] [0, 1, 3] [3]).seq
      ((MC.reg [{ d := some 4, g := none, op := IOp.q (Q.mv Opd.nil) }] [(4, 2004, 1)] [0, 1, 3, 4] [3, 25, 2004]).seq
        (((MC.reg
                  [{ d := some 7, g := none, op := IOp.q (Q.ld (Opd.t 0) 1 false) },
                    { d := some 8, g := none, op := IOp.q (Q.len (Opd.t 7) false) },
                    { d := some 9, g := none, op := IOp.q (Q.mv (Opd.c (Value.int IntKind.i64 0))) }]
                  [] [1, 3, 4, 7, 8, 9] [3, 25, 2004]).seq
              (MC.block 0
                ((MC.reg [{ d := some 10, g := none, op := IOp.q (Q.bin BinOp.lss (Opd.t 9) (Opd.t 8)) }] []
                        [1, 3, 4, 7, 8, 9, 10] [3, 25, 2004]).seq
                    ((MC.cond (Opd.t 10) MC.skip (MC.exit 0)).seq
                      ((MC.block 1
                            ((MC.reg
                                  [{ d := some 11, g := none, op := IOp.q (Q.mv (Opd.t 9)) },
                                    { d := some 12, g := none, op := IOp.q (Q.ia (Opd.t 7) (Opd.t 9) 3) },
                                    { d := some 13, g := none, op := IOp.q (Q.ld (Opd.t 12) 3 true) },
                                    { d := some 6, g := none,
                                      op :=
                                        IOp.alloc
                                          [AV.pv (PV.sc (Value.int IntKind.i64 0)),
                                            AV.pv (PV.sc (Value.int IntKind.u64 0)),
                                            AV.pv (PV.sc (Value.int IntKind.i64 0))] },
                                    { d := some 5, g := none, op := IOp.q (Q.mv (Opd.t 11)) },
                                    { d := none, g := none, op := IOp.st (Opd.t 6) (Opd.t 13) 3 }]
                                  [] [1, 3, 4, 5, 6, 7, 8, 9] [3, 6, 25, 2004]).seq
                              ((MC.reg
                                    [{ d := some 14, g := none, op := IOp.q (Q.fa (Opd.t 6) 0) },
                                      { d := some 15, g := none, op := IOp.q (Q.ld (Opd.t 14) 1 false) },
                                      { d := some 16, g := none, op := IOp.q (Q.iaa (Opd.t 3) (Opd.t 15) 6 1) },
                                      { d := some 17, g := none, op := IOp.q (Q.ld (Opd.t 16) 1 false) },
                                      { d := some 18, g := none, op := IOp.q (Q.not (Opd.t 17)) }]
                                    [] [1, 3, 4, 5, 6, 7, 8, 9, 18] [3, 6, 25, 2004]).seq
                                (MC.cond (Opd.t 18)
                                  ((MC.reg
                                        [{ d := some 19, g := none, op := IOp.q (Q.fa (Opd.t 6) 0) },
                                          { d := some 20, g := none, op := IOp.q (Q.ld (Opd.t 19) 1 false) },
                                          { d := some 21, g := none, op := IOp.q (Q.iaa (Opd.t 3) (Opd.t 20) 6 1) },
                                          { d := none, g := none, op := IOp.st (Opd.t 21) (Opd.c (Value.bool true)) 1 }]
                                        [] [1, 3, 4, 5, 7, 8, 9] [3, 25, 2004]).seq
                                    (MC.reg
                                      [{ d := some 22, g := none, op := IOp.q (Q.mv (Opd.t 4)) },
                                        { d := some 23, g := none, op := IOp.q (Q.mv (Opd.t 5)) },
                                        { d := some 24, g := none, op := IOp.lits [Opd.t 23] 1 },
                                        { d := some 25, g := none, op := IOp.app (Opd.t 22) (Opd.t 24) 1 8 },
                                        { d := some 4, g := none, op := IOp.q (Q.mv (Opd.t 25)) }]
                                      [] [1, 3, 4, 7, 8, 9] [3, 25, 2004]))
                                  MC.skip)))).seq
                        (MC.reg
                          [{ d := some 26, g := none,
                              op := IOp.q (Q.bin BinOp.add (Opd.t 9) (Opd.c (Value.int IntKind.i64 1))) },
                            { d := some 9, g := none, op := IOp.q (Q.mv (Opd.t 26)) }]
                          [] [1, 3, 4, 7, 8, 9] [3, 25, 2004])))).loop)).seq
          (((MC.reg
                    [{ d := some 27, g := none, op := IOp.q (Q.mv (Opd.t 4)) },
                      { d := some 28, g := none, op := IOp.q (Q.len (Opd.t 27) false) },
                      { d := some 29, g := none, op := IOp.q (Q.fa (Opd.t 1) 1) },
                      { d := some 30, g := none, op := IOp.q (Q.ld (Opd.t 29) 1 false) },
                      { d := some 31, g := none, op := IOp.q (Q.bin BinOp.lss (Opd.t 28) (Opd.t 30)) }]
                    [] [4, 31] [25, 2004]).seq
                (MC.cond (Opd.t 31)
                  ((MC.reg [{ d := some 2, g := none, op := IOp.q (Q.mv Opd.nil) }] [] [2] [25, 2004]).seq MC.ret)
                  MC.skip)).seq
            ((MC.reg
                  [{ d := some 32, g := none, op := IOp.q (Q.mv (Opd.t 4)) },
                    { d := some 2, g := none, op := IOp.q (Q.mv (Opd.t 32)) }]
                  [] [2] [25, 2004]).seq
              MC.ret))))))
theorem mc61 : ofCode Try.prog [] Try.f61.ntmps [(0, ⟨[0, 1], [], [], 0, [], none⟩),
    (1, ⟨[0, 1, 3], [3], [], 0, [], none⟩),
    (2, ⟨[0, 1, 3, 4], [3, 25, 2004], [], 0, [(4, 2004, 1)], none⟩),
    (3, ⟨[1, 3, 4, 7, 8, 9], [3, 25, 2004], [], 0, [], none⟩),
    (4, ⟨[1, 3, 4, 7, 8, 9, 10], [3, 25, 2004], [], 0, [], none⟩),
    (5, ⟨[1, 3, 4, 5, 6, 7, 8, 9], [3, 6, 25, 2004], [], 0, [], none⟩),
    (6, ⟨[1, 3, 4, 5, 6, 7, 8, 9, 18], [3, 6, 25, 2004], [], 0, [], none⟩),
    (7, ⟨[1, 3, 4, 5, 7, 8, 9], [3, 25, 2004], [], 0, [], none⟩),
    (8, ⟨[1, 3, 4, 7, 8, 9], [3, 25, 2004], [], 0, [], none⟩),
    (9, ⟨[1, 3, 4, 7, 8, 9], [3, 25, 2004], [], 0, [], none⟩),
    (10, ⟨[4, 31], [25, 2004], [], 0, [], none⟩),
    (11, ⟨[2], [25, 2004], [], 0, [], none⟩),
    (12, ⟨[2], [25, 2004], [], 0, [], none⟩)] (Try.f61.body.getD .skip) = some M61 := by kernel_rfl
theorem Run61 {args : List PV} {v : AV} {rs : List (Nat × List PV)} (ids : List Bool) (h : args.length ≤ 33) (hv : run Try.prog (retK [RV.tmp 2] ids v rs) M61 [] ⟨entry 0 args, []⟩) : Fn Try.prog 61 args v rs :=
  Fn_run ids (by kernel_rfl) Try.func61 (by decide) rfl mc61 (by kernel_rfl) (by rw [Try.ntmps61]; exact h) (by rw [Try.ntmps61]; decide) hv

/-- 'join.meets' -/
def M48 : MC := ((MC.reg
        [{ d := some 2, g := none, op := IOp.box (Opd.t 0) }, { d := some 3, g := none, op := IOp.box (Opd.t 1) },
          { d := some 4, g := none, op := IOp.q (Q.mv Opd.nil) }]
        [(2, 2, 0), (3, 3, 0)] [2, 3] [2, 3]).seq
    ((MC.reg
          [{ d := some 8, g := none, op := IOp.mkm },
            { d := some 9, g := none, op := IOp.q (Q.clo 61 [Opd.t 3, Opd.t 2]) },
            { d := none, g := none,
              op := IOp.mset (Opd.t 8) (Opd.c (Value.string { data := #[97, 108, 108] })) (Opd.t 9) Kk.str },
            { d := some 10, g := none, op := IOp.q (Q.clo 62 [Opd.t 3]) },
            { d := none, g := none,
              op := IOp.mset (Opd.t 8) (Opd.c (Value.string { data := #[97, 110, 121] })) (Opd.t 10) Kk.str },
            { d := some 11, g := none, op := IOp.q (Q.clo 64 [Opd.t 2, Opd.t 3]) },
            { d := none, g := none,
              op := IOp.mset (Opd.t 8) (Opd.c (Value.string { data := #[99, 111, 117, 110, 116] })) (Opd.t 11) Kk.str },
            { d := some 12, g := none, op := IOp.q (Q.mv (Opd.t 8)) },
            { d := some 5, g := none, op := IOp.q (Q.mv (Opd.t 12)) }]
          [] [2, 5] [2, 8]).seq
      ((MC.reg
            [{ d := some 14, g := none, op := IOp.q (Q.mv (Opd.t 5)) },
              { d := some 15, g := none, op := IOp.q (Q.fa (Opd.t 2) 0) },
              { d := some 16, g := none, op := IOp.q (Q.ld (Opd.t 15) 1 false) },
              { d := some 17, g := none,
                op := IOp.q (Q.mget (Opd.t 14) (Opd.t 16) true Kk.str (AV.pv (PV.sc Value.nilFunc))) },
              { d := some 13, g := none, op := IOp.q (Q.mv (Opd.t 17)) },
              { d := some 18, g := none, op := IOp.q (Q.ext (Opd.t 13) 0) },
              { d := some 19, g := none, op := IOp.q (Q.ext (Opd.t 13) 1) },
              { d := some 6, g := none, op := IOp.q (Q.mv (Opd.t 18)) },
              { d := some 7, g := none, op := IOp.q (Q.mv (Opd.t 19)) }]
            [] [6, 7] [8]).seq
        (((MC.reg
                  [{ d := some 20, g := none, op := IOp.q (Q.mv (Opd.t 7)) },
                    { d := some 21, g := none, op := IOp.q (Q.not (Opd.t 20)) }]
                  [] [6, 21] [8]).seq
              (MC.cond (Opd.t 21)
                ((MC.reg [{ d := some 4, g := none, op := IOp.q (Q.mv Opd.nil) }] [] [4] [1023]).seq MC.ret)
                MC.skip)).seq
          ((MC.reg
                [{ d := some 22, g := none, op := IOp.q (Q.mv (Opd.t 6)) },
                  { d := some 23, g := none, op := IOp.call (Opd.t 22) [] },
                  { d := some 4, g := none, op := IOp.q (Q.mv (Opd.t 23)) }]
                [] [4] [1023]).seq
            MC.ret)))))
theorem mc48 : ofCode Try.prog [] Try.f48.ntmps [(0, ⟨[2, 3], [2, 3], [], 0, [(2, 2, 0), (3, 3, 0)], none⟩),
    (1, ⟨[2, 5], [2, 8], [], 0, [], none⟩),
    (2, ⟨[6, 7], [8], [], 0, [], none⟩),
    (3, ⟨[6, 21], [8], [], 0, [], none⟩),
    (4, ⟨[4], [1023], [], 0, [], none⟩),
    (5, ⟨[4], [1023], [], 0, [], none⟩)] (Try.f48.body.getD .skip) = some M48 := by kernel_rfl
theorem Run48 {args : List PV} {v : AV} {rs : List (Nat × List PV)} (ids : List Bool) (h : args.length ≤ 24) (hv : run Try.prog (retK [RV.tmp 4] ids v rs) M48 [] ⟨entry 0 args, []⟩) : Fn Try.prog 48 args v rs :=
  Fn_run ids (by kernel_rfl) Try.func48 (by decide) rfl mc48 (by kernel_rfl) (by rw [Try.ntmps48]; exact h) (by rw [Try.ntmps48]; decide) hv

/-- 'trystref09.Firing' -/
def M49 : MC := ((MC.reg
        [{ d := some 2, g := none, op := IOp.box (Opd.t 0) }, { d := some 4, g := none, op := IOp.q (Q.mv Opd.nil) },
          { d := some 5, g := none, op := IOp.q (Q.mv (Opd.c (Value.bool false))) }]
        [] [1, 2] [2]).seq
    ((MC.reg
          [{ d := some 12, g := none, op := IOp.q (Q.mv (Opd.t 1)) },
            { d := some 13, g := none, op := IOp.q (Q.len (Opd.t 12) false) },
            { d := some 14, g := none, op := IOp.mks (Opd.t 13) (Opd.t 13) 1 1 (PV.sc (Value.bool false)) },
            { d := some 6, g := none, op := IOp.q (Q.mv (Opd.t 14)) }]
          [] [1, 2, 6] [2, 14]).seq
      ((MC.reg [{ d := some 7, g := none, op := IOp.q (Q.mv (Opd.c (Value.int IntKind.i64 0))) }] [] [1, 2, 6, 7]
            [2, 14]).seq
        (((MC.reg [{ d := some 8, g := none, op := IOp.q (Q.mv (Opd.c (Value.int IntKind.i64 0))) }] [] [1, 2, 6, 7, 8]
                  [2, 14]).seq
              (MC.block 0
                (((MC.reg
                            [{ d := some 15, g := none, op := IOp.q (Q.mv (Opd.t 8)) },
                              { d := some 16, g := none, op := IOp.q (Q.mv (Opd.t 1)) },
                              { d := some 17, g := none, op := IOp.q (Q.len (Opd.t 16) false) },
                              { d := some 18, g := none, op := IOp.q (Q.bin BinOp.lss (Opd.t 15) (Opd.t 17)) }]
                            [] [1, 2, 6, 7, 8, 18] [2, 14]).seq
                        (MC.cond (Opd.t 18) MC.skip (MC.exit 0))).seq
                    ((MC.block 1
                          ((MC.reg [{ d := some 9, g := none, op := IOp.q (Q.mv (Opd.c (Value.bool true))) }] []
                                [1, 2, 6, 7, 8, 9] [2, 14]).seq
                            (((MC.reg
                                      [{ d := some 10, g := none,
                                          op := IOp.q (Q.mv (Opd.c (Value.int IntKind.i64 0))) }]
                                      [] [1, 2, 6, 7, 8, 9, 10] [2, 14]).seq
                                  (MC.block 2
                                    (((MC.reg
                                                [{ d := some 21, g := none, op := IOp.q (Q.mv (Opd.t 10)) },
                                                  { d := some 22, g := none, op := IOp.q (Q.mv (Opd.t 8)) },
                                                  { d := some 23, g := none,
                                                    op := IOp.q (Q.bin BinOp.lss (Opd.t 21) (Opd.t 22)) }]
                                                [] [1, 2, 6, 7, 8, 9, 10, 23] [2, 14]).seq
                                            (MC.cond (Opd.t 23) MC.skip (MC.exit 2))).seq
                                        ((MC.block 3
                                              (MC.reg
                                                [{ d := some 26, g := none, op := IOp.q (Q.mv (Opd.t 9)) },
                                                  { d := some 27, g := none, op := IOp.q (Q.mv (Opd.t 26)) },
                                                  { d := some 28, g := some (27, true), op := IOp.q (Q.mv (Opd.t 1)) },
                                                  { d := some 29, g := some (27, true), op := IOp.q (Q.mv (Opd.t 10)) },
                                                  { d := some 30, g := some (27, true),
                                                    op := IOp.q (Q.ia (Opd.t 28) (Opd.t 29) 3) },
                                                  { d := some 31, g := some (27, true),
                                                    op := IOp.q (Q.fa (Opd.t 30) 0) },
                                                  { d := some 32, g := some (27, true),
                                                    op := IOp.q (Q.ld (Opd.t 31) 1 false) },
                                                  { d := some 33, g := some (27, true), op := IOp.q (Q.mv (Opd.t 1)) },
                                                  { d := some 34, g := some (27, true), op := IOp.q (Q.mv (Opd.t 8)) },
                                                  { d := some 35, g := some (27, true),
                                                    op := IOp.q (Q.ia (Opd.t 33) (Opd.t 34) 3) },
                                                  { d := some 36, g := some (27, true),
                                                    op := IOp.q (Q.fa (Opd.t 35) 0) },
                                                  { d := some 37, g := some (27, true),
                                                    op := IOp.q (Q.ld (Opd.t 36) 1 false) },
                                                  { d := some 38, g := some (27, true),
                                                    op := IOp.q (Q.bin BinOp.neq (Opd.t 32) (Opd.t 37)) },
                                                  { d := some 39, g := none,
                                                    op :=
                                                      IOp.q (Q.pick (Opd.t 27) (Opd.t 38) (Opd.c (Value.bool false))) },
                                                  { d := some 9, g := none, op := IOp.q (Q.mv (Opd.t 39)) }]
                                                [] [1, 2, 6, 7, 8, 9, 10] [2, 14])).seq
                                          (MC.reg
                                            [{ d := some 24, g := none, op := IOp.q (Q.mv (Opd.t 10)) },
                                              { d := some 25, g := none,
                                                op :=
                                                  IOp.q
                                                    (Q.bin BinOp.add (Opd.t 24) (Opd.c (Value.int IntKind.i64 1))) },
                                              { d := some 10, g := none, op := IOp.q (Q.mv (Opd.t 25)) }]
                                            [] [1, 2, 6, 7, 8, 9, 10] [2, 14]))).loop)).seq
                              ((MC.reg
                                    [{ d := some 40, g := none, op := IOp.q (Q.mv (Opd.t 6)) },
                                      { d := some 41, g := none, op := IOp.q (Q.mv (Opd.t 8)) },
                                      { d := some 42, g := none, op := IOp.q (Q.fa (Opd.t 2) 0) },
                                      { d := some 43, g := none, op := IOp.q (Q.ld (Opd.t 42) 1 false) },
                                      { d := some 44, g := none,
                                        op :=
                                          IOp.q
                                            (Q.bin BinOp.eql (Opd.t 43)
                                              (Opd.c (Value.string { data := #[97, 108, 108] }))) },
                                      { d := some 45, g := none, op := IOp.q (Q.mv (Opd.t 44)) },
                                      { d := some 46, g := some (45, true), op := IOp.q (Q.mv (Opd.t 9)) },
                                      { d := some 47, g := none,
                                        op := IOp.q (Q.pick (Opd.t 45) (Opd.t 46) (Opd.c (Value.bool false))) },
                                      { d := some 48, g := none, op := IOp.q (Q.mv (Opd.t 47)) },
                                      { d := some 49, g := some (48, false), op := IOp.q (Q.fa (Opd.t 2) 0) },
                                      { d := some 50, g := some (48, false), op := IOp.q (Q.ld (Opd.t 49) 1 false) },
                                      { d := some 51, g := some (48, false),
                                        op :=
                                          IOp.q
                                            (Q.bin BinOp.eql (Opd.t 50)
                                              (Opd.c (Value.string { data := #[97, 110, 121] }))) },
                                      { d := some 52, g := some (48, false), op := IOp.q (Q.mv (Opd.t 51)) },
                                      { d := some 53, g := some (52, true), op := IOp.q (Q.mv (Opd.t 8)) },
                                      { d := some 54, g := some (52, true),
                                        op := IOp.q (Q.bin BinOp.eql (Opd.t 53) (Opd.c (Value.int IntKind.i64 0))) },
                                      { d := some 55, g := some (48, false),
                                        op := IOp.q (Q.pick (Opd.t 52) (Opd.t 54) (Opd.c (Value.bool false))) },
                                      { d := some 56, g := none,
                                        op := IOp.q (Q.pick (Opd.t 48) (Opd.c (Value.bool true)) (Opd.t 55)) },
                                      { d := some 57, g := none, op := IOp.q (Q.mv (Opd.t 56)) },
                                      { d := some 58, g := some (57, false), op := IOp.q (Q.fa (Opd.t 2) 0) },
                                      { d := some 59, g := some (57, false), op := IOp.q (Q.ld (Opd.t 58) 1 false) },
                                      { d := some 60, g := some (57, false),
                                        op :=
                                          IOp.q
                                            (Q.bin BinOp.eql (Opd.t 59)
                                              (Opd.c (Value.string { data := #[99, 111, 117, 110, 116] }))) },
                                      { d := some 61, g := some (57, false), op := IOp.q (Q.mv (Opd.t 60)) },
                                      { d := some 62, g := some (61, true), op := IOp.q (Q.mv (Opd.t 8)) },
                                      { d := some 63, g := some (61, true), op := IOp.q (Q.fa (Opd.t 2) 2) },
                                      { d := some 64, g := some (61, true), op := IOp.q (Q.ld (Opd.t 63) 1 false) },
                                      { d := some 65, g := some (61, true),
                                        op := IOp.q (Q.bin BinOp.lss (Opd.t 62) (Opd.t 64)) },
                                      { d := some 66, g := some (57, false),
                                        op := IOp.q (Q.pick (Opd.t 61) (Opd.t 65) (Opd.c (Value.bool false))) },
                                      { d := some 67, g := none,
                                        op := IOp.q (Q.pick (Opd.t 57) (Opd.c (Value.bool true)) (Opd.t 66)) },
                                      { d := some 68, g := none, op := IOp.q (Q.ia (Opd.t 40) (Opd.t 41) 1) },
                                      { d := none, g := none, op := IOp.st (Opd.t 68) (Opd.t 67) 1 }]
                                    [] [1, 2, 6, 7, 8] [2, 14]).seq
                                ((MC.reg
                                      [{ d := some 69, g := none, op := IOp.q (Q.mv (Opd.t 6)) },
                                        { d := some 70, g := none, op := IOp.q (Q.mv (Opd.t 8)) },
                                        { d := some 71, g := none, op := IOp.q (Q.ia (Opd.t 69) (Opd.t 70) 1) },
                                        { d := some 72, g := none, op := IOp.q (Q.ld (Opd.t 71) 1 false) }]
                                      [] [1, 2, 6, 7, 8, 72] [2, 14]).seq
                                  (MC.cond (Opd.t 72)
                                    (MC.reg
                                      [{ d := some 73, g := none, op := IOp.q (Q.mv (Opd.t 7)) },
                                        { d := some 74, g := none,
                                          op := IOp.q (Q.bin BinOp.add (Opd.t 73) (Opd.c (Value.int IntKind.i64 1))) },
                                        { d := some 7, g := none, op := IOp.q (Q.mv (Opd.t 74)) }]
                                      [] [1, 2, 6, 7, 8] [2, 14])
                                    MC.skip)))))).seq
                      (MC.reg
                        [{ d := some 19, g := none, op := IOp.q (Q.mv (Opd.t 8)) },
                          { d := some 20, g := none,
                            op := IOp.q (Q.bin BinOp.add (Opd.t 19) (Opd.c (Value.int IntKind.i64 1))) },
                          { d := some 8, g := none, op := IOp.q (Q.mv (Opd.t 20)) }]
                        [] [1, 2, 6, 7, 8] [2, 14]))).loop)).seq
          ((MC.reg [{ d := some 11, g := none, op := IOp.q (Q.mv (Opd.c (Value.int IntKind.i64 1))) }] [] [2, 6, 7, 11]
                [2, 14]).seq
            (((MC.reg
                      [{ d := some 75, g := none, op := IOp.q (Q.fa (Opd.t 2) 0) },
                        { d := some 76, g := none, op := IOp.q (Q.ld (Opd.t 75) 1 false) },
                        { d := some 77, g := none,
                          op := IOp.q (Q.bin BinOp.eql (Opd.t 76) (Opd.c (Value.string { data := #[97, 108, 108] }))) }]
                      [] [2, 6, 7, 11, 77] [2, 14]).seq
                  (MC.cond (Opd.t 77)
                    (MC.reg
                      [{ d := some 78, g := none, op := IOp.q (Q.fa (Opd.t 2) 1) },
                        { d := some 79, g := none, op := IOp.q (Q.ld (Opd.t 78) 1 false) },
                        { d := some 11, g := none, op := IOp.q (Q.mv (Opd.t 79)) }]
                      [] [2, 6, 7, 11] [2, 14])
                    MC.skip)).seq
              (((MC.reg
                        [{ d := some 80, g := none, op := IOp.q (Q.fa (Opd.t 2) 0) },
                          { d := some 81, g := none, op := IOp.q (Q.ld (Opd.t 80) 1 false) },
                          { d := some 82, g := none,
                            op :=
                              IOp.q
                                (Q.bin BinOp.eql (Opd.t 81)
                                  (Opd.c (Value.string { data := #[99, 111, 117, 110, 116] }))) }]
                        [] [2, 6, 7, 11, 82] [2, 14]).seq
                    (MC.cond (Opd.t 82)
                      (MC.reg
                        [{ d := some 83, g := none, op := IOp.q (Q.fa (Opd.t 2) 2) },
                          { d := some 84, g := none, op := IOp.q (Q.ld (Opd.t 83) 1 false) },
                          { d := some 11, g := none, op := IOp.q (Q.mv (Opd.t 84)) }]
                        [] [6, 7, 11] [14])
                      MC.skip)).seq
                ((MC.reg
                      [{ d := some 85, g := none, op := IOp.q (Q.mv (Opd.t 6)) },
                        { d := some 86, g := none, op := IOp.q (Q.mv (Opd.t 7)) },
                        { d := some 87, g := none, op := IOp.q (Q.mv (Opd.t 11)) },
                        { d := some 88, g := none, op := IOp.q (Q.bin BinOp.geq (Opd.t 86) (Opd.t 87)) },
                        { d := some 4, g := none, op := IOp.q (Q.mv (Opd.t 85)) },
                        { d := some 5, g := none, op := IOp.q (Q.mv (Opd.t 88)) }]
                      [] [4, 5] [14]).seq
                  MC.ret))))))))
theorem mc49 : ofCode Try.prog [] Try.f49.ntmps [(0, ⟨[1, 2], [2], [], 0, [], none⟩),
    (1, ⟨[1, 2, 6], [2, 14], [], 0, [], none⟩),
    (2, ⟨[1, 2, 6, 7], [2, 14], [], 0, [], none⟩),
    (3, ⟨[1, 2, 6, 7, 8], [2, 14], [], 0, [], none⟩),
    (4, ⟨[1, 2, 6, 7, 8, 18], [2, 14], [], 0, [], none⟩),
    (5, ⟨[1, 2, 6, 7, 8], [2, 14], [], 0, [], none⟩),
    (6, ⟨[1, 2, 6, 7, 8, 9], [2, 14], [], 0, [], none⟩),
    (7, ⟨[1, 2, 6, 7, 8, 9, 10], [2, 14], [], 0, [], none⟩),
    (8, ⟨[1, 2, 6, 7, 8, 9, 10, 23], [2, 14], [], 0, [], none⟩),
    (9, ⟨[1, 2, 6, 7, 8, 9, 10], [2, 14], [], 0, [], none⟩),
    (10, ⟨[1, 2, 6, 7, 8, 9, 10], [2, 14], [(0, 32767), (1, 32766), (2, 28788), (3, 28792), (4, 28784), (5, 28768), (6, 28736), (7, 32384), (8, 32512), (9, 32256), (10, 31744), (11, 30720), (12, 28672), (13, 24576), (14, 16384)], 32767, [], none⟩),
    (11, ⟨[1, 2, 6, 7, 8], [2, 14], [], 0, [], none⟩),
    (12, ⟨[1, 2, 6, 7, 8, 72], [2, 14], [], 0, [], none⟩),
    (13, ⟨[1, 2, 6, 7, 8], [2, 14], [], 0, [], none⟩),
    (14, ⟨[2, 6, 7, 11], [2, 14], [], 0, [], none⟩),
    (15, ⟨[2, 6, 7, 11, 77], [2, 14], [], 0, [], none⟩),
    (16, ⟨[2, 6, 7, 11], [2, 14], [], 0, [], none⟩),
    (17, ⟨[2, 6, 7, 11, 82], [2, 14], [], 0, [], none⟩),
    (18, ⟨[6, 7, 11], [14], [], 0, [], none⟩),
    (19, ⟨[4, 5], [14], [], 0, [], none⟩)] (Try.f49.body.getD .skip) = some M49 := by kernel_rfl
theorem Run49 {args : List PV} {v : AV} {rs : List (Nat × List PV)} (ids : List Bool) (h : args.length ≤ 89) (hv : run Try.prog (retK [RV.tmp 4, RV.tmp 5] ids v rs) M49 [] ⟨entry 0 args, []⟩) : Fn Try.prog 49 args v rs :=
  Fn_run ids (by kernel_rfl) Try.func49 (by decide) rfl mc49 (by kernel_rfl) (by rw [Try.ntmps49]; exact h) (by rw [Try.ntmps49]; decide) hv

/-- 'join.Expire' -/
def M27 : MC := ((MC.reg
        [{ d := some 3, g := none, op := IOp.box (Opd.t 0) }, { d := some 6, g := none, op := IOp.q (Q.mv Opd.nil) },
          { d := some 7, g := none, op := IOp.q (Q.mv Opd.nil) },
          { d := some 8, g := none, op := IOp.q (Q.mv (Opd.c (Value.int IntKind.i64 0))) }]
        [] [1, 2, 3] [3]).seq
    (((MC.reg
              [{ d := some 10, g := none, op := IOp.q (Q.ld (Opd.t 3) 4 true) },
                { d := some 11, g := none, op := IOp.q (Q.mv (Opd.t 1)) },
                { d := some 12, g := none, op := IOp.call (Opd.f 24) [Opd.t 10, Opd.t 11] },
                { d := some 13, g := none, op := IOp.q (Q.bin BinOp.neq (Opd.t 12) (Opd.c (Value.int IntKind.i64 0))) },
                { d := some 14, g := none, op := IOp.q (Q.mv (Opd.t 13)) },
                { d := some 15, g := some (14, false), op := IOp.q (Q.mv (Opd.t 2)) },
                { d := some 16, g := some (14, false), op := IOp.call (Opd.f 50) [Opd.t 15] },
                { d := some 17, g := some (14, false), op := IOp.q (Q.not (Opd.t 16)) },
                { d := some 18, g := none, op := IOp.q (Q.pick (Opd.t 14) (Opd.c (Value.bool true)) (Opd.t 17)) },
                { d := some 19, g := none, op := IOp.q (Q.mv (Opd.t 18)) },
                { d := some 20, g := some (19, false), op := IOp.q (Q.mv (Opd.t 1)) },
                { d := some 21, g := some (19, false), op := IOp.q (Q.mv (Opd.t 2)) },
                { d := some 22, g := some (19, false), op := IOp.call (Opd.f 46) [Opd.t 20, Opd.t 21] },
                { d := some 23, g := none, op := IOp.q (Q.pick (Opd.t 19) (Opd.c (Value.bool true)) (Opd.t 22)) }]
              [] [1, 2, 3, 23] [3, 1012, 1016, 1022]).seq
          (MC.cond (Opd.t 23)
            ((MC.reg
                  [{ d := some 6, g := none, op := IOp.q (Q.mv Opd.nil) },
                    { d := some 7, g := none, op := IOp.q (Q.mv Opd.nil) },
                    { d := some 8, g := none, op := IOp.q (Q.mv (Opd.c (Value.int IntKind.i64 1))) }]
                  [] [6, 7, 8] [1045, 1049]).seq
              MC.ret)
            MC.skip)).seq
      ((MC.reg [{ d := some 9, g := none, op := IOp.q (Q.mv (Opd.c (Value.int IntKind.i64 0))) }] [] [1, 2, 3, 9]
            [3]).seq
        ((MC.block 0
              (((MC.reg
                          [{ d := some 24, g := none, op := IOp.q (Q.mv (Opd.t 9)) },
                            { d := some 25, g := none, op := IOp.q (Q.mv (Opd.t 1)) },
                            { d := some 26, g := none, op := IOp.q (Q.len (Opd.t 25) false) },
                            { d := some 27, g := none, op := IOp.q (Q.bin BinOp.lss (Opd.t 24) (Opd.t 26)) },
                            { d := some 28, g := none, op := IOp.q (Q.mv (Opd.t 27)) },
                            { d := some 29, g := some (28, true), op := IOp.q (Q.mv (Opd.t 1)) },
                            { d := some 30, g := some (28, true), op := IOp.q (Q.mv (Opd.t 9)) },
                            { d := some 31, g := some (28, true), op := IOp.q (Q.ia (Opd.t 29) (Opd.t 30) 3) },
                            { d := some 32, g := some (28, true), op := IOp.q (Q.fa (Opd.t 31) 2) },
                            { d := some 33, g := some (28, true), op := IOp.q (Q.ld (Opd.t 32) 1 false) },
                            { d := some 34, g := some (28, true), op := IOp.q (Q.fa (Opd.t 3) 3) },
                            { d := some 35, g := some (28, true), op := IOp.q (Q.ld (Opd.t 34) 1 false) },
                            { d := some 36, g := some (28, true), op := IOp.q (Q.bin BinOp.add (Opd.t 33) (Opd.t 35)) },
                            { d := some 37, g := some (28, true), op := IOp.q (Q.mv (Opd.t 2)) },
                            { d := some 38, g := some (28, true), op := IOp.q (Q.bin BinOp.lss (Opd.t 36) (Opd.t 37)) },
                            { d := some 39, g := none,
                              op := IOp.q (Q.pick (Opd.t 28) (Opd.t 38) (Opd.c (Value.bool false))) }]
                          [] [1, 2, 3, 9, 39] [3]).seq
                      (MC.cond (Opd.t 39) MC.skip (MC.exit 0))).seq
                  (MC.block 1
                    (MC.reg
                      [{ d := some 40, g := none, op := IOp.q (Q.mv (Opd.t 9)) },
                        { d := some 41, g := none,
                          op := IOp.q (Q.bin BinOp.add (Opd.t 40) (Opd.c (Value.int IntKind.i64 1))) },
                        { d := some 9, g := none, op := IOp.q (Q.mv (Opd.t 41)) }]
                      [] [1, 2, 3, 9] [3]))).loop).seq
          ((MC.reg
                [{ d := some 42, g := none, op := IOp.q (Q.mv (Opd.t 1)) },
                  { d := some 43, g := none, op := IOp.q (Q.mv (Opd.t 9)) },
                  { d := some 44, g := none, op := IOp.q (Q.slc (Opd.t 42) (some (Opd.t 43)) none 3 false) },
                  { d := some 46, g := none, op := IOp.q (Q.mv (Opd.t 1)) },
                  { d := some 47, g := none, op := IOp.q (Q.mv (Opd.t 9)) },
                  { d := some 48, g := none, op := IOp.q (Q.slc (Opd.t 46) none (some (Opd.t 47)) 3 false) },
                  { d := some 45, g := none, op := IOp.call (Opd.f 51) [Opd.t 44] },
                  { d := some 49, g := none, op := IOp.call (Opd.f 51) [Opd.t 48] },
                  { d := some 6, g := none, op := IOp.q (Q.mv (Opd.t 45)) },
                  { d := some 7, g := none, op := IOp.q (Q.mv (Opd.t 49)) },
                  { d := some 8, g := none, op := IOp.q (Q.mv (Opd.c (Value.int IntKind.i64 0))) }]
                [] [6, 7, 8] [1045, 1049]).seq
            MC.ret)))))
theorem mc27 : ofCode Try.prog [] Try.f27.ntmps [(0, ⟨[1, 2, 3], [3], [], 0, [], none⟩),
    (1, ⟨[1, 2, 3, 23], [3, 1012, 1016, 1022], [], 0, [], none⟩),
    (2, ⟨[6, 7, 8], [1045, 1049], [], 0, [], none⟩),
    (3, ⟨[1, 2, 3, 9], [3], [], 0, [], none⟩),
    (4, ⟨[1, 2, 3, 9, 39], [3], [(0, 65529), (1, 65534), (2, 65532), (3, 65528), (4, 65520), (5, 54176), (6, 54208), (7, 54144), (8, 54016), (9, 53760), (10, 56320), (11, 55296), (12, 53248), (13, 57344), (14, 49152), (15, 32768)], 65535, [], none⟩),
    (5, ⟨[1, 2, 3, 9], [3], [], 0, [], none⟩),
    (6, ⟨[6, 7, 8], [1045, 1049], [(0, 1933), (1, 1934), (2, 1932), (4, 2000), (5, 2016), (6, 1984), (3, 0), (7, 0), (8, 1792), (9, 1536), (10, 1024)], 2047, [], none⟩)] (Try.f27.body.getD .skip) = some M27 := by kernel_rfl
theorem Run27 {args : List PV} {v : AV} {rs : List (Nat × List PV)} (ids : List Bool) (h : args.length ≤ 50) (hv : run Try.prog (retK [RV.tmp 6, RV.tmp 7, RV.tmp 8] ids v rs) M27 [] ⟨entry 0 args, []⟩) : Fn Try.prog 27 args v rs :=
  Fn_run ids (by kernel_rfl) Try.func27 (by decide) rfl mc27 (by kernel_rfl) (by rw [Try.ntmps27]; exact h) (by rw [Try.ntmps27]; decide) hv

/-- 'trystref09.Expire' -/
def M28 : MC := ((MC.reg
        [{ d := some 3, g := none, op := IOp.box (Opd.t 0) }, { d := some 6, g := none, op := IOp.q (Q.mv Opd.nil) },
          { d := some 7, g := none, op := IOp.q (Q.mv Opd.nil) }]
        [] [1, 2, 3] [3]).seq
    ((MC.reg
          [{ d := some 8, g := none, op := IOp.q (Q.mv Opd.nil) },
            { d := some 9, g := none, op := IOp.q (Q.mv Opd.nil) }]
          [(8, 2008, 3), (9, 2009, 3)] [1, 2, 3, 8, 9] [3, 33, 40, 2008, 2009]).seq
      (((MC.reg [{ d := some 10, g := none, op := IOp.q (Q.mv (Opd.c (Value.int IntKind.i64 0))) }] []
                [1, 2, 3, 8, 9, 10] [3, 33, 40, 2008, 2009]).seq
            (MC.block 0
              (((MC.reg
                          [{ d := some 11, g := none, op := IOp.q (Q.mv (Opd.t 10)) },
                            { d := some 12, g := none, op := IOp.q (Q.mv (Opd.t 1)) },
                            { d := some 13, g := none, op := IOp.q (Q.len (Opd.t 12) false) },
                            { d := some 14, g := none, op := IOp.q (Q.bin BinOp.lss (Opd.t 11) (Opd.t 13)) }]
                          [] [1, 2, 3, 8, 9, 10, 14] [3, 33, 40, 2008, 2009]).seq
                      (MC.cond (Opd.t 14) MC.skip (MC.exit 0))).seq
                  ((MC.block 1
                        ((MC.reg
                              [{ d := some 17, g := none, op := IOp.q (Q.mv (Opd.t 1)) },
                                { d := some 18, g := none, op := IOp.q (Q.mv (Opd.t 10)) },
                                { d := some 19, g := none, op := IOp.q (Q.ia (Opd.t 17) (Opd.t 18) 3) },
                                { d := some 20, g := none, op := IOp.q (Q.fa (Opd.t 19) 2) },
                                { d := some 21, g := none, op := IOp.q (Q.ld (Opd.t 20) 1 false) },
                                { d := some 22, g := none, op := IOp.q (Q.fa (Opd.t 3) 3) },
                                { d := some 23, g := none, op := IOp.q (Q.ld (Opd.t 22) 1 false) },
                                { d := some 24, g := none, op := IOp.q (Q.bin BinOp.add (Opd.t 21) (Opd.t 23)) },
                                { d := some 25, g := none, op := IOp.q (Q.mv (Opd.t 2)) },
                                { d := some 26, g := none, op := IOp.q (Q.bin BinOp.lss (Opd.t 24) (Opd.t 25)) }]
                              [] [1, 2, 3, 8, 9, 10, 26] [3, 33, 40, 2008, 2009]).seq
                          (MC.cond (Opd.t 26)
                            (MC.reg
                              [{ d := some 27, g := none, op := IOp.q (Q.mv (Opd.t 9)) },
                                { d := some 28, g := none, op := IOp.q (Q.mv (Opd.t 1)) },
                                { d := some 29, g := none, op := IOp.q (Q.mv (Opd.t 10)) },
                                { d := some 30, g := none, op := IOp.q (Q.ia (Opd.t 28) (Opd.t 29) 3) },
                                { d := some 31, g := none, op := IOp.q (Q.ld (Opd.t 30) 3 true) },
                                { d := some 32, g := none, op := IOp.lits [Opd.t 31] 3 },
                                { d := some 33, g := none, op := IOp.app (Opd.t 27) (Opd.t 32) 3 24 },
                                { d := some 9, g := none, op := IOp.q (Q.mv (Opd.t 33)) }]
                              [] [1, 2, 3, 8, 9, 10] [3, 33, 40, 2008, 2009])
                            (MC.reg
                              [{ d := some 34, g := none, op := IOp.q (Q.mv (Opd.t 8)) },
                                { d := some 35, g := none, op := IOp.q (Q.mv (Opd.t 1)) },
                                { d := some 36, g := none, op := IOp.q (Q.mv (Opd.t 10)) },
                                { d := some 37, g := none, op := IOp.q (Q.ia (Opd.t 35) (Opd.t 36) 3) },
                                { d := some 38, g := none, op := IOp.q (Q.ld (Opd.t 37) 3 true) },
                                { d := some 39, g := none, op := IOp.lits [Opd.t 38] 3 },
                                { d := some 40, g := none, op := IOp.app (Opd.t 34) (Opd.t 39) 3 24 },
                                { d := some 8, g := none, op := IOp.q (Q.mv (Opd.t 40)) }]
                              [] [1, 2, 3, 8, 9, 10] [3, 33, 40, 2008, 2009])))).seq
                    (MC.reg
                      [{ d := some 15, g := none, op := IOp.q (Q.mv (Opd.t 10)) },
                        { d := some 16, g := none,
                          op := IOp.q (Q.bin BinOp.add (Opd.t 15) (Opd.c (Value.int IntKind.i64 1))) },
                        { d := some 10, g := none, op := IOp.q (Q.mv (Opd.t 16)) }]
                      [] [1, 2, 3, 8, 9, 10] [3, 33, 40, 2008, 2009]))).loop)).seq
        ((MC.reg
              [{ d := some 41, g := none, op := IOp.q (Q.mv (Opd.t 8)) },
                { d := some 42, g := none, op := IOp.q (Q.mv (Opd.t 9)) },
                { d := some 6, g := none, op := IOp.q (Q.mv (Opd.t 41)) },
                { d := some 7, g := none, op := IOp.q (Q.mv (Opd.t 42)) }]
              [] [6, 7] [33, 40, 2008, 2009]).seq
          MC.ret))))
theorem mc28 : ofCode Try.prog [] Try.f28.ntmps [(0, ⟨[1, 2, 3], [3], [], 0, [], none⟩),
    (1, ⟨[1, 2, 3, 8, 9], [3, 33, 40, 2008, 2009], [], 0, [(8, 2008, 3), (9, 2009, 3)], none⟩),
    (2, ⟨[1, 2, 3, 8, 9, 10], [3, 33, 40, 2008, 2009], [], 0, [], none⟩),
    (3, ⟨[1, 2, 3, 8, 9, 10, 14], [3, 33, 40, 2008, 2009], [], 0, [], none⟩),
    (4, ⟨[1, 2, 3, 8, 9, 10], [3, 33, 40, 2008, 2009], [], 0, [], none⟩),
    (5, ⟨[1, 2, 3, 8, 9, 10, 26], [3, 33, 40, 2008, 2009], [(0, 669), (1, 670), (2, 668), (3, 664), (4, 656), (5, 736), (6, 704), (7, 640), (8, 768), (9, 512)], 1023, [], none⟩),
    (6, ⟨[1, 2, 3, 8, 9, 10], [3, 33, 40, 2008, 2009], [], 0, [], none⟩),
    (7, ⟨[1, 2, 3, 8, 9, 10], [3, 33, 40, 2008, 2009], [], 0, [], none⟩),
    (8, ⟨[6, 7], [33, 40, 2008, 2009], [], 0, [], none⟩)] (Try.f28.body.getD .skip) = some M28 := by kernel_rfl
theorem Run28 {args : List PV} {v : AV} {rs : List (Nat × List PV)} (ids : List Bool) (h : args.length ≤ 43) (hv : run Try.prog (retK [RV.tmp 6, RV.tmp 7] ids v rs) M28 [] ⟨entry 0 args, []⟩) : Fn Try.prog 28 args v rs :=
  Fn_run ids (by kernel_rfl) Try.func28 (by decide) rfl mc28 (by kernel_rfl) (by rw [Try.ntmps28]; exact h) (by rw [Try.ntmps28]; decide) hv

end Go.Vc
