/- The type table. -/
import Derived.KernelRfl
import Derived.Test.YtjpajfgdbmeiiaaProg
import Derived.Test.YtjpajfgdbmeiiaaKc
namespace Go.AX
open Go.Proofs
def ttl : List (Nat × TI) := [
(2, ⟨1, 8, false, false, [.int .i64], .int .i64⟩),
(3, ⟨1, 8, false, false, [.int .i64], .int .i64⟩),
(4, ⟨1, 1, false, false, [.bool], .bool⟩),
(5, ⟨1, 1, false, false, [.int .u8], .int .u8⟩),
(6, ⟨1, 1, false, false, [.int .u8], .int .u8⟩),
(7, ⟨4, 24, true, true, [.int .i64, .int .i64, .bool, .int .u8], .struct [(0, 2), (1, 3), (2, 4), (3, 6)]⟩),
(8, ⟨4, 24, true, true, [.int .i64, .int .i64, .bool, .int .u8], .struct [(0, 2), (1, 3), (2, 4), (3, 6)]⟩),
(12, ⟨1, 8, false, false, [.int .u64], .int .u64⟩),
(15, ⟨1, 8, false, false, [.lit (.pointer none)], .pointer 95⟩),
(16, ⟨1, 8, false, false, [.lit (.pointer none)], .pointer 98⟩),
(17, ⟨1, 8, false, false, [.lit (.pointer none)], .pointer 107⟩),
(18, ⟨1, 8, true, false, [.lit (.pointer none)], .struct [(0, 17)]⟩),
(19, ⟨1, 8, true, false, [.lit (.pointer none)], .struct [(0, 17)]⟩),
(21, ⟨1, 4, false, false, [.int .i32], .int .i32⟩),
(22, ⟨5, 40, true, true, [.int .i64, .int .i64, .int .i64, .int .i64, .int .i64], .struct [(0, 3), (1, 3), (2, 3), (3, 3), (4, 3)]⟩),
(23, ⟨5, 40, true, true, [.int .i64, .int .i64, .int .i64, .int .i64, .int .i64], .struct [(0, 3), (1, 3), (2, 3), (3, 3), (4, 3)]⟩),
(24, ⟨1, 24, false, false, [.slc 1], .slice 3⟩),
(25, ⟨3, 24, true, true, [.int .i64, .int .i64, .int .i64], .array 3 3⟩),
(26, ⟨4, 48, true, false, [.slc 1, .int .i64, .int .i64, .int .i64], .struct [(0, 24), (1, 25)]⟩),
(27, ⟨4, 48, true, false, [.slc 1, .int .i64, .int .i64, .int .i64], .struct [(0, 24), (1, 25)]⟩),
(33, ⟨2, 16, true, true, [.int .i64, .int .i64], .struct [(0, 3), (1, 3)]⟩),
(34, ⟨2, 16, true, true, [.int .i64, .int .i64], .struct [(0, 3), (1, 3)]⟩),
(42, ⟨1, 24, false, false, [.slc 2], .slice 75⟩),
(47, ⟨1, 24, false, false, [.slc 2], .slice 51⟩),
(49, ⟨64, 512, true, false, [.big 64 .i64], .array 64 3⟩),
(50, ⟨2, 2, true, true, [.int .u8, .int .u8], .struct [(0, 5), (1, 5)]⟩),
(51, ⟨2, 2, true, true, [.int .u8, .int .u8], .struct [(0, 5), (1, 5)]⟩),
(55, ⟨1, 24, false, false, [.slc 2], .slice 34⟩),
(71, ⟨1, 8, false, false, [.lit (.pointer none)], .pointer 3⟩),
(74, ⟨2, 16, true, true, [.int .i64, .int .i64], .struct [(0, 3), (1, 3)]⟩),
(75, ⟨2, 16, true, true, [.int .i64, .int .i64], .struct [(0, 3), (1, 3)]⟩),
(83, ⟨1, 24, false, false, [.slc 1], .slice 24⟩),
(84, ⟨1, 8, false, false, [.int .u64], .int .u64⟩),
(87, ⟨1, 4, false, false, [.int .u32], .int .u32⟩),
(90, ⟨1, 8, false, false, [.int .u64], .int .u64⟩),
(96, ⟨0, 0, true, false, [], .array 0 16⟩),
(97, ⟨0, 0, true, false, [], .struct [(0, 96)]⟩),
(98, ⟨0, 0, true, false, [], .struct [(0, 96)]⟩),
(100, ⟨1, 1, false, false, [.int .u8], .int .u8⟩),
(101, ⟨1, 1, false, false, [.int .u8], .int .u8⟩),
(103, ⟨1, 8, false, false, [.lit (.pointer none)], .pointer 5⟩),
(104, ⟨1, 4, false, false, [.int .i32], .int .i32⟩),
(105, ⟨1, 4, false, false, [.int .i32], .int .i32⟩),
(106, ⟨11, 48, true, false, [.int .u64, .int .u64, .int .u32, .int .u8, .int .u8, .int .u8, .int .u8, .lit .nilFunc, .lit (.pointer none), .int .i32, .int .i32], .struct [(0, 12), (1, 12), (2, 87), (3, 100), (4, 5), (5, 5), (6, 101), (7, 102), (8, 103), (9, 104), (10, 105)]⟩),
(107, ⟨11, 48, true, false, [.int .u64, .int .u64, .int .u32, .int .u8, .int .u8, .int .u8, .int .u8, .lit .nilFunc, .lit (.pointer none), .int .i32, .int .i32], .struct [(0, 12), (1, 12), (2, 87), (3, 100), (4, 5), (5, 5), (6, 101), (7, 102), (8, 103), (9, 104), (10, 105)]⟩)]
set_option maxRecDepth 100000
def tt (n : Nat) : Option TI := look ttl n
theorem tt_ok : TabOK Try.prog tt := tabOK (by kernel_rfl)
def body (f : Func) : Code := match f.body with | some c => c | none => .skip

theorem mix_ok : Try.prog.follows .mixedOrders = true := by kernel_rfl

/-- A function's entry: program and arithmetic are variables, so that evaluation leaves them alone. -/
theorem spec_b (cuts : List Nat) {g : FuncId} {fn : Func} {c : Code} {args : List V} {r : Res} (hf : Try.prog.funcs[g]? = some fn) (hb : fn.body = some c) (hn : (fn.name == "runtime.NumGoroutine") = false)
    (hl : Nat.ble args.length fn.ntmps = true) (h : ∀ (J : PF) (P : Program), J = stdJ → P = Try.prog → bwp P (mkI J) tt cuts c (Fin (mkI J) tt fn.results.toList r) ⟨number args 0, [], 0, fn.ntmps⟩) : Spec Try.prog g args r :=
  spec_of_bwp cuts tt_ok mix_ok hf hb hn (Nat.le_of_ble_eq_true hl) (h stdJ _ rfl rfl)

theorem call_by {J : PF} {P : Program} {g : FuncId} {vs args : List V} {st : St} {K : CRes → Prop} {r r' : Res} (hP : P = Try.prog) (h : Spec Try.prog g args r) (hJ : J = stdJ) (ho : outs (mkI J) [] [] vs = some args) (hs : shift (mkI J) st.n r = some r') (k : K ⟨r', []⟩) : CallP P (mkI J) g vs st K := by
  subst hP; exact .pure' h (mkI_std hJ) ho hs k

theorem snap_by {J : PF} {P : Program} {g : FuncId} {vs args : List V} {st : St} {K : CRes → Prop} {r r' : Res} (hP : P = Try.prog) (h : Spec Try.prog g args r) (hJ : J = stdJ) (ho : outs (mkI J) [] st.aw vs = some args) (hs : shift (mkI J) st.n r = some r') (hn : r.val.noL ∧ noLw r.wr) (k : K ⟨r', idsL vs⟩) : CallP P (mkI J) g vs st K := by
  subst hP; exact .snap h (mkI_std hJ) ho hs hn k

theorem snapF_by {J : PF} {P : Program} {g : FuncId} {vs args : List V} {st : St} {K : CRes → Prop} {r : Res} {X v' : V} (hP : P = Try.prog) (h : Spec Try.prog g args r) (hJ : J = stdJ) (ho : outs (mkI J) [] st.aw vs = some args) (hX : V.out (mkI J) (shiftF 0 r.dn) [] r.val = some X) (hv : V.out (mkI J) [] r.wr X = some v') (hn : r.val.noL ∧ noLw r.wr) (k : K ⟨⟨v', [], 0, True⟩, idsL vs⟩) : CallP P (mkI J) g vs st K := by
  subst hP; exact .snapF h (mkI_std hJ) ho hX hv hn k

end Go.AX
