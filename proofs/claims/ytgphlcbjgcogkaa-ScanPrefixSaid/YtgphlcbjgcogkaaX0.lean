/- The type table. -/
import Derived.KernelRfl
import Derived.Test.YtgphlcbjgcogkaaProg
import Derived.Test.YtgphlcbjgcogkaaKc
import Derived.Test.YtgphlcbjgcogkaaBT
import Derived.Test.YtgphlcbjgcogkaaZ2
import Derived.Test.YtgphlcbjgcogkaaBP
import Derived.Test.YtgphlcbjgcogkaaBB
namespace Go.AX
open Go.Proofs
def ttl : List (Nat × TI) := [
(2, ⟨1, 8, false, true, [.int .i64], .int .i64⟩),
(3, ⟨1, 8, false, true, [.int .i64], .int .i64⟩),
(4, ⟨1, 1, false, true, [.bool], .bool⟩),
(5, ⟨1, 1, false, true, [.int .u8], .int .u8⟩),
(6, ⟨1, 1, false, true, [.int .u8], .int .u8⟩),
(7, ⟨4, 24, true, true, [.int .i64, .int .i64, .bool, .int .u8], .struct [(0, 2), (1, 3), (2, 4), (3, 6)]⟩),
(8, ⟨4, 24, true, true, [.int .i64, .int .i64, .bool, .int .u8], .struct [(0, 2), (1, 3), (2, 4), (3, 6)]⟩),
(12, ⟨1, 8, false, true, [.int .u64], .int .u64⟩),
(15, ⟨1, 8, false, false, [.lit (.pointer none)], .pointer 150⟩),
(16, ⟨1, 8, false, false, [.lit (.pointer none)], .pointer 153⟩),
(17, ⟨1, 8, false, false, [.lit (.pointer none)], .pointer 161⟩),
(18, ⟨1, 8, true, false, [.lit (.pointer none)], .struct [(0, 17)]⟩),
(19, ⟨1, 8, true, false, [.lit (.pointer none)], .struct [(0, 17)]⟩),
(21, ⟨1, 4, false, true, [.int .i32], .int .i32⟩),
(22, ⟨1, 24, false, false, [.slc 38], .slice 33⟩),
(28, ⟨32, 32, true, true, [.big 32 .u8], .array 32 5⟩),
(29, ⟨32, 32, true, true, [.big 32 .u8], .array 32 5⟩),
(30, ⟨37, 72, true, true, [.int .i64, .int .i64, .int .i64, .int .i64, .int .i64, .big 32 .u8], .struct [(0, 3), (1, 3), (2, 3), (3, 3), (4, 3), (5, 29)]⟩),
(31, ⟨37, 72, true, true, [.int .i64, .int .i64, .int .i64, .int .i64, .int .i64, .big 32 .u8], .struct [(0, 3), (1, 3), (2, 3), (3, 3), (4, 3), (5, 29)]⟩),
(32, ⟨38, 80, true, true, [.int .i64, .int .i64, .int .i64, .int .i64, .int .i64, .int .i64, .big 32 .u8], .struct [(0, 3), (1, 31)]⟩),
(33, ⟨38, 80, true, true, [.int .i64, .int .i64, .int .i64, .int .i64, .int .i64, .int .i64, .big 32 .u8], .struct [(0, 3), (1, 31)]⟩),
(34, ⟨5, 40, true, true, [.int .i64, .int .i64, .int .i64, .int .i64, .int .i64], .struct [(0, 3), (1, 3), (2, 3), (3, 3), (4, 3)]⟩),
(35, ⟨5, 40, true, true, [.int .i64, .int .i64, .int .i64, .int .i64, .int .i64], .struct [(0, 3), (1, 3), (2, 3), (3, 3), (4, 3)]⟩),
(36, ⟨1, 24, false, false, [.slc 39], .slice 55⟩),
(38, ⟨1, 8, false, false, [.lit (.pointer none)], .pointer 85⟩),
(40, ⟨1, 8, false, true, [.int .i64], .int .i64⟩),
(47, ⟨1, 24, false, false, [.slc 1], .slice 5⟩),
(48, ⟨1, 2, false, true, [.int .u16], .int .u16⟩),
(49, ⟨1, 24, false, false, [.slc 1], .slice 3⟩),
(50, ⟨1, 8, false, true, [.int .u64], .int .u64⟩),
(51, ⟨3, 40, true, false, [.slc 1, .int .u64, .int .i64], .struct [(0, 49), (1, 50), (2, 3)]⟩),
(52, ⟨3, 40, true, false, [.slc 1, .int .u64, .int .i64], .struct [(0, 49), (1, 50), (2, 3)]⟩),
(54, ⟨39, 88, true, true, [.int .u8, .int .i64, .int .i64, .int .i64, .int .i64, .int .i64, .big 32 .u8, .bool], .struct [(0, 5), (1, 31), (38, 4)]⟩),
(55, ⟨39, 88, true, true, [.int .u8, .int .i64, .int .i64, .int .i64, .int .i64, .int .i64, .big 32 .u8, .bool], .struct [(0, 5), (1, 31), (38, 4)]⟩),
(59, ⟨1, 24, false, false, [.slc 2], .slice 66⟩),
(61, ⟨64, 64, true, true, [.big 64 .u8], .array 64 5⟩),
(62, ⟨64, 64, true, true, [.big 64 .u8], .array 64 5⟩),
(65, ⟨2, 16, true, true, [.int .i64, .int .i64], .struct [(0, 3), (1, 3)]⟩),
(66, ⟨2, 16, true, true, [.int .i64, .int .i64], .struct [(0, 3), (1, 3)]⟩),
(67, ⟨2, 16, true, true, [.int .i64, .int .i64], .struct [(0, 3), (1, 3)]⟩),
(68, ⟨2, 16, true, true, [.int .i64, .int .i64], .struct [(0, 3), (1, 3)]⟩),
(81, ⟨1, 8, false, false, [.lit (.map none)], .map 3 4⟩),
(82, ⟨1, 8, false, false, [.lit (.map none)], .map 68 62⟩),
(83, ⟨1, 24, false, false, [.slc 66], .slice 88⟩),
(84, ⟨13, 136, true, false, [.int .i64, .int .i64, .int .i64, .int .i64, .int .i64, .slc 2, .lit (.map none), .lit (.map none), .lit (.map none), .slc 66, .int .i64, .bool, .int .i64], .struct [(0, 35), (5, 59), (6, 81), (7, 82), (8, 82), (9, 83), (10, 3), (11, 4), (12, 3)]⟩),
(85, ⟨13, 136, true, false, [.int .i64, .int .i64, .int .i64, .int .i64, .int .i64, .slc 2, .lit (.map none), .lit (.map none), .lit (.map none), .slc 66, .int .i64, .bool, .int .i64], .struct [(0, 35), (5, 59), (6, 81), (7, 82), (8, 82), (9, 83), (10, 3), (11, 4), (12, 3)]⟩),
(86, ⟨1, 8, false, false, [.lit (.map none)], .map 3 3⟩),
(87, ⟨66, 80, true, true, [.int .i64, .int .i64, .big 64 .u8], .struct [(0, 68), (2, 62)]⟩),
(88, ⟨66, 80, true, true, [.int .i64, .int .i64, .big 64 .u8], .struct [(0, 68), (2, 62)]⟩),
(89, ⟨1, 8, false, true, [.int .u64], .int .u64⟩),
(104, ⟨1, 8, false, false, [.lit (.pointer none)], .pointer 62⟩),
(112, ⟨1, 8, false, false, [.lit (.pointer none)], .pointer 66⟩),
(114, ⟨1, 4, false, true, [.int .u32], .int .u32⟩),
(122, ⟨1, 8, false, true, [.int .i64], .int .i64⟩),
(133, ⟨32, 32, true, false, [.bigB 32], .array 32 4⟩),
(134, ⟨1, 24, false, false, [.slc 1], .slice 4⟩),
(139, ⟨1, 8, false, true, [.int .u64], .int .u64⟩),
(143, ⟨1, 8, false, false, [.lit (.pointer none)], .pointer 3⟩),
(145, ⟨1, 8, false, false, [.lit (.pointer none)], .pointer 139⟩),
(151, ⟨0, 0, true, false, [], .array 0 16⟩),
(152, ⟨0, 0, true, false, [], .struct [(0, 151)]⟩),
(153, ⟨0, 0, true, false, [], .struct [(0, 151)]⟩),
(154, ⟨1, 1, false, true, [.int .u8], .int .u8⟩),
(155, ⟨1, 1, false, true, [.int .u8], .int .u8⟩),
(157, ⟨1, 8, false, false, [.lit (.pointer none)], .pointer 5⟩),
(158, ⟨1, 4, false, true, [.int .i32], .int .i32⟩),
(159, ⟨1, 4, false, true, [.int .i32], .int .i32⟩),
(160, ⟨11, 48, true, false, [.int .u64, .int .u64, .int .u32, .int .u8, .int .u8, .int .u8, .int .u8, .lit .nilFunc, .lit (.pointer none), .int .i32, .int .i32], .struct [(0, 12), (1, 12), (2, 114), (3, 154), (4, 5), (5, 5), (6, 155), (7, 156), (8, 157), (9, 158), (10, 159)]⟩),
(161, ⟨11, 48, true, false, [.int .u64, .int .u64, .int .u32, .int .u8, .int .u8, .int .u8, .int .u8, .lit .nilFunc, .lit (.pointer none), .int .i32, .int .i32], .struct [(0, 12), (1, 12), (2, 114), (3, 154), (4, 5), (5, 5), (6, 155), (7, 156), (8, 157), (9, 158), (10, 159)]⟩)]
set_option maxRecDepth 100000
def tt (n : Nat) : Option TI := look ttl n
theorem tt_ok : TabOK Try.prog tt := tabOK (by kernel_rfl)
def body (f : Func) : Code := match f.body with | some c => c | none => .skip

theorem mix_ok : Try.prog.follows .mixedOrders = true := by kernel_rfl

/-- A function's entry: program and arithmetic are variables, so that evaluation leaves them alone. -/
theorem spec_b (cuts : List Nat) {g : FuncId} {fn : Func} {c : Code} {args : List V} {r : Res} (hf : Try.prog.funcs[g]? = some fn) (hb : fn.body = some c) (hn : (fn.name == "runtime.NumGoroutine") = false)
    (hl : Nat.ble args.length fn.ntmps = true) (h : ∀ (J : PF) (P : Program), J = stdJ → P = Try.prog → bwp P (mkI J) tt cuts 0 c (FinE (mkI J) 0 0 tt fn.results.toList r) ⟨number args 0, [], 0, fn.ntmps⟩) : Spec Try.prog g args r :=
  spec_of_bwp cuts tt_ok mix_ok hf hb hn (Nat.le_of_ble_eq_true hl) (h stdJ _ rfl rfl)

theorem specM_b (cuts : List Nat) (z zz : Nat) {aw : List (Nat × Blk)} {g : FuncId} {fn : Func} {c : Code} {args : List V} {r : Res} (hf : Try.prog.funcs[g]? = some fn) (hb : fn.body = some c) (hn : (fn.name == "runtime.NumGoroutine") = false)
    (hl : Nat.ble args.length fn.ntmps = true) (hz : Nat.ble z zz = true) (hlive : liveN aw zz = true) (haw : allLt (keys aw) zz = true)
    (h : ∀ (J : PF) (P : Program), J = stdJ → P = Try.prog → bwp P (mkI J) tt cuts z c (FinE (mkI J) z zz tt fn.results.toList r) ⟨number args 0, aw, zz, fn.ntmps⟩) : SpecM Try.prog g zz aw args r :=
  specM_of_bwp cuts tt_ok mix_ok (Nat.le_of_ble_eq_true hz) hf hb hn (Nat.le_of_ble_eq_true hl) hlive (allLt_look haw) (h stdJ _ rfl rfl)

theorem callM_by {J : PF} {P : Program} {g : FuncId} {vs args : List V} {st : St} {K : CRes → Prop} {zz : Nat} {awc : List (Nat × Blk)} {r r' : Res} (hP : P = Try.prog) (h : SpecM Try.prog g zz awc args r) (f : List (Nat × Nat)) (sn : Bool) (hJ : J = stdJ)
    (hf : (distinctN (news f) && distinctN (keys f) && allLt (news f) zz) = true) (hl : allLive awc = true) (ha : outs (mkI J) f (bif sn then st.aw else []) vs = some args) (hb : outAwC (mkI J) f st.aw f = some awc)
    (hs : shiftM (mkI J) f st.n zz r = some r') (hn : sn = false ∨ (r.val.noL ∧ noLB r.wr)) (k : K ⟨r', keys f ++ bif sn then idsL vs else []⟩) : CallP P (mkI J) g vs st K := by
  subst hP; exact callP_M h f sn (mkI_std hJ) hf hl ha hb hs hn k

theorem call_by {J : PF} {P : Program} {g : FuncId} {vs args : List V} {st : St} {K : CRes → Prop} {r r' : Res} (hP : P = Try.prog) (h : Spec Try.prog g args r) (hJ : J = stdJ) (ho : outs (mkI J) [] [] vs = some args) (hs : shift (mkI J) st.n r = some r') (k : K ⟨r', []⟩) : CallP P (mkI J) g vs st K := by
  subst hP; exact .pure' h (mkI_std hJ) ho hs k

theorem snap_by {J : PF} {P : Program} {g : FuncId} {vs args : List V} {st : St} {K : CRes → Prop} {r r' : Res} (hP : P = Try.prog) (h : Spec Try.prog g args r) (hJ : J = stdJ) (ho : outs (mkI J) [] st.aw vs = some args) (hs : shift (mkI J) st.n r = some r') (hn : r.val.noL ∧ noLw r.wr) (k : K ⟨r', idsL vs⟩) : CallP P (mkI J) g vs st K := by
  subst hP; exact .snap h (mkI_std hJ) ho hs hn k

theorem snapF_by {J : PF} {P : Program} {g : FuncId} {vs args : List V} {st : St} {K : CRes → Prop} {r : Res} {X v' : V} (hP : P = Try.prog) (h : Spec Try.prog g args r) (hJ : J = stdJ) (ho : outs (mkI J) [] st.aw vs = some args) (hX : V.out (mkI J) (shiftF 0 r.dn) [] r.val = some X) (hv : V.out (mkI J) [] r.wr X = some v') (hn : r.val.noL ∧ noLw r.wr) (k : K ⟨⟨v', [], 0, True⟩, idsL vs⟩) : CallP P (mkI J) g vs st K := by
  subst hP; exact .snapF h (mkI_std hJ) ho hX hv hn k

end Go.AX
