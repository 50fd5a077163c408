/- The type table. -/
import Derived.KernelRfl
import Derived.Test.YthecmjmlkoomiaaProg
import Derived.Test.YthecmjmlkoomiaaKc
import Derived.Test.YthecmjmlkoomiaaBT
namespace Go.AX
open Go.Proofs
def ttl : List (Nat × TI) := [
(2, ⟨1, 8, false, true, [.int .i64], .int .i64⟩),
(3, ⟨1, 8, false, true, [.int .i64], .int .i64⟩),
(4, ⟨1, 1, false, true, [.bool], .bool⟩),
(5, ⟨1, 1, false, true, [.int .u8], .int .u8⟩),
(6, ⟨1, 1, false, true, [.int .u8], .int .u8⟩),
(7, ⟨4, 24, true, true, [.int .i64, .int .i64, .bool, .int .u8], .struct [(0, 2), (1, 3), (2, 4), (3, 6)]⟩),
(8, ⟨4, 24, true, true, [.int .i64, .int .i64, .bool, .int .u8], .struct [(0, 2), (1, 3), (2, 4), (3, 6)]⟩),
(12, ⟨1, 8, false, true, [.int .u64], .int .u64⟩),
(15, ⟨1, 8, false, false, [.lit (.pointer none)], .pointer 174⟩),
(16, ⟨1, 8, false, false, [.lit (.pointer none)], .pointer 177⟩),
(17, ⟨1, 8, false, false, [.lit (.pointer none)], .pointer 185⟩),
(18, ⟨1, 8, true, false, [.lit (.pointer none)], .struct [(0, 17)]⟩),
(19, ⟨1, 8, true, false, [.lit (.pointer none)], .struct [(0, 17)]⟩),
(21, ⟨1, 4, false, true, [.int .i32], .int .i32⟩),
(22, ⟨5, 40, true, true, [.int .i64, .int .i64, .int .i64, .int .i64, .int .i64], .struct [(0, 3), (1, 3), (2, 3), (3, 3), (4, 3)]⟩),
(23, ⟨5, 40, true, true, [.int .i64, .int .i64, .int .i64, .int .i64, .int .i64], .struct [(0, 3), (1, 3), (2, 3), (3, 3), (4, 3)]⟩),
(24, ⟨1, 24, false, false, [.slc 71], .slice 44⟩),
(25, ⟨1, 24, false, false, [.slc 1], .slice 3⟩),
(26, ⟨1, 8, false, true, [.int .u64], .int .u64⟩),
(27, ⟨3, 40, true, false, [.slc 1, .int .u64, .int .i64], .struct [(0, 25), (1, 26), (2, 3)]⟩),
(28, ⟨3, 40, true, false, [.slc 1, .int .u64, .int .i64], .struct [(0, 25), (1, 26), (2, 3)]⟩),
(31, ⟨1, 8, false, false, [.lit (.pointer none)], .pointer 97⟩),
(33, ⟨1, 24, false, false, [.slc 2], .slice 53⟩),
(34, ⟨1, 24, false, false, [.slc 66], .slice 104⟩),
(35, ⟨13, 168, true, false, [.int .i64, .int .i64, .int .i64, .int .i64, .int .i64, .slc 2, .slc 1, .slc 66, .slc 66, .bool, .int .i64, .bool, .int .i64], .struct [(0, 23), (5, 33), (6, 25), (7, 34), (8, 34), (9, 4), (10, 3), (11, 4), (12, 3)]⟩),
(36, ⟨13, 168, true, false, [.int .i64, .int .i64, .int .i64, .int .i64, .int .i64, .slc 2, .slc 1, .slc 66, .slc 66, .bool, .int .i64, .bool, .int .i64], .struct [(0, 23), (5, 33), (6, 25), (7, 34), (8, 34), (9, 4), (10, 3), (11, 4), (12, 3)]⟩),
(39, ⟨2, 16, true, true, [.int .i64, .int .i64], .struct [(0, 3), (1, 3)]⟩),
(40, ⟨2, 16, true, true, [.int .i64, .int .i64], .struct [(0, 3), (1, 3)]⟩),
(41, ⟨64, 64, true, true, [.big 64 .u8], .array 64 5⟩),
(42, ⟨64, 64, true, true, [.big 64 .u8], .array 64 5⟩),
(43, ⟨71, 136, true, false, [.int .u8, .int .i64, .int .i64, .big 64 .u8, .int .i64, .slc 1, .int .u64, .int .i64], .struct [(0, 5), (1, 40), (3, 42), (67, 3), (68, 28)]⟩),
(44, ⟨71, 136, true, false, [.int .u8, .int .i64, .int .i64, .big 64 .u8, .int .i64, .slc 1, .int .u64, .int .i64], .struct [(0, 5), (1, 40), (3, 42), (67, 3), (68, 28)]⟩),
(48, ⟨1, 8, false, true, [.int .i64], .int .i64⟩),
(52, ⟨2, 16, true, true, [.int .i64, .int .i64], .struct [(0, 3), (1, 3)]⟩),
(53, ⟨2, 16, true, true, [.int .i64, .int .i64], .struct [(0, 3), (1, 3)]⟩),
(60, ⟨1, 24, false, false, [.slc 64], .slice 42⟩),
(64, ⟨1, 24, false, false, [.slc 3], .slice 71⟩),
(65, ⟨1, 8, false, false, [.lit (.pointer none)], .pointer 128⟩),
(67, ⟨1, 24, false, false, [.slc 2], .slice 69⟩),
(68, ⟨2, 16, true, true, [.int .i64, .int .i64], .struct [(0, 3), (1, 3)]⟩),
(69, ⟨2, 16, true, true, [.int .i64, .int .i64], .struct [(0, 3), (1, 3)]⟩),
(70, ⟨3, 24, true, true, [.bool, .int .i64, .int .i64], .struct [(0, 4), (1, 69)]⟩),
(71, ⟨3, 24, true, true, [.bool, .int .i64, .int .i64], .struct [(0, 4), (1, 69)]⟩),
(79, ⟨1, 24, false, false, [.slc 2], .slice 40⟩),
(93, ⟨1, 8, false, false, [.lit (.map none)], .map 3 4⟩),
(94, ⟨1, 8, false, false, [.lit (.map none)], .map 40 42⟩),
(95, ⟨1, 24, false, false, [.slc 66], .slice 109⟩),
(96, ⟨13, 136, true, false, [.int .i64, .int .i64, .int .i64, .int .i64, .int .i64, .slc 2, .lit (.map none), .lit (.map none), .lit (.map none), .slc 66, .int .i64, .bool, .int .i64], .struct [(0, 23), (5, 33), (6, 93), (7, 94), (8, 94), (9, 95), (10, 3), (11, 4), (12, 3)]⟩),
(97, ⟨13, 136, true, false, [.int .i64, .int .i64, .int .i64, .int .i64, .int .i64, .slc 2, .lit (.map none), .lit (.map none), .lit (.map none), .slc 66, .int .i64, .bool, .int .i64], .struct [(0, 23), (5, 33), (6, 93), (7, 94), (8, 94), (9, 95), (10, 3), (11, 4), (12, 3)]⟩),
(103, ⟨66, 80, true, true, [.int .i64, .int .i64, .big 64 .u8], .struct [(0, 40), (2, 42)]⟩),
(104, ⟨66, 80, true, true, [.int .i64, .int .i64, .big 64 .u8], .struct [(0, 40), (2, 42)]⟩),
(108, ⟨66, 80, true, true, [.int .i64, .int .i64, .big 64 .u8], .struct [(0, 40), (2, 42)]⟩),
(109, ⟨66, 80, true, true, [.int .i64, .int .i64, .big 64 .u8], .struct [(0, 40), (2, 42)]⟩),
(112, ⟨1, 8, false, false, [.lit (.map none)], .map 3 3⟩),
(113, ⟨1, 8, false, true, [.int .u64], .int .u64⟩),
(126, ⟨1, 8, false, false, [.lit (.map none)], .map 40 3⟩),
(127, ⟨7, 56, true, false, [.int .i64, .int .i64, .int .i64, .int .i64, .int .i64, .lit (.map none), .lit (.map none)], .struct [(0, 23), (5, 126), (6, 112)]⟩),
(128, ⟨7, 56, true, false, [.int .i64, .int .i64, .int .i64, .int .i64, .int .i64, .lit (.map none), .lit (.map none)], .struct [(0, 23), (5, 126), (6, 112)]⟩),
(136, ⟨64, 512, true, true, [.big 64 .i64], .array 64 3⟩),
(141, ⟨1, 24, false, false, [.slc 1], .slice 5⟩),
(142, ⟨1, 8, false, false, [.lit (.pointer none)], .pointer 53⟩),
(154, ⟨1, 8, false, true, [.int .i64], .int .i64⟩),
(161, ⟨1, 4, false, true, [.int .u32], .int .u32⟩),
(163, ⟨1, 8, false, true, [.int .u64], .int .u64⟩),
(167, ⟨1, 8, false, false, [.lit (.pointer none)], .pointer 3⟩),
(169, ⟨1, 8, false, false, [.lit (.pointer none)], .pointer 163⟩),
(175, ⟨0, 0, true, false, [], .array 0 16⟩),
(176, ⟨0, 0, true, false, [], .struct [(0, 175)]⟩),
(177, ⟨0, 0, true, false, [], .struct [(0, 175)]⟩),
(178, ⟨1, 1, false, true, [.int .u8], .int .u8⟩),
(179, ⟨1, 1, false, true, [.int .u8], .int .u8⟩),
(181, ⟨1, 8, false, false, [.lit (.pointer none)], .pointer 5⟩),
(182, ⟨1, 4, false, true, [.int .i32], .int .i32⟩),
(183, ⟨1, 4, false, true, [.int .i32], .int .i32⟩),
(184, ⟨11, 48, true, false, [.int .u64, .int .u64, .int .u32, .int .u8, .int .u8, .int .u8, .int .u8, .lit .nilFunc, .lit (.pointer none), .int .i32, .int .i32], .struct [(0, 12), (1, 12), (2, 161), (3, 178), (4, 5), (5, 5), (6, 179), (7, 180), (8, 181), (9, 182), (10, 183)]⟩),
(185, ⟨11, 48, true, false, [.int .u64, .int .u64, .int .u32, .int .u8, .int .u8, .int .u8, .int .u8, .lit .nilFunc, .lit (.pointer none), .int .i32, .int .i32], .struct [(0, 12), (1, 12), (2, 161), (3, 178), (4, 5), (5, 5), (6, 179), (7, 180), (8, 181), (9, 182), (10, 183)]⟩)]
set_option maxRecDepth 100000
def tt (n : Nat) : Option TI := look ttl n
theorem tt_ok : TabOK Try.prog tt := tabOK (by kernel_rfl)
def body (f : Func) : Code := match f.body with | some c => c | none => .skip

theorem mix_ok : Try.prog.follows .mixedOrders = true := by kernel_rfl

/-- A function's entry: program and arithmetic are variables, so that evaluation leaves them alone. -/
theorem spec_b (cuts : List Nat) {g : FuncId} {fn : Func} {c : Code} {args : List V} {r : Res} (hf : Try.prog.funcs[g]? = some fn) (hb : fn.body = some c) (hn : (fn.name == "runtime.NumGoroutine") = false)
    (hl : Nat.ble args.length fn.ntmps = true) (h : ∀ (J : PF) (P : Program), J = stdJ → P = Try.prog → bwp P (mkI J) tt cuts 0 c (FinE (mkI J) 0 0 tt fn.results.toList r) ⟨number args 0, [], 0, fn.ntmps⟩) : Spec Try.prog g args r :=
  spec_of_bwp cuts tt_ok mix_ok hf hb hn (Nat.le_of_ble_eq_true hl) (h stdJ _ rfl rfl)

theorem specM_b (cuts : List Nat) (z zz : Nat) {aw : List (Nat × Blk)} {g : FuncId} {fn : Func} {c : Code} {args : List V} {r : Res} (hf : Try.prog.funcs[g]? = some fn) (hb : fn.body = some c) (hn : (fn.name == "runtime.NumGoroutine") = false)
    (hl : Nat.ble args.length fn.ntmps = true) (hz : Nat.ble z zz = true) (hlive : liveN aw zz = true) (haw : allLt (keys aw) zz = true)
    (h : ∀ (J : PF) (P : Program), J = stdJ → P = Try.prog → bwp P (mkI J) tt cuts z c (FinE (mkI J) z zz tt fn.results.toList r) ⟨number args 0, aw, zz, fn.ntmps⟩) : SpecM Try.prog g zz aw args r :=
  specM_of_bwp cuts tt_ok mix_ok (Nat.le_of_ble_eq_true hz) hf hb hn (Nat.le_of_ble_eq_true hl) hlive (allLt_look haw) (h stdJ _ rfl rfl)

theorem callM_by {J : PF} {P : Program} {g : FuncId} {vs args : List V} {st : St} {K : CRes → Prop} {zz : Nat} {awc : List (Nat × Blk)} {r r' : Res} (hP : P = Try.prog) (h : SpecM Try.prog g zz awc args r) (f : List (Nat × Nat)) (sn : Bool) (hJ : J = stdJ)
    (hf : (distinctN (news f) && distinctN (keys f) && allLt (news f) zz) = true) (hl : allLive awc = true) (ha : outs (mkI J) f (bif sn then st.aw else []) vs = some args) (hb : outAwC (mkI J) f st.aw f = some awc)
    (hs : shiftM (mkI J) f st.n zz r = some r') (hn : sn = false ∨ (r.val.noL ∧ noLB r.wr)) (k : K ⟨r', keys f ++ bif sn then idsL vs else []⟩) : CallP P (mkI J) g vs st K := by
  subst hP; exact callP_M h f sn (mkI_std hJ) hf hl ha hb hs hn k

theorem call_by {J : PF} {P : Program} {g : FuncId} {vs args : List V} {st : St} {K : CRes → Prop} {r r' : Res} (hP : P = Try.prog) (h : Spec Try.prog g args r) (hJ : J = stdJ) (ho : outs (mkI J) [] [] vs = some args) (hs : shift (mkI J) st.n r = some r') (k : K ⟨r', []⟩) : CallP P (mkI J) g vs st K := by
  subst hP; exact .pure' h (mkI_std hJ) ho hs k

theorem snap_by {J : PF} {P : Program} {g : FuncId} {vs args : List V} {st : St} {K : CRes → Prop} {r r' : Res} (hP : P = Try.prog) (h : Spec Try.prog g args r) (hJ : J = stdJ) (ho : outs (mkI J) [] st.aw vs = some args) (hs : shift (mkI J) st.n r = some r') (hn : r.val.noL ∧ noLw r.wr) (k : K ⟨r', idsL vs⟩) : CallP P (mkI J) g vs st K := by
  subst hP; exact .snap h (mkI_std hJ) ho hs hn k

theorem snapF_by {J : PF} {P : Program} {g : FuncId} {vs args : List V} {st : St} {K : CRes → Prop} {r : Res} {X v' : V} (hP : P = Try.prog) (h : Spec Try.prog g args r) (hJ : J = stdJ) (ho : outs (mkI J) [] st.aw vs = some args) (hX : V.out (mkI J) (shiftF 0 r.dn) [] r.val = some X) (hv : V.out (mkI J) [] r.wr X = some v') (hn : r.val.noL ∧ noLw r.wr) (k : K ⟨⟨v', [], 0, True⟩, idsL vs⟩) : CallP P (mkI J) g vs st K := by
  subst hP; exact .snapF h (mkI_std hJ) ho hX hv hn k

end Go.AX
