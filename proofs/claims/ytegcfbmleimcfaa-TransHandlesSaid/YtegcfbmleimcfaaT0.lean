/- The type table. -/
import Derived.KernelRfl
import Derived.Test.YtegcfbmleimcfaaProg
import Derived.Test.YtegcfbmleimcfaaKc
import Derived.Test.YtegcfbmleimcfaaBT
namespace Go.AX
open Go.Proofs
def ttl : List (Nat × TI) := [
(2, ⟨1, 8, false, true, [.int .i64], .int .i64⟩),
(3, ⟨1, 8, false, true, [.int .i64], .int .i64⟩),
(4, ⟨1, 1, false, true, [.bool], .bool⟩),
(5, ⟨1, 1, false, true, [.int .u8], .int .u8⟩),
(6, ⟨1, 1, false, true, [.int .u8], .int .u8⟩),
(7, ⟨4, 24, true, true, [.int .i64, .int .i64, .bool, .int .u8], .struct [(0, 2), (1, 3), (2, 4), (3, 6)]⟩),
(8, ⟨4, 24, true, true, [.int .i64, .int .i64, .bool, .int .u8], .struct [(0, 2), (1, 3), (2, 4), (3, 6)]⟩),
(12, ⟨1, 8, false, true, [.int .u64], .int .u64⟩),
(15, ⟨1, 8, false, false, [.lit (.pointer none)], .pointer 82⟩),
(16, ⟨1, 8, false, false, [.lit (.pointer none)], .pointer 85⟩),
(17, ⟨1, 8, false, false, [.lit (.pointer none)], .pointer 95⟩),
(18, ⟨1, 8, true, false, [.lit (.pointer none)], .struct [(0, 17)]⟩),
(19, ⟨1, 8, true, false, [.lit (.pointer none)], .struct [(0, 17)]⟩),
(21, ⟨1, 4, false, true, [.int .i32], .int .i32⟩),
(22, ⟨1, 24, false, false, [.slc 34], .slice 28⟩),
(23, ⟨3, 40, true, false, [.int .i64, .int .i64, .slc 34], .struct [(0, 3), (1, 3), (2, 22)]⟩),
(24, ⟨3, 40, true, false, [.int .i64, .int .i64, .slc 34], .struct [(0, 3), (1, 3), (2, 22)]⟩),
(25, ⟨32, 32, true, true, [.big 32 .u8], .array 32 5⟩),
(26, ⟨32, 32, true, true, [.big 32 .u8], .array 32 5⟩),
(27, ⟨34, 48, true, true, [.int .i64, .bool, .big 32 .u8], .struct [(0, 3), (1, 4), (2, 26)]⟩),
(28, ⟨34, 48, true, true, [.int .i64, .bool, .big 32 .u8], .struct [(0, 3), (1, 4), (2, 26)]⟩),
(37, ⟨1, 24, false, false, [.slc 3], .slice 24⟩),
(38, ⟨2, 32, true, false, [.int .i64, .slc 3], .struct [(0, 3), (1, 37)]⟩),
(39, ⟨2, 32, true, false, [.int .i64, .slc 3], .struct [(0, 3), (1, 37)]⟩),
(41, ⟨1, 8, false, true, [.int .i64], .int .i64⟩),
(56, ⟨1, 24, false, false, [.slc 1], .slice 5⟩),
(77, ⟨1, 8, false, true, [.int .u64], .int .u64⟩),
(83, ⟨0, 0, true, false, [], .array 0 16⟩),
(84, ⟨0, 0, true, false, [], .struct [(0, 83)]⟩),
(85, ⟨0, 0, true, false, [], .struct [(0, 83)]⟩),
(87, ⟨1, 4, false, true, [.int .u32], .int .u32⟩),
(88, ⟨1, 1, false, true, [.int .u8], .int .u8⟩),
(89, ⟨1, 1, false, true, [.int .u8], .int .u8⟩),
(91, ⟨1, 8, false, false, [.lit (.pointer none)], .pointer 5⟩),
(92, ⟨1, 4, false, true, [.int .i32], .int .i32⟩),
(93, ⟨1, 4, false, true, [.int .i32], .int .i32⟩),
(94, ⟨11, 48, true, false, [.int .u64, .int .u64, .int .u32, .int .u8, .int .u8, .int .u8, .int .u8, .lit .nilFunc, .lit (.pointer none), .int .i32, .int .i32], .struct [(0, 12), (1, 12), (2, 87), (3, 88), (4, 5), (5, 5), (6, 89), (7, 90), (8, 91), (9, 92), (10, 93)]⟩),
(95, ⟨11, 48, true, false, [.int .u64, .int .u64, .int .u32, .int .u8, .int .u8, .int .u8, .int .u8, .lit .nilFunc, .lit (.pointer none), .int .i32, .int .i32], .struct [(0, 12), (1, 12), (2, 87), (3, 88), (4, 5), (5, 5), (6, 89), (7, 90), (8, 91), (9, 92), (10, 93)]⟩)]
set_option maxRecDepth 100000
def tt (n : Nat) : Option TI := look ttl n
theorem tt_ok : TabOK Try.prog tt := tabOK (by kernel_rfl)
def body (f : Func) : Code := match f.body with | some c => c | none => .skip

theorem mix_ok : Try.prog.follows .mixedOrders = true := by kernel_rfl

/-- A function's entry: program and arithmetic are variables, so that evaluation leaves them alone. -/
theorem spec_b (cuts : List Nat) {g : FuncId} {fn : Func} {c : Code} {args : List V} {r : Res} (hf : Try.prog.funcs[g]? = some fn) (hb : fn.body = some c) (hn : (fn.name == "runtime.NumGoroutine") = false)
    (hl : Nat.ble args.length fn.ntmps = true) (h : ∀ (J : PF) (P : Program), J = stdJ → P = Try.prog → bwp P (mkI J) tt cuts 0 c (FinE (mkI J) 0 0 tt fn.results.toList r) ⟨number args 0, [], 0, fn.ntmps⟩) : Spec Try.prog g args r :=
  spec_of_bwp cuts tt_ok mix_ok hf hb hn (Nat.le_of_ble_eq_true hl) (h stdJ _ rfl rfl)

theorem specM_b (cuts : List Nat) (z zz : Nat) {aw : List (Nat × Blk)} {g : FuncId} {fn : Func} {c : Code} {args : List V} {r : Res} (hf : Try.prog.funcs[g]? = some fn) (hb : fn.body = some c) (hn : (fn.name == "runtime.NumGoroutine") = false)
    (hl : Nat.ble args.length fn.ntmps = true) (hz : Nat.ble z zz = true) (hlive : liveN aw zz = true) (haw : allLt (keys aw) zz = true)
    (h : ∀ (J : PF) (P : Program), J = stdJ → P = Try.prog → bwp P (mkI J) tt cuts z c (FinE (mkI J) z zz tt fn.results.toList r) ⟨number args 0, aw, zz, fn.ntmps⟩) : SpecM Try.prog g zz aw args r :=
  specM_of_bwp cuts tt_ok mix_ok (Nat.le_of_ble_eq_true hz) hf hb hn (Nat.le_of_ble_eq_true hl) hlive (allLt_look haw) (h stdJ _ rfl rfl)

theorem callM_by {J : PF} {P : Program} {g : FuncId} {vs args : List V} {st : St} {K : CRes → Prop} {zz : Nat} {awc : List (Nat × Blk)} {r r' : Res} (hP : P = Try.prog) (h : SpecM Try.prog g zz awc args r) (f : List (Nat × Nat)) (sn : Bool) (hJ : J = stdJ)
    (hf : (distinctN (news f) && distinctN (keys f) && allLt (news f) zz) = true) (hl : allLive awc = true) (ha : outs (mkI J) f (bif sn then st.aw else []) vs = some args) (hb : outAwC (mkI J) f st.aw f = some awc)
    (hs : shiftM (mkI J) f st.n zz r = some r') (hn : sn = false ∨ (r.val.noL ∧ noLB r.wr)) (k : K ⟨r', keys f ++ bif sn then idsL vs else []⟩) : CallP P (mkI J) g vs st K := by
  subst hP; exact callP_M h f sn (mkI_std hJ) hf hl ha hb hs hn k

theorem call_by {J : PF} {P : Program} {g : FuncId} {vs args : List V} {st : St} {K : CRes → Prop} {r r' : Res} (hP : P = Try.prog) (h : Spec Try.prog g args r) (hJ : J = stdJ) (ho : outs (mkI J) [] [] vs = some args) (hs : shift (mkI J) st.n r = some r') (k : K ⟨r', []⟩) : CallP P (mkI J) g vs st K := by
  subst hP; exact .pure' h (mkI_std hJ) ho hs k

theorem snap_by {J : PF} {P : Program} {g : FuncId} {vs args : List V} {st : St} {K : CRes → Prop} {r r' : Res} (hP : P = Try.prog) (h : Spec Try.prog g args r) (hJ : J = stdJ) (ho : outs (mkI J) [] st.aw vs = some args) (hs : shift (mkI J) st.n r = some r') (hn : r.val.noL ∧ noLw r.wr) (k : K ⟨r', idsL vs⟩) : CallP P (mkI J) g vs st K := by
  subst hP; exact .snap h (mkI_std hJ) ho hs hn k

theorem snapF_by {J : PF} {P : Program} {g : FuncId} {vs args : List V} {st : St} {K : CRes → Prop} {r : Res} {X v' : V} (hP : P = Try.prog) (h : Spec Try.prog g args r) (hJ : J = stdJ) (ho : outs (mkI J) [] st.aw vs = some args) (hX : V.out (mkI J) (shiftF 0 r.dn) [] r.val = some X) (hv : V.out (mkI J) [] r.wr X = some v') (hn : r.val.noL ∧ noLw r.wr) (k : K ⟨⟨v', [], 0, True⟩, idsL vs⟩) : CallP P (mkI J) g vs st K := by
  subst hP; exact .snapF h (mkI_std hJ) ho hX hv hn k

end Go.AX
