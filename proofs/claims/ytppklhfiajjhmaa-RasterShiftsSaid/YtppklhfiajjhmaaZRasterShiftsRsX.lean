/- What is proved: an item's rectangles, shifted and stored, laid over whatever stands around. Conditions: none but those in each statement. -/
import Derived.Test.YtppklhfiajjhmaaZRasterShiftsY14
import Derived.Test.YtppklhfiajjhmaaZRasterShiftsPRasterShiftsx4
namespace Go.Proofs.Ytppklhfiajjhmaa.RsX
open Go Go.RowKit Go.Proofs.Ytppklhfiajjhmaa.Y Go.Proofs.YtppklhfiajjhmaaW.PrintWords Go.Proofs.YtppklhfiajjhmaaW.PrintLast
set_option linter.unusedVariables false
set_option linter.unusedSimpArgs false
theorem mixed : Try.prog.follows .mixedOrders = true := by kernel_rfl
abbrev iv (n : Int) : MV := .val (.int .i64 n)
def shiftG : List MV → Option MV
  | [.agg [.val (.int .i64 r0), .val (.int .i64 r1), .val (.int .i64 r2), .val (.int .i64 r3)], .val (.int .i32 a), .val (.int .i32 b)] => some (.agg [iv (wrap64 (r0 + wrap64 a)), iv (wrap64 (r1 + wrap64 b)), iv (wrap64 (r2 + wrap64 a)), iv (wrap64 (r3 + wrap64 b))])
  | _ => none
theorem shiftG_ok {X : Env} : QOk Try.prog X 32 (toQ shiftG) := by
  refine Q_of (fun args v h => ?_)
  unfold shiftG at h
  split at h
  · injection h with h; subst h
    exact ⟨_, _, rfl, rfl, fun w => PRasterShifts.decoupagelaw28_shift.calls _ _ _ _ _ _ _ _ _ _ w rfl⟩
  · cases h
noncomputable def S1 : Ctx := addQ C0 32 shiftG
theorem S1_ok : COk Try.prog S1 := addQ_ok (C0_ok _) shiftG_ok (fnOk_of Try.func32 (by kernel_rfl) (by kernel_rfl))
noncomputable def c9 : Code := bodyOf Try.f9
set_option maxRecDepth 100000 in
theorem r10nf (a b : Int) (t0 t1 t4 t5 t6 t7 t8 t9 t10 t12 t13 t14 t15 t16 t17 t18 t19 t20 t21 t22 t23 t24 t25 t26 t27 t28 t29 t30 t31 t32 t33 t34 t35 t36 t37 t38 t39 t40 t41 t42 t43 t44 t45 t46 t47 t48 t49 t50 t51 t52 t53 t54 t55 t56 t57 t58 t59 t60 t61 t62 t63 t64 t65 t66 t67 t68 t69 t70 t71 t72 t73 t74 t75 t76 t77 t78 t79 t80 t81 t82 t83 t84 t85 t86 t87 t88 t89 t90 t91 t92 t93 t94 t95 t96 t97 t98 t99 t100 t101 t102 t103 t104 t105 t106 t107 t108 t109 t110 t111 t112 t113 t114 t115 t116 t117 t118 t119 t120 t121 t122 t123 t124 t125 t126 t127 t128 t129 t130 t131 t132 t133 t134 t135 t136 t137 t138 t139 t140 t141 t142 t143 t144 : Value) (x0 x1 x2 x3 x4 x5 x6 x7 x8 x9 x10 x11 x12 x13 x14 : Int) (kk : KE) : xcode Try.prog (EX Try.prog) S1 1 (cut c9 [1,1,1,0,1,0,0,1,1,0,0,1,1,1,0]) [.val t0, .val t1, .val (.int .i32 a), .val (.int .i32 b), .val t4, .val t5, .val t6, .val t7, .val t8, .val t9, .val t10, .ptr 0 0, .val t12, .val t13, .val t14, .val t15, .val t16, .val t17, .val t18, .val t19, .val t20, .val t21, .val t22, .val t23, .val t24, .val t25, .val t26, .val t27, .val t28, .val t29, .val t30, .val t31, .val t32, .val t33, .val t34, .val t35, .val t36, .val t37, .val t38, .val t39, .val t40, .val t41, .val t42, .val t43, .val t44, .val t45, .val t46, .val t47, .val t48, .val t49, .val t50, .val t51, .val t52, .val t53, .val t54, .val t55, .val t56, .val t57, .val t58, .val t59, .val t60, .val t61, .val t62, .val t63, .val t64, .val t65, .val t66, .val t67, .val t68, .val t69, .val t70, .val t71, .val t72, .val t73, .val t74, .val t75, .val t76, .val t77, .val t78, .val t79, .val t80, .val t81, .val t82, .val t83, .val t84, .val t85, .val t86, .val t87, .val t88, .val t89, .val t90, .val t91, .val t92, .val t93, .val t94, .val t95, .val t96, .val t97, .val t98, .val t99, .val t100, .val t101, .val t102, .val t103, .val t104, .val t105, .val t106, .val t107, .val t108, .val t109, .val t110, .val t111, .val t112, .val t113, .val t114, .val t115, .val t116, .val t117, .val t118, .val t119, .val t120, .val t121, .val t122, .val t123, .val t124, .val t125, .val t126, .val t127, .val t128, .val t129, .val t130, .val t131, .val t132, .val t133, .val t134, .val t135, .val t136, .val t137, .val t138, .val t139, .val t140, .val t141, .val t142, .val t143, .val t144] [some ⟨.lst [iv x0, iv x1, iv x2, iv x3, iv x4, iv x5, iv x6, iv x7, iv x8, iv x9, iv x10, iv x11, iv x12, iv x13, iv x14], 39⟩] kk =
    kk XE.normal [MV.val t0, MV.val t1, MV.val (Value.int IntKind.i32 a), MV.val (Value.int IntKind.i32 b), MV.val t4, MV.val t5, MV.val t6, MV.val t7, MV.val t8, MV.val t9, MV.val t10, MV.ptr 0 0, MV.val t12, MV.val t13, MV.val t14, MV.val t15, MV.val t16, MV.val t17, MV.val t18, MV.val t19, MV.val t20, MV.val t21, MV.val t22, MV.val t23, MV.val t24, MV.val t25, MV.val t26, MV.val t27, MV.val t28, MV.val t29, MV.val t30, MV.val t31, MV.val t32, MV.val t33, MV.val t34, MV.val t35, MV.val t36, MV.val t37, MV.val t38, MV.val t39, MV.val t40, MV.val t41, MV.val t42, MV.val t43, MV.val t44, MV.val t45, MV.val t46, MV.val t47, MV.val t48, MV.val t49, MV.val t50, MV.val t51, MV.val t52, MV.val t53, MV.val t54, MV.val t55, MV.val t56, MV.val t57, MV.val t58, MV.val t59, MV.val t60, MV.val t61, MV.val t62, MV.val t63, MV.ptr 0 (0 + Field.offset #[{ name := "Node", type := 3, offset := 0, embedded := false, tag := "", pkgPath := "", byteOffset := 0 }, { name := "Kind", type := 3, offset := 1, embedded := false, tag := "", pkgPath := "", byteOffset := 8 }, { name := "R", type := 37, offset := 2, embedded := false, tag := "", pkgPath := "", byteOffset := 16 }, { name := "Hole", type := 37, offset := 6, embedded := false, tag := "", pkgPath := "", byteOffset := 48 }, { name := "Clip", type := 37, offset := 10, embedded := false, tag := "", pkgPath := "", byteOffset := 80 }, { name := "Color", type := 2, offset := 14, embedded := false, tag := "", pkgPath := "", byteOffset := 112 }][2]), MV.agg [MV.val (Value.int IntKind.i64 x2), MV.val (Value.int IntKind.i64 x3), MV.val (Value.int IntKind.i64 x4), MV.val (Value.int IntKind.i64 x5)], MV.val (Value.int IntKind.i32 a), MV.val (Value.int IntKind.i32 b), MV.agg [MV.val (Value.int IntKind.i64 (wrap64 (x2 + wrap64 a))), MV.val (Value.int IntKind.i64 (wrap64 (x3 + wrap64 b))), MV.val (Value.int IntKind.i64 (wrap64 (x4 + wrap64 a))), MV.val (Value.int IntKind.i64 (wrap64 (x5 + wrap64 b)))], MV.ptr 0 (0 + Field.offset #[{ name := "Node", type := 3, offset := 0, embedded := false, tag := "", pkgPath := "", byteOffset := 0 }, { name := "Kind", type := 3, offset := 1, embedded := false, tag := "", pkgPath := "", byteOffset := 8 }, { name := "R", type := 37, offset := 2, embedded := false, tag := "", pkgPath := "", byteOffset := 16 }, { name := "Hole", type := 37, offset := 6, embedded := false, tag := "", pkgPath := "", byteOffset := 48 }, { name := "Clip", type := 37, offset := 10, embedded := false, tag := "", pkgPath := "", byteOffset := 80 }, { name := "Color", type := 2, offset := 14, embedded := false, tag := "", pkgPath := "", byteOffset := 112 }][3]), MV.agg [MV.val (Value.int IntKind.i64 x6), MV.val (Value.int IntKind.i64 x7), MV.val (Value.int IntKind.i64 x8), MV.val (Value.int IntKind.i64 x9)], MV.val (Value.int IntKind.i32 a), MV.val (Value.int IntKind.i32 b), MV.agg [MV.val (Value.int IntKind.i64 (wrap64 (x6 + wrap64 a))), MV.val (Value.int IntKind.i64 (wrap64 (x7 + wrap64 b))), MV.val (Value.int IntKind.i64 (wrap64 (x8 + wrap64 a))), MV.val (Value.int IntKind.i64 (wrap64 (x9 + wrap64 b)))], MV.ptr 0 (0 + Field.offset #[{ name := "Node", type := 3, offset := 0, embedded := false, tag := "", pkgPath := "", byteOffset := 0 }, { name := "Kind", type := 3, offset := 1, embedded := false, tag := "", pkgPath := "", byteOffset := 8 }, { name := "R", type := 37, offset := 2, embedded := false, tag := "", pkgPath := "", byteOffset := 16 }, { name := "Hole", type := 37, offset := 6, embedded := false, tag := "", pkgPath := "", byteOffset := 48 }, { name := "Clip", type := 37, offset := 10, embedded := false, tag := "", pkgPath := "", byteOffset := 80 }, { name := "Color", type := 2, offset := 14, embedded := false, tag := "", pkgPath := "", byteOffset := 112 }][4]), MV.agg [MV.val (Value.int IntKind.i64 x10), MV.val (Value.int IntKind.i64 x11), MV.val (Value.int IntKind.i64 x12), MV.val (Value.int IntKind.i64 x13)], MV.val (Value.int IntKind.i32 a), MV.val (Value.int IntKind.i32 b), MV.agg [MV.val (Value.int IntKind.i64 (wrap64 (x10 + wrap64 a))), MV.val (Value.int IntKind.i64 (wrap64 (x11 + wrap64 b))), MV.val (Value.int IntKind.i64 (wrap64 (x12 + wrap64 a))), MV.val (Value.int IntKind.i64 (wrap64 (x13 + wrap64 b)))], MV.ptr 0 (0 + Field.offset #[{ name := "Node", type := 3, offset := 0, embedded := false, tag := "", pkgPath := "", byteOffset := 0 }, { name := "Kind", type := 3, offset := 1, embedded := false, tag := "", pkgPath := "", byteOffset := 8 }, { name := "R", type := 37, offset := 2, embedded := false, tag := "", pkgPath := "", byteOffset := 16 }, { name := "Hole", type := 37, offset := 6, embedded := false, tag := "", pkgPath := "", byteOffset := 48 }, { name := "Clip", type := 37, offset := 10, embedded := false, tag := "", pkgPath := "", byteOffset := 80 }, { name := "Color", type := 2, offset := 14, embedded := false, tag := "", pkgPath := "", byteOffset := 112 }][2]), MV.ptr 0 (0 + Field.offset #[{ name := "Node", type := 3, offset := 0, embedded := false, tag := "", pkgPath := "", byteOffset := 0 }, { name := "Kind", type := 3, offset := 1, embedded := false, tag := "", pkgPath := "", byteOffset := 8 }, { name := "R", type := 37, offset := 2, embedded := false, tag := "", pkgPath := "", byteOffset := 16 }, { name := "Hole", type := 37, offset := 6, embedded := false, tag := "", pkgPath := "", byteOffset := 48 }, { name := "Clip", type := 37, offset := 10, embedded := false, tag := "", pkgPath := "", byteOffset := 80 }, { name := "Color", type := 2, offset := 14, embedded := false, tag := "", pkgPath := "", byteOffset := 112 }][3]), MV.ptr 0 (0 + Field.offset #[{ name := "Node", type := 3, offset := 0, embedded := false, tag := "", pkgPath := "", byteOffset := 0 }, { name := "Kind", type := 3, offset := 1, embedded := false, tag := "", pkgPath := "", byteOffset := 8 }, { name := "R", type := 37, offset := 2, embedded := false, tag := "", pkgPath := "", byteOffset := 16 }, { name := "Hole", type := 37, offset := 6, embedded := false, tag := "", pkgPath := "", byteOffset := 48 }, { name := "Clip", type := 37, offset := 10, embedded := false, tag := "", pkgPath := "", byteOffset := 80 }, { name := "Color", type := 2, offset := 14, embedded := false, tag := "", pkgPath := "", byteOffset := 112 }][4]), MV.val t82, MV.val t83, MV.val t84, MV.val t85, MV.val t86, MV.val t87, MV.val t88, MV.val t89, MV.val t90, MV.val t91, MV.val t92, MV.val t93, MV.val t94, MV.val t95, MV.val t96, MV.val t97, MV.val t98, MV.val t99, MV.val t100, MV.val t101, MV.val t102, MV.val t103, MV.val t104, MV.val t105, MV.val t106, MV.val t107, MV.val t108, MV.val t109, MV.val t110, MV.val t111, MV.val t112, MV.val t113, MV.val t114, MV.val t115, MV.val t116, MV.val t117, MV.val t118, MV.val t119, MV.val t120, MV.val t121, MV.val t122, MV.val t123, MV.val t124, MV.val t125, MV.val t126, MV.val t127, MV.val t128, MV.val t129, MV.val t130, MV.val t131, MV.val t132, MV.val t133, MV.val t134, MV.val t135, MV.val t136, MV.val t137, MV.val t138, MV.val t139, MV.val t140, MV.val t141, MV.val t142, MV.val t143, MV.val t144] [some { row := Row.lst [MV.val (Value.int IntKind.i64 x0), MV.val (Value.int IntKind.i64 x1), MV.val (Value.int IntKind.i64 (wrap64 (x2 + wrap64 a))), MV.val (Value.int IntKind.i64 (wrap64 (x3 + wrap64 b))), MV.val (Value.int IntKind.i64 (wrap64 (x4 + wrap64 a))), MV.val (Value.int IntKind.i64 (wrap64 (x5 + wrap64 b))), MV.val (Value.int IntKind.i64 (wrap64 (x6 + wrap64 a))), MV.val (Value.int IntKind.i64 (wrap64 (x7 + wrap64 b))), MV.val (Value.int IntKind.i64 (wrap64 (x8 + wrap64 a))), MV.val (Value.int IntKind.i64 (wrap64 (x9 + wrap64 b))), MV.val (Value.int IntKind.i64 (wrap64 (x10 + wrap64 a))), MV.val (Value.int IntKind.i64 (wrap64 (x11 + wrap64 b))), MV.val (Value.int IntKind.i64 (wrap64 (x12 + wrap64 a))), MV.val (Value.int IntKind.i64 (wrap64 (x13 + wrap64 b))), MV.val (Value.int IntKind.i64 x14)], ty := Blk.ty { row := Row.lst [iv x0, iv x1, iv (wrap64 (x2 + wrap64 a)), iv (wrap64 (x3 + wrap64 b)), iv (wrap64 (x4 + wrap64 a)), iv (wrap64 (x5 + wrap64 b)), iv (wrap64 (x6 + wrap64 a)), iv (wrap64 (x7 + wrap64 b)), iv (wrap64 (x8 + wrap64 a)), iv (wrap64 (x9 + wrap64 b)), iv x10, iv x11, iv x12, iv x13, iv x14], ty := Blk.ty { row := Row.lst [iv x0, iv x1, iv (wrap64 (x2 + wrap64 a)), iv (wrap64 (x3 + wrap64 b)), iv (wrap64 (x4 + wrap64 a)), iv (wrap64 (x5 + wrap64 b)), iv x6, iv x7, iv x8, iv x9, iv x10, iv x11, iv x12, iv x13, iv x14], ty := Blk.ty { row := Row.lst [iv x0, iv x1, iv x2, iv x3, iv x4, iv x5, iv x6, iv x7, iv x8, iv x9, iv x10, iv x11, iv x12, iv x13, iv x14], ty := 39 } } } }, none, none, none, none, none, none, none, none, none, none, none, none, none, none, none, none, none, none, none, none, none] := by kernel_rfl
def σR (gx : Nat) : Sg := ⟨fun i => if i = 0 then some gx else none, fun _ => 15, fun _ => undef, fun _ => 0⟩
theorem σR_inv {gx i x : Nat} (h : σR gx i = some x) : i = 0 ∧ x = gx := by
  have h' : (if i = 0 then some gx else none) = some x := h
  split at h'
  · rename_i e; injection h' with h'; exact ⟨e, h'.symm⟩
  · cases h'
/-- What a value is, the own block's place given. -/
def plg (g : Nat) : MV → Option Value
  | .ptr 0 o => some (.pointer (some ⟨g, 0 + o, none⟩))
  | .val v => some v
  | .agg l => (pls l).map fun a => .agg a.toArray
  | _ => none
def plgs (g : Nat) : List MV → Option (List Value)
  | [] => some []
  | x :: l => match plg g x, plgs g l with
    | some u, some us => some (u :: us)
    | _, _ => none
theorem plg_ok {g : Nat} {τ : Sg} (h0 : τ 0 = some g) (ho : τ.off 0 = 0) : ∀ (x : MV) (u v : Value), plg g x = some u → RV τ x v → v = u := by
  intro x u v h hv
  unfold plg at h
  split at h
  · injection h with h; subst h
    obtain ⟨g', h1, rfl⟩ := hv.ptr_inv
    rw [h0] at h1
    injection h1 with h1
    subst h1
    rw [ho]
  · injection h with h; subst h
    exact hv.val_inv
  · rename_i l
    obtain ⟨a, h1, h2⟩ := Option.map_eq_some_iff.1 h
    subst h2
    obtain ⟨us, h3, rfl⟩ := hv.agg_inv
    rw [(pls_ok l a h1 us).1 h3]
  · cases h
theorem plgs_ok {g : Nat} {τ : Sg} (h0 : τ 0 = some g) (ho : τ.off 0 = 0) : ∀ (l : List MV) (us vs : List Value), plgs g l = some us → RVs τ l vs → vs = us
  | [], us, vs, h, hv => by
    simp only [plgs, Option.some.injEq] at h
    subst h
    simpa only [RVs] using hv
  | x :: l, us, vs, h, hv => by
    simp only [plgs] at h
    split at h
    · rename_i u us' h1 h2
      injection h with h; subst h
      simp only [RVs] at hv
      obtain ⟨v, vs', rfl, h3, h4⟩ := hv
      rw [plg_ok h0 ho x u v h1 h3, plgs_ok h0 ho l us' vs' h2 h4]
    · cases h
theorem plg_mk {g : Nat} {τ : Sg} (h0 : τ 0 = some g) (ho : τ.off 0 = 0) (x : MV) (u : Value) (h : plg g x = some u) : RV τ x u := by
  unfold plg at h
  split at h
  · injection h with h; subst h
    simp only [RV]
    exact ⟨g, h0, by rw [ho]⟩
  · injection h with h; subst h
    simp only [RV]
  · rename_i l
    obtain ⟨a, h1, h2⟩ := Option.map_eq_some_iff.1 h
    subst h2
    simp only [RV]
    exact ⟨a, (pls_ok l a h1 a).2 rfl, rfl⟩
  · cases h
theorem plgs_mk {g : Nat} {τ : Sg} (h0 : τ 0 = some g) (ho : τ.off 0 = 0) : ∀ (l : List MV) (us : List Value), plgs g l = some us → RVs τ l us
  | [], us, h => by
    simp only [plgs, Option.some.injEq] at h
    subst h
    simp only [RVs]
  | x :: l, us, h => by
    simp only [plgs] at h
    split at h
    · rename_i u us' h1 h2
      injection h with h; subst h
      simp only [RVs]
      exact ⟨u, us', rfl, plg_mk h0 ho x u h1, plgs_mk h0 ho l us' h2⟩
    · cases h
structure After (w w' : World) (r : Nat) (l : List Value) : Prop where
  at_ : w'.heap[r]? = some (.cells l.toArray 39 (0, 0))
  os : w'.os = w.os
  tape : w'.tape = w.tape
  output : w'.output = w.output
  size : w.heap.size ≤ w'.heap.size
  block : ∀ k, k < w.heap.size → k ≠ r → w'.heap[k]? = w.heap[k]?
theorem afterR {w w' : World} {gx : Nat} {σ' : Sg} {tm : List MV} {l : List Value} {a : Act} {rest : Mem} (hl : l.length = 15) (hX : Ext (σR gx) σ') (h : Rel ⟨w.heap.size, fun x => x = gx⟩ w σ' tm (some ⟨.lst (l.map .val), 39⟩ :: rest) a w') : After w w' gx l := by
  have h1 : σR gx 0 = some gx := rfl
  obtain ⟨e1, e2, _⟩ := hX.to 0 gx h1
  obtain ⟨_, cs, rs, d1, d2, d3⟩ := h.mem.own (b := 0) (k := ⟨.lst (l.map .val), 39⟩) rfl rfl e1
  have d4 := RVs.vals_inv d2
  subst d4
  rw [e2] at d3
  have d5 : rs = [] := List.eq_nil_of_length_eq_zero (by
    have : (σR gx).κ 0 = 15 := rfl
    rw [this, List.length_append] at d3
    omega)
  subst d5
  refine ⟨by simpa using d1, h.mem.bel.os, h.mem.bel.tape, h.mem.bel.output, h.mem.bel.size, fun k hk hkr => h.mem.bel.block k ?_⟩
  rintro (hh | hh)
  · exact absurd hk (Nat.not_lt.2 hh)
  · exact hkr hh
theorem relR {w : World} {gx : Nat} {l : List Value} {a : Act} {tm : List MV} (hl : l.length = 15) (hd : a.defers = []) (ht : RVs (σR gx) tm a.tmps.toList) (hg : w.heap[gx]? = some (.cells l.toArray 39 (0, 0))) :
    Rel ⟨w.heap.size, fun x => x = gx⟩ w (σR gx) tm [some ⟨.lst (l.map .val), 39⟩] a w := by
  refine ⟨hd, ht, ⟨fun i k x hk hx => ?_, fun i j x ki kj hi hj r1 r2 _ _ h1 h2 => ?_, fun i x hx => ?_, fun i x k hk hx hro => ?_, fun i x k hk hx hro _ => ?_, Bel.refl _ _, Nat.le_refl _⟩⟩
  · obtain ⟨rfl, rfl⟩ := σR_inv hx
    simp only [List.getElem?_cons_zero, Option.some.injEq] at hk
    subst hk
    exact ⟨[], l, [], by simpa using hg, RVs.vals _, by rw [List.append_nil]; exact hl, rfl, fun _ => rfl⟩
  · rw [(σR_inv h1).1, (σR_inv h2).1]
  · obtain ⟨rfl, rfl⟩ := σR_inv hx
    exact ⟨_, rfl⟩
  · obtain ⟨rfl, rfl⟩ := σR_inv hx
    exact .inr rfl
  · obtain ⟨rfl, rfl⟩ := σR_inv hx
    simp only [List.getElem?_cons_zero, Option.some.injEq] at hk
    subst hk
    cases hro
def act1 (gx : Nat) (a b : Int) (t0 t1 t4 t5 t6 t7 t8 t9 t10 t12 t13 t14 t15 t16 t17 t18 t19 t20 t21 t22 t23 t24 t25 t26 t27 t28 t29 t30 t31 t32 t33 t34 t35 t36 t37 t38 t39 t40 t41 t42 t43 t44 t45 t46 t47 t48 t49 t50 t51 t52 t53 t54 t55 t56 t57 t58 t59 t60 t61 t62 t63 t64 t65 t66 t67 t68 t69 t70 t71 t72 t73 t74 t75 t76 t77 t78 t79 t80 t81 t82 t83 t84 t85 t86 t87 t88 t89 t90 t91 t92 t93 t94 t95 t96 t97 t98 t99 t100 t101 t102 t103 t104 t105 t106 t107 t108 t109 t110 t111 t112 t113 t114 t115 t116 t117 t118 t119 t120 t121 t122 t123 t124 t125 t126 t127 t128 t129 t130 t131 t132 t133 t134 t135 t136 t137 t138 t139 t140 t141 t142 t143 t144 : Value) : Act := { tmps := #[t0, t1, .int .i32 a, .int .i32 b, t4, t5, t6, t7, t8, t9, t10, .pointer (some ⟨gx, 0, none⟩), t12, t13, t14, t15, t16, t17, t18, t19, t20, t21, t22, t23, t24, t25, t26, t27, t28, t29, t30, t31, t32, t33, t34, t35, t36, t37, t38, t39, t40, t41, t42, t43, t44, t45, t46, t47, t48, t49, t50, t51, t52, t53, t54, t55, t56, t57, t58, t59, t60, t61, t62, t63, t64, t65, t66, t67, t68, t69, t70, t71, t72, t73, t74, t75, t76, t77, t78, t79, t80, t81, t82, t83, t84, t85, t86, t87, t88, t89, t90, t91, t92, t93, t94, t95, t96, t97, t98, t99, t100, t101, t102, t103, t104, t105, t106, t107, t108, t109, t110, t111, t112, t113, t114, t115, t116, t117, t118, t119, t120, t121, t122, t123, t124, t125, t126, t127, t128, t129, t130, t131, t132, t133, t134, t135, t136, t137, t138, t139, t140, t141, t142, t143, t144], defers := [] }
def act2 (gx : Nat) (a b : Int) (t0 t1 t4 t5 t6 t7 t8 t9 t10 t12 t13 t14 t15 t16 t17 t18 t19 t20 t21 t22 t23 t24 t25 t26 t27 t28 t29 t30 t31 t32 t33 t34 t35 t36 t37 t38 t39 t40 t41 t42 t43 t44 t45 t46 t47 t48 t49 t50 t51 t52 t53 t54 t55 t56 t57 t58 t59 t60 t61 t62 t63 t64 t65 t66 t67 t68 t69 t70 t71 t72 t73 t74 t75 t76 t77 t78 t79 t80 t81 t82 t83 t84 t85 t86 t87 t88 t89 t90 t91 t92 t93 t94 t95 t96 t97 t98 t99 t100 t101 t102 t103 t104 t105 t106 t107 t108 t109 t110 t111 t112 t113 t114 t115 t116 t117 t118 t119 t120 t121 t122 t123 t124 t125 t126 t127 t128 t129 t130 t131 t132 t133 t134 t135 t136 t137 t138 t139 t140 t141 t142 t143 t144 : Value) (x0 x1 x2 x3 x4 x5 x6 x7 x8 x9 x10 x11 x12 x13 x14 u0 u1 u2 u3 u4 u5 u6 u7 u8 u9 u10 u11 : Int) : Act := { tmps := #[t0, t1, .int .i32 a, .int .i32 b, t4, t5, t6, t7, t8, t9, t10, .pointer (some ⟨gx, 0, none⟩), t12, t13, t14, t15, t16, t17, t18, t19, t20, t21, t22, t23, t24, t25, t26, t27, t28, t29, t30, t31, t32, t33, t34, t35, t36, t37, t38, t39, t40, t41, t42, t43, t44, t45, t46, t47, t48, t49, t50, t51, t52, t53, t54, t55, t56, t57, t58, t59, t60, t61, t62, t63, .pointer (some ⟨gx, 2, none⟩), .agg #[.int .i64 x2, .int .i64 x3, .int .i64 x4, .int .i64 x5], .int .i32 a, .int .i32 b, .agg #[.int .i64 u0, .int .i64 u1, .int .i64 u2, .int .i64 u3], .pointer (some ⟨gx, 6, none⟩), .agg #[.int .i64 x6, .int .i64 x7, .int .i64 x8, .int .i64 x9], .int .i32 a, .int .i32 b, .agg #[.int .i64 u4, .int .i64 u5, .int .i64 u6, .int .i64 u7], .pointer (some ⟨gx, 10, none⟩), .agg #[.int .i64 x10, .int .i64 x11, .int .i64 x12, .int .i64 x13], .int .i32 a, .int .i32 b, .agg #[.int .i64 u8, .int .i64 u9, .int .i64 u10, .int .i64 u11], .pointer (some ⟨gx, 2, none⟩), .pointer (some ⟨gx, 6, none⟩), .pointer (some ⟨gx, 10, none⟩), t82, t83, t84, t85, t86, t87, t88, t89, t90, t91, t92, t93, t94, t95, t96, t97, t98, t99, t100, t101, t102, t103, t104, t105, t106, t107, t108, t109, t110, t111, t112, t113, t114, t115, t116, t117, t118, t119, t120, t121, t122, t123, t124, t125, t126, t127, t128, t129, t130, t131, t132, t133, t134, t135, t136, t137, t138, t139, t140, t141, t142, t143, t144], defers := [] }
set_option maxRecDepth 100000 in
theorem r10_wp {w : World} {gx : Nat} {a b : Int} {t0 t1 t4 t5 t6 t7 t8 t9 t10 t12 t13 t14 t15 t16 t17 t18 t19 t20 t21 t22 t23 t24 t25 t26 t27 t28 t29 t30 t31 t32 t33 t34 t35 t36 t37 t38 t39 t40 t41 t42 t43 t44 t45 t46 t47 t48 t49 t50 t51 t52 t53 t54 t55 t56 t57 t58 t59 t60 t61 t62 t63 t64 t65 t66 t67 t68 t69 t70 t71 t72 t73 t74 t75 t76 t77 t78 t79 t80 t81 t82 t83 t84 t85 t86 t87 t88 t89 t90 t91 t92 t93 t94 t95 t96 t97 t98 t99 t100 t101 t102 t103 t104 t105 t106 t107 t108 t109 t110 t111 t112 t113 t114 t115 t116 t117 t118 t119 t120 t121 t122 t123 t124 t125 t126 t127 t128 t129 t130 t131 t132 t133 t134 t135 t136 t137 t138 t139 t140 t141 t142 t143 t144 : Value} {x0 x1 x2 x3 x4 x5 x6 x7 x8 x9 x10 x11 x12 x13 x14 u0 u1 u2 u3 u4 u5 u6 u7 u8 u9 u10 u11 : Int} {Q : Exit → Act → World → Prop} (e0 : wrap64 (x2 + wrap64 a) = u0) (e1 : wrap64 (x3 + wrap64 b) = u1) (e2 : wrap64 (x4 + wrap64 a) = u2) (e3 : wrap64 (x5 + wrap64 b) = u3) (e4 : wrap64 (x6 + wrap64 a) = u4) (e5 : wrap64 (x7 + wrap64 b) = u5) (e6 : wrap64 (x8 + wrap64 a) = u6) (e7 : wrap64 (x9 + wrap64 b) = u7) (e8 : wrap64 (x10 + wrap64 a) = u8) (e9 : wrap64 (x11 + wrap64 b) = u9) (e10 : wrap64 (x12 + wrap64 a) = u10) (e11 : wrap64 (x13 + wrap64 b) = u11)
    (hg : w.heap[gx]? = some (.cells #[.int .i64 x0, .int .i64 x1, .int .i64 x2, .int .i64 x3, .int .i64 x4, .int .i64 x5, .int .i64 x6, .int .i64 x7, .int .i64 x8, .int .i64 x9, .int .i64 x10, .int .i64 x11, .int .i64 x12, .int .i64 x13, .int .i64 x14] 39 (0, 0)))
    (hK : ∀ w', After w w' gx [.int .i64 x0, .int .i64 x1, .int .i64 u0, .int .i64 u1, .int .i64 u2, .int .i64 u3, .int .i64 u4, .int .i64 u5, .int .i64 u6, .int .i64 u7, .int .i64 u8, .int .i64 u9, .int .i64 u10, .int .i64 u11, .int .i64 x14] → Q .normal (act2 gx a b t0 t1 t4 t5 t6 t7 t8 t9 t10 t12 t13 t14 t15 t16 t17 t18 t19 t20 t21 t22 t23 t24 t25 t26 t27 t28 t29 t30 t31 t32 t33 t34 t35 t36 t37 t38 t39 t40 t41 t42 t43 t44 t45 t46 t47 t48 t49 t50 t51 t52 t53 t54 t55 t56 t57 t58 t59 t60 t61 t62 t63 t64 t65 t66 t67 t68 t69 t70 t71 t72 t73 t74 t75 t76 t77 t78 t79 t80 t81 t82 t83 t84 t85 t86 t87 t88 t89 t90 t91 t92 t93 t94 t95 t96 t97 t98 t99 t100 t101 t102 t103 t104 t105 t106 t107 t108 t109 t110 t111 t112 t113 t114 t115 t116 t117 t118 t119 t120 t121 t122 t123 t124 t125 t126 t127 t128 t129 t130 t131 t132 t133 t134 t135 t136 t137 t138 t139 t140 t141 t142 t143 t144 x0 x1 x2 x3 x4 x5 x6 x7 x8 x9 x10 x11 x12 x13 x14 u0 u1 u2 u3 u4 u5 u6 u7 u8 u9 u10 u11) w') :
    (cut c9 [1,1,1,0,1,0,0,1,1,0,0,1,1,1,0]).wp Try.prog Q (act1 gx a b t0 t1 t4 t5 t6 t7 t8 t9 t10 t12 t13 t14 t15 t16 t17 t18 t19 t20 t21 t22 t23 t24 t25 t26 t27 t28 t29 t30 t31 t32 t33 t34 t35 t36 t37 t38 t39 t40 t41 t42 t43 t44 t45 t46 t47 t48 t49 t50 t51 t52 t53 t54 t55 t56 t57 t58 t59 t60 t61 t62 t63 t64 t65 t66 t67 t68 t69 t70 t71 t72 t73 t74 t75 t76 t77 t78 t79 t80 t81 t82 t83 t84 t85 t86 t87 t88 t89 t90 t91 t92 t93 t94 t95 t96 t97 t98 t99 t100 t101 t102 t103 t104 t105 t106 t107 t108 t109 t110 t111 t112 t113 t114 t115 t116 t117 t118 t119 t120 t121 t122 t123 t124 t125 t126 t127 t128 t129 t130 t131 t132 t133 t134 t135 t136 t137 t138 t139 t140 t141 t142 t143 t144) w := by
  subst e0 e1 e2 e3 e4 e5 e6 e7 e8 e9 e10 e11
  have h0 : σR gx 0 = some gx := rfl
  have o0 : (σR gx).off 0 = 0 := rfl
  have ht : RVs (σR gx) [.val t0, .val t1, .val (.int .i32 a), .val (.int .i32 b), .val t4, .val t5, .val t6, .val t7, .val t8, .val t9, .val t10, .ptr 0 0, .val t12, .val t13, .val t14, .val t15, .val t16, .val t17, .val t18, .val t19, .val t20, .val t21, .val t22, .val t23, .val t24, .val t25, .val t26, .val t27, .val t28, .val t29, .val t30, .val t31, .val t32, .val t33, .val t34, .val t35, .val t36, .val t37, .val t38, .val t39, .val t40, .val t41, .val t42, .val t43, .val t44, .val t45, .val t46, .val t47, .val t48, .val t49, .val t50, .val t51, .val t52, .val t53, .val t54, .val t55, .val t56, .val t57, .val t58, .val t59, .val t60, .val t61, .val t62, .val t63, .val t64, .val t65, .val t66, .val t67, .val t68, .val t69, .val t70, .val t71, .val t72, .val t73, .val t74, .val t75, .val t76, .val t77, .val t78, .val t79, .val t80, .val t81, .val t82, .val t83, .val t84, .val t85, .val t86, .val t87, .val t88, .val t89, .val t90, .val t91, .val t92, .val t93, .val t94, .val t95, .val t96, .val t97, .val t98, .val t99, .val t100, .val t101, .val t102, .val t103, .val t104, .val t105, .val t106, .val t107, .val t108, .val t109, .val t110, .val t111, .val t112, .val t113, .val t114, .val t115, .val t116, .val t117, .val t118, .val t119, .val t120, .val t121, .val t122, .val t123, .val t124, .val t125, .val t126, .val t127, .val t128, .val t129, .val t130, .val t131, .val t132, .val t133, .val t134, .val t135, .val t136, .val t137, .val t138, .val t139, .val t140, .val t141, .val t142, .val t143, .val t144] (act1 gx a b t0 t1 t4 t5 t6 t7 t8 t9 t10 t12 t13 t14 t15 t16 t17 t18 t19 t20 t21 t22 t23 t24 t25 t26 t27 t28 t29 t30 t31 t32 t33 t34 t35 t36 t37 t38 t39 t40 t41 t42 t43 t44 t45 t46 t47 t48 t49 t50 t51 t52 t53 t54 t55 t56 t57 t58 t59 t60 t61 t62 t63 t64 t65 t66 t67 t68 t69 t70 t71 t72 t73 t74 t75 t76 t77 t78 t79 t80 t81 t82 t83 t84 t85 t86 t87 t88 t89 t90 t91 t92 t93 t94 t95 t96 t97 t98 t99 t100 t101 t102 t103 t104 t105 t106 t107 t108 t109 t110 t111 t112 t113 t114 t115 t116 t117 t118 t119 t120 t121 t122 t123 t124 t125 t126 t127 t128 t129 t130 t131 t132 t133 t134 t135 t136 t137 t138 t139 t140 t141 t142 t143 t144).tmps.toList := plgs_mk h0 o0 _ _ (by kernel_rfl)
  have hx := XR.of_x (S := fun e1 tm m => e1 = .normal ∧ plgs gx tm = some (act2 gx a b t0 t1 t4 t5 t6 t7 t8 t9 t10 t12 t13 t14 t15 t16 t17 t18 t19 t20 t21 t22 t23 t24 t25 t26 t27 t28 t29 t30 t31 t32 t33 t34 t35 t36 t37 t38 t39 t40 t41 t42 t43 t44 t45 t46 t47 t48 t49 t50 t51 t52 t53 t54 t55 t56 t57 t58 t59 t60 t61 t62 t63 t64 t65 t66 t67 t68 t69 t70 t71 t72 t73 t74 t75 t76 t77 t78 t79 t80 t81 t82 t83 t84 t85 t86 t87 t88 t89 t90 t91 t92 t93 t94 t95 t96 t97 t98 t99 t100 t101 t102 t103 t104 t105 t106 t107 t108 t109 t110 t111 t112 t113 t114 t115 t116 t117 t118 t119 t120 t121 t122 t123 t124 t125 t126 t127 t128 t129 t130 t131 t132 t133 t134 t135 t136 t137 t138 t139 t140 t141 t142 t143 t144 x0 x1 x2 x3 x4 x5 x6 x7 x8 x9 x10 x11 x12 x13 x14 (wrap64 (x2 + wrap64 a)) (wrap64 (x3 + wrap64 b)) (wrap64 (x4 + wrap64 a)) (wrap64 (x5 + wrap64 b)) (wrap64 (x6 + wrap64 a)) (wrap64 (x7 + wrap64 b)) (wrap64 (x8 + wrap64 a)) (wrap64 (x9 + wrap64 b)) (wrap64 (x10 + wrap64 a)) (wrap64 (x11 + wrap64 b)) (wrap64 (x12 + wrap64 a)) (wrap64 (x13 + wrap64 b))).tmps.toList ∧ ∃ rest, m = some ⟨.lst (([.int .i64 (x0), .int .i64 (x1), .int .i64 (wrap64 (x2 + wrap64 a)), .int .i64 (wrap64 (x3 + wrap64 b)), .int .i64 (wrap64 (x4 + wrap64 a)), .int .i64 (wrap64 (x5 + wrap64 b)), .int .i64 (wrap64 (x6 + wrap64 a)), .int .i64 (wrap64 (x7 + wrap64 b)), .int .i64 (wrap64 (x8 + wrap64 a)), .int .i64 (wrap64 (x9 + wrap64 b)), .int .i64 (wrap64 (x10 + wrap64 a)), .int .i64 (wrap64 (x11 + wrap64 b)), .int .i64 (wrap64 (x12 + wrap64 a)), .int .i64 (wrap64 (x13 + wrap64 b)), .int .i64 (x14)] : List Value).map .val), 39⟩ :: rest) (EX_ok Try.prog) S1_ok mixed
    (fun kk => r10nf a b t0 t1 t4 t5 t6 t7 t8 t9 t10 t12 t13 t14 t15 t16 t17 t18 t19 t20 t21 t22 t23 t24 t25 t26 t27 t28 t29 t30 t31 t32 t33 t34 t35 t36 t37 t38 t39 t40 t41 t42 t43 t44 t45 t46 t47 t48 t49 t50 t51 t52 t53 t54 t55 t56 t57 t58 t59 t60 t61 t62 t63 t64 t65 t66 t67 t68 t69 t70 t71 t72 t73 t74 t75 t76 t77 t78 t79 t80 t81 t82 t83 t84 t85 t86 t87 t88 t89 t90 t91 t92 t93 t94 t95 t96 t97 t98 t99 t100 t101 t102 t103 t104 t105 t106 t107 t108 t109 t110 t111 t112 t113 t114 t115 t116 t117 t118 t119 t120 t121 t122 t123 t124 t125 t126 t127 t128 t129 t130 t131 t132 t133 t134 t135 t136 t137 t138 t139 t140 t141 t142 t143 t144 x0 x1 x2 x3 x4 x5 x6 x7 x8 x9 x10 x11 x12 x13 x14 kk) ⟨rfl, by kernel_rfl, List.replicate 21 none, by kernel_rfl⟩
  refine hx _ w (σR gx) _ w Q trivial (relR (l := [.int .i64 x0, .int .i64 x1, .int .i64 x2, .int .i64 x3, .int .i64 x4, .int .i64 x5, .int .i64 x6, .int .i64 x7, .int .i64 x8, .int .i64 x9, .int .i64 x10, .int .i64 x11, .int .i64 x12, .int .i64 x13, .int .i64 x14]) rfl rfl ht hg) ?_
  rintro e1 tm' m' σ' a' w' ⟨rfl, h4, rest, rfl⟩ hX hR
  obtain ⟨f1, _, f3⟩ := hX.to 0 gx rfl
  have h5 := plgs_ok f1 (by rw [f3]; rfl) _ _ _ h4 hR.tm
  have h6 : a' = act2 gx a b t0 t1 t4 t5 t6 t7 t8 t9 t10 t12 t13 t14 t15 t16 t17 t18 t19 t20 t21 t22 t23 t24 t25 t26 t27 t28 t29 t30 t31 t32 t33 t34 t35 t36 t37 t38 t39 t40 t41 t42 t43 t44 t45 t46 t47 t48 t49 t50 t51 t52 t53 t54 t55 t56 t57 t58 t59 t60 t61 t62 t63 t64 t65 t66 t67 t68 t69 t70 t71 t72 t73 t74 t75 t76 t77 t78 t79 t80 t81 t82 t83 t84 t85 t86 t87 t88 t89 t90 t91 t92 t93 t94 t95 t96 t97 t98 t99 t100 t101 t102 t103 t104 t105 t106 t107 t108 t109 t110 t111 t112 t113 t114 t115 t116 t117 t118 t119 t120 t121 t122 t123 t124 t125 t126 t127 t128 t129 t130 t131 t132 t133 t134 t135 t136 t137 t138 t139 t140 t141 t142 t143 t144 x0 x1 x2 x3 x4 x5 x6 x7 x8 x9 x10 x11 x12 x13 x14 (wrap64 (x2 + wrap64 a)) (wrap64 (x3 + wrap64 b)) (wrap64 (x4 + wrap64 a)) (wrap64 (x5 + wrap64 b)) (wrap64 (x6 + wrap64 a)) (wrap64 (x7 + wrap64 b)) (wrap64 (x8 + wrap64 a)) (wrap64 (x9 + wrap64 b)) (wrap64 (x10 + wrap64 a)) (wrap64 (x11 + wrap64 b)) (wrap64 (x12 + wrap64 a)) (wrap64 (x13 + wrap64 b)) := by
    have h7 := hR.df
    cases a'
    simp only at h5 h7
    subst h7
    congr 1
    exact Array.ext' h5
  rw [h6]
  exact hK w' (afterR rfl hX hR)
end Go.Proofs.Ytppklhfiajjhmaa.RsX
