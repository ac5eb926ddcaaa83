/- QueueStates: the call of one round. -/
import Derived.Test.YtlbghgmeiajioaaDw
import Derived.Test.YtlbghgmeiajioaaSa
import Derived.Test.YtlbghgmeiajioaaWm
namespace Go.Proofs.Ytlbghgmeiajioaa
open Go.RowKit
set_option linter.unusedVariables false

/-- The blocks of a code. -/
def blocksOf (id : Nat) : Code → List Code
  | .loop c => blocksOf id c
  | .seq a b => blocksOf id a ++ blocksOf id b
  | .block i c => if i = id then [.block i c] else blocksOf id c
  | .scope c => blocksOf id c
  | .cond _ a b => blocksOf id a ++ blocksOf id b
  | _ => []
noncomputable def bk4 (i : Nat) : Code := ((blocksOf i (Try.f4.body.getD .skip))[0]?).getD .skip

set_option maxRecDepth 1000000 in
set_option maxHeartbeats 16000000 in
theorem switch4 (t0 t1 t2 t3 t4 t5 t6 t7 t8 t9 t10 t12 t13 t15 t16 t17 t18 t19 t20 t21 t22 t23 t24 t25 t26 t27 t28 t29 t30 t31 t32 t33 t34 t35 t36 t37 t38 t39 t40 t41 t42 t43 t44 t45 t46 t47 t48 t49 t50 t51 t52 t53 t54 t55 t56 t57 t58 t59 t60 t61 t62 t63 t64 t65 t66 t67 t68 t69 t70 t71 t72 t73 t74 t75 t76 t77 t79 t80 t81 t82 t83 t84 t85 t86 t87 t88 t89 t90 t91 t92 t93 t94 t95 t96 t97 t98 t99 t100 t101 t102 t103 t104 t105 t106 t107 t108 t109 t110 t111 t112 t113 t114 t115 t116 t117 t118 t119 t120 t121 t122 t123 t124 t125 t126 t127 t128 t129 t130 t131 t132 t133 t134 t135 t136 t137 t138 t139 t140 t141 t142 t143 t144 t145 t146 t147 t148 t149 t150 t151 t152 t153 t154 t155 t156 t157 t158 t159 t160 t161 t162 t163 t164 t165 t166 t167 t168 t169 t170 t171 t172 t173 t174 t175 t176 t177 t178 t179 t180 t181 t182 t183 t184 t185 t186 t187 t188 t189 t190 t191 t192 t193 t194 t195 t196 t197 t198 t199 t200 t201 t202 t203 t204 t205 t206 t207 t208 t209 t210 t211 t212 t213 t214 t215 t216 t217 t218 t219 t220 t221 t222 t223 t224 t225 t226 t227 t228 t229 t230 t231 t232 t233 t234 t235 t236 t237 t238 t239 t240 t241 t242 t243 t244 t245 t246 t247 t248 t249 t250 t251 t252 t253 t254 t255 t256 t257 t258 t259 t260 t261 t262 t263 t264 t265 t266 t267 t268 t269 t270 t271 t272 t273 t274 t275 t276 t277 t278 t279 t280 t281 t282 t283 t284 t285 t286 t287 t288 t289 t290 t291 t292 t293 t294 t295 t296 t297 t298 t299 t300 t301 t302 t303 t304 t305 : Value) (g X B k : Nat) (C : CRow) (At Al : Option Addr) (ct cl : Nat) (n1 : C.m.to.length ≤ 9223372036854775807) (lk : C.m.lines.length ≤ 50) (P' : Nat → Prop) (q : List It) (rows : List Row) (v : Value) (R T D : Int) (D0 : 0 ≤ D) (D1 : D ≤ 1000) (w w4 : World)
    (hqW : QS w4 P' g q R T D) (BW : Hid (Below w.heap.size w w4)) (HWs : Hid (Ws B w4 P' v rows)) (HPW : Hid (∀ k, k < w.heap.size → P' k)) (HI : Hid (Inv T k q)) (k40 : k ≤ 40) (Sm : Hid (Small q)) (q500' : q.length ≤ 500)
    (Rt : Hid (Rd w w.heap.size At (C.m.to.flatMap Pth.cells))) (Rl : Hid (Rd w w.heap.size Al (C.m.lines.map .string))) (kc : Bk w4 X 40 #[.int .i64 C.which, .bool C.m.frm.null, .string C.m.frm.loc, .string C.m.frm.dom, .slice At C.m.to.length ct, .slice Al C.m.lines.length cl, .bool C.m.flags.head, .bool C.m.flags.body, .bool C.m.flags.bad, .int .i64 C.m.flags.lines, .int .i64 C.m.flags.hops, .int .i64 C.m.bytes, .int .i64 C.id, .int .i64 C.k, .int .i64 C.n]) (Q : Exit → Act → World → Prop)
    (HE : Hid (∀ (u19 u20 u21 u79 u80 u81 u82 u83 u84 u85 u86 u87 u88 u89 u90 u91 u92 u93 u94 u95 u96 u97 u98 u99 u100 u101 u102 u103 u104 u105 u106 u107 u108 u109 u110 u111 u112 u113 u114 u115 u116 u117 u118 u119 u120 u121 u122 u123 u124 u125 u126 u127 u128 u129 u130 u131 u132 u133 u134 u135 u136 u137 u138 u139 : Value) (q' : List It) (ri rj : Nat) (wx : World), QS wx P' g q' R T D → Inv T (k + 1) q' → Below w.heap.size w wx → Ws B wx P' v rows → Rel T q q' ri rj → Q .normal ⟨List.toArray (t0 :: t1 :: t2 :: t3 :: t4 :: t5 :: t6 :: t7 :: t8 :: t9 :: t10 :: (.pointer (some ⟨g, 0, none⟩)) :: t12 :: t13 :: (.pointer (some ⟨X, 0, none⟩)) :: t15 :: t16 :: t17 :: t18 :: u19 :: u20 :: u21 :: t22 :: t23 :: t24 :: t25 :: t26 :: t27 :: t28 :: t29 :: t30 :: t31 :: t32 :: t33 :: t34 :: t35 :: t36 :: t37 :: t38 :: t39 :: t40 :: t41 :: t42 :: t43 :: t44 :: t45 :: t46 :: t47 :: t48 :: t49 :: t50 :: t51 :: t52 :: t53 :: t54 :: t55 :: t56 :: t57 :: t58 :: t59 :: t60 :: t61 :: t62 :: t63 :: t64 :: t65 :: t66 :: t67 :: t68 :: t69 :: t70 :: t71 :: t72 :: t73 :: t74 :: t75 :: t76 :: t77 :: (.int .i64 (bits BinOp.and .i64 C.which 7)) :: u79 :: u80 :: u81 :: u82 :: u83 :: u84 :: u85 :: u86 :: u87 :: u88 :: u89 :: u90 :: u91 :: u92 :: u93 :: u94 :: u95 :: u96 :: u97 :: u98 :: u99 :: u100 :: u101 :: u102 :: u103 :: u104 :: u105 :: u106 :: u107 :: u108 :: u109 :: u110 :: u111 :: u112 :: u113 :: u114 :: u115 :: u116 :: u117 :: u118 :: u119 :: u120 :: u121 :: u122 :: u123 :: u124 :: u125 :: u126 :: u127 :: u128 :: u129 :: u130 :: u131 :: u132 :: u133 :: u134 :: u135 :: u136 :: u137 :: u138 :: u139 :: t140 :: t141 :: t142 :: t143 :: t144 :: t145 :: t146 :: t147 :: t148 :: t149 :: t150 :: t151 :: t152 :: t153 :: t154 :: t155 :: t156 :: t157 :: t158 :: t159 :: t160 :: t161 :: t162 :: t163 :: t164 :: t165 :: t166 :: t167 :: t168 :: t169 :: t170 :: t171 :: t172 :: t173 :: t174 :: t175 :: t176 :: t177 :: t178 :: t179 :: t180 :: t181 :: t182 :: t183 :: t184 :: t185 :: t186 :: t187 :: t188 :: t189 :: t190 :: t191 :: t192 :: t193 :: t194 :: t195 :: t196 :: t197 :: t198 :: t199 :: t200 :: t201 :: t202 :: t203 :: t204 :: t205 :: t206 :: t207 :: t208 :: t209 :: t210 :: t211 :: t212 :: t213 :: t214 :: t215 :: t216 :: t217 :: t218 :: t219 :: t220 :: t221 :: t222 :: t223 :: t224 :: t225 :: t226 :: t227 :: t228 :: t229 :: t230 :: t231 :: t232 :: t233 :: t234 :: t235 :: t236 :: t237 :: t238 :: t239 :: t240 :: t241 :: t242 :: t243 :: t244 :: t245 :: t246 :: t247 :: t248 :: t249 :: t250 :: t251 :: t252 :: t253 :: t254 :: t255 :: t256 :: t257 :: t258 :: t259 :: t260 :: t261 :: t262 :: t263 :: t264 :: t265 :: t266 :: t267 :: t268 :: t269 :: t270 :: t271 :: t272 :: t273 :: t274 :: t275 :: t276 :: t277 :: t278 :: t279 :: t280 :: t281 :: t282 :: t283 :: t284 :: t285 :: t286 :: t287 :: t288 :: t289 :: t290 :: t291 :: t292 :: t293 :: t294 :: t295 :: t296 :: t297 :: t298 :: t299 :: t300 :: t301 :: t302 :: t303 :: t304 :: t305 :: []), []⟩ wx)) :
    Code.wp Try.prog (bk4 4) Q ⟨List.toArray (t0 :: t1 :: t2 :: t3 :: t4 :: t5 :: t6 :: t7 :: t8 :: t9 :: t10 :: (.pointer (some ⟨g, 0, none⟩)) :: t12 :: t13 :: (.pointer (some ⟨X, 0, none⟩)) :: t15 :: t16 :: t17 :: t18 :: t19 :: t20 :: t21 :: t22 :: t23 :: t24 :: t25 :: t26 :: t27 :: t28 :: t29 :: t30 :: t31 :: t32 :: t33 :: t34 :: t35 :: t36 :: t37 :: t38 :: t39 :: t40 :: t41 :: t42 :: t43 :: t44 :: t45 :: t46 :: t47 :: t48 :: t49 :: t50 :: t51 :: t52 :: t53 :: t54 :: t55 :: t56 :: t57 :: t58 :: t59 :: t60 :: t61 :: t62 :: t63 :: t64 :: t65 :: t66 :: t67 :: t68 :: t69 :: t70 :: t71 :: t72 :: t73 :: t74 :: t75 :: t76 :: t77 :: (.int .i64 (bits BinOp.and .i64 C.which 7)) :: t79 :: t80 :: t81 :: t82 :: t83 :: t84 :: t85 :: t86 :: t87 :: t88 :: t89 :: t90 :: t91 :: t92 :: t93 :: t94 :: t95 :: t96 :: t97 :: t98 :: t99 :: t100 :: t101 :: t102 :: t103 :: t104 :: t105 :: t106 :: t107 :: t108 :: t109 :: t110 :: t111 :: t112 :: t113 :: t114 :: t115 :: t116 :: t117 :: t118 :: t119 :: t120 :: t121 :: t122 :: t123 :: t124 :: t125 :: t126 :: t127 :: t128 :: t129 :: t130 :: t131 :: t132 :: t133 :: t134 :: t135 :: t136 :: t137 :: t138 :: t139 :: t140 :: t141 :: t142 :: t143 :: t144 :: t145 :: t146 :: t147 :: t148 :: t149 :: t150 :: t151 :: t152 :: t153 :: t154 :: t155 :: t156 :: t157 :: t158 :: t159 :: t160 :: t161 :: t162 :: t163 :: t164 :: t165 :: t166 :: t167 :: t168 :: t169 :: t170 :: t171 :: t172 :: t173 :: t174 :: t175 :: t176 :: t177 :: t178 :: t179 :: t180 :: t181 :: t182 :: t183 :: t184 :: t185 :: t186 :: t187 :: t188 :: t189 :: t190 :: t191 :: t192 :: t193 :: t194 :: t195 :: t196 :: t197 :: t198 :: t199 :: t200 :: t201 :: t202 :: t203 :: t204 :: t205 :: t206 :: t207 :: t208 :: t209 :: t210 :: t211 :: t212 :: t213 :: t214 :: t215 :: t216 :: t217 :: t218 :: t219 :: t220 :: t221 :: t222 :: t223 :: t224 :: t225 :: t226 :: t227 :: t228 :: t229 :: t230 :: t231 :: t232 :: t233 :: t234 :: t235 :: t236 :: t237 :: t238 :: t239 :: t240 :: t241 :: t242 :: t243 :: t244 :: t245 :: t246 :: t247 :: t248 :: t249 :: t250 :: t251 :: t252 :: t253 :: t254 :: t255 :: t256 :: t257 :: t258 :: t259 :: t260 :: t261 :: t262 :: t263 :: t264 :: t265 :: t266 :: t267 :: t268 :: t269 :: t270 :: t271 :: t272 :: t273 :: t274 :: t275 :: t276 :: t277 :: t278 :: t279 :: t280 :: t281 :: t282 :: t283 :: t284 :: t285 :: t286 :: t287 :: t288 :: t289 :: t290 :: t291 :: t292 :: t293 :: t294 :: t295 :: t296 :: t297 :: t298 :: t299 :: t300 :: t301 :: t302 :: t303 :: t304 :: t305 :: []), []⟩ w4 := by
  have z0 := kc.cell 0
  have z1 := kc.cell 1
  have z2 := kc.cell 2
  have z3 := kc.cell 3
  have z4 := kc.cell 4
  have z5 := kc.cell 5
  have z6 := kc.cell 6
  have z7 := kc.cell 7
  have z8 := kc.cell 8
  have z9 := kc.cell 9
  have z10 := kc.cell 10
  have z11 := kc.cell 11
  have z12 := kc.cell 12
  have z13 := kc.cell 13
  have z14 := kc.cell 14
  simp at z0 z1 z2 z3 z4 z5 z6 z7 z8 z9 z10 z11 z12 z13 z14
  have kl := kc.lt
  clear kc
  conv => arg 2; whnf
  go_wp2_with fail
  · refine (qs_add hqW Sm.out q500' C.m At Al ct cl n1 (by omega) ((Rt.out.below BW.out).more BW.out.size) ((Rl.out.below BW.out).more BW.out.size) _).mono ?_
    rintro e w4 ⟨rfl, hq4, k4⟩
    have B4 := keep_to_below BW.out k4 (Nat.le_refl _) HPW.out
    have I4 := HI.out.addS R C.m lk (bits BinOp.and IntKind.i64 C.which 7 == 7)
    obtain ⟨ri, rj, hrel⟩ := rel_add HI.out R C.m (bits BinOp.and IntKind.i64 C.which 7 == 7)
    have W4 := HWs.out.keep k4
    clear k4
    go_wp2_with fail
    exact HE.out _ _ _ _ _ _ _ _ _ _ _ _ _ _ _ _ _ _ _ _ _ _ _ _ _ _ _ _ _ _ _ _ _ _ _ _ _ _ _ _ _ _ _ _ _ _ _ _ _ _ _ _ _ _ _ _ _ _ _ _ _ _ _ _ _ _ _ _ hq4 I4 B4 W4 hrel
  · refine (qs_add hqW Sm.out q500' C.m At Al ct cl n1 (by omega) ((Rt.out.below BW.out).more BW.out.size) ((Rl.out.below BW.out).more BW.out.size) true).mono ?_
    rintro e w4 ⟨rfl, hq4, k4⟩
    have B4 := keep_to_below BW.out k4 (Nat.le_refl _) HPW.out
    have I4 := HI.out.addS R C.m lk (true)
    obtain ⟨ri, rj, hrel⟩ := rel_add HI.out R C.m (true)
    have W4 := HWs.out.keep k4
    clear k4
    go_wp2_with fail
    exact HE.out _ _ _ _ _ _ _ _ _ _ _ _ _ _ _ _ _ _ _ _ _ _ _ _ _ _ _ _ _ _ _ _ _ _ _ _ _ _ _ _ _ _ _ _ _ _ _ _ _ _ _ _ _ _ _ _ _ _ _ _ _ _ _ _ _ _ _ _ hq4 I4 B4 W4 hrel
  · refine (qs_due hqW Sm.out C.n).mono ?_
    rintro e w3 ⟨rfl, hq3, k3⟩
    have B3 := BW.out.trans (k3.mono BW.out.size)
    have W3 := HWs.out.below k3
    clear k3
    go_wp2_with fail
    refine (qs_take hq3 Sm.out _ _).mono ?_
    rintro e w4 ⟨rfl, hq4, k4⟩
    have B4 := keep_to_below B3 k4 (Nat.le_refl _) HPW.out
    have I4 := (HI.out.takeS (dueS q C.n).1 (dueS q C.n).2.1).more (Nat.le_succ _)
    obtain ⟨ri, rj, hrel⟩ := rel_take HI.out (dueS q C.n).1 (dueS q C.n).2.1
    have W4 := W3.keep k4
    clear k4
    go_wp2_with fail
    exact HE.out _ _ _ _ _ _ _ _ _ _ _ _ _ _ _ _ _ _ _ _ _ _ _ _ _ _ _ _ _ _ _ _ _ _ _ _ _ _ _ _ _ _ _ _ _ _ _ _ _ _ _ _ _ _ _ _ _ _ _ _ _ _ _ _ _ _ _ _ hq4 I4 B4 W4 hrel
  · refine (qs_take hqW Sm.out C.id C.k).mono ?_
    rintro e w4 ⟨rfl, hq4, k4⟩
    have B4 := keep_to_below BW.out k4 (Nat.le_refl _) HPW.out
    have I4 := (HI.out.takeS C.id C.k).more (Nat.le_succ _)
    obtain ⟨ri, rj, hrel⟩ := rel_take HI.out C.id C.k
    have W4 := HWs.out.keep k4
    clear k4
    go_wp2_with fail
    exact HE.out _ _ _ _ _ _ _ _ _ _ _ _ _ _ _ _ _ _ _ _ _ _ _ _ _ _ _ _ _ _ _ _ _ _ _ _ _ _ _ _ _ _ _ _ _ _ _ _ _ _ _ _ _ _ _ _ _ _ _ _ _ _ _ _ _ _ _ _ hq4 I4 B4 W4 hrel
  · refine (qs_sent hqW Sm.out C.id C.k).mono ?_
    rintro e w4 ⟨rfl, hq4, k4⟩
    have B4 := keep_to_below BW.out k4 (Nat.le_refl _) HPW.out
    have I4 := (HI.out.sentS C.id C.k).more (Nat.le_succ _)
    obtain ⟨ri, rj, hrel⟩ := rel_sent HI.out C.id C.k
    have W4 := HWs.out.keep k4
    clear k4
    go_wp2_with fail
    exact HE.out _ _ _ _ _ _ _ _ _ _ _ _ _ _ _ _ _ _ _ _ _ _ _ _ _ _ _ _ _ _ _ _ _ _ _ _ _ _ _ _ _ _ _ _ _ _ _ _ _ _ _ _ _ _ _ _ _ _ _ _ _ _ _ _ _ _ _ _ hq4 I4 B4 W4 hrel
  · refine (qs_later hqW Sm.out C.id C.k C.n D0 D1).mono ?_
    rintro e w4 ⟨rfl, hq4, k4⟩
    have B4 := keep_to_below BW.out k4 (Nat.le_refl _) HPW.out
    have I4 := (HI.out.laterS D C.id C.k C.n).more (Nat.le_succ _)
    obtain ⟨ri, rj, hrel⟩ := rel_later HI.out D C.id C.k C.n
    have W4 := HWs.out.keep k4
    clear k4
    go_wp2_with fail
    exact HE.out _ _ _ _ _ _ _ _ _ _ _ _ _ _ _ _ _ _ _ _ _ _ _ _ _ _ _ _ _ _ _ _ _ _ _ _ _ _ _ _ _ _ _ _ _ _ _ _ _ _ _ _ _ _ _ _ _ _ _ _ _ _ _ _ _ _ _ _ hq4 I4 B4 W4 hrel
  · refine (qs_fail hqW Sm.out C.id C.k C.n).mono ?_
    rintro e w4 ⟨rfl, hq4, k4⟩
    have B4 := keep_to_below BW.out k4 (Nat.le_refl _) HPW.out
    have I4 := (HI.out.failS C.id C.k C.n).more (Nat.le_succ _)
    obtain ⟨ri, rj, hrel⟩ := rel_fail HI.out C.id C.k C.n
    have W4 := HWs.out.keep k4
    clear k4
    go_wp2_with fail
    exact HE.out _ _ _ _ _ _ _ _ _ _ _ _ _ _ _ _ _ _ _ _ _ _ _ _ _ _ _ _ _ _ _ _ _ _ _ _ _ _ _ _ _ _ _ _ _ _ _ _ _ _ _ _ _ _ _ _ _ _ _ _ _ _ _ _ _ _ _ _ hq4 I4 B4 W4 hrel
  · skip
    exact HE.out _ _ _ _ _ _ _ _ _ _ _ _ _ _ _ _ _ _ _ _ _ _ _ _ _ _ _ _ _ _ _ _ _ _ _ _ _ _ _ _ _ _ _ _ _ _ _ _ _ _ _ _ _ _ _ _ _ _ _ _ _ _ _ _ _ _ _ _ hqW (HI.out.more (Nat.le_succ _)) BW.out HWs.out (Rel.same HI.out)
end Go.Proofs.Ytlbghgmeiajioaa
