/- QueueStates: one round. -/
import Derived.Test.YtlbghgmeiajioaaSc
import Derived.Test.YtlbghgmeiajioaaSd
import Derived.Deep.CutBlock
namespace Go.Proofs.Ytlbghgmeiajioaa
open Go.RowKit
set_option linter.unusedVariables false

set_option maxRecDepth 1000000 in
set_option maxHeartbeats 16000000 in
theorem main_round (t0 t1 t2 t4 t5 t6 t7 t8 t9 t10 t14 t15 t16 t17 t18 t19 t20 t21 t22 t23 t24 t25 t26 t27 t28 t29 t30 t31 t32 t33 t34 t35 t36 t37 t38 t39 t40 t41 t42 t43 t44 t45 t46 t47 t48 t49 t50 t51 t52 t53 t54 t55 t56 t57 t58 t59 t60 t61 t62 t63 t64 t65 t66 t67 t68 t69 t70 t71 t72 t73 t74 t75 t76 t77 t78 t79 t80 t81 t82 t83 t84 t85 t86 t87 t88 t89 t90 t91 t92 t93 t94 t95 t96 t97 t98 t99 t100 t101 t102 t103 t104 t105 t106 t107 t108 t109 t110 t111 t112 t113 t114 t115 t116 t117 t118 t119 t120 t121 t122 t123 t124 t125 t126 t127 t128 t129 t130 t131 t132 t133 t134 t135 t136 t137 t138 t139 t140 t141 t142 t143 t144 t145 t146 t147 t148 t149 t150 t151 t152 t153 t154 t155 t156 t157 t158 t159 t160 t161 t162 t163 t164 t165 t166 t167 t168 t169 t170 t171 t172 t173 t174 t175 t176 t177 t178 t179 t180 t181 t182 t183 t184 t185 t186 t187 t188 t189 t190 t191 t192 t193 t194 t195 t196 t197 t198 t199 t200 t201 t202 t203 t204 t205 t206 t207 t208 t209 t210 t211 t212 t213 t214 t215 t216 t217 t218 t219 t220 t221 t222 t223 t224 t225 t226 t227 t228 t229 t230 t231 t232 t233 t234 t235 t236 t237 t238 t239 t240 t241 t242 t243 t244 t245 t246 t247 t248 t249 t250 t251 t252 t253 t254 t255 t256 t257 t258 t259 t260 t261 t262 t263 t264 t265 t266 t267 t268 t269 t270 t271 t272 t273 t274 t275 t276 t277 t278 t279 t280 t281 t282 t283 t284 t285 t286 t287 t288 t289 t290 t291 t292 t293 t294 t295 t296 t297 t298 t299 t300 t301 t302 t303 t304 t305 : Value) (g b o k ln cc : Nat) (C : CRow) (At Al : Option Addr) (ct cl : Nat) (n1 : C.m.to.length ≤ 9223372036854775807) (lk : C.m.lines.length ≤ 50) (hlt : k < ln) (l40 : ln ≤ 40) (q : List It) (R T D : Int) (D0 : 0 ≤ D) (D1 : D ≤ 1000) (w wr : World)
    (hd : ∀ j, j < 15 → wr.cell? ⟨b, o + k * 15 + j, none⟩ = (CRow.cells C)[j]?) (e1 : C.tv = .slice At C.m.to.length ct) (e2 : C.lv = .slice Al C.m.lines.length cl)
    (hql : QS wr (fun k => k < w.heap.size) g q R T D) (Bw : Below w.heap.size w wr) (HI : Hid (Inv T k q)) (Rt : Hid (Rd w w.heap.size At (C.m.to.flatMap Pth.cells))) (Rl : Hid (Rd w w.heap.size Al (C.m.lines.map .string)))
    (Q : Exit → Act → World → Prop) (hpan : ∀ c a a' w, a.defers = a'.defers → Q (.panic c) a w → Q (.panic c) a' w)
    (HE : Hid (∀ (u8 u14 u15 u16 u17 u18 u19 u20 u21 u22 u23 u24 u25 u26 u27 u28 u50 u51 u52 u53 u54 u55 u56 u57 u58 u59 u60 u61 u62 u63 u64 u65 u66 u67 u68 u69 u70 u71 u72 u73 u74 u75 u76 u77 u78 u79 u80 u81 u82 u83 u84 u85 u86 u87 u88 u89 u90 u91 u92 u93 u94 u95 u96 u97 u98 u99 u100 u101 u102 u103 u104 u105 u106 u107 u108 u109 u110 u111 u112 u113 u114 u115 u116 u117 u118 u119 u120 u121 u122 u123 u124 u125 u126 u127 u128 u129 u130 u131 u132 u133 u134 u135 u136 u137 u138 u139 u140 u141 u142 u143 u144 u145 u146 u147 u148 u149 u150 u151 u152 u153 u154 u155 u156 u157 u158 u159 u160 u161 u162 u163 u164 u165 u166 u167 u168 u169 u170 u171 u172 u173 u174 u175 u176 u177 u178 u179 u180 u181 u182 u183 u184 u185 u186 u187 u188 u189 u190 u191 u192 u193 u194 u195 u196 u197 u198 u199 u200 u201 u202 u203 u204 u205 u206 u207 u208 u209 u210 u211 u212 u213 u214 u215 u216 u217 u218 u219 u220 u221 u222 u223 u224 u225 u226 u227 u228 u229 u230 u231 u232 u233 u234 u235 u236 u237 u238 u239 u240 u241 u242 u243 u244 u245 u246 u247 u248 u249 u250 u251 u252 u253 u254 u255 u256 u257 u258 u259 u260 u261 u262 u263 u264 u265 u266 u267 u268 u269 u270 u271 u272 u273 u274 u275 u276 u277 u278 u279 u280 u281 u282 u283 u284 u285 u286 u287 u288 u289 u290 u291 u292 u293 u294 u295 u296 u297 u298 u299 u300 u301 u302 u303 u304 : Value) (q' : List It) (w' : World), QS w' (fun k => k < w.heap.size) g q' R T D → Inv T (k + 1) q' → Below w.heap.size w w' → Q .normal ⟨List.toArray (t0 :: t1 :: t2 :: (.slice (some ⟨b, o, none⟩) ln cc) :: t4 :: t5 :: t6 :: t7 :: u8 :: t9 :: t10 :: (.pointer (some ⟨g, 0, none⟩)) :: (.int .i64 T) :: (.int .i64 ((k : Int) + 1)) :: u14 :: u15 :: u16 :: u17 :: u18 :: u19 :: u20 :: u21 :: u22 :: u23 :: u24 :: u25 :: u26 :: u27 :: u28 :: t29 :: t30 :: t31 :: t32 :: t33 :: t34 :: t35 :: t36 :: t37 :: t38 :: t39 :: t40 :: t41 :: t42 :: t43 :: t44 :: t45 :: t46 :: t47 :: t48 :: t49 :: u50 :: u51 :: u52 :: u53 :: u54 :: u55 :: u56 :: u57 :: u58 :: u59 :: u60 :: u61 :: u62 :: u63 :: u64 :: u65 :: u66 :: u67 :: u68 :: u69 :: u70 :: u71 :: u72 :: u73 :: u74 :: u75 :: u76 :: u77 :: u78 :: u79 :: u80 :: u81 :: u82 :: u83 :: u84 :: u85 :: u86 :: u87 :: u88 :: u89 :: u90 :: u91 :: u92 :: u93 :: u94 :: u95 :: u96 :: u97 :: u98 :: u99 :: u100 :: u101 :: u102 :: u103 :: u104 :: u105 :: u106 :: u107 :: u108 :: u109 :: u110 :: u111 :: u112 :: u113 :: u114 :: u115 :: u116 :: u117 :: u118 :: u119 :: u120 :: u121 :: u122 :: u123 :: u124 :: u125 :: u126 :: u127 :: u128 :: u129 :: u130 :: u131 :: u132 :: u133 :: u134 :: u135 :: u136 :: u137 :: u138 :: u139 :: u140 :: u141 :: u142 :: u143 :: u144 :: u145 :: u146 :: u147 :: u148 :: u149 :: u150 :: u151 :: u152 :: u153 :: u154 :: u155 :: u156 :: u157 :: u158 :: u159 :: u160 :: u161 :: u162 :: u163 :: u164 :: u165 :: u166 :: u167 :: u168 :: u169 :: u170 :: u171 :: u172 :: u173 :: u174 :: u175 :: u176 :: u177 :: u178 :: u179 :: u180 :: u181 :: u182 :: u183 :: u184 :: u185 :: u186 :: u187 :: u188 :: u189 :: u190 :: u191 :: u192 :: u193 :: u194 :: u195 :: u196 :: u197 :: u198 :: u199 :: u200 :: u201 :: u202 :: u203 :: u204 :: u205 :: u206 :: u207 :: u208 :: u209 :: u210 :: u211 :: u212 :: u213 :: u214 :: u215 :: u216 :: u217 :: u218 :: u219 :: u220 :: u221 :: u222 :: u223 :: u224 :: u225 :: u226 :: u227 :: u228 :: u229 :: u230 :: u231 :: u232 :: u233 :: u234 :: u235 :: u236 :: u237 :: u238 :: u239 :: u240 :: u241 :: u242 :: u243 :: u244 :: u245 :: u246 :: u247 :: u248 :: u249 :: u250 :: u251 :: u252 :: u253 :: u254 :: u255 :: u256 :: u257 :: u258 :: u259 :: u260 :: u261 :: u262 :: u263 :: u264 :: u265 :: u266 :: u267 :: u268 :: u269 :: u270 :: u271 :: u272 :: u273 :: u274 :: u275 :: u276 :: u277 :: u278 :: u279 :: u280 :: u281 :: u282 :: u283 :: u284 :: u285 :: u286 :: u287 :: u288 :: u289 :: u290 :: u291 :: u292 :: u293 :: u294 :: u295 :: u296 :: u297 :: u298 :: u299 :: u300 :: u301 :: u302 :: u303 :: u304 :: t305 :: []), []⟩ w')) :
    Code.wp Try.prog (lp4 0) Q ⟨List.toArray (t0 :: t1 :: t2 :: (.slice (some ⟨b, o, none⟩) ln cc) :: t4 :: t5 :: t6 :: t7 :: t8 :: t9 :: t10 :: (.pointer (some ⟨g, 0, none⟩)) :: (.int .i64 T) :: (.int .i64 (k : Int)) :: t14 :: t15 :: t16 :: t17 :: t18 :: t19 :: t20 :: t21 :: t22 :: t23 :: t24 :: t25 :: t26 :: t27 :: t28 :: t29 :: t30 :: t31 :: t32 :: t33 :: t34 :: t35 :: t36 :: t37 :: t38 :: t39 :: t40 :: t41 :: t42 :: t43 :: t44 :: t45 :: t46 :: t47 :: t48 :: t49 :: t50 :: t51 :: t52 :: t53 :: t54 :: t55 :: t56 :: t57 :: t58 :: t59 :: t60 :: t61 :: t62 :: t63 :: t64 :: t65 :: t66 :: t67 :: t68 :: t69 :: t70 :: t71 :: t72 :: t73 :: t74 :: t75 :: t76 :: t77 :: t78 :: t79 :: t80 :: t81 :: t82 :: t83 :: t84 :: t85 :: t86 :: t87 :: t88 :: t89 :: t90 :: t91 :: t92 :: t93 :: t94 :: t95 :: t96 :: t97 :: t98 :: t99 :: t100 :: t101 :: t102 :: t103 :: t104 :: t105 :: t106 :: t107 :: t108 :: t109 :: t110 :: t111 :: t112 :: t113 :: t114 :: t115 :: t116 :: t117 :: t118 :: t119 :: t120 :: t121 :: t122 :: t123 :: t124 :: t125 :: t126 :: t127 :: t128 :: t129 :: t130 :: t131 :: t132 :: t133 :: t134 :: t135 :: t136 :: t137 :: t138 :: t139 :: t140 :: t141 :: t142 :: t143 :: t144 :: t145 :: t146 :: t147 :: t148 :: t149 :: t150 :: t151 :: t152 :: t153 :: t154 :: t155 :: t156 :: t157 :: t158 :: t159 :: t160 :: t161 :: t162 :: t163 :: t164 :: t165 :: t166 :: t167 :: t168 :: t169 :: t170 :: t171 :: t172 :: t173 :: t174 :: t175 :: t176 :: t177 :: t178 :: t179 :: t180 :: t181 :: t182 :: t183 :: t184 :: t185 :: t186 :: t187 :: t188 :: t189 :: t190 :: t191 :: t192 :: t193 :: t194 :: t195 :: t196 :: t197 :: t198 :: t199 :: t200 :: t201 :: t202 :: t203 :: t204 :: t205 :: t206 :: t207 :: t208 :: t209 :: t210 :: t211 :: t212 :: t213 :: t214 :: t215 :: t216 :: t217 :: t218 :: t219 :: t220 :: t221 :: t222 :: t223 :: t224 :: t225 :: t226 :: t227 :: t228 :: t229 :: t230 :: t231 :: t232 :: t233 :: t234 :: t235 :: t236 :: t237 :: t238 :: t239 :: t240 :: t241 :: t242 :: t243 :: t244 :: t245 :: t246 :: t247 :: t248 :: t249 :: t250 :: t251 :: t252 :: t253 :: t254 :: t255 :: t256 :: t257 :: t258 :: t259 :: t260 :: t261 :: t262 :: t263 :: t264 :: t265 :: t266 :: t267 :: t268 :: t269 :: t270 :: t271 :: t272 :: t273 :: t274 :: t275 :: t276 :: t277 :: t278 :: t279 :: t280 :: t281 :: t282 :: t283 :: t284 :: t285 :: t286 :: t287 :: t288 :: t289 :: t290 :: t291 :: t292 :: t293 :: t294 :: t295 :: t296 :: t297 :: t298 :: t299 :: t300 :: t301 :: t302 :: t303 :: t304 :: t305 :: []), []⟩ wr := by
  have d0 : wr.cell? ⟨b, o + k * 15, none⟩ = _ := hd 0 (by decide)
  have d1 : wr.cell? ⟨b, o + k * 15 + 1, none⟩ = _ := hd 1 (by decide)
  have d2 : wr.cell? ⟨b, o + k * 15 + 2, none⟩ = _ := hd 2 (by decide)
  have d3 : wr.cell? ⟨b, o + k * 15 + 3, none⟩ = _ := hd 3 (by decide)
  have d4 : wr.cell? ⟨b, o + k * 15 + 4, none⟩ = _ := hd 4 (by decide)
  have d5 : wr.cell? ⟨b, o + k * 15 + 5, none⟩ = _ := hd 5 (by decide)
  have d6 : wr.cell? ⟨b, o + k * 15 + 6, none⟩ = _ := hd 6 (by decide)
  have d7 : wr.cell? ⟨b, o + k * 15 + 7, none⟩ = _ := hd 7 (by decide)
  have d8 : wr.cell? ⟨b, o + k * 15 + 8, none⟩ = _ := hd 8 (by decide)
  have d9 : wr.cell? ⟨b, o + k * 15 + 9, none⟩ = _ := hd 9 (by decide)
  have d10 : wr.cell? ⟨b, o + k * 15 + 10, none⟩ = _ := hd 10 (by decide)
  have d11 : wr.cell? ⟨b, o + k * 15 + 11, none⟩ = _ := hd 11 (by decide)
  have d12 : wr.cell? ⟨b, o + k * 15 + 12, none⟩ = _ := hd 12 (by decide)
  have d13 : wr.cell? ⟨b, o + k * 15 + 13, none⟩ = _ := hd 13 (by decide)
  have d14 : wr.cell? ⟨b, o + k * 15 + 14, none⟩ = _ := hd 14 (by decide)
  simp [CRow.cells, Ml.cells, e1, e2] at d0 d1 d2 d3 d4 d5 d6 d7 d8 d9 d10 d11 d12 d13 d14
  have hlt' : (k : Int) < ln := by omega
  have sm : Small q := HI.out.small (by omega)
  have Sm := Lib.hid sm
  have q500 : q.length ≤ 40 := by have := HI.out.len; omega
  have q500' : q.length ≤ 500 := by omega
  have lns : ∀ it ∈ q, it.lines.length ≤ 100000 := fun it hit => Nat.le_trans (HI.out.lines it hit) (by decide)
  have Lns := Lib.hid lns
  have kc : Bk (wr.alloc (.cells #[.int .i64 C.which, .bool C.m.frm.null, .string C.m.frm.loc, .string C.m.frm.dom, .slice At C.m.to.length ct, .slice Al C.m.lines.length cl, .bool C.m.flags.head, .bool C.m.flags.body, .bool C.m.flags.bad, .int .i64 C.m.flags.lines, .int .i64 C.m.flags.hops, .int .i64 C.m.bytes, .int .i64 C.id, .int .i64 C.k, .int .i64 C.n] 40)) wr.heap.size 40 #[.int .i64 C.which, .bool C.m.frm.null, .string C.m.frm.loc, .string C.m.frm.dom, .slice At C.m.to.length ct, .slice Al C.m.lines.length cl, .bool C.m.flags.head, .bool C.m.flags.body, .bool C.m.flags.bad, .int .i64 C.m.flags.lines, .int .i64 C.m.flags.hops, .int .i64 C.m.bytes, .int .i64 C.id, .int .i64 C.k, .int .i64 C.n] := Bk.new _ _ _
  have KC := Lib.hid kc
  have bq : QS (wr.alloc (.cells #[.int .i64 C.which, .bool C.m.frm.null, .string C.m.frm.loc, .string C.m.frm.dom, .slice At C.m.to.length ct, .slice Al C.m.lines.length cl, .bool C.m.flags.head, .bool C.m.flags.body, .bool C.m.flags.bad, .int .i64 C.m.flags.lines, .int .i64 C.m.flags.hops, .int .i64 C.m.bytes, .int .i64 C.id, .int .i64 C.k, .int .i64 C.n] 40)) (fun k => k < w.heap.size) g q R T D := hql.below ((Below.refl _ wr).alloc (Nat.le_refl _) _)
  have bb : Below w.heap.size w (wr.alloc (.cells #[.int .i64 C.which, .bool C.m.frm.null, .string C.m.frm.loc, .string C.m.frm.dom, .slice At C.m.to.length ct, .slice Al C.m.lines.length cl, .bool C.m.flags.head, .bool C.m.flags.body, .bool C.m.flags.bad, .int .i64 C.m.flags.lines, .int .i64 C.m.flags.hops, .int .i64 C.m.bytes, .int .i64 C.id, .int .i64 C.k, .int .i64 C.n] 40)) := Bw.alloc Bw.size _
  have BQ := Lib.hid bq; have BB := Lib.hid bb
  clear lns kc bq bb hql Bw sm hd e1 e2
  conv => arg 2; whnf
  go_wp2_with fail
  generalize wr.alloc (.cells #[.int .i64 C.which, .bool C.m.frm.null, .string C.m.frm.loc, .string C.m.frm.dom, .slice At C.m.to.length ct, .slice Al C.m.lines.length cl, .bool C.m.flags.head, .bool C.m.flags.body, .bool C.m.flags.bad, .int .i64 C.m.flags.lines, .int .i64 C.m.flags.hops, .int .i64 C.m.bytes, .int .i64 C.id, .int .i64 C.k, .int .i64 C.n] 40) = w3 at *
  refine was_loop _ _ _ _ _ _ _ _ _ _ _ _ _ _ _ _ _ _ _ _ _ _ _ _ _ _ _ _ _ _ _ _ _ _ _ _ _ _ _ _ _ _ _ _ _ _ _ _ _ _ _ _ _ _ _ _ _ _ _ _ _ _ _ _ _ _ _ _ _ _ _ _ _ _ _ _ _ _ _ _ _ _ _ _ _ _ _ _ _ _ _ _ _ _ _ _ _ _ _ _ _ _ _ _ _ _ _ _ _ _ _ _ _ _ _ _ _ _ _ _ _ _ _ _ _ _ _ _ _ _ _ _ _ _ _ _ _ _ _ _ _ _ _ _ _ _ _ _ _ _ _ _ _ _ _ _ _ _ _ _ _ _ _ _ _ _ _ _ _ _ _ _ _ _ _ _ _ _ _ _ _ _ _ _ _ _ _ _ _ _ _ _ _ _ _ _ _ _ _ _ _ _ _ _ _ _ _ _ _ _ _ _ _ _ _ _ _ _ _ _ _ _ _ _ _ _ _ _ _ _ _ _ _ _ _ _ _ _ _ _ _ _ _ _ _ _ _ _ _ _ _ _ _ _ _ _ _ _ _ _ _ _ _ _ _ _ _ _ _ _ _ _ _ _ _ _ _ _ _ _ _ _ _ _ _ _ _ _ _ _ _ _ _ _ _ _ _ _ _ _ _ _ _ g w3.heap.size (fun k => k < w.heap.size) q R T D w3 w3 BQ.out Sm.out Lns.out q500 (Nat.le_refl _) (Below.refl _ _) _ ?_
  intro v16 v17 v18 v60 v61 v62 v63 v64 v65 v66 v67 v68 v69 v70 v71 v72 v73 v74 v75 v rows P' w4 hqW hws hm hPP hbW
  have kc := KC.out.below hbW KC.out.lt
  have BW := Lib.hid (BB.out.trans (hbW.mono BB.out.size))
  have HWs := Lib.hid hws; have HPW := Lib.hid hPP; have HM := Lib.hid hm
  have hrl : rows.length = q.length := by rw [← hm]; simp
  have HRL := Lib.hid hrl
  obtain ⟨A0, c0, hv⟩ := own_any hws.row
  have HV := Lib.hid hv
  have HKC := Lib.hid kc
  have z0 : w4.cell? ⟨wr.heap.size, 0, none⟩ = some (.int .i64 C.which) := kc.cell 0
  clear kc hbW hws hPP hm hrl hv d0 d1 d2 d3 d4 d5 d6 d7 d8 d9 d10 d11 d12 d13 d14
  go_upto_block 4 with fail
  refine switch4 _ _ _ _ _ _ _ _ _ _ _ _ _ _ _ _ _ _ _ _ _ _ _ _ _ _ _ _ _ _ _ _ _ _ _ _ _ _ _ _ _ _ _ _ _ _ _ _ _ _ _ _ _ _ _ _ _ _ _ _ _ _ _ _ _ _ _ _ _ _ _ _ _ _ _ _ _ _ _ _ _ _ _ _ _ _ _ _ _ _ _ _ _ _ _ _ _ _ _ _ _ _ _ _ _ _ _ _ _ _ _ _ _ _ _ _ _ _ _ _ _ _ _ _ _ _ _ _ _ _ _ _ _ _ _ _ _ _ _ _ _ _ _ _ _ _ _ _ _ _ _ _ _ _ _ _ _ _ _ _ _ _ _ _ _ _ _ _ _ _ _ _ _ _ _ _ _ _ _ _ _ _ _ _ _ _ _ _ _ _ _ _ _ _ _ _ _ _ _ _ _ _ _ _ _ _ _ _ _ _ _ _ _ _ _ _ _ _ _ _ _ _ _ _ _ _ _ _ _ _ _ _ _ _ _ _ _ _ _ _ _ _ _ _ _ _ _ _ _ _ _ _ _ _ _ _ _ _ _ _ _ _ _ _ _ _ _ _ _ _ _ _ _ _ _ _ _ _ _ _ _ _ _ _ _ _ _ _ _ _ _ _ _ _ _ _ _ _ _ _ _ _ _ g wr.heap.size w3.heap.size k C At Al ct cl n1 lk P' q rows v R T D D0 D1 w w4 hqW BW HWs HPW HI (by omega) Sm q500' Rt Rl HKC.out _ (Lib.hid ?_)
  intro x19 x20 x21 x79 x80 x81 x82 x83 x84 x85 x86 x87 x88 x89 x90 x91 x92 x93 x94 x95 x96 x97 x98 x99 x100 x101 x102 x103 x104 x105 x106 x107 x108 x109 x110 x111 x112 x113 x114 x115 x116 x117 x118 x119 x120 x121 x122 x123 x124 x125 x126 x127 x128 x129 x130 x131 x132 x133 x134 x135 x136 x137 x138 x139 q' ri rj wc hq5 I5 B5 W5 hrel
  obtain rfl := HV.out
  clear z0
  have sm5 : Small q' := I5.small (by omega)
  have ln5 : ∀ it ∈ q', it.lines.length ≤ 100000 := fun it hit => Nat.le_trans (I5.lines it hit) (by decide)
  have HQ5 := Lib.hid hq5; have HI5 := Lib.hid I5; have HB5 := Lib.hid B5; have HW5 := Lib.hid W5; have HR5 := Lib.hid hrel; have Sm5 := Lib.hid sm5; have Ln5 := Lib.hid ln5
  clear hq5 I5 B5 W5 hrel sm5 ln5 hqW
  go_wp2_with fail
  refine cmp_out _ _ _ _ _ _ _ _ _ _ _ _ _ _ _ _ _ _ _ _ _ _ _ _ _ _ _ _ _ _ _ _ _ _ _ _ _ _ _ _ _ _ _ _ _ _ _ _ _ _ _ _ _ _ _ _ _ _ _ _ _ _ _ _ _ _ _ _ _ _ _ _ _ _ _ _ _ _ _ _ _ _ _ _ _ _ _ _ _ _ _ _ _ _ _ _ _ _ _ _ _ _ _ _ _ _ _ _ _ _ _ _ _ _ _ _ _ _ _ _ _ _ _ _ _ _ _ _ _ _ _ _ _ _ _ _ _ _ _ _ _ _ _ _ _ _ _ _ _ _ _ _ _ _ _ _ _ _ _ _ _ _ _ _ _ _ _ _ _ _ _ _ _ _ _ _ _ _ _ _ _ _ _ _ _ _ _ _ _ _ _ _ _ _ _ _ _ _ _ _ _ _ _ _ _ _ _ _ _ _ _ _ _ _ _ _ _ _ _ _ _ _ _ _ _ _ _ _ _ _ _ _ _ _ _ _ _ _ _ _ _ _ _ _ _ _ _ _ _ _ _ _ _ _ _ _ _ _ _ _ _ _ _ _ _ _ _ _ _ _ _ _ _ _ _ _ _ _ _ _ _ _ _ _ _ _ _ _ _ _ _ _ _ _ _ _ _ _ _ _ _ g w3.heap.size ri rj P' A0 c0 rows R T D q q' HR5.out wc HQ5.out Sm5.out Ln5.out HW5.out HM.out q500 _ (fun c a a' w hd h => hpan c a a' w hd h) ?_
  intro y8 y23 y24 y25 y26 y27 y28 y140 y141 y142 y143 y144 y145 y146 y147 y148 y149 y150 y151 y152 y153 y154 y155 y156 y157 y158 y159 y160 y161 y162 y163 y164 y165 y166 y167 y168 y169 y170 y171 y172 y173 y174 y175 y176 y177 y178 y179 y180 y181 y182 y183 y184 y185 y186 y187 y188 y189 y190 y191 y192 y193 y194 y195 y196 y197 y198 y199 y200 y201 y202 y203 y204 y205 y206 y207 y208 y209 y210 y211 y212 y213 y214 y215 y216 y217 y218 y219 y220 y221 y222 y223 y224 y225 y226 y227 y228 y229 y230 y231 y232 y233 y234 y235 y236 y237 y238 y239 y240 y241 y242 y243 y244 y245 y246 y247 y248 y249 y250 y251 y252 y253 y254 y255 y256 y257 y258 y259 y260 y261 y262 y263 y264 y265 y266 y267 y268 y269 y270 y271 y272 y273 y274 y275 y276 ch w9 hch b9
  have hq9 := HQ5.out.below b9
  have B9 := Lib.hid (HB5.out.trans (b9.mono HB5.out.size))
  have r1 := HR5.out.ge
  have r2 := HR5.out.le
  have r3 := HR5.out.none_
  have ch1 := Nat.le_trans hch (pas_le _ _ _ _)
  have hln : rows.length = q.length := HRL.out
  have e1 : ¬ 1 < ch := by omega
  have e2 : ¬ q'.length < rows.length := by omega
  have e3 : ¬ rows.length + 1 < q'.length := by omega
  have e2' : rows.length ≤ q'.length := by omega
  have rb : rows.length ≤ 40 := by omega
  by_cases hgr : rows.length < q'.length
  · have ch0 : ch = 0 := by rw [pas_far (r3 (by omega))] at hch; omega
    subst ch0
    clear r1 r2 r3 hch hln b9
    go_wp2_with fail
    refine (qs_len hq9).mono ?_
    rintro e w' ⟨rfl, rfl⟩
    go_wp2_with fail
    refine (qs_len hq9).mono ?_
    rintro e w' ⟨rfl, rfl⟩
    go_wp2_with fail
    refine (qs_len hq9).mono ?_
    rintro e w' ⟨rfl, rfl⟩
    go_wp2_with fail
    exact HE.out _ _ _ _ _ _ _ _ _ _ _ _ _ _ _ _ _ _ _ _ _ _ _ _ _ _ _ _ _ _ _ _ _ _ _ _ _ _ _ _ _ _ _ _ _ _ _ _ _ _ _ _ _ _ _ _ _ _ _ _ _ _ _ _ _ _ _ _ _ _ _ _ _ _ _ _ _ _ _ _ _ _ _ _ _ _ _ _ _ _ _ _ _ _ _ _ _ _ _ _ _ _ _ _ _ _ _ _ _ _ _ _ _ _ _ _ _ _ _ _ _ _ _ _ _ _ _ _ _ _ _ _ _ _ _ _ _ _ _ _ _ _ _ _ _ _ _ _ _ _ _ _ _ _ _ _ _ _ _ _ _ _ _ _ _ _ _ _ _ _ _ _ _ _ _ _ _ _ _ _ _ _ _ _ _ _ _ _ _ _ _ _ _ _ _ _ _ _ _ _ _ _ _ _ _ _ _ _ _ _ _ _ _ _ _ _ _ _ _ _ _ _ _ _ _ _ _ _ _ _ _ _ _ _ _ _ _ _ _ _ _ _ _ _ _ _ _ _ _ _ _ _ _ _ _ _ _ _ _ _ _ _ _ _ _ _ _ _ _ _ _ q' _ (hq9.less HPW.out) HI5.out B9.out
  · clear r1 r2 r3 hch hln b9
    go_wp2_with fail
    refine (qs_len hq9).mono ?_
    rintro e w' ⟨rfl, rfl⟩
    go_wp2_with fail
    refine (qs_len hq9).mono ?_
    rintro e w' ⟨rfl, rfl⟩
    go_wp2_with fail
    refine (qs_len hq9).mono ?_
    rintro e w' ⟨rfl, rfl⟩
    go_wp2_with fail
    exact HE.out _ _ _ _ _ _ _ _ _ _ _ _ _ _ _ _ _ _ _ _ _ _ _ _ _ _ _ _ _ _ _ _ _ _ _ _ _ _ _ _ _ _ _ _ _ _ _ _ _ _ _ _ _ _ _ _ _ _ _ _ _ _ _ _ _ _ _ _ _ _ _ _ _ _ _ _ _ _ _ _ _ _ _ _ _ _ _ _ _ _ _ _ _ _ _ _ _ _ _ _ _ _ _ _ _ _ _ _ _ _ _ _ _ _ _ _ _ _ _ _ _ _ _ _ _ _ _ _ _ _ _ _ _ _ _ _ _ _ _ _ _ _ _ _ _ _ _ _ _ _ _ _ _ _ _ _ _ _ _ _ _ _ _ _ _ _ _ _ _ _ _ _ _ _ _ _ _ _ _ _ _ _ _ _ _ _ _ _ _ _ _ _ _ _ _ _ _ _ _ _ _ _ _ _ _ _ _ _ _ _ _ _ _ _ _ _ _ _ _ _ _ _ _ _ _ _ _ _ _ _ _ _ _ _ _ _ _ _ _ _ _ _ _ _ _ _ _ _ _ _ _ _ _ _ _ _ _ _ _ _ _ _ _ _ _ _ _ _ _ _ _ q' _ (hq9.less HPW.out) HI5.out B9.out
end Go.Proofs.Ytlbghgmeiajioaa
