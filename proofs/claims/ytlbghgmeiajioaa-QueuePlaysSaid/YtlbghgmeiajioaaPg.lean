/- QueuePlays: one round. -/
import Derived.Test.YtlbghgmeiajioaaPd
import Derived.Test.YtlbghgmeiajioaaPf
import Derived.Deep.CutBlock
namespace Go.Proofs.Ytlbghgmeiajioaa
open Go.RowKit
set_option linter.unusedVariables false

set_option maxRecDepth 1000000 in
set_option maxHeartbeats 16000000 in
theorem plays_round (t0 t1 t2 t4 t5 t6 t7 t8 t9 t10 t14 t15 t16 t17 t18 t19 t20 t21 t22 t23 t24 t25 t26 t27 t28 t29 t30 t31 t32 t33 t34 t35 t36 t37 t38 t39 t40 t41 t42 t43 t44 t45 t46 t47 t48 t49 t50 t51 t52 t53 t54 t55 t56 t57 t58 t59 t60 t61 t62 t63 t64 t65 t66 t67 t68 t69 t70 t71 t72 t73 t74 t75 t76 t77 t78 t79 t80 t81 t82 t83 t84 t85 t86 t87 t88 t89 t90 t91 t92 t93 t94 t95 t96 t97 t98 t99 t100 t101 t102 t103 t104 t105 t106 t107 t108 t109 t110 t111 t112 t113 t114 t115 t116 t117 t118 t119 t120 t121 t122 t123 t124 t125 t126 t127 t128 t129 t130 t131 t132 t133 t134 t135 t136 t137 t138 t139 t140 t141 t142 t143 t144 t145 t146 t147 t148 t149 t150 t151 t152 t153 t154 t155 t156 t157 t158 t159 t160 t161 t162 t163 t164 t165 t166 t167 t168 t169 t170 t171 t172 t173 t174 t175 t176 t177 t178 t179 t180 t181 t182 t183 t184 t185 t186 t187 t188 t189 t190 t191 t192 t193 t194 t195 t196 t197 t198 t199 t200 t201 t202 t203 t204 t205 t206 t207 t208 t209 t210 t211 t212 t213 t214 t215 t216 t217 t218 t219 t220 t221 t222 t223 t224 t225 t226 t227 t228 t229 t230 t231 t232 t233 t234 t235 t236 t237 t238 t239 t240 t241 t242 t243 t244 t245 t246 t247 t248 t249 t250 t251 t252 t253 t254 t255 t256 t257 t258 t259 t260 t261 t262 t263 t264 t265 t266 t267 t268 t269 t270 t271 t272 t273 t274 t275 t276 t277 t278 t279 t280 t281 t282 t283 t284 t285 t286 t287 t288 t289 t290 t291 t292 t293 t294 t295 t296 t297 t298 t299 t300 t301 t302 t303 t304 t305 t306 t307 t308 t309 t310 t311 t312 t313 t314 t315 t316 t317 t318 t319 t320 t321 t322 t323 t324 t325 t326 t327 t328 t329 t330 t331 t332 t333 t334 t335 t336 t337 t338 t339 t340 t341 t342 t343 t344 t345 t346 t347 t348 t349 t350 t351 t352 : Value) (g1 g2 b o k ln cc : Nat) (C : CRow) (At Al : Option Addr) (ct cl : Nat) (n1 : C.m.to.length ≤ 100000) (lk : C.m.lines.length ≤ 50) (hlt : k < ln) (l40 : ln ≤ 40) (q : List It) (R T D : Int) (D0 : 0 ≤ D) (D1 : D ≤ 1000) (w wr : World)
    (hd : ∀ j, j < 15 → wr.cell? ⟨b, o + k * 15 + j, none⟩ = (CRow.cells C)[j]?) (e1 : C.tv = .slice At C.m.to.length ct) (e2 : C.lv = .slice Al C.m.lines.length cl)
    (hql : Duo wr (fun k => k < w.heap.size) g1 g2 q q R T D) (Bw : Below w.heap.size w wr) (HI : Hid (Inv T k q)) (Rt : Hid (Rd w w.heap.size At (C.m.to.flatMap Pth.cells))) (Rl : Hid (Rd w w.heap.size Al (C.m.lines.map .string)))
    (Q : Exit → Act → World → Prop) (hpan : ∀ c a a' w, a.defers = a'.defers → Q (.panic c) a w → Q (.panic c) a' w)
    (HE : Hid (∀ (u14 u15 u16 u17 u18 u19 u20 u21 u22 u23 u24 u25 u26 u27 u28 u29 u30 u31 u54 u55 u56 u57 u58 u59 u60 u61 u62 u63 u64 u65 u66 u67 u68 u69 u70 u71 u72 u73 u74 u75 u76 u77 u78 u79 u80 u81 u82 u83 u84 u85 u86 u87 u88 u89 u90 u91 u92 u93 u94 u95 u96 u97 u98 u99 u100 u101 u102 u103 u104 u105 u106 u107 u108 u109 u110 u111 u112 u113 u114 u115 u116 u117 u118 u119 u120 u121 u122 u123 u124 u125 u126 u127 u128 u129 u130 u131 u132 u133 u134 u135 u136 u137 u138 u139 u140 u141 u142 u143 u144 u145 u146 u147 u148 u149 u150 u151 u152 u153 u154 u155 u156 u157 u158 u159 u160 u161 u162 u163 u164 u165 u166 u167 u168 u169 u170 u171 u172 u173 u174 u175 u176 u177 u178 u179 u180 u181 u182 u183 u184 u185 u186 u187 u188 u189 u190 u191 u192 u193 u194 u195 u196 u197 u198 u199 u200 u201 u202 u203 u204 u205 u206 u207 u208 u209 u210 u211 u212 u213 u214 u215 u216 u217 u218 u219 u220 u221 u222 u223 u224 u225 u226 u227 u228 u229 u230 u231 u232 u233 u234 u235 u236 u237 u238 u239 u240 u241 u242 u243 u244 u245 u246 u247 u248 u249 u250 u251 u252 u253 u254 u255 u256 u257 u258 u259 u260 u261 u262 u263 u264 u265 u266 u267 u268 u269 u270 u271 u272 u273 u274 u275 u276 u277 u278 u279 u280 u281 u282 u283 u284 u285 u286 u287 u288 u289 u290 u291 u292 u293 u294 u295 u296 u297 u298 u299 u300 u301 u302 u303 u304 u305 u306 u307 u308 u309 u310 u311 u312 u313 u314 u315 u316 u317 u318 u319 u320 u321 u322 u323 u324 u325 u326 u327 u328 u329 u330 u331 u332 u333 u334 u335 u336 u337 u338 u339 u340 u341 u342 u343 u344 u345 u346 u347 u348 u349 u350 u351 : Value) (q' : List It) (w' : World), Duo w' (fun k => k < w.heap.size) g1 g2 q' q' R T D → Inv T (k + 1) q' → Below w.heap.size w w' → Q .normal ⟨List.toArray (t0 :: t1 :: t2 :: (.slice (some ⟨b, o, none⟩) ln cc) :: t4 :: t5 :: t6 :: t7 :: t8 :: t9 :: t10 :: (.pointer (some ⟨g1, 0, none⟩)) :: (.pointer (some ⟨g2, 0, none⟩)) :: (.int .i64 ((k : Int) + 1)) :: u14 :: u15 :: u16 :: u17 :: u18 :: u19 :: u20 :: u21 :: u22 :: u23 :: u24 :: u25 :: u26 :: u27 :: u28 :: u29 :: u30 :: u31 :: t32 :: t33 :: t34 :: t35 :: t36 :: t37 :: t38 :: t39 :: t40 :: t41 :: t42 :: t43 :: t44 :: t45 :: t46 :: t47 :: t48 :: t49 :: t50 :: t51 :: t52 :: t53 :: u54 :: u55 :: u56 :: u57 :: u58 :: u59 :: u60 :: u61 :: u62 :: u63 :: u64 :: u65 :: u66 :: u67 :: u68 :: u69 :: u70 :: u71 :: u72 :: u73 :: u74 :: u75 :: u76 :: u77 :: u78 :: u79 :: u80 :: u81 :: u82 :: u83 :: u84 :: u85 :: u86 :: u87 :: u88 :: u89 :: u90 :: u91 :: u92 :: u93 :: u94 :: u95 :: u96 :: u97 :: u98 :: u99 :: u100 :: u101 :: u102 :: u103 :: u104 :: u105 :: u106 :: u107 :: u108 :: u109 :: u110 :: u111 :: u112 :: u113 :: u114 :: u115 :: u116 :: u117 :: u118 :: u119 :: u120 :: u121 :: u122 :: u123 :: u124 :: u125 :: u126 :: u127 :: u128 :: u129 :: u130 :: u131 :: u132 :: u133 :: u134 :: u135 :: u136 :: u137 :: u138 :: u139 :: u140 :: u141 :: u142 :: u143 :: u144 :: u145 :: u146 :: u147 :: u148 :: u149 :: u150 :: u151 :: u152 :: u153 :: u154 :: u155 :: u156 :: u157 :: u158 :: u159 :: u160 :: u161 :: u162 :: u163 :: u164 :: u165 :: u166 :: u167 :: u168 :: u169 :: u170 :: u171 :: u172 :: u173 :: u174 :: u175 :: u176 :: u177 :: u178 :: u179 :: u180 :: u181 :: u182 :: u183 :: u184 :: u185 :: u186 :: u187 :: u188 :: u189 :: u190 :: u191 :: u192 :: u193 :: u194 :: u195 :: u196 :: u197 :: u198 :: u199 :: u200 :: u201 :: u202 :: u203 :: u204 :: u205 :: u206 :: u207 :: u208 :: u209 :: u210 :: u211 :: u212 :: u213 :: u214 :: u215 :: u216 :: u217 :: u218 :: u219 :: u220 :: u221 :: u222 :: u223 :: u224 :: u225 :: u226 :: u227 :: u228 :: u229 :: u230 :: u231 :: u232 :: u233 :: u234 :: u235 :: u236 :: u237 :: u238 :: u239 :: u240 :: u241 :: u242 :: u243 :: u244 :: u245 :: u246 :: u247 :: u248 :: u249 :: u250 :: u251 :: u252 :: u253 :: u254 :: u255 :: u256 :: u257 :: u258 :: u259 :: u260 :: u261 :: u262 :: u263 :: u264 :: u265 :: u266 :: u267 :: u268 :: u269 :: u270 :: u271 :: u272 :: u273 :: u274 :: u275 :: u276 :: u277 :: u278 :: u279 :: u280 :: u281 :: u282 :: u283 :: u284 :: u285 :: u286 :: u287 :: u288 :: u289 :: u290 :: u291 :: u292 :: u293 :: u294 :: u295 :: u296 :: u297 :: u298 :: u299 :: u300 :: u301 :: u302 :: u303 :: u304 :: u305 :: u306 :: u307 :: u308 :: u309 :: u310 :: u311 :: u312 :: u313 :: u314 :: u315 :: u316 :: u317 :: u318 :: u319 :: u320 :: u321 :: u322 :: u323 :: u324 :: u325 :: u326 :: u327 :: u328 :: u329 :: u330 :: u331 :: u332 :: u333 :: u334 :: u335 :: u336 :: u337 :: u338 :: u339 :: u340 :: u341 :: u342 :: u343 :: u344 :: u345 :: u346 :: u347 :: u348 :: u349 :: u350 :: u351 :: t352 :: []), []⟩ w')) :
    Code.wp Try.prog (lp3 0) Q ⟨List.toArray (t0 :: t1 :: t2 :: (.slice (some ⟨b, o, none⟩) ln cc) :: t4 :: t5 :: t6 :: t7 :: t8 :: t9 :: t10 :: (.pointer (some ⟨g1, 0, none⟩)) :: (.pointer (some ⟨g2, 0, none⟩)) :: (.int .i64 (k : Int)) :: t14 :: t15 :: t16 :: t17 :: t18 :: t19 :: t20 :: t21 :: t22 :: t23 :: t24 :: t25 :: t26 :: t27 :: t28 :: t29 :: t30 :: t31 :: t32 :: t33 :: t34 :: t35 :: t36 :: t37 :: t38 :: t39 :: t40 :: t41 :: t42 :: t43 :: t44 :: t45 :: t46 :: t47 :: t48 :: t49 :: t50 :: t51 :: t52 :: t53 :: t54 :: t55 :: t56 :: t57 :: t58 :: t59 :: t60 :: t61 :: t62 :: t63 :: t64 :: t65 :: t66 :: t67 :: t68 :: t69 :: t70 :: t71 :: t72 :: t73 :: t74 :: t75 :: t76 :: t77 :: t78 :: t79 :: t80 :: t81 :: t82 :: t83 :: t84 :: t85 :: t86 :: t87 :: t88 :: t89 :: t90 :: t91 :: t92 :: t93 :: t94 :: t95 :: t96 :: t97 :: t98 :: t99 :: t100 :: t101 :: t102 :: t103 :: t104 :: t105 :: t106 :: t107 :: t108 :: t109 :: t110 :: t111 :: t112 :: t113 :: t114 :: t115 :: t116 :: t117 :: t118 :: t119 :: t120 :: t121 :: t122 :: t123 :: t124 :: t125 :: t126 :: t127 :: t128 :: t129 :: t130 :: t131 :: t132 :: t133 :: t134 :: t135 :: t136 :: t137 :: t138 :: t139 :: t140 :: t141 :: t142 :: t143 :: t144 :: t145 :: t146 :: t147 :: t148 :: t149 :: t150 :: t151 :: t152 :: t153 :: t154 :: t155 :: t156 :: t157 :: t158 :: t159 :: t160 :: t161 :: t162 :: t163 :: t164 :: t165 :: t166 :: t167 :: t168 :: t169 :: t170 :: t171 :: t172 :: t173 :: t174 :: t175 :: t176 :: t177 :: t178 :: t179 :: t180 :: t181 :: t182 :: t183 :: t184 :: t185 :: t186 :: t187 :: t188 :: t189 :: t190 :: t191 :: t192 :: t193 :: t194 :: t195 :: t196 :: t197 :: t198 :: t199 :: t200 :: t201 :: t202 :: t203 :: t204 :: t205 :: t206 :: t207 :: t208 :: t209 :: t210 :: t211 :: t212 :: t213 :: t214 :: t215 :: t216 :: t217 :: t218 :: t219 :: t220 :: t221 :: t222 :: t223 :: t224 :: t225 :: t226 :: t227 :: t228 :: t229 :: t230 :: t231 :: t232 :: t233 :: t234 :: t235 :: t236 :: t237 :: t238 :: t239 :: t240 :: t241 :: t242 :: t243 :: t244 :: t245 :: t246 :: t247 :: t248 :: t249 :: t250 :: t251 :: t252 :: t253 :: t254 :: t255 :: t256 :: t257 :: t258 :: t259 :: t260 :: t261 :: t262 :: t263 :: t264 :: t265 :: t266 :: t267 :: t268 :: t269 :: t270 :: t271 :: t272 :: t273 :: t274 :: t275 :: t276 :: t277 :: t278 :: t279 :: t280 :: t281 :: t282 :: t283 :: t284 :: t285 :: t286 :: t287 :: t288 :: t289 :: t290 :: t291 :: t292 :: t293 :: t294 :: t295 :: t296 :: t297 :: t298 :: t299 :: t300 :: t301 :: t302 :: t303 :: t304 :: t305 :: t306 :: t307 :: t308 :: t309 :: t310 :: t311 :: t312 :: t313 :: t314 :: t315 :: t316 :: t317 :: t318 :: t319 :: t320 :: t321 :: t322 :: t323 :: t324 :: t325 :: t326 :: t327 :: t328 :: t329 :: t330 :: t331 :: t332 :: t333 :: t334 :: t335 :: t336 :: t337 :: t338 :: t339 :: t340 :: t341 :: t342 :: t343 :: t344 :: t345 :: t346 :: t347 :: t348 :: t349 :: t350 :: t351 :: t352 :: []), []⟩ wr := by
  have d0 : wr.cell? ⟨b, o + k * 15, none⟩ = _ := hd 0 (by decide)
  have d1 : wr.cell? ⟨b, o + k * 15 + 1, none⟩ = _ := hd 1 (by decide)
  have d2 : wr.cell? ⟨b, o + k * 15 + 2, none⟩ = _ := hd 2 (by decide)
  have d3 : wr.cell? ⟨b, o + k * 15 + 3, none⟩ = _ := hd 3 (by decide)
  have d4 : wr.cell? ⟨b, o + k * 15 + 4, none⟩ = _ := hd 4 (by decide)
  have d5 : wr.cell? ⟨b, o + k * 15 + 5, none⟩ = _ := hd 5 (by decide)
  have d6 : wr.cell? ⟨b, o + k * 15 + 6, none⟩ = _ := hd 6 (by decide)
  have d7 : wr.cell? ⟨b, o + k * 15 + 7, none⟩ = _ := hd 7 (by decide)
  have d8 : wr.cell? ⟨b, o + k * 15 + 8, none⟩ = _ := hd 8 (by decide)
  have d9 : wr.cell? ⟨b, o + k * 15 + 9, none⟩ = _ := hd 9 (by decide)
  have d10 : wr.cell? ⟨b, o + k * 15 + 10, none⟩ = _ := hd 10 (by decide)
  have d11 : wr.cell? ⟨b, o + k * 15 + 11, none⟩ = _ := hd 11 (by decide)
  have d12 : wr.cell? ⟨b, o + k * 15 + 12, none⟩ = _ := hd 12 (by decide)
  have d13 : wr.cell? ⟨b, o + k * 15 + 13, none⟩ = _ := hd 13 (by decide)
  have d14 : wr.cell? ⟨b, o + k * 15 + 14, none⟩ = _ := hd 14 (by decide)
  simp [CRow.cells, Ml.cells, e1, e2] at d0 d1 d2 d3 d4 d5 d6 d7 d8 d9 d10 d11 d12 d13 d14
  have hlt' : (k : Int) < ln := by omega
  have sm : Small q := HI.out.small (by omega)
  have Sm := Lib.hid sm
  have q500 : q.length ≤ 500 := by have := HI.out.len; omega
  have Q5 := Lib.hid q500
  have kc : Bk (wr.alloc (.cells #[.int .i64 C.which, .bool C.m.frm.null, .string C.m.frm.loc, .string C.m.frm.dom, .slice At C.m.to.length ct, .slice Al C.m.lines.length cl, .bool C.m.flags.head, .bool C.m.flags.body, .bool C.m.flags.bad, .int .i64 C.m.flags.lines, .int .i64 C.m.flags.hops, .int .i64 C.m.bytes, .int .i64 C.id, .int .i64 C.k, .int .i64 C.n] 40)) wr.heap.size 40 #[.int .i64 C.which, .bool C.m.frm.null, .string C.m.frm.loc, .string C.m.frm.dom, .slice At C.m.to.length ct, .slice Al C.m.lines.length cl, .bool C.m.flags.head, .bool C.m.flags.body, .bool C.m.flags.bad, .int .i64 C.m.flags.lines, .int .i64 C.m.flags.hops, .int .i64 C.m.bytes, .int .i64 C.id, .int .i64 C.k, .int .i64 C.n] := Bk.new _ _ _
  have bq := hql.grow (S := fun _ => False) (Only.of_below ((Below.refl _ wr).alloc (Nat.le_refl _) (.cells #[.int .i64 C.which, .bool C.m.frm.null, .string C.m.frm.loc, .string C.m.frm.dom, .slice At C.m.to.length ct, .slice Al C.m.lines.length cl, .bool C.m.flags.head, .bool C.m.flags.body, .bool C.m.flags.bad, .int .i64 C.m.flags.lines, .int .i64 C.m.flags.hops, .int .i64 C.m.bytes, .int .i64 C.id, .int .i64 C.k, .int .i64 C.n] 40))) (fun k hk => hk.elim)
  have bb : Below w.heap.size w (wr.alloc (.cells #[.int .i64 C.which, .bool C.m.frm.null, .string C.m.frm.loc, .string C.m.frm.dom, .slice At C.m.to.length ct, .slice Al C.m.lines.length cl, .bool C.m.flags.head, .bool C.m.flags.body, .bool C.m.flags.bad, .int .i64 C.m.flags.lines, .int .i64 C.m.flags.hops, .int .i64 C.m.bytes, .int .i64 C.id, .int .i64 C.k, .int .i64 C.n] 40)) := Bw.alloc Bw.size _
  obtain ⟨w3, hw3⟩ : ∃ w3, wr.alloc (.cells #[.int .i64 C.which, .bool C.m.frm.null, .string C.m.frm.loc, .string C.m.frm.dom, .slice At C.m.to.length ct, .slice Al C.m.lines.length cl, .bool C.m.flags.head, .bool C.m.flags.body, .bool C.m.flags.bad, .int .i64 C.m.flags.lines, .int .i64 C.m.flags.hops, .int .i64 C.m.bytes, .int .i64 C.id, .int .i64 C.k, .int .i64 C.n] 40) = w3 := ⟨_, rfl⟩
  rw [hw3] at kc bq bb
  obtain ⟨P', hP'⟩ : ∃ P' : Nat → Prop, (fun k => k < w.heap.size ∨ (wr.heap.size ≤ k ∧ k < w3.heap.size)) = P' := ⟨_, rfl⟩
  rw [hP'] at bq
  have hX : P' wr.heap.size := by rw [← hP']; exact .inr ⟨Nat.le_refl _, kc.lt⟩
  have hpw : ∀ k, k < w.heap.size → P' k := fun k hk => by rw [← hP']; exact .inl hk
  have HX := Lib.hid hX; have HPW := Lib.hid hpw
  have KC := Lib.hid kc; have BQ := Lib.hid bq; have BB := Lib.hid bb
  have z0 := kc.cell 0
  simp at z0
  clear kc bq bb hql Bw sm hd e1 e2 hX hpw q500 hP'
  conv => arg 2; whnf
  go_upto_block 2 with fail
  try rw [hw3]
  clear d0 d1 d2 d3 d4 d5 d6 d7 d8 d9 d10 d11 d12 d13 d14 z0 hw3
  obtain ⟨X, hXe⟩ : ∃ X, wr.heap.size = X := ⟨_, rfl⟩
  rw [hXe] at HX KC ⊢
  clear hXe
  refine switch3 _ _ _ _ _ _ _ _ _ _ _ _ _ _ _ _ _ _ _ _ _ _ _ _ _ _ _ _ _ _ _ _ _ _ _ _ _ _ _ _ _ _ _ _ _ _ _ _ _ _ _ _ _ _ _ _ _ _ _ _ _ _ _ _ _ _ _ _ _ _ _ _ _ _ _ _ _ _ _ _ _ _ _ _ _ _ _ _ _ _ _ _ _ _ _ _ _ _ _ _ _ _ _ _ _ _ _ _ _ _ _ _ _ _ _ _ _ _ _ _ _ _ _ _ _ _ _ _ _ _ _ _ _ _ _ _ _ _ _ _ _ _ _ _ _ _ _ _ _ _ _ _ _ _ _ _ _ _ _ _ _ _ _ _ _ _ _ _ _ _ _ _ _ _ _ _ _ _ _ _ _ _ _ _ _ _ _ _ _ _ _ _ _ _ _ _ _ _ _ _ _ _ _ _ _ _ _ _ _ _ _ _ _ _ _ _ _ _ _ _ _ _ _ _ _ _ _ _ _ _ _ _ _ _ _ _ _ _ _ _ _ _ _ _ _ _ _ _ _ _ _ _ _ _ _ _ _ _ _ _ _ _ _ _ _ _ _ _ _ _ _ _ _ _ _ _ _ _ _ _ _ _ _ _ _ _ _ _ _ _ _ _ _ _ _ _ _ _ _ _ _ _ _ _ _ _ _ _ _ _ _ _ _ _ _ _ _ _ _ _ _ _ _ _ _ _ _ _ _ _ _ _ _ _ _ _ _ _ _ _ _ _ _ _ _ _ _ _ _ w.heap.size g1 g2 X k P' q R T D C At Al ct cl w w3 BQ.out Sm HX.out HPW (Nat.le_refl _) BB.out D0 D1 HI KC.out n1 lk Q5.out Rt Rl _ (fun c a a' w hd h => hpan c a a' w hd h) (Lib.hid ?_)
  intro x15 x16 x17 x18 x19 x20 x21 x22 x23 x24 x25 x26 x27 x67 x68 x69 x70 x71 x72 x73 x74 x75 x76 x77 x78 x79 x80 x81 x82 x83 x84 x85 x86 x87 x88 x89 x90 x91 x92 x93 x94 x95 x96 x97 x98 x99 x100 x101 x102 x103 x104 x105 x106 x107 x108 x109 x110 x111 x112 x113 x114 x115 x116 x117 x118 x119 x120 x121 x122 x123 x124 x125 x126 x127 x128 x129 x130 x131 x132 x133 x134 x135 x136 x137 x138 x139 x140 x141 x142 x143 x144 x145 x146 x147 x148 x149 x150 x151 x152 x153 x154 x155 x156 x157 x158 x159 x160 x161 x162 x163 x164 x165 x166 x167 x168 x169 x170 x171 x172 x173 x174 x175 x176 x177 x178 x179 x180 x181 x182 x183 x184 x185 x186 x187 x188 x189 x190 x191 x192 x193 x194 x195 x196 x197 x198 x199 x200 x201 x202 x203 x204 x205 x206 x207 x208 x209 x210 x211 x212 x213 x214 x215 x216 x217 x218 x219 x220 x221 x222 x223 x224 x225 x226 x227 x228 x229 x230 x231 x232 x233 x234 x235 x236 x237 x238 x239 x240 x241 x242 x243 x244 x245 x246 x247 x248 x249 x250 x251 x252 x253 x254 x255 x256 x257 x258 x259 x260 q' w5 du5 i5 kc5 b5
  have sm5 : Small q' := i5.small (by omega)
  have z12 := kc5.cell 12
  simp at z12
  have DU5 := Lib.hid du5; have I5 := Lib.hid i5; have KC5 := Lib.hid kc5; have B5 := Lib.hid b5; have Sm5 := Lib.hid sm5
  clear du5 i5 kc5 b5 sm5 BQ Sm KC BB HX Rt Rl Q5 HI
  by_cases hdec : 1 ≤ C.id ∧ C.id ≤ (q'.length : Int)
  · obtain ⟨i, hid5, hi⟩ : ∃ i : Nat, C.id = (i : Int) + 1 ∧ i < q'.length := ⟨(C.id - 1).toNat, by omega, by omega⟩
    obtain ⟨I, hI⟩ : ∃ I, q'[i] = I := ⟨_, rfl⟩
    have hiid : I.id = (i : Int) + 1 := by rw [← hI]; exact I5.out.ids i hi
    have hI1 : I.to.length ≤ 1000 := by have := I5.out.to I (hI ▸ List.getElem_mem hi); omega
    have hI2 : I.lines.length ≤ 100000 := by have := I5.out.lines I (hI ▸ List.getElem_mem hi); omega
    have hI2' : q'[i].lines.length ≤ 100000 := by rw [hI]; exact hI2
    rw [hid5] at z12
    obtain ⟨P1, hq1, hp1, back1⟩ := DU5.out.one
    clear hp1 back1
    have HII := Lib.hid hI; have HID := Lib.hid hiid; have HI1 := Lib.hid hI1; have HI2 := Lib.hid hI2; have HI2' := Lib.hid hI2'
    have HH := Lib.hid hi; have H5 := Lib.hid hid5
    clear hI hiid hI1 hI2 hI2' hid5 hdec
    go_wp2_with fail
    refine (qs_item hq1 Sm5.out i hi HI2'.out).mono ?_
    rintro e w6 ⟨tv, lv, rfl, how, _, k6⟩
    rw [HII.out] at how
    simp only [HII.out, Row.cells, HID.out]
    obtain ⟨ot, ol⟩ := how
    obtain ⟨A1, c1, e1⟩ := own_any ot
    obtain ⟨A2, c2, e2⟩ := own_any ol
    simp only at e1 e2 ot ol
    subst e1 e2
    have cX6 : w6.cell? ⟨X, 12, none⟩ = _ := (k6.cell (p := ⟨X, 12, none⟩) KC5.out.lt).trans z12
    have ky : Bk (w6.alloc (.cells #[.int .i64 ((i : Int) + 1), .bool I.frm.null, .string I.frm.loc, .string I.frm.dom, .slice A1 I.to.length c1, .slice A2 I.lines.length c2, .bool I.flags.head, .bool I.flags.body, .bool I.flags.bad, .int .i64 I.flags.lines, .int .i64 I.flags.hops, .int .i64 I.bytes] 51)) w6.heap.size 51 _ := Bk.new _ _ _
    have KY := Lib.hid ky
    have b57 : Below w5.heap.size w5 (w6.alloc (.cells #[.int .i64 ((i : Int) + 1), .bool I.frm.null, .string I.frm.loc, .string I.frm.dom, .slice A1 I.to.length c1, .slice A2 I.lines.length c2, .bool I.flags.head, .bool I.flags.body, .bool I.flags.bad, .int .i64 I.flags.lines, .int .i64 I.flags.hops, .int .i64 I.bytes] 51)) := k6.alloc k6.size _
    have o17 : (w6.alloc (.cells #[.int .i64 ((i : Int) + 1), .bool I.frm.null, .string I.frm.loc, .string I.frm.dom, .slice A1 I.to.length c1, .slice A2 I.lines.length c2, .bool I.flags.head, .bool I.flags.body, .bool I.flags.bad, .int .i64 I.flags.lines, .int .i64 I.flags.hops, .int .i64 I.bytes] 51)).ownsRow w5.heap.size 60 7 (.slice A1 I.to.length c1) I.to.length _ := ot.alloc _
    have o27 : (w6.alloc (.cells #[.int .i64 ((i : Int) + 1), .bool I.frm.null, .string I.frm.loc, .string I.frm.dom, .slice A1 I.to.length c1, .slice A2 I.lines.length c2, .bool I.flags.head, .bool I.flags.body, .bool I.flags.bad, .int .i64 I.flags.lines, .int .i64 I.flags.hops, .int .i64 I.bytes] 51)).ownsRow w5.heap.size 9 1 (.slice A2 I.lines.length c2) I.lines.length _ := ol.alloc _
    have cX7 := ((Below.refl w6.heap.size w6).alloc (Nat.le_refl _) (.cells #[.int .i64 ((i : Int) + 1), .bool I.frm.null, .string I.frm.loc, .string I.frm.dom, .slice A1 I.to.length c1, .slice A2 I.lines.length c2, .bool I.flags.head, .bool I.flags.body, .bool I.flags.bad, .int .i64 I.flags.lines, .int .i64 I.flags.hops, .int .i64 I.bytes] 51)).cell (p := ⟨X, 12, none⟩) (Nat.lt_of_lt_of_le KC5.out.lt k6.size)
    replace cX7 := cX7.trans cX6
    obtain ⟨w7, hw7⟩ : ∃ w7, w6.alloc (.cells #[.int .i64 ((i : Int) + 1), .bool I.frm.null, .string I.frm.loc, .string I.frm.dom, .slice A1 I.to.length c1, .slice A2 I.lines.length c2, .bool I.flags.head, .bool I.flags.body, .bool I.flags.bad, .int .i64 I.flags.lines, .int .i64 I.flags.hops, .int .i64 I.bytes] 51) = w7 := ⟨_, rfl⟩
    rw [hw7] at KY b57 o17 o27 cX7
    have B57 := Lib.hid b57; have O17 := Lib.hid o17; have O27 := Lib.hid o27; have CX7 := Lib.hid cX7; have DU7 := Lib.hid (DU5.out.below b57)
    have lX7 := Lib.hid (Nat.lt_of_lt_of_le KC5.out.lt b57.size)
    clear b57 o17 o27 cX7 cX6 ky ot ol k6 z12 hq1
    go_wp2_with fail
    try rw [hw7]
    have hI1 := HI1.out
    have hI2 := HI2.out
    have q1k : q'.length ≤ 1000 := by have := I5.out.len; omega
    refine chk_yes _ _ _ _ _ _ _ _ _ _ _ _ _ _ _ _ _ _ _ _ _ _ _ _ _ _ _ _ _ _ _ _ _ _ _ _ _ _ _ _ _ _ _ _ _ _ _ _ _ _ _ _ _ _ _ _ _ _ _ _ _ _ _ _ _ _ _ _ _ _ _ _ _ _ _ _ _ _ _ _ _ _ _ _ _ _ _ _ _ _ _ _ _ _ _ _ _ _ _ _ _ _ _ _ _ _ _ _ _ _ _ _ _ _ _ _ _ _ _ _ _ _ _ _ _ _ _ _ _ _ _ _ _ _ _ _ _ _ _ _ _ _ _ _ _ _ _ _ _ _ _ _ _ _ _ _ _ _ _ _ _ _ _ _ _ _ _ _ _ _ _ _ _ _ _ _ _ _ _ _ _ _ _ _ _ _ _ _ _ _ _ _ _ _ _ _ _ _ _ _ _ _ _ _ _ _ _ _ _ _ _ _ _ _ _ _ _ _ _ _ _ _ _ _ _ _ _ _ _ _ _ _ _ _ _ _ _ _ _ _ _ _ _ _ _ _ _ _ _ _ _ _ _ _ _ _ _ _ _ _ _ _ _ _ _ _ _ _ _ _ _ _ _ _ _ _ _ _ _ _ _ _ _ _ _ _ _ _ _ _ _ _ _ _ _ _ _ _ _ _ _ _ _ _ _ _ _ _ _ _ _ _ _ _ _ _ _ _ _ _ _ _ _ _ _ _ _ _ _ _ _ _ _ _ _ _ _ _ _ _ _ _ _ _ _ _ _ _ g1 g2 X w6.heap.size P' q' R T D i HH.out q1k I HII.out HID.out w7 DU7.out Sm5 CX7.out lX7.out A1 A2 c1 c2 w5.heap.size KY.out O17.out O27.out hI1 hI2 _ (fun c a a' w hd h => hpan c a a' w hd h) ?_
    intro y268 y269 y270 y271 y272 y273 y274 y275 y276 y277 y278 y279 y280 y281 y282 y283 y284 y285 y286 y287 y288 y289 y290 y291 y292 y293 y294 y295 y296 y297 y298 y299 y300 y301 y302 y303 y304 y305 y306 y307 y308 y309 y310 y311 y312 y313 y314 y315 y316 y317 y318 y319 y320 y321 y322 y323 y324 y325 y326 y327 w8 b8
    have k8 := (KY.out).below b8 KY.out.lt
    have p1 := own_only (S := fun _ => False) O17.out (Only.of_below b8) (fun _ _ h => h)
    have p2 := own_only (S := fun _ => False) O27.out (Only.of_below b8) (fun _ _ h => h)
    have b58 := B57.out.trans (b8.mono B57.out.size)
    have du8 := DU5.out.grow (S := fun _ => False) (Only.of_below b58) (fun k hk => hk.elim)
    have bb8 := B5.out.trans (b58.mono B5.out.size)
    have K8 := Lib.hid k8; have O1 := Lib.hid p1; have O2 := Lib.hid p2; have DU8 := Lib.hid du8; have B8 := Lib.hid bb8
    clear b8 k8 p1 p2 b58 du8 bb8
    go_wp2_with fail
    refine spoil_a_to _ _ _ _ _ _ _ _ _ _ _ _ _ _ _ _ _ _ _ _ _ _ _ _ _ _ _ _ _ _ _ _ _ _ _ _ _ _ _ _ _ _ _ _ _ _ _ _ _ _ _ _ _ _ _ _ _ _ _ _ _ _ _ _ _ _ _ _ _ _ _ _ _ _ _ _ _ _ _ _ _ _ _ _ _ _ _ _ _ _ _ _ _ _ _ _ _ _ _ _ _ _ _ _ _ _ _ _ _ _ _ _ _ _ _ _ _ _ _ _ _ _ _ _ _ _ _ _ _ _ _ _ _ _ _ _ _ _ _ _ _ _ _ _ _ _ _ _ _ _ _ _ _ _ _ _ _ _ _ _ _ _ _ _ _ _ _ _ _ _ _ _ _ _ _ _ _ _ _ _ _ _ _ _ _ _ _ _ _ _ _ _ _ _ _ _ _ _ _ _ _ _ _ _ _ _ _ _ _ _ _ _ _ _ _ _ _ _ _ _ _ _ _ _ _ _ _ _ _ _ _ _ _ _ _ _ _ _ _ _ _ _ _ _ _ _ _ _ _ _ _ _ _ _ _ _ _ _ _ _ _ _ _ _ _ _ _ _ _ _ _ _ _ _ _ _ _ _ _ _ _ _ _ _ _ _ _ _ _ _ _ _ _ _ _ _ _ _ _ _ _ _ _ _ _ _ _ _ _ _ _ _ _ _ _ _ _ _ _ _ _ _ _ _ _ _ _ _ _ _ _ _ _ _ _ _ _ _ _ _ _ _ _ _ _ _ _ _ _ _ _ _ _ A1 c1 I.to.length 51 _ w8 K8.out (by decide) rfl _ O1.out (by omega) _ ?_
    intro s30 s329 s330 s331 s332 s333 s334 s335 s336 s337 s338 s339 s340 w9 on9
    have p2 := own_only O2.out on9 (fun k hk => ne_of_types O2.out O1.out (by decide) k hk)
    have k9 : Bk w9 _ 51 _ := K8.out.same (on9.block _ K8.out.lt (own_ne O1.out K8.out (by decide)))
    have du9 := DU8.out.only on9 (fun k hk => .inr ⟨(O1.out.lt k hk).1, (O1.out.lt k hk).2⟩)
    have b9 := Only.belowOf B8.out on9 (Nat.le_refl _) (fun k hk => Nat.le_trans B5.out.size (O1.out.lt k hk).1)
    have K9 := Lib.hid k9; have O29 := Lib.hid p2; have DU9 := Lib.hid du9; have B9 := Lib.hid b9
    clear on9 p2 k9 du9 b9
    go_wp2_with fail
    refine spoil_a_lines _ _ _ _ _ _ _ _ _ _ _ _ _ _ _ _ _ _ _ _ _ _ _ _ _ _ _ _ _ _ _ _ _ _ _ _ _ _ _ _ _ _ _ _ _ _ _ _ _ _ _ _ _ _ _ _ _ _ _ _ _ _ _ _ _ _ _ _ _ _ _ _ _ _ _ _ _ _ _ _ _ _ _ _ _ _ _ _ _ _ _ _ _ _ _ _ _ _ _ _ _ _ _ _ _ _ _ _ _ _ _ _ _ _ _ _ _ _ _ _ _ _ _ _ _ _ _ _ _ _ _ _ _ _ _ _ _ _ _ _ _ _ _ _ _ _ _ _ _ _ _ _ _ _ _ _ _ _ _ _ _ _ _ _ _ _ _ _ _ _ _ _ _ _ _ _ _ _ _ _ _ _ _ _ _ _ _ _ _ _ _ _ _ _ _ _ _ _ _ _ _ _ _ _ _ _ _ _ _ _ _ _ _ _ _ _ _ _ _ _ _ _ _ _ _ _ _ _ _ _ _ _ _ _ _ _ _ _ _ _ _ _ _ _ _ _ _ _ _ _ _ _ _ _ _ _ _ _ _ _ _ _ _ _ _ _ _ _ _ _ _ _ _ _ _ _ _ _ _ _ _ _ _ _ _ _ _ _ _ _ _ _ _ _ _ _ _ _ _ _ _ _ _ _ _ _ _ _ _ _ _ _ _ _ _ _ _ _ _ _ _ _ _ _ _ _ _ _ _ _ _ _ _ _ _ _ _ _ _ _ _ _ _ _ _ _ _ _ _ _ _ _ _ A2 c2 I.lines.length 51 _ w9 K9.out (by decide) rfl _ O29.out (by omega) _ ?_
    intro r31 r341 r342 r343 r344 r345 r346 r347 r348 r349 r350 r351 wx on10
    have du10 := DU9.out.only on10 (fun k hk => .inr ⟨(O2.out.lt k hk).1, (O2.out.lt k hk).2⟩)
    have b10 := Only.belowOf B9.out on10 (Nat.le_refl _) (fun k hk => Nat.le_trans B5.out.size (O29.out.lt k hk).1)
    have D10 := Lib.hid (du10.less (P' := fun k => k < w.heap.size) (fun k hk => .inl (HPW.out k hk)))
    have B10 := Lib.hid b10
    clear on10 du10 b10
    go_wp2_with fail
    
    exact HE.out _ _ _ _ _ _ _ _ _ _ _ _ _ _ _ _ _ _ _ _ _ _ _ _ _ _ _ _ _ _ _ _ _ _ _ _ _ _ _ _ _ _ _ _ _ _ _ _ _ _ _ _ _ _ _ _ _ _ _ _ _ _ _ _ _ _ _ _ _ _ _ _ _ _ _ _ _ _ _ _ _ _ _ _ _ _ _ _ _ _ _ _ _ _ _ _ _ _ _ _ _ _ _ _ _ _ _ _ _ _ _ _ _ _ _ _ _ _ _ _ _ _ _ _ _ _ _ _ _ _ _ _ _ _ _ _ _ _ _ _ _ _ _ _ _ _ _ _ _ _ _ _ _ _ _ _ _ _ _ _ _ _ _ _ _ _ _ _ _ _ _ _ _ _ _ _ _ _ _ _ _ _ _ _ _ _ _ _ _ _ _ _ _ _ _ _ _ _ _ _ _ _ _ _ _ _ _ _ _ _ _ _ _ _ _ _ _ _ _ _ _ _ _ _ _ _ _ _ _ _ _ _ _ _ _ _ _ _ _ _ _ _ _ _ _ _ _ _ _ _ _ _ _ _ _ _ _ _ _ _ _ _ _ _ _ _ _ _ _ _ _ _ _ _ _ _ _ _ _ _ _ _ _ _ _ _ _ _ _ _ _ _ _ _ _ _ _ _ _ _ _ _ _ _ _ _ _ _ _ _ _ _ _ _ _ _ q' wx D10.out I5.out B10.out
  · by_cases hneg : C.id < 1
    · have hno : C.id < 1 ∨ (q'.length : Int) < C.id := by omega
      obtain ⟨P1, hq1, hp1, back1⟩ := DU5.out.one
      clear hp1 back1
      have HNO := Lib.hid hno; have HD := Lib.hid hneg
      clear hno hneg
      go_wp2_with fail
      refine (qs_noitem hq1 Sm5.out C.id HNO.out).mono ?_
      rintro e w6 ⟨rfl, _, k6⟩
      simp only [zeroIt]
      have cX6 : w6.cell? ⟨X, 12, none⟩ = _ := (k6.cell (p := ⟨X, 12, none⟩) KC5.out.lt).trans z12
      have ky : Bk (w6.alloc (.cells #[.int .i64 0, .bool false, .string ⟨#[]⟩, .string ⟨#[]⟩, .slice none 0 0, .slice none 0 0, .bool false, .bool false, .bool false, .int .i64 0, .int .i64 0, .int .i64 0] 51)) w6.heap.size 51 _ := Bk.new _ _ _
      have KY := Lib.hid ky
      have b57 : Below w5.heap.size w5 (w6.alloc (.cells #[.int .i64 0, .bool false, .string ⟨#[]⟩, .string ⟨#[]⟩, .slice none 0 0, .slice none 0 0, .bool false, .bool false, .bool false, .int .i64 0, .int .i64 0, .int .i64 0] 51)) := k6.alloc k6.size _
      have cX7 := ((Below.refl w6.heap.size w6).alloc (Nat.le_refl _) (.cells #[.int .i64 0, .bool false, .string ⟨#[]⟩, .string ⟨#[]⟩, .slice none 0 0, .slice none 0 0, .bool false, .bool false, .bool false, .int .i64 0, .int .i64 0, .int .i64 0] 51)).cell (p := ⟨X, 12, none⟩) (Nat.lt_of_lt_of_le KC5.out.lt k6.size)
      replace cX7 := cX7.trans cX6
      obtain ⟨w7, hw7⟩ : ∃ w7, w6.alloc (.cells #[.int .i64 0, .bool false, .string ⟨#[]⟩, .string ⟨#[]⟩, .slice none 0 0, .slice none 0 0, .bool false, .bool false, .bool false, .int .i64 0, .int .i64 0, .int .i64 0] 51) = w7 := ⟨_, rfl⟩
      rw [hw7] at KY b57 cX7
      have B57 := Lib.hid b57; have CX7 := Lib.hid cX7; have DU7 := Lib.hid (DU5.out.below b57)
      have lX7 := Lib.hid (Nat.lt_of_lt_of_le KC5.out.lt b57.size)
      have HW7 := Lib.hid hw7
      clear b57 cX7 cX6 ky k6 z12 hq1 hw7
      go_wp2_with fail
      rw [HW7.out]
      refine chk_neg _ _ _ _ _ _ _ _ _ _ _ _ _ _ _ _ _ _ _ _ _ _ _ _ _ _ _ _ _ _ _ _ _ _ _ _ _ _ _ _ _ _ _ _ _ _ _ _ _ _ _ _ _ _ _ _ _ _ _ _ _ _ _ _ _ _ _ _ _ _ _ _ _ _ _ _ _ _ _ _ _ _ _ _ _ _ _ _ _ _ _ _ _ _ _ _ _ _ _ _ _ _ _ _ _ _ _ _ _ _ _ _ _ _ _ _ _ _ _ _ _ _ _ _ _ _ _ _ _ _ _ _ _ _ _ _ _ _ _ _ _ _ _ _ _ _ _ _ _ _ _ _ _ _ _ _ _ _ _ _ _ _ _ _ _ _ _ _ _ _ _ _ _ _ _ _ _ _ _ _ _ _ _ _ _ _ _ _ _ _ _ _ _ _ _ _ _ _ _ _ _ _ _ _ _ _ _ _ _ _ _ _ _ _ _ _ _ _ _ _ _ _ _ _ _ _ _ _ _ _ _ _ _ _ _ _ _ _ _ _ _ _ _ _ _ _ _ _ _ _ _ _ _ _ _ _ _ _ _ _ _ _ _ _ _ _ _ _ _ _ _ _ _ _ _ _ _ _ _ _ _ _ _ _ _ _ _ _ _ _ _ _ _ _ _ _ _ _ _ _ _ _ _ _ _ _ _ _ _ _ _ _ _ _ _ _ _ _ _ _ _ _ _ _ _ _ _ _ _ _ _ _ _ _ _ _ _ _ _ _ _ _ _ _ _ _ _ _ g1 g2 X w6.heap.size P' q' R T D C.id HD.out w7 DU7.out Sm5 CX7.out lX7.out _ (fun c a a' w hd h => hpan c a a' w hd h) ?_
      intro y268 y269 y270 y271 y272 y273 y274 y275 y276 y277 y278 y279 y280 y281 y282 y283 y284 y285 y286 y287 y288 y289 y290 y291 y292 y293 y294 y295 y296 y297 y298 y299 y300 y301 y302 y303 y304 y305 y306 y307 y308 y309 y310 y311 y312 y313 y314 y315 y316 y317 y318 y319 y320 y321 y322 y323 y324 y325 y326 y327 w8 b8
      have k8 := (KY.out).below b8 KY.out.lt
      have p1 := own_only (S := fun _ => False) (World.ownsRow_nil w7 w5.heap.size 60 7) (Only.of_below b8) (fun _ _ h => h)
      have p2 := own_only (S := fun _ => False) (World.ownsRow_nil w7 w5.heap.size 9 1) (Only.of_below b8) (fun _ _ h => h)
      have b58 := B57.out.trans (b8.mono B57.out.size)
      have du8 := DU5.out.grow (S := fun _ => False) (Only.of_below b58) (fun k hk => hk.elim)
      have bb8 := B5.out.trans (b58.mono B5.out.size)
      have K8 := Lib.hid k8; have O1 := Lib.hid p1; have O2 := Lib.hid p2; have DU8 := Lib.hid du8; have B8 := Lib.hid bb8
      clear b8 k8 p1 p2 b58 du8 bb8
      go_wp2_with fail
      refine spoil_a_to _ _ _ _ _ _ _ _ _ _ _ _ _ _ _ _ _ _ _ _ _ _ _ _ _ _ _ _ _ _ _ _ _ _ _ _ _ _ _ _ _ _ _ _ _ _ _ _ _ _ _ _ _ _ _ _ _ _ _ _ _ _ _ _ _ _ _ _ _ _ _ _ _ _ _ _ _ _ _ _ _ _ _ _ _ _ _ _ _ _ _ _ _ _ _ _ _ _ _ _ _ _ _ _ _ _ _ _ _ _ _ _ _ _ _ _ _ _ _ _ _ _ _ _ _ _ _ _ _ _ _ _ _ _ _ _ _ _ _ _ _ _ _ _ _ _ _ _ _ _ _ _ _ _ _ _ _ _ _ _ _ _ _ _ _ _ _ _ _ _ _ _ _ _ _ _ _ _ _ _ _ _ _ _ _ _ _ _ _ _ _ _ _ _ _ _ _ _ _ _ _ _ _ _ _ _ _ _ _ _ _ _ _ _ _ _ _ _ _ _ _ _ _ _ _ _ _ _ _ _ _ _ _ _ _ _ _ _ _ _ _ _ _ _ _ _ _ _ _ _ _ _ _ _ _ _ _ _ _ _ _ _ _ _ _ _ _ _ _ _ _ _ _ _ _ _ _ _ _ _ _ _ _ _ _ _ _ _ _ _ _ _ _ _ _ _ _ _ _ _ _ _ _ _ _ _ _ _ _ _ _ _ _ _ _ _ _ _ _ _ _ _ _ _ _ _ _ _ _ _ _ _ _ _ _ _ _ _ _ _ _ _ _ _ _ _ _ _ _ _ _ _ _ none 0 0 51 _ w8 K8.out (by decide) rfl _ O1.out (by omega) _ ?_
      intro s30 s329 s330 s331 s332 s333 s334 s335 s336 s337 s338 s339 s340 w9 on9
      have p2 := own_only O2.out on9 (fun k hk => ne_of_types O2.out O1.out (by decide) k hk)
      have k9 : Bk w9 _ 51 _ := K8.out.same (on9.block _ K8.out.lt (own_ne O1.out K8.out (by decide)))
      have du9 := DU8.out.only on9 (fun k hk => .inr ⟨(O1.out.lt k hk).1, (O1.out.lt k hk).2⟩)
      have b9 := Only.belowOf B8.out on9 (Nat.le_refl _) (fun k hk => Nat.le_trans B5.out.size (O1.out.lt k hk).1)
      have K9 := Lib.hid k9; have O29 := Lib.hid p2; have DU9 := Lib.hid du9; have B9 := Lib.hid b9
      clear on9 p2 k9 du9 b9
      go_wp2_with fail
      refine spoil_a_lines _ _ _ _ _ _ _ _ _ _ _ _ _ _ _ _ _ _ _ _ _ _ _ _ _ _ _ _ _ _ _ _ _ _ _ _ _ _ _ _ _ _ _ _ _ _ _ _ _ _ _ _ _ _ _ _ _ _ _ _ _ _ _ _ _ _ _ _ _ _ _ _ _ _ _ _ _ _ _ _ _ _ _ _ _ _ _ _ _ _ _ _ _ _ _ _ _ _ _ _ _ _ _ _ _ _ _ _ _ _ _ _ _ _ _ _ _ _ _ _ _ _ _ _ _ _ _ _ _ _ _ _ _ _ _ _ _ _ _ _ _ _ _ _ _ _ _ _ _ _ _ _ _ _ _ _ _ _ _ _ _ _ _ _ _ _ _ _ _ _ _ _ _ _ _ _ _ _ _ _ _ _ _ _ _ _ _ _ _ _ _ _ _ _ _ _ _ _ _ _ _ _ _ _ _ _ _ _ _ _ _ _ _ _ _ _ _ _ _ _ _ _ _ _ _ _ _ _ _ _ _ _ _ _ _ _ _ _ _ _ _ _ _ _ _ _ _ _ _ _ _ _ _ _ _ _ _ _ _ _ _ _ _ _ _ _ _ _ _ _ _ _ _ _ _ _ _ _ _ _ _ _ _ _ _ _ _ _ _ _ _ _ _ _ _ _ _ _ _ _ _ _ _ _ _ _ _ _ _ _ _ _ _ _ _ _ _ _ _ _ _ _ _ _ _ _ _ _ _ _ _ _ _ _ _ _ _ _ _ _ _ _ _ _ _ _ _ _ _ _ _ _ _ none 0 0 51 _ w9 K9.out (by decide) rfl _ O29.out (by omega) _ ?_
      intro r31 r341 r342 r343 r344 r345 r346 r347 r348 r349 r350 r351 wx on10
      have du10 := DU9.out.only on10 (fun k hk => .inr ⟨(O2.out.lt k hk).1, (O2.out.lt k hk).2⟩)
      have b10 := Only.belowOf B9.out on10 (Nat.le_refl _) (fun k hk => Nat.le_trans B5.out.size (O29.out.lt k hk).1)
      have D10 := Lib.hid (du10.less (P' := fun k => k < w.heap.size) (fun k hk => .inl (HPW.out k hk)))
      have B10 := Lib.hid b10
      clear on10 du10 b10
      go_wp2_with fail
      
      exact HE.out _ _ _ _ _ _ _ _ _ _ _ _ _ _ _ _ _ _ _ _ _ _ _ _ _ _ _ _ _ _ _ _ _ _ _ _ _ _ _ _ _ _ _ _ _ _ _ _ _ _ _ _ _ _ _ _ _ _ _ _ _ _ _ _ _ _ _ _ _ _ _ _ _ _ _ _ _ _ _ _ _ _ _ _ _ _ _ _ _ _ _ _ _ _ _ _ _ _ _ _ _ _ _ _ _ _ _ _ _ _ _ _ _ _ _ _ _ _ _ _ _ _ _ _ _ _ _ _ _ _ _ _ _ _ _ _ _ _ _ _ _ _ _ _ _ _ _ _ _ _ _ _ _ _ _ _ _ _ _ _ _ _ _ _ _ _ _ _ _ _ _ _ _ _ _ _ _ _ _ _ _ _ _ _ _ _ _ _ _ _ _ _ _ _ _ _ _ _ _ _ _ _ _ _ _ _ _ _ _ _ _ _ _ _ _ _ _ _ _ _ _ _ _ _ _ _ _ _ _ _ _ _ _ _ _ _ _ _ _ _ _ _ _ _ _ _ _ _ _ _ _ _ _ _ _ _ _ _ _ _ _ _ _ _ _ _ _ _ _ _ _ _ _ _ _ _ _ _ _ _ _ _ _ _ _ _ _ _ _ _ _ _ _ _ _ _ _ _ _ _ _ _ _ _ _ _ _ _ _ _ _ _ _ _ _ _ q' wx D10.out I5.out B10.out
    · have hbig : (q'.length : Int) < C.id := by omega
      clear hneg hdec
      have hno : C.id < 1 ∨ (q'.length : Int) < C.id := by omega
      obtain ⟨P1, hq1, hp1, back1⟩ := DU5.out.one
      clear hp1 back1
      have HNO := Lib.hid hno; have HD := Lib.hid hbig
      clear hno hbig
      go_wp2_with fail
      refine (qs_noitem hq1 Sm5.out C.id HNO.out).mono ?_
      rintro e w6 ⟨rfl, _, k6⟩
      simp only [zeroIt]
      have cX6 : w6.cell? ⟨X, 12, none⟩ = _ := (k6.cell (p := ⟨X, 12, none⟩) KC5.out.lt).trans z12
      have ky : Bk (w6.alloc (.cells #[.int .i64 0, .bool false, .string ⟨#[]⟩, .string ⟨#[]⟩, .slice none 0 0, .slice none 0 0, .bool false, .bool false, .bool false, .int .i64 0, .int .i64 0, .int .i64 0] 51)) w6.heap.size 51 _ := Bk.new _ _ _
      have KY := Lib.hid ky
      have b57 : Below w5.heap.size w5 (w6.alloc (.cells #[.int .i64 0, .bool false, .string ⟨#[]⟩, .string ⟨#[]⟩, .slice none 0 0, .slice none 0 0, .bool false, .bool false, .bool false, .int .i64 0, .int .i64 0, .int .i64 0] 51)) := k6.alloc k6.size _
      have cX7 := ((Below.refl w6.heap.size w6).alloc (Nat.le_refl _) (.cells #[.int .i64 0, .bool false, .string ⟨#[]⟩, .string ⟨#[]⟩, .slice none 0 0, .slice none 0 0, .bool false, .bool false, .bool false, .int .i64 0, .int .i64 0, .int .i64 0] 51)).cell (p := ⟨X, 12, none⟩) (Nat.lt_of_lt_of_le KC5.out.lt k6.size)
      replace cX7 := cX7.trans cX6
      obtain ⟨w7, hw7⟩ : ∃ w7, w6.alloc (.cells #[.int .i64 0, .bool false, .string ⟨#[]⟩, .string ⟨#[]⟩, .slice none 0 0, .slice none 0 0, .bool false, .bool false, .bool false, .int .i64 0, .int .i64 0, .int .i64 0] 51) = w7 := ⟨_, rfl⟩
      rw [hw7] at KY b57 cX7
      have B57 := Lib.hid b57; have CX7 := Lib.hid cX7; have DU7 := Lib.hid (DU5.out.below b57)
      have lX7 := Lib.hid (Nat.lt_of_lt_of_le KC5.out.lt b57.size)
      have HW7 := Lib.hid hw7
      clear b57 cX7 cX6 ky k6 z12 hq1 hw7
      go_wp2_with fail
      rw [HW7.out]
      refine chk_big _ _ _ _ _ _ _ _ _ _ _ _ _ _ _ _ _ _ _ _ _ _ _ _ _ _ _ _ _ _ _ _ _ _ _ _ _ _ _ _ _ _ _ _ _ _ _ _ _ _ _ _ _ _ _ _ _ _ _ _ _ _ _ _ _ _ _ _ _ _ _ _ _ _ _ _ _ _ _ _ _ _ _ _ _ _ _ _ _ _ _ _ _ _ _ _ _ _ _ _ _ _ _ _ _ _ _ _ _ _ _ _ _ _ _ _ _ _ _ _ _ _ _ _ _ _ _ _ _ _ _ _ _ _ _ _ _ _ _ _ _ _ _ _ _ _ _ _ _ _ _ _ _ _ _ _ _ _ _ _ _ _ _ _ _ _ _ _ _ _ _ _ _ _ _ _ _ _ _ _ _ _ _ _ _ _ _ _ _ _ _ _ _ _ _ _ _ _ _ _ _ _ _ _ _ _ _ _ _ _ _ _ _ _ _ _ _ _ _ _ _ _ _ _ _ _ _ _ _ _ _ _ _ _ _ _ _ _ _ _ _ _ _ _ _ _ _ _ _ _ _ _ _ _ _ _ _ _ _ _ _ _ _ _ _ _ _ _ _ _ _ _ _ _ _ _ _ _ _ _ _ _ _ _ _ _ _ _ _ _ _ _ _ _ _ _ _ _ _ _ _ _ _ _ _ _ _ _ _ _ _ _ _ _ _ _ _ _ _ _ _ _ _ _ _ _ _ _ _ _ _ _ _ _ _ _ _ _ _ _ _ _ _ _ _ _ _ _ g1 g2 X w6.heap.size P' q' R T D C.id HD.out w7 DU7.out Sm5 CX7.out lX7.out _ (fun c a a' w hd h => hpan c a a' w hd h) ?_
      intro y268 y269 y270 y271 y272 y273 y274 y275 y276 y277 y278 y279 y280 y281 y282 y283 y284 y285 y286 y287 y288 y289 y290 y291 y292 y293 y294 y295 y296 y297 y298 y299 y300 y301 y302 y303 y304 y305 y306 y307 y308 y309 y310 y311 y312 y313 y314 y315 y316 y317 y318 y319 y320 y321 y322 y323 y324 y325 y326 y327 w8 b8
      have k8 := (KY.out).below b8 KY.out.lt
      have p1 := own_only (S := fun _ => False) (World.ownsRow_nil w7 w5.heap.size 60 7) (Only.of_below b8) (fun _ _ h => h)
      have p2 := own_only (S := fun _ => False) (World.ownsRow_nil w7 w5.heap.size 9 1) (Only.of_below b8) (fun _ _ h => h)
      have b58 := B57.out.trans (b8.mono B57.out.size)
      have du8 := DU5.out.grow (S := fun _ => False) (Only.of_below b58) (fun k hk => hk.elim)
      have bb8 := B5.out.trans (b58.mono B5.out.size)
      have K8 := Lib.hid k8; have O1 := Lib.hid p1; have O2 := Lib.hid p2; have DU8 := Lib.hid du8; have B8 := Lib.hid bb8
      clear b8 k8 p1 p2 b58 du8 bb8
      go_wp2_with fail
      refine spoil_a_to _ _ _ _ _ _ _ _ _ _ _ _ _ _ _ _ _ _ _ _ _ _ _ _ _ _ _ _ _ _ _ _ _ _ _ _ _ _ _ _ _ _ _ _ _ _ _ _ _ _ _ _ _ _ _ _ _ _ _ _ _ _ _ _ _ _ _ _ _ _ _ _ _ _ _ _ _ _ _ _ _ _ _ _ _ _ _ _ _ _ _ _ _ _ _ _ _ _ _ _ _ _ _ _ _ _ _ _ _ _ _ _ _ _ _ _ _ _ _ _ _ _ _ _ _ _ _ _ _ _ _ _ _ _ _ _ _ _ _ _ _ _ _ _ _ _ _ _ _ _ _ _ _ _ _ _ _ _ _ _ _ _ _ _ _ _ _ _ _ _ _ _ _ _ _ _ _ _ _ _ _ _ _ _ _ _ _ _ _ _ _ _ _ _ _ _ _ _ _ _ _ _ _ _ _ _ _ _ _ _ _ _ _ _ _ _ _ _ _ _ _ _ _ _ _ _ _ _ _ _ _ _ _ _ _ _ _ _ _ _ _ _ _ _ _ _ _ _ _ _ _ _ _ _ _ _ _ _ _ _ _ _ _ _ _ _ _ _ _ _ _ _ _ _ _ _ _ _ _ _ _ _ _ _ _ _ _ _ _ _ _ _ _ _ _ _ _ _ _ _ _ _ _ _ _ _ _ _ _ _ _ _ _ _ _ _ _ _ _ _ _ _ _ _ _ _ _ _ _ _ _ _ _ _ _ _ _ _ _ _ _ _ _ _ _ _ _ _ _ _ _ _ _ none 0 0 51 _ w8 K8.out (by decide) rfl _ O1.out (by omega) _ ?_
      intro s30 s329 s330 s331 s332 s333 s334 s335 s336 s337 s338 s339 s340 w9 on9
      have p2 := own_only O2.out on9 (fun k hk => ne_of_types O2.out O1.out (by decide) k hk)
      have k9 : Bk w9 _ 51 _ := K8.out.same (on9.block _ K8.out.lt (own_ne O1.out K8.out (by decide)))
      have du9 := DU8.out.only on9 (fun k hk => .inr ⟨(O1.out.lt k hk).1, (O1.out.lt k hk).2⟩)
      have b9 := Only.belowOf B8.out on9 (Nat.le_refl _) (fun k hk => Nat.le_trans B5.out.size (O1.out.lt k hk).1)
      have K9 := Lib.hid k9; have O29 := Lib.hid p2; have DU9 := Lib.hid du9; have B9 := Lib.hid b9
      clear on9 p2 k9 du9 b9
      go_wp2_with fail
      refine spoil_a_lines _ _ _ _ _ _ _ _ _ _ _ _ _ _ _ _ _ _ _ _ _ _ _ _ _ _ _ _ _ _ _ _ _ _ _ _ _ _ _ _ _ _ _ _ _ _ _ _ _ _ _ _ _ _ _ _ _ _ _ _ _ _ _ _ _ _ _ _ _ _ _ _ _ _ _ _ _ _ _ _ _ _ _ _ _ _ _ _ _ _ _ _ _ _ _ _ _ _ _ _ _ _ _ _ _ _ _ _ _ _ _ _ _ _ _ _ _ _ _ _ _ _ _ _ _ _ _ _ _ _ _ _ _ _ _ _ _ _ _ _ _ _ _ _ _ _ _ _ _ _ _ _ _ _ _ _ _ _ _ _ _ _ _ _ _ _ _ _ _ _ _ _ _ _ _ _ _ _ _ _ _ _ _ _ _ _ _ _ _ _ _ _ _ _ _ _ _ _ _ _ _ _ _ _ _ _ _ _ _ _ _ _ _ _ _ _ _ _ _ _ _ _ _ _ _ _ _ _ _ _ _ _ _ _ _ _ _ _ _ _ _ _ _ _ _ _ _ _ _ _ _ _ _ _ _ _ _ _ _ _ _ _ _ _ _ _ _ _ _ _ _ _ _ _ _ _ _ _ _ _ _ _ _ _ _ _ _ _ _ _ _ _ _ _ _ _ _ _ _ _ _ _ _ _ _ _ _ _ _ _ _ _ _ _ _ _ _ _ _ _ _ _ _ _ _ _ _ _ _ _ _ _ _ _ _ _ _ _ _ _ _ _ _ _ _ _ _ _ _ _ _ _ _ none 0 0 51 _ w9 K9.out (by decide) rfl _ O29.out (by omega) _ ?_
      intro r31 r341 r342 r343 r344 r345 r346 r347 r348 r349 r350 r351 wx on10
      have du10 := DU9.out.only on10 (fun k hk => .inr ⟨(O2.out.lt k hk).1, (O2.out.lt k hk).2⟩)
      have b10 := Only.belowOf B9.out on10 (Nat.le_refl _) (fun k hk => Nat.le_trans B5.out.size (O29.out.lt k hk).1)
      have D10 := Lib.hid (du10.less (P' := fun k => k < w.heap.size) (fun k hk => .inl (HPW.out k hk)))
      have B10 := Lib.hid b10
      clear on10 du10 b10
      go_wp2_with fail
      
      exact HE.out _ _ _ _ _ _ _ _ _ _ _ _ _ _ _ _ _ _ _ _ _ _ _ _ _ _ _ _ _ _ _ _ _ _ _ _ _ _ _ _ _ _ _ _ _ _ _ _ _ _ _ _ _ _ _ _ _ _ _ _ _ _ _ _ _ _ _ _ _ _ _ _ _ _ _ _ _ _ _ _ _ _ _ _ _ _ _ _ _ _ _ _ _ _ _ _ _ _ _ _ _ _ _ _ _ _ _ _ _ _ _ _ _ _ _ _ _ _ _ _ _ _ _ _ _ _ _ _ _ _ _ _ _ _ _ _ _ _ _ _ _ _ _ _ _ _ _ _ _ _ _ _ _ _ _ _ _ _ _ _ _ _ _ _ _ _ _ _ _ _ _ _ _ _ _ _ _ _ _ _ _ _ _ _ _ _ _ _ _ _ _ _ _ _ _ _ _ _ _ _ _ _ _ _ _ _ _ _ _ _ _ _ _ _ _ _ _ _ _ _ _ _ _ _ _ _ _ _ _ _ _ _ _ _ _ _ _ _ _ _ _ _ _ _ _ _ _ _ _ _ _ _ _ _ _ _ _ _ _ _ _ _ _ _ _ _ _ _ _ _ _ _ _ _ _ _ _ _ _ _ _ _ _ _ _ _ _ _ _ _ _ _ _ _ _ _ _ _ _ _ _ _ _ _ _ _ _ _ _ _ _ _ _ _ _ _ q' wx D10.out I5.out B10.out
end Go.Proofs.Ytlbghgmeiajioaa
