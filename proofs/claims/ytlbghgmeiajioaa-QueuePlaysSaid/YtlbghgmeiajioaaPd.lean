/- QueuePlays: what is compared behind each call. -/
import Derived.Test.YtlbghgmeiajioaaPb
import Derived.Test.YtlbghgmeiajioaaSm
import Derived.Test.YtlbghgmeiajioaaRg
namespace Go.Proofs.Ytlbghgmeiajioaa
open Go.RowKit
set_option linter.unusedVariables false

set_option maxRecDepth 1000000 in
set_option maxHeartbeats 16000000 in
theorem chk_yes (t0 t1 t2 t3 t4 t5 t6 t7 t8 t9 t10 t13 t15 t16 t17 t18 t19 t20 t21 t22 t23 t24 t25 t26 t27 t30 t31 t32 t33 t34 t35 t36 t37 t38 t39 t40 t41 t42 t43 t44 t45 t46 t47 t48 t49 t50 t51 t52 t53 t54 t55 t56 t57 t58 t59 t60 t61 t62 t63 t64 t65 t66 t67 t68 t69 t70 t71 t72 t73 t74 t75 t76 t77 t78 t79 t80 t81 t82 t83 t84 t85 t86 t87 t88 t89 t90 t91 t92 t93 t94 t95 t96 t97 t98 t99 t100 t101 t102 t103 t104 t105 t106 t107 t108 t109 t110 t111 t112 t113 t114 t115 t116 t117 t118 t119 t120 t121 t122 t123 t124 t125 t126 t127 t128 t129 t130 t131 t132 t133 t134 t135 t136 t137 t138 t139 t140 t141 t142 t143 t144 t145 t146 t147 t148 t149 t150 t151 t152 t153 t154 t155 t156 t157 t158 t159 t160 t161 t162 t163 t164 t165 t166 t167 t168 t169 t170 t171 t172 t173 t174 t175 t176 t177 t178 t179 t180 t181 t182 t183 t184 t185 t186 t187 t188 t189 t190 t191 t192 t193 t194 t195 t196 t197 t198 t199 t200 t201 t202 t203 t204 t205 t206 t207 t208 t209 t210 t211 t212 t213 t214 t215 t216 t217 t218 t219 t220 t221 t222 t223 t224 t225 t226 t227 t228 t229 t230 t231 t232 t233 t234 t235 t236 t237 t238 t239 t240 t241 t242 t243 t244 t245 t246 t247 t248 t249 t250 t251 t252 t253 t254 t255 t256 t257 t258 t259 t260 t261 t262 t263 t264 t265 t266 t267 t268 t269 t270 t271 t272 t273 t274 t275 t276 t277 t278 t279 t280 t281 t282 t283 t284 t285 t286 t287 t288 t289 t290 t291 t292 t293 t294 t295 t296 t297 t298 t299 t300 t301 t302 t303 t304 t305 t306 t307 t308 t309 t310 t311 t312 t313 t314 t315 t316 t317 t318 t319 t320 t321 t322 t323 t324 t325 t326 t327 t328 t329 t330 t331 t332 t333 t334 t335 t336 t337 t338 t339 t340 t341 t342 t343 t344 t345 t346 t347 t348 t349 t350 t351 t352 : Value) (g1 g2 X Y : Nat) (P : Nat → Prop) (q : List It) (R T D : Int) (i : Nat) (hi : i < q.length) (q40 : q.length ≤ 1000) (I : It) (hI : q[i] = I) (hid : I.id = (i : Int) + 1) (w : World) (du : Duo w P g1 g2 q q R T D) (Sm : RowKit.Hid (Small q)) (cX : w.cell? ⟨X, 12, none⟩ = some (.int .i64 ((i : Int) + 1))) (lX : X < w.heap.size)
    (A1 A2 : Option Addr) (c1 c2 B : Nat) (ky : Bk w Y 51 #[.int .i64 ((i : Int) + 1), .bool I.frm.null, .string I.frm.loc, .string I.frm.dom, .slice A1 I.to.length c1, .slice A2 I.lines.length c2, .bool I.flags.head, .bool I.flags.body, .bool I.flags.bad, .int .i64 I.flags.lines, .int .i64 I.flags.hops, .int .i64 I.bytes]) (ht1 : w.ownsRow B 60 7 (.slice A1 I.to.length c1) I.to.length (I.to.flatMap Rc.cells)) (hl1 : w.ownsRow B 9 1 (.slice A2 I.lines.length c2) I.lines.length (I.lines.map .string)) (hI1 : I.to.length ≤ 1000) (hI2 : I.lines.length ≤ 100000)
    (Q : Exit → Act → World → Prop) (hpan : ∀ c a a' w, a.defers = a'.defers → Q (.panic c) a w → Q (.panic c) a' w)
    (hexit : ∀ (u268 u269 u270 u271 u272 u273 u274 u275 u276 u277 u278 u279 u280 u281 u282 u283 u284 u285 u286 u287 u288 u289 u290 u291 u292 u293 u294 u295 u296 u297 u298 u299 u300 u301 u302 u303 u304 u305 u306 u307 u308 u309 u310 u311 u312 u313 u314 u315 u316 u317 u318 u319 u320 u321 u322 u323 u324 u325 u326 u327 : Value) (w' : World), Below w.heap.size w w' → Q .normal ⟨List.toArray (t0 :: t1 :: t2 :: t3 :: t4 :: t5 :: t6 :: t7 :: t8 :: t9 :: t10 :: (.pointer (some ⟨g1, 0, none⟩)) :: (.pointer (some ⟨g2, 0, none⟩)) :: t13 :: (.pointer (some ⟨X, 0, none⟩)) :: t15 :: t16 :: t17 :: t18 :: t19 :: t20 :: t21 :: t22 :: t23 :: t24 :: t25 :: t26 :: t27 :: (.pointer (some ⟨Y, 0, none⟩)) :: (.bool true) :: t30 :: t31 :: t32 :: t33 :: t34 :: t35 :: t36 :: t37 :: t38 :: t39 :: t40 :: t41 :: t42 :: t43 :: t44 :: t45 :: t46 :: t47 :: t48 :: t49 :: t50 :: t51 :: t52 :: t53 :: t54 :: t55 :: t56 :: t57 :: t58 :: t59 :: t60 :: t61 :: t62 :: t63 :: t64 :: t65 :: t66 :: t67 :: t68 :: t69 :: t70 :: t71 :: t72 :: t73 :: t74 :: t75 :: t76 :: t77 :: t78 :: t79 :: t80 :: t81 :: t82 :: t83 :: t84 :: t85 :: t86 :: t87 :: t88 :: t89 :: t90 :: t91 :: t92 :: t93 :: t94 :: t95 :: t96 :: t97 :: t98 :: t99 :: t100 :: t101 :: t102 :: t103 :: t104 :: t105 :: t106 :: t107 :: t108 :: t109 :: t110 :: t111 :: t112 :: t113 :: t114 :: t115 :: t116 :: t117 :: t118 :: t119 :: t120 :: t121 :: t122 :: t123 :: t124 :: t125 :: t126 :: t127 :: t128 :: t129 :: t130 :: t131 :: t132 :: t133 :: t134 :: t135 :: t136 :: t137 :: t138 :: t139 :: t140 :: t141 :: t142 :: t143 :: t144 :: t145 :: t146 :: t147 :: t148 :: t149 :: t150 :: t151 :: t152 :: t153 :: t154 :: t155 :: t156 :: t157 :: t158 :: t159 :: t160 :: t161 :: t162 :: t163 :: t164 :: t165 :: t166 :: t167 :: t168 :: t169 :: t170 :: t171 :: t172 :: t173 :: t174 :: t175 :: t176 :: t177 :: t178 :: t179 :: t180 :: t181 :: t182 :: t183 :: t184 :: t185 :: t186 :: t187 :: t188 :: t189 :: t190 :: t191 :: t192 :: t193 :: t194 :: t195 :: t196 :: t197 :: t198 :: t199 :: t200 :: t201 :: t202 :: t203 :: t204 :: t205 :: t206 :: t207 :: t208 :: t209 :: t210 :: t211 :: t212 :: t213 :: t214 :: t215 :: t216 :: t217 :: t218 :: t219 :: t220 :: t221 :: t222 :: t223 :: t224 :: t225 :: t226 :: t227 :: t228 :: t229 :: t230 :: t231 :: t232 :: t233 :: t234 :: t235 :: t236 :: t237 :: t238 :: t239 :: t240 :: t241 :: t242 :: t243 :: t244 :: t245 :: t246 :: t247 :: t248 :: t249 :: t250 :: t251 :: t252 :: t253 :: t254 :: t255 :: t256 :: t257 :: t258 :: t259 :: t260 :: t261 :: t262 :: t263 :: t264 :: t265 :: t266 :: t267 :: u268 :: u269 :: u270 :: u271 :: u272 :: u273 :: u274 :: u275 :: u276 :: u277 :: u278 :: u279 :: u280 :: u281 :: u282 :: u283 :: u284 :: u285 :: u286 :: u287 :: u288 :: u289 :: u290 :: u291 :: u292 :: u293 :: u294 :: u295 :: u296 :: u297 :: u298 :: u299 :: u300 :: u301 :: u302 :: u303 :: u304 :: u305 :: u306 :: u307 :: u308 :: u309 :: u310 :: u311 :: u312 :: u313 :: u314 :: u315 :: u316 :: u317 :: u318 :: u319 :: u320 :: u321 :: u322 :: u323 :: u324 :: u325 :: u326 :: u327 :: (.bool false) :: t329 :: t330 :: t331 :: t332 :: t333 :: t334 :: t335 :: t336 :: t337 :: t338 :: t339 :: t340 :: t341 :: t342 :: t343 :: t344 :: t345 :: t346 :: t347 :: t348 :: t349 :: t350 :: t351 :: t352 :: []), []⟩ w') :
    Code.wp Try.prog (rg3 45) Q ⟨List.toArray (t0 :: t1 :: t2 :: t3 :: t4 :: t5 :: t6 :: t7 :: t8 :: t9 :: t10 :: (.pointer (some ⟨g1, 0, none⟩)) :: (.pointer (some ⟨g2, 0, none⟩)) :: t13 :: (.pointer (some ⟨X, 0, none⟩)) :: t15 :: t16 :: t17 :: t18 :: t19 :: t20 :: t21 :: t22 :: t23 :: t24 :: t25 :: t26 :: t27 :: (.pointer (some ⟨Y, 0, none⟩)) :: (.bool true) :: t30 :: t31 :: t32 :: t33 :: t34 :: t35 :: t36 :: t37 :: t38 :: t39 :: t40 :: t41 :: t42 :: t43 :: t44 :: t45 :: t46 :: t47 :: t48 :: t49 :: t50 :: t51 :: t52 :: t53 :: t54 :: t55 :: t56 :: t57 :: t58 :: t59 :: t60 :: t61 :: t62 :: t63 :: t64 :: t65 :: t66 :: t67 :: t68 :: t69 :: t70 :: t71 :: t72 :: t73 :: t74 :: t75 :: t76 :: t77 :: t78 :: t79 :: t80 :: t81 :: t82 :: t83 :: t84 :: t85 :: t86 :: t87 :: t88 :: t89 :: t90 :: t91 :: t92 :: t93 :: t94 :: t95 :: t96 :: t97 :: t98 :: t99 :: t100 :: t101 :: t102 :: t103 :: t104 :: t105 :: t106 :: t107 :: t108 :: t109 :: t110 :: t111 :: t112 :: t113 :: t114 :: t115 :: t116 :: t117 :: t118 :: t119 :: t120 :: t121 :: t122 :: t123 :: t124 :: t125 :: t126 :: t127 :: t128 :: t129 :: t130 :: t131 :: t132 :: t133 :: t134 :: t135 :: t136 :: t137 :: t138 :: t139 :: t140 :: t141 :: t142 :: t143 :: t144 :: t145 :: t146 :: t147 :: t148 :: t149 :: t150 :: t151 :: t152 :: t153 :: t154 :: t155 :: t156 :: t157 :: t158 :: t159 :: t160 :: t161 :: t162 :: t163 :: t164 :: t165 :: t166 :: t167 :: t168 :: t169 :: t170 :: t171 :: t172 :: t173 :: t174 :: t175 :: t176 :: t177 :: t178 :: t179 :: t180 :: t181 :: t182 :: t183 :: t184 :: t185 :: t186 :: t187 :: t188 :: t189 :: t190 :: t191 :: t192 :: t193 :: t194 :: t195 :: t196 :: t197 :: t198 :: t199 :: t200 :: t201 :: t202 :: t203 :: t204 :: t205 :: t206 :: t207 :: t208 :: t209 :: t210 :: t211 :: t212 :: t213 :: t214 :: t215 :: t216 :: t217 :: t218 :: t219 :: t220 :: t221 :: t222 :: t223 :: t224 :: t225 :: t226 :: t227 :: t228 :: t229 :: t230 :: t231 :: t232 :: t233 :: t234 :: t235 :: t236 :: t237 :: t238 :: t239 :: t240 :: t241 :: t242 :: t243 :: t244 :: t245 :: t246 :: t247 :: t248 :: t249 :: t250 :: t251 :: t252 :: t253 :: t254 :: t255 :: t256 :: t257 :: t258 :: t259 :: t260 :: t261 :: t262 :: t263 :: t264 :: t265 :: t266 :: t267 :: t268 :: t269 :: t270 :: t271 :: t272 :: t273 :: t274 :: t275 :: t276 :: t277 :: t278 :: t279 :: t280 :: t281 :: t282 :: t283 :: t284 :: t285 :: t286 :: t287 :: t288 :: t289 :: t290 :: t291 :: t292 :: t293 :: t294 :: t295 :: t296 :: t297 :: t298 :: t299 :: t300 :: t301 :: t302 :: t303 :: t304 :: t305 :: t306 :: t307 :: t308 :: t309 :: t310 :: t311 :: t312 :: t313 :: t314 :: t315 :: t316 :: t317 :: t318 :: t319 :: t320 :: t321 :: t322 :: t323 :: t324 :: t325 :: t326 :: t327 :: t328 :: t329 :: t330 :: t331 :: t332 :: t333 :: t334 :: t335 :: t336 :: t337 :: t338 :: t339 :: t340 :: t341 :: t342 :: t343 :: t344 :: t345 :: t346 :: t347 :: t348 :: t349 :: t350 :: t351 :: t352 :: []), []⟩ w := by
  have HE := Lib.hid hexit
  obtain ⟨Aq, cq, kg, hit⟩ := du.ref
  obtain ⟨b, A3, A4, c3, c4, rfl, lb, hc, ht3, hl3⟩ := hit i hi
  rw [hI] at ht3 hl3
  have hS' : ∀ W, Below w.heap.size w W → (fun w' : World => w'.cell? ⟨X, 12, none⟩ = some (.int .i64 ((i : Int) + 1)) ∧ w'.cell? ⟨g2, 0, none⟩ = some (.slice (some ⟨b, 0, none⟩) q.length cq) ∧ w'.cell? ⟨g2, 1, none⟩ = some (.int .i64 R) ∧ w'.cell? ⟨Y, 0, none⟩ = some (.int .i64 ((i : Int) + 1)) ∧ w'.cell? ⟨Y, 1, none⟩ = some (.bool I.frm.null) ∧ w'.cell? ⟨Y, 2, none⟩ = some (.string I.frm.loc) ∧ w'.cell? ⟨Y, 3, none⟩ = some (.string I.frm.dom) ∧ w'.cell? ⟨Y, 4, none⟩ = some (.slice A1 I.to.length c1) ∧ w'.cell? ⟨Y, 5, none⟩ = some (.slice A2 I.lines.length c2) ∧ w'.cell? ⟨Y, 6, none⟩ = some (.bool I.flags.head) ∧ w'.cell? ⟨Y, 7, none⟩ = some (.bool I.flags.body) ∧ w'.cell? ⟨Y, 8, none⟩ = some (.bool I.flags.bad) ∧ w'.cell? ⟨Y, 9, none⟩ = some (.int .i64 I.flags.lines) ∧ w'.cell? ⟨Y, 10, none⟩ = some (.int .i64 I.flags.hops) ∧ w'.cell? ⟨Y, 11, none⟩ = some (.int .i64 I.bytes) ∧ w'.cell? ⟨b, i * 12, none⟩ = some (.int .i64 ((i : Int) + 1)) ∧ w'.cell? ⟨b, i * 12 + 1, none⟩ = some (.bool I.frm.null) ∧ w'.cell? ⟨b, i * 12 + 2, none⟩ = some (.string I.frm.loc) ∧ w'.cell? ⟨b, i * 12 + 3, none⟩ = some (.string I.frm.dom) ∧ w'.cell? ⟨b, i * 12 + 4, none⟩ = some (.slice A3 I.to.length c3) ∧ w'.cell? ⟨b, i * 12 + 5, none⟩ = some (.slice A4 I.lines.length c4) ∧ w'.cell? ⟨b, i * 12 + 6, none⟩ = some (.bool I.flags.head) ∧ w'.cell? ⟨b, i * 12 + 7, none⟩ = some (.bool I.flags.body) ∧ w'.cell? ⟨b, i * 12 + 8, none⟩ = some (.bool I.flags.bad) ∧ w'.cell? ⟨b, i * 12 + 9, none⟩ = some (.int .i64 I.flags.lines) ∧ w'.cell? ⟨b, i * 12 + 10, none⟩ = some (.int .i64 I.flags.hops) ∧ w'.cell? ⟨b, i * 12 + 11, none⟩ = some (.int .i64 I.bytes)) W := fun W bw => ⟨(bw.cell (p := ⟨X, 12, none⟩) lX).trans cX, (bw.cell (p := ⟨g2, 0, none⟩) kg.lt).trans (kg.cell 0), (bw.cell (p := ⟨g2, 1, none⟩) kg.lt).trans (kg.cell 1), (bw.cell (p := ⟨Y, 0, none⟩) ky.lt).trans (ky.cell 0), (bw.cell (p := ⟨Y, 1, none⟩) ky.lt).trans (ky.cell 1), (bw.cell (p := ⟨Y, 2, none⟩) ky.lt).trans (ky.cell 2), (bw.cell (p := ⟨Y, 3, none⟩) ky.lt).trans (ky.cell 3), (bw.cell (p := ⟨Y, 4, none⟩) ky.lt).trans (ky.cell 4), (bw.cell (p := ⟨Y, 5, none⟩) ky.lt).trans (ky.cell 5), (bw.cell (p := ⟨Y, 6, none⟩) ky.lt).trans (ky.cell 6), (bw.cell (p := ⟨Y, 7, none⟩) ky.lt).trans (ky.cell 7), (bw.cell (p := ⟨Y, 8, none⟩) ky.lt).trans (ky.cell 8), (bw.cell (p := ⟨Y, 9, none⟩) ky.lt).trans (ky.cell 9), (bw.cell (p := ⟨Y, 10, none⟩) ky.lt).trans (ky.cell 10), (bw.cell (p := ⟨Y, 11, none⟩) ky.lt).trans (ky.cell 11), (bw.cell (p := ⟨b, i * 12, none⟩) lb).trans ((hc 0 (by decide)).trans (by rw [hI]; simp [Row.cells, hid])), (bw.cell (p := ⟨b, i * 12 + 1, none⟩) lb).trans ((hc 1 (by decide)).trans (by rw [hI]; simp [Row.cells, hid])), (bw.cell (p := ⟨b, i * 12 + 2, none⟩) lb).trans ((hc 2 (by decide)).trans (by rw [hI]; simp [Row.cells, hid])), (bw.cell (p := ⟨b, i * 12 + 3, none⟩) lb).trans ((hc 3 (by decide)).trans (by rw [hI]; simp [Row.cells, hid])), (bw.cell (p := ⟨b, i * 12 + 4, none⟩) lb).trans ((hc 4 (by decide)).trans (by rw [hI]; simp [Row.cells, hid])), (bw.cell (p := ⟨b, i * 12 + 5, none⟩) lb).trans ((hc 5 (by decide)).trans (by rw [hI]; simp [Row.cells, hid])), (bw.cell (p := ⟨b, i * 12 + 6, none⟩) lb).trans ((hc 6 (by decide)).trans (by rw [hI]; simp [Row.cells, hid])), (bw.cell (p := ⟨b, i * 12 + 7, none⟩) lb).trans ((hc 7 (by decide)).trans (by rw [hI]; simp [Row.cells, hid])), (bw.cell (p := ⟨b, i * 12 + 8, none⟩) lb).trans ((hc 8 (by decide)).trans (by rw [hI]; simp [Row.cells, hid])), (bw.cell (p := ⟨b, i * 12 + 9, none⟩) lb).trans ((hc 9 (by decide)).trans (by rw [hI]; simp [Row.cells, hid])), (bw.cell (p := ⟨b, i * 12 + 10, none⟩) lb).trans ((hc 10 (by decide)).trans (by rw [hI]; simp [Row.cells, hid])), (bw.cell (p := ⟨b, i * 12 + 11, none⟩) lb).trans ((hc 11 (by decide)).trans (by rw [hI]; simp [Row.cells, hid]))⟩
  have HS := Lib.hid hS'
  have hcp : ∀ W, Below w.heap.size w W → Calls Try.prog 26 #[.agg #[.int .i64 ((i : Int) + 1), .bool I.frm.null, .string I.frm.loc, .string I.frm.dom, .slice A1 I.to.length c1, .slice A2 I.lines.length c2, .bool I.flags.head, .bool I.flags.body, .bool I.flags.bad, .int .i64 I.flags.lines, .int .i64 I.flags.hops, .int .i64 I.bytes], .agg #[.int .i64 ((i : Int) + 1), .bool I.frm.null, .string I.frm.loc, .string I.frm.dom, .slice A3 I.to.length c3, .slice A4 I.lines.length c4, .bool I.flags.head, .bool I.flags.body, .bool I.flags.bad, .int .i64 I.flags.lines, .int .i64 I.flags.hops, .int .i64 I.bytes]] W (fun e w' => e = .returned (.bool true) ∧ Below W.heap.size W w') := by
    intro W bW
    have h := same_item W 0 0 I A1 A2 A3 A4 c1 c2 c3 c4 (own_only (S := fun _ => False) (own_base (B := 0) ht1 (Nat.zero_le _)) (Only.of_below bW) (fun _ _ h => h)) (own_only (S := fun _ => False) (own_base (B := 0) hl1 (Nat.zero_le _)) (Only.of_below bW) (fun _ _ h => h)) (own_only (S := fun _ => False) ht3 (Only.of_below bW) (fun _ _ h => h)) (own_only (S := fun _ => False) hl3 (Only.of_below bW) (fun _ _ h => h)) hI1 hI2
    simp only [Row.cells, hid] at h
    exact h
  have HCP := Lib.hid hcp
  have Du := Lib.hid du
  have hwr : IntKind.i64.wrap (i : Int) = (i : Int) := by rw [IntKind.wrap_i64]; omega
  have d1 : decide ((0 : Int) < (i : Int) + 1) = true := decide_eq_true (by omega)
  have d2 : decide ((i : Int) + 1 ≤ (q.length : Int)) = true := decide_eq_true (by omega)
  have hz : (i : Int) < q.length := by omega
  have b0 : Below w.heap.size w w.drew := (Below.refl _ w).drew
  clear hexit hS' ht1 hl1 ht3 hl3 du hit hc kg ky hid hcp
  conv => arg 2; whnf
  refine wp_region_held_drew (S := fun w' : World => w'.cell? ⟨X, 12, none⟩ = some (.int .i64 ((i : Int) + 1)) ∧ w'.cell? ⟨g2, 0, none⟩ = some (.slice (some ⟨b, 0, none⟩) q.length cq) ∧ w'.cell? ⟨g2, 1, none⟩ = some (.int .i64 R) ∧ w'.cell? ⟨Y, 0, none⟩ = some (.int .i64 ((i : Int) + 1)) ∧ w'.cell? ⟨Y, 1, none⟩ = some (.bool I.frm.null) ∧ w'.cell? ⟨Y, 2, none⟩ = some (.string I.frm.loc) ∧ w'.cell? ⟨Y, 3, none⟩ = some (.string I.frm.dom) ∧ w'.cell? ⟨Y, 4, none⟩ = some (.slice A1 I.to.length c1) ∧ w'.cell? ⟨Y, 5, none⟩ = some (.slice A2 I.lines.length c2) ∧ w'.cell? ⟨Y, 6, none⟩ = some (.bool I.flags.head) ∧ w'.cell? ⟨Y, 7, none⟩ = some (.bool I.flags.body) ∧ w'.cell? ⟨Y, 8, none⟩ = some (.bool I.flags.bad) ∧ w'.cell? ⟨Y, 9, none⟩ = some (.int .i64 I.flags.lines) ∧ w'.cell? ⟨Y, 10, none⟩ = some (.int .i64 I.flags.hops) ∧ w'.cell? ⟨Y, 11, none⟩ = some (.int .i64 I.bytes) ∧ w'.cell? ⟨b, i * 12, none⟩ = some (.int .i64 ((i : Int) + 1)) ∧ w'.cell? ⟨b, i * 12 + 1, none⟩ = some (.bool I.frm.null) ∧ w'.cell? ⟨b, i * 12 + 2, none⟩ = some (.string I.frm.loc) ∧ w'.cell? ⟨b, i * 12 + 3, none⟩ = some (.string I.frm.dom) ∧ w'.cell? ⟨b, i * 12 + 4, none⟩ = some (.slice A3 I.to.length c3) ∧ w'.cell? ⟨b, i * 12 + 5, none⟩ = some (.slice A4 I.lines.length c4) ∧ w'.cell? ⟨b, i * 12 + 6, none⟩ = some (.bool I.flags.head) ∧ w'.cell? ⟨b, i * 12 + 7, none⟩ = some (.bool I.flags.body) ∧ w'.cell? ⟨b, i * 12 + 8, none⟩ = some (.bool I.flags.bad) ∧ w'.cell? ⟨b, i * 12 + 9, none⟩ = some (.int .i64 I.flags.lines) ∧ w'.cell? ⟨b, i * 12 + 10, none⟩ = some (.int .i64 I.flags.hops) ∧ w'.cell? ⟨b, i * 12 + 11, none⟩ = some (.int .i64 I.bytes)) (by kernel_rfl) ?_ (fun hHeld => ?_)
  · exact HS.out _ b0
  refine wpAnyH_take (i := 0) (oi := { dst := some 268, op := Op.move (Operand.tmp 29), type := 4, pos := "law.go:106", after := #[], guard := none }) (v := ?_) rfl (by kernel_rfl) (by kernel_rfl) (by kernel_rfl) (fun c a w h => hpan c (Act.put a _ _) a w rfl h) (Or.inl ⟨by rfl, ?_⟩) (by assumption) ?_
  rotate_left
  · intro wS hSw; (try dsimp only at hSw); go_simp; (try with_reducible rfl)
  try simp only [Act.put, List.setIfInBounds_toArray, List.set_cons_zero, List.set_cons_succ]
  refine wpAnyH_take (i := 1) (oi := { dst := some 269, op := Op.fieldAddr 40 (Operand.tmp 14) 2, type := 0, pos := "law.go:106", after := #[], guard := none }) (v := ?_) rfl (by kernel_rfl) (by kernel_rfl) (by kernel_rfl) (fun c a w h => hpan c (Act.put a _ _) a w rfl h) (Or.inl ⟨by rfl, ?_⟩) (by assumption) ?_
  rotate_left
  · intro wS hSw; (try dsimp only at hSw); go_simp; (try with_reducible rfl)
  try simp only [Act.put, List.setIfInBounds_toArray, List.set_cons_zero, List.set_cons_succ]
  refine wpAnyH_take (i := 2) (oi := { dst := some 270, op := Op.load 3 (Operand.tmp 269), type := 3, pos := "law.go:106", after := #[{ on := 1, ground := Ground.data }], guard := none }) (v := ?_) rfl (by kernel_rfl) (by kernel_rfl) (by kernel_rfl) (fun c a w h => hpan c (Act.put a _ _) a w rfl h) (Or.inl ⟨by rfl, ?_⟩) (by assumption) ?_
  rotate_left
  · intro wS hSw; (try dsimp only at hSw); go_simp; (try with_reducible rfl)
  try simp only [Act.put, List.setIfInBounds_toArray, List.set_cons_zero, List.set_cons_succ]
  refine wpAnyH_take (i := 3) (oi := { dst := some 271, op := Op.binOp BinOp.gtr 3 (Operand.tmp 270) (Operand.const (Value.int IntKind.i64 0)) 3, type := 4, pos := "law.go:106", after := #[{ on := 2, ground := Ground.data }], guard := none }) (v := ?_) rfl (by kernel_rfl) (by kernel_rfl) (by kernel_rfl) (fun c a w h => hpan c (Act.put a _ _) a w rfl h) (Or.inl ⟨by rfl, ?_⟩) (by assumption) ?_
  rotate_left
  · intro wS hSw; (try dsimp only at hSw); go_simp; (try with_reducible rfl)
  try simp only [Act.put, List.setIfInBounds_toArray, List.set_cons_zero, List.set_cons_succ]
  refine wpAnyH_take (i := 4) (oi := { dst := some 272, op := Op.move (Operand.tmp 271), type := 4, pos := "law.go:106", after := #[{ on := 3, ground := Ground.data }], guard := none }) (v := ?_) rfl (by kernel_rfl) (by kernel_rfl) (by kernel_rfl) (fun c a w h => hpan c (Act.put a _ _) a w rfl h) (Or.inl ⟨by rfl, ?_⟩) (by assumption) ?_
  rotate_left
  · intro wS hSw; (try dsimp only at hSw); go_simp; (try with_reducible rfl)
  try simp only [Act.put, List.setIfInBounds_toArray, List.set_cons_zero, List.set_cons_succ]
  refine wpAnyH_take (i := 5) (oi := { dst := some 273, op := Op.fieldAddr 40 (Operand.tmp 14) 2, type := 0, pos := "law.go:106", after := #[{ on := 4, ground := Ground.guard }], guard := some (4, true) }) (v := ?_) rfl (by kernel_rfl) (by kernel_rfl) (by kernel_rfl) (fun c a w h => hpan c (Act.put a _ _) a w rfl h) (Or.inl ⟨by rfl, ?_⟩) (by assumption) ?_
  rotate_left
  · intro wS hSw; (try dsimp only at hSw); go_simp; (try with_reducible rfl)
  try simp only [Act.put, List.setIfInBounds_toArray, List.set_cons_zero, List.set_cons_succ]
  refine wpAnyH_take (i := 6) (oi := { dst := some 274, op := Op.load 3 (Operand.tmp 273), type := 3, pos := "law.go:106", after := #[{ on := 5, ground := Ground.data }, { on := 4, ground := Ground.guard }], guard := some (4, true) }) (v := ?_) rfl (by kernel_rfl) (by kernel_rfl) (by kernel_rfl) (fun c a w h => hpan c (Act.put a _ _) a w rfl h) (Or.inl ⟨by rfl, ?_⟩) (by assumption) ?_
  rotate_left
  · intro wS hSw; (try dsimp only at hSw); go_simp; (try with_reducible rfl)
  try simp only [Act.put, List.setIfInBounds_toArray, List.set_cons_zero, List.set_cons_succ]
  refine wpAnyH_take (i := 7) (oi := { dst := some 275, op := Op.move (Operand.tmp 12), type := 27, pos := "law.go:106", after := #[{ on := 4, ground := Ground.guard }], guard := some (4, true) }) (v := ?_) rfl (by kernel_rfl) (by kernel_rfl) (by kernel_rfl) (fun c a w h => hpan c (Act.put a _ _) a w rfl h) (Or.inl ⟨by rfl, ?_⟩) (by assumption) ?_
  rotate_left
  · intro wS hSw; (try dsimp only at hSw); go_simp; (try with_reducible rfl)
  try simp only [Act.put, List.setIfInBounds_toArray, List.set_cons_zero, List.set_cons_succ]
  refine wpAnyH_take (i := 8) (oi := { dst := some 276, op := Op.nilCheck (Operand.tmp 275), type := 0, pos := "law.go:106", after := #[{ on := 7, ground := Ground.data }, { on := 4, ground := Ground.guard }], guard := some (4, true) }) (v := ?_) rfl (by kernel_rfl) (by kernel_rfl) (by kernel_rfl) (fun c a w h => hpan c (Act.put a _ _) a w rfl h) (Or.inl ⟨by rfl, ?_⟩) (by assumption) ?_
  rotate_left
  · intro wS hSw; (try dsimp only at hSw); go_simp; (try with_reducible rfl)
  try simp only [Act.put, List.setIfInBounds_toArray, List.set_cons_zero, List.set_cons_succ]
  refine wpAnyH_take (i := 9) (oi := { dst := some 277, op := Op.fieldAddr 56 (Operand.tmp 276) 0, type := 0, pos := "law.go:106", after := #[{ on := 8, ground := Ground.data }, { on := 4, ground := Ground.guard }], guard := some (4, true) }) (v := ?_) rfl (by kernel_rfl) (by kernel_rfl) (by kernel_rfl) (fun c a w h => hpan c (Act.put a _ _) a w rfl h) (Or.inl ⟨by rfl, ?_⟩) (by assumption) ?_
  rotate_left
  · intro wS hSw; (try dsimp only at hSw); go_simp; (try with_reducible rfl)
  try simp only [Act.put, List.setIfInBounds_toArray, List.set_cons_zero, List.set_cons_succ]
  refine wpAnyH_take (i := 10) (oi := { dst := some 278, op := Op.load 54 (Operand.tmp 277), type := 54, pos := "law.go:106", after := #[{ on := 9, ground := Ground.data }, { on := 4, ground := Ground.guard }], guard := some (4, true) }) (v := ?_) rfl (by kernel_rfl) (by kernel_rfl) (by kernel_rfl) (fun c a w h => hpan c (Act.put a _ _) a w rfl h) (Or.inl ⟨by rfl, ?_⟩) (by assumption) ?_
  rotate_left
  · intro wS hSw; (try dsimp only at hSw); go_simp; (try with_reducible rfl)
  try simp only [Act.put, List.setIfInBounds_toArray, List.set_cons_zero, List.set_cons_succ]
  refine wpAnyH_take (i := 11) (oi := { dst := some 279, op := Op.call { callee := Callee.builtin Builtin.len, args := #[Operand.tmp 278], argTypes := #[54] }, type := 3, pos := "law.go:106", after := #[{ on := 10, ground := Ground.data }, { on := 4, ground := Ground.guard }], guard := some (4, true) }) (v := ?_) rfl (by kernel_rfl) (by kernel_rfl) (by kernel_rfl) (fun c a w h => hpan c (Act.put a _ _) a w rfl h) (Or.inl ⟨by rfl, ?_⟩) (by assumption) ?_
  rotate_left
  · intro wS hSw; (try dsimp only at hSw); go_simp; (try with_reducible rfl)
  try simp only [Act.put, List.setIfInBounds_toArray, List.set_cons_zero, List.set_cons_succ]
  refine wpAnyH_take (i := 12) (oi := { dst := some 280, op := Op.binOp BinOp.leq 3 (Operand.tmp 274) (Operand.tmp 279) 3, type := 4, pos := "law.go:106", after := #[{ on := 6, ground := Ground.data }, { on := 11, ground := Ground.data }, { on := 4, ground := Ground.guard }], guard := some (4, true) }) (v := ?_) rfl (by kernel_rfl) (by kernel_rfl) (by kernel_rfl) (fun c a w h => hpan c (Act.put a _ _) a w rfl h) (Or.inl ⟨by rfl, ?_⟩) (by assumption) ?_
  rotate_left
  · intro wS hSw; (try dsimp only at hSw); go_simp; (try with_reducible rfl)
  try simp only [Act.put, List.setIfInBounds_toArray, List.set_cons_zero, List.set_cons_succ]
  refine wpAnyH_take (i := 13) (oi := { dst := some 281, op := Op.pick (Operand.tmp 272) (Operand.tmp 280) (Operand.const (Value.bool false)), type := 4, pos := "law.go:106", after := #[{ on := 4, ground := Ground.data }, { on := 12, ground := Ground.data }], guard := none }) (v := ?_) rfl (by kernel_rfl) (by kernel_rfl) (by kernel_rfl) (fun c a w h => hpan c (Act.put a _ _) a w rfl h) (Or.inl ⟨by rfl, ?_⟩) (by assumption) ?_
  rotate_left
  · intro wS hSw; (try dsimp only at hSw); go_simp; (try with_reducible rfl)
  try simp only [Act.put, List.setIfInBounds_toArray, List.set_cons_zero, List.set_cons_succ]
  refine wpAnyH_take (i := 14) (oi := { dst := some 282, op := Op.binOp BinOp.neq 4 (Operand.tmp 268) (Operand.tmp 281) 4, type := 4, pos := "law.go:106", after := #[{ on := 0, ground := Ground.data }, { on := 13, ground := Ground.data }], guard := none }) (v := ?_) rfl (by kernel_rfl) (by kernel_rfl) (by kernel_rfl) (fun c a w h => hpan c (Act.put a _ _) a w rfl h) (Or.inl ⟨by rfl, ?_⟩) (by assumption) ?_
  rotate_left
  · intro wS hSw; (try dsimp only at hSw); go_simp; (try with_reducible rfl)
  try simp only [Act.put, List.setIfInBounds_toArray, List.set_cons_zero, List.set_cons_succ]
  refine wpAnyH_take (i := 15) (oi := { dst := some 283, op := Op.move (Operand.tmp 282), type := 4, pos := "law.go:106", after := #[{ on := 14, ground := Ground.data }, { on := 4, ground := Ground.chain }], guard := none }) (v := ?_) rfl (by kernel_rfl) (by kernel_rfl) (by kernel_rfl) (fun c a w h => hpan c (Act.put a _ _) a w rfl h) (Or.inl ⟨by rfl, ?_⟩) (by assumption) ?_
  rotate_left
  · intro wS hSw; (try dsimp only at hSw); go_simp; (try with_reducible rfl)
  try simp only [Act.put, List.setIfInBounds_toArray, List.set_cons_zero, List.set_cons_succ]
  refine wpAnyH_take (i := 16) (oi := { dst := some 284, op := Op.move (Operand.tmp 29), type := 4, pos := "law.go:106", after := #[{ on := 15, ground := Ground.guard }], guard := some (15, false) }) (v := ?_) rfl (by kernel_rfl) (by kernel_rfl) (by kernel_rfl) (fun c a w h => hpan c (Act.put a _ _) a w rfl h) (Or.inl ⟨by rfl, ?_⟩) (by assumption) ?_
  rotate_left
  · intro wS hSw; (try dsimp only at hSw); go_simp; (try with_reducible rfl)
  try simp only [Act.put, List.setIfInBounds_toArray, List.set_cons_zero, List.set_cons_succ]
  refine wpAnyH_take (i := 17) (oi := { dst := some 285, op := Op.move (Operand.tmp 284), type := 4, pos := "law.go:106", after := #[{ on := 16, ground := Ground.data }, { on := 15, ground := Ground.chain }, { on := 15, ground := Ground.guard }], guard := some (15, false) }) (v := ?_) rfl (by kernel_rfl) (by kernel_rfl) (by kernel_rfl) (fun c a w h => hpan c (Act.put a _ _) a w rfl h) (Or.inl ⟨by rfl, ?_⟩) (by assumption) ?_
  rotate_left
  · intro wS hSw; (try dsimp only at hSw); go_simp; (try with_reducible rfl)
  try simp only [Act.put, List.setIfInBounds_toArray, List.set_cons_zero, List.set_cons_succ]
  refine wpAnyH_take (i := 18) (oi := { dst := some 286, op := Op.load 51 (Operand.tmp 28), type := 51, pos := "law.go:106", after := #[{ on := 17, ground := Ground.guard }], guard := some (17, true) }) (v := ?_) rfl (by kernel_rfl) (by kernel_rfl) (by kernel_rfl) (fun c a w h => hpan c (Act.put a _ _) a w rfl h) (Or.inl ⟨by rfl, ?_⟩) (by assumption) ?_
  rotate_left
  · intro wS hSw; (try dsimp only at hSw); go_simp; (try with_reducible rfl)
  try simp only [Act.put, List.setIfInBounds_toArray, List.set_cons_zero, List.set_cons_succ]
  refine wpAnyH_take (i := 19) (oi := { dst := some 287, op := Op.move (Operand.tmp 12), type := 27, pos := "law.go:106", after := #[{ on := 17, ground := Ground.guard }], guard := some (17, true) }) (v := ?_) rfl (by kernel_rfl) (by kernel_rfl) (by kernel_rfl) (fun c a w h => hpan c (Act.put a _ _) a w rfl h) (Or.inl ⟨by rfl, ?_⟩) (by assumption) ?_
  rotate_left
  · intro wS hSw; (try dsimp only at hSw); go_simp; (try with_reducible rfl)
  try simp only [Act.put, List.setIfInBounds_toArray, List.set_cons_zero, List.set_cons_succ]
  refine wpAnyH_take (i := 20) (oi := { dst := some 288, op := Op.nilCheck (Operand.tmp 287), type := 0, pos := "law.go:106", after := #[{ on := 19, ground := Ground.data }, { on := 17, ground := Ground.guard }], guard := some (17, true) }) (v := ?_) rfl (by kernel_rfl) (by kernel_rfl) (by kernel_rfl) (fun c a w h => hpan c (Act.put a _ _) a w rfl h) (Or.inl ⟨by rfl, ?_⟩) (by assumption) ?_
  rotate_left
  · intro wS hSw; (try dsimp only at hSw); go_simp; (try with_reducible rfl)
  try simp only [Act.put, List.setIfInBounds_toArray, List.set_cons_zero, List.set_cons_succ]
  refine wpAnyH_take (i := 21) (oi := { dst := some 289, op := Op.fieldAddr 56 (Operand.tmp 288) 0, type := 0, pos := "law.go:106", after := #[{ on := 20, ground := Ground.data }, { on := 17, ground := Ground.guard }], guard := some (17, true) }) (v := ?_) rfl (by kernel_rfl) (by kernel_rfl) (by kernel_rfl) (fun c a w h => hpan c (Act.put a _ _) a w rfl h) (Or.inl ⟨by rfl, ?_⟩) (by assumption) ?_
  rotate_left
  · intro wS hSw; (try dsimp only at hSw); go_simp; (try with_reducible rfl)
  try simp only [Act.put, List.setIfInBounds_toArray, List.set_cons_zero, List.set_cons_succ]
  refine wpAnyH_take (i := 22) (oi := { dst := some 290, op := Op.load 54 (Operand.tmp 289), type := 54, pos := "law.go:106", after := #[{ on := 21, ground := Ground.data }, { on := 17, ground := Ground.guard }], guard := some (17, true) }) (v := ?_) rfl (by kernel_rfl) (by kernel_rfl) (by kernel_rfl) (fun c a w h => hpan c (Act.put a _ _) a w rfl h) (Or.inl ⟨by rfl, ?_⟩) (by assumption) ?_
  rotate_left
  · intro wS hSw; (try dsimp only at hSw); go_simp; (try with_reducible rfl)
  try simp only [Act.put, List.setIfInBounds_toArray, List.set_cons_zero, List.set_cons_succ]
  refine wpAnyH_take (i := 23) (oi := { dst := some 291, op := Op.fieldAddr 40 (Operand.tmp 14) 2, type := 0, pos := "law.go:106", after := #[{ on := 17, ground := Ground.guard }], guard := some (17, true) }) (v := ?_) rfl (by kernel_rfl) (by kernel_rfl) (by kernel_rfl) (fun c a w h => hpan c (Act.put a _ _) a w rfl h) (Or.inl ⟨by rfl, ?_⟩) (by assumption) ?_
  rotate_left
  · intro wS hSw; (try dsimp only at hSw); go_simp; (try with_reducible rfl)
  try simp only [Act.put, List.setIfInBounds_toArray, List.set_cons_zero, List.set_cons_succ]
  refine wpAnyH_take (i := 24) (oi := { dst := some 292, op := Op.load 3 (Operand.tmp 291), type := 3, pos := "law.go:106", after := #[{ on := 23, ground := Ground.data }, { on := 17, ground := Ground.guard }], guard := some (17, true) }) (v := ?_) rfl (by kernel_rfl) (by kernel_rfl) (by kernel_rfl) (fun c a w h => hpan c (Act.put a _ _) a w rfl h) (Or.inl ⟨by rfl, ?_⟩) (by assumption) ?_
  rotate_left
  · intro wS hSw; (try dsimp only at hSw); go_simp; (try with_reducible rfl)
  try simp only [Act.put, List.setIfInBounds_toArray, List.set_cons_zero, List.set_cons_succ]
  refine wpAnyH_take (i := 25) (oi := { dst := some 293, op := Op.binOp BinOp.sub 3 (Operand.tmp 292) (Operand.const (Value.int IntKind.i64 1)) 3, type := 3, pos := "law.go:106", after := #[{ on := 24, ground := Ground.data }, { on := 17, ground := Ground.guard }], guard := some (17, true) }) (v := ?_) rfl (by kernel_rfl) (by kernel_rfl) (by kernel_rfl) (fun c a w h => hpan c (Act.put a _ _) a w rfl h) (Or.inl ⟨by rfl, ?_⟩) (by assumption) ?_
  rotate_left
  · intro wS hSw; (try dsimp only at hSw); go_simp; (try with_reducible rfl)
  try simp only [Act.put, List.setIfInBounds_toArray, List.set_cons_zero, List.set_cons_succ]
  try rw [hwr]
  refine wpAnyH_take (i := 26) (oi := { dst := some 294, op := Op.indexAddr 54 (Operand.tmp 290) (Operand.tmp 293), type := 0, pos := "law.go:106", after := #[{ on := 22, ground := Ground.data }, { on := 25, ground := Ground.data }, { on := 17, ground := Ground.guard }], guard := some (17, true) }) (v := ?_) rfl (by kernel_rfl) (by kernel_rfl) (by kernel_rfl) (fun c a w h => hpan c (Act.put a _ _) a w rfl h) (Or.inl ⟨by rfl, ?_⟩) (by assumption) ?_
  rotate_left
  · intro wS hSw; (try dsimp only at hSw); go_simp; (try with_reducible rfl)
  try simp only [Act.put, List.setIfInBounds_toArray, List.set_cons_zero, List.set_cons_succ]
  refine wpAnyH_take (i := 27) (oi := { dst := some 295, op := Op.load 51 (Operand.tmp 294), type := 51, pos := "law.go:106", after := #[{ on := 26, ground := Ground.data }, { on := 17, ground := Ground.guard }], guard := some (17, true) }) (v := ?_) rfl (by kernel_rfl) (by kernel_rfl) (by kernel_rfl) (fun c a w h => hpan c (Act.put a _ _) a w rfl h) (Or.inl ⟨by rfl, ?_⟩) (by assumption) ?_
  rotate_left
  · intro wS hSw; (try dsimp only at hSw); go_simp; (try with_reducible rfl)
  try simp only [Act.put, List.setIfInBounds_toArray, List.set_cons_zero, List.set_cons_succ]
  refine wpAnyH_ready (rs := [28]) (by kernel_rfl) (by simp) ?_
  refine AllReadyH.cons (o := { dst := some 296, op := Op.call { callee := Callee.value (Operand.func 26), args := #[Operand.tmp 286, Operand.tmp 295], argTypes := #[51, 51] }, type := 4, pos := "law.go:106", after := #[{ on := 18, ground := Ground.data }, { on := 27, ground := Ground.data }, { on := 17, ground := Ground.chain }, { on := 17, ground := Ground.guard }], guard := some (17, true) }) rfl (fun K hK => ?_) AllReadyH.nil
  go_simp
  refine (HCP.out _ b0).mono ?_
  rintro e w4 ⟨rfl, k4⟩
  replace b0 := b0.trans (k4.mono b0.size)
  clear k4
  try dsimp only
  refine hK.out _ _ ?_ (fun hHeld => ?_)
  · exact HS.out _ b0
  clear hK K
  try simp only [Act.put, List.setIfInBounds_toArray, List.set_cons_zero, List.set_cons_succ]
  refine wpAnyH_take (i := 29) (oi := { dst := some 297, op := Op.unOp UnOp.not 4 (Operand.tmp 296), type := 4, pos := "law.go:106", after := #[{ on := 28, ground := Ground.data }, { on := 17, ground := Ground.guard }], guard := some (17, true) }) (v := ?_) rfl (by kernel_rfl) (by kernel_rfl) (by kernel_rfl) (fun c a w h => hpan c (Act.put a _ _) a w rfl h) (Or.inl ⟨by rfl, ?_⟩) (by assumption) ?_
  rotate_left
  · intro wS hSw; (try dsimp only at hSw); go_simp; (try with_reducible rfl)
  try simp only [Act.put, List.setIfInBounds_toArray, List.set_cons_zero, List.set_cons_succ]
  refine wpAnyH_take (i := 30) (oi := { dst := some 298, op := Op.pick (Operand.tmp 285) (Operand.tmp 297) (Operand.const (Value.bool false)), type := 4, pos := "law.go:106", after := #[{ on := 17, ground := Ground.data }, { on := 29, ground := Ground.data }, { on := 15, ground := Ground.guard }], guard := some (15, false) }) (v := ?_) rfl (by kernel_rfl) (by kernel_rfl) (by kernel_rfl) (fun c a w h => hpan c (Act.put a _ _) a w rfl h) (Or.inl ⟨by rfl, ?_⟩) (by assumption) ?_
  rotate_left
  · intro wS hSw; (try dsimp only at hSw); go_simp; (try with_reducible rfl)
  try simp only [Act.put, List.setIfInBounds_toArray, List.set_cons_zero, List.set_cons_succ]
  refine wpAnyH_take (i := 31) (oi := { dst := some 299, op := Op.pick (Operand.tmp 283) (Operand.const (Value.bool true)) (Operand.tmp 298), type := 4, pos := "law.go:106", after := #[{ on := 15, ground := Ground.data }, { on := 30, ground := Ground.data }], guard := none }) (v := ?_) rfl (by kernel_rfl) (by kernel_rfl) (by kernel_rfl) (fun c a w h => hpan c (Act.put a _ _) a w rfl h) (Or.inl ⟨by rfl, ?_⟩) (by assumption) ?_
  rotate_left
  · intro wS hSw; (try dsimp only at hSw); go_simp; (try with_reducible rfl)
  try simp only [Act.put, List.setIfInBounds_toArray, List.set_cons_zero, List.set_cons_succ]
  refine wpAnyH_take (i := 32) (oi := { dst := some 300, op := Op.move (Operand.tmp 299), type := 4, pos := "law.go:106", after := #[{ on := 31, ground := Ground.data }, { on := 28, ground := Ground.chain }], guard := none }) (v := ?_) rfl (by kernel_rfl) (by kernel_rfl) (by kernel_rfl) (fun c a w h => hpan c (Act.put a _ _) a w rfl h) (Or.inl ⟨by rfl, ?_⟩) (by assumption) ?_
  rotate_left
  · intro wS hSw; (try dsimp only at hSw); go_simp; (try with_reducible rfl)
  try simp only [Act.put, List.setIfInBounds_toArray, List.set_cons_zero, List.set_cons_succ]
  refine wpAnyH_take (i := 33) (oi := { dst := some 301, op := Op.move (Operand.tmp 11), type := 25, pos := "law.go:106", after := #[{ on := 32, ground := Ground.guard }], guard := some (32, false) }) (v := ?_) rfl (by kernel_rfl) (by kernel_rfl) (by kernel_rfl) (fun c a w h => hpan c (Act.put a _ _) a w rfl h) (Or.inl ⟨by rfl, ?_⟩) (by assumption) ?_
  rotate_left
  · intro wS hSw; (try dsimp only at hSw); go_simp; (try with_reducible rfl)
  try simp only [Act.put, List.setIfInBounds_toArray, List.set_cons_zero, List.set_cons_succ]
  refine wpAnyH_take (i := 35) (oi := { dst := some 303, op := Op.move (Operand.tmp 12), type := 27, pos := "law.go:106", after := #[{ on := 32, ground := Ground.guard }], guard := some (32, false) }) (v := ?_) rfl (by kernel_rfl) (by kernel_rfl) (by kernel_rfl) (fun c a w h => hpan c (Act.put a _ _) a w rfl h) (Or.inl ⟨by rfl, ?_⟩) (by assumption) ?_
  rotate_left
  · intro wS hSw; (try dsimp only at hSw); go_simp; (try with_reducible rfl)
  try simp only [Act.put, List.setIfInBounds_toArray, List.set_cons_zero, List.set_cons_succ]
  refine wpAnyH_take (i := 36) (oi := { dst := some 304, op := Op.nilCheck (Operand.tmp 303), type := 0, pos := "law.go:106", after := #[{ on := 35, ground := Ground.data }, { on := 32, ground := Ground.guard }], guard := some (32, false) }) (v := ?_) rfl (by kernel_rfl) (by kernel_rfl) (by kernel_rfl) (fun c a w h => hpan c (Act.put a _ _) a w rfl h) (Or.inl ⟨by rfl, ?_⟩) (by assumption) ?_
  rotate_left
  · intro wS hSw; (try dsimp only at hSw); go_simp; (try with_reducible rfl)
  try simp only [Act.put, List.setIfInBounds_toArray, List.set_cons_zero, List.set_cons_succ]
  refine wpAnyH_take (i := 37) (oi := { dst := some 305, op := Op.fieldAddr 56 (Operand.tmp 304) 0, type := 0, pos := "law.go:106", after := #[{ on := 36, ground := Ground.data }, { on := 32, ground := Ground.guard }], guard := some (32, false) }) (v := ?_) rfl (by kernel_rfl) (by kernel_rfl) (by kernel_rfl) (fun c a w h => hpan c (Act.put a _ _) a w rfl h) (Or.inl ⟨by rfl, ?_⟩) (by assumption) ?_
  rotate_left
  · intro wS hSw; (try dsimp only at hSw); go_simp; (try with_reducible rfl)
  try simp only [Act.put, List.setIfInBounds_toArray, List.set_cons_zero, List.set_cons_succ]
  refine wpAnyH_take (i := 38) (oi := { dst := some 306, op := Op.load 54 (Operand.tmp 305), type := 54, pos := "law.go:106", after := #[{ on := 37, ground := Ground.data }, { on := 32, ground := Ground.guard }], guard := some (32, false) }) (v := ?_) rfl (by kernel_rfl) (by kernel_rfl) (by kernel_rfl) (fun c a w h => hpan c (Act.put a _ _) a w rfl h) (Or.inl ⟨by rfl, ?_⟩) (by assumption) ?_
  rotate_left
  · intro wS hSw; (try dsimp only at hSw); go_simp; (try with_reducible rfl)
  try simp only [Act.put, List.setIfInBounds_toArray, List.set_cons_zero, List.set_cons_succ]
  refine wpAnyH_take (i := 39) (oi := { dst := some 307, op := Op.call { callee := Callee.builtin Builtin.len, args := #[Operand.tmp 306], argTypes := #[54] }, type := 3, pos := "law.go:106", after := #[{ on := 38, ground := Ground.data }, { on := 32, ground := Ground.guard }], guard := some (32, false) }) (v := ?_) rfl (by kernel_rfl) (by kernel_rfl) (by kernel_rfl) (fun c a w h => hpan c (Act.put a _ _) a w rfl h) (Or.inl ⟨by rfl, ?_⟩) (by assumption) ?_
  rotate_left
  · intro wS hSw; (try dsimp only at hSw); go_simp; (try with_reducible rfl)
  try simp only [Act.put, List.setIfInBounds_toArray, List.set_cons_zero, List.set_cons_succ]
  refine wpAnyH_ready (rs := [34]) (by kernel_rfl) (by simp) ?_
  refine AllReadyH.cons (o := { dst := some 302, op := Op.call { callee := Callee.value (Operand.func 27), args := #[Operand.tmp 301], argTypes := #[25] }, type := 3, pos := "law.go:106", after := #[{ on := 33, ground := Ground.data }, { on := 32, ground := Ground.chain }, { on := 32, ground := Ground.guard }], guard := some (32, false) }) rfl (fun K hK => ?_) AllReadyH.nil
  go_simp
  obtain ⟨P1, hq1, _, _⟩ := (Du.out.below b0).one
  refine (qs_len hq1).mono ?_
  rintro e w' ⟨rfl, rfl⟩
  clear hq1
  try dsimp only
  refine hK.out _ _ ?_ (fun hHeld => ?_)
  · exact HS.out _ b0
  clear hK K
  try simp only [Act.put, List.setIfInBounds_toArray, List.set_cons_zero, List.set_cons_succ]
  refine wpAnyH_take (i := 40) (oi := { dst := some 308, op := Op.binOp BinOp.neq 3 (Operand.tmp 302) (Operand.tmp 307) 3, type := 4, pos := "law.go:106", after := #[{ on := 34, ground := Ground.data }, { on := 39, ground := Ground.data }, { on := 32, ground := Ground.guard }], guard := some (32, false) }) (v := ?_) rfl (by kernel_rfl) (by kernel_rfl) (by kernel_rfl) (fun c a w h => hpan c (Act.put a _ _) a w rfl h) (Or.inl ⟨by rfl, ?_⟩) (by assumption) ?_
  rotate_left
  · intro wS hSw; (try dsimp only at hSw); go_simp; (try with_reducible rfl)
  try simp only [Act.put, List.setIfInBounds_toArray, List.set_cons_zero, List.set_cons_succ]
  refine wpAnyH_take (i := 41) (oi := { dst := some 309, op := Op.pick (Operand.tmp 300) (Operand.const (Value.bool true)) (Operand.tmp 308), type := 4, pos := "law.go:106", after := #[{ on := 32, ground := Ground.data }, { on := 40, ground := Ground.data }], guard := none }) (v := ?_) rfl (by kernel_rfl) (by kernel_rfl) (by kernel_rfl) (fun c a w h => hpan c (Act.put a _ _) a w rfl h) (Or.inl ⟨by rfl, ?_⟩) (by assumption) ?_
  rotate_left
  · intro wS hSw; (try dsimp only at hSw); go_simp; (try with_reducible rfl)
  try simp only [Act.put, List.setIfInBounds_toArray, List.set_cons_zero, List.set_cons_succ]
  refine wpAnyH_take (i := 42) (oi := { dst := some 310, op := Op.move (Operand.tmp 309), type := 4, pos := "law.go:106", after := #[{ on := 41, ground := Ground.data }, { on := 34, ground := Ground.chain }], guard := none }) (v := ?_) rfl (by kernel_rfl) (by kernel_rfl) (by kernel_rfl) (fun c a w h => hpan c (Act.put a _ _) a w rfl h) (Or.inl ⟨by rfl, ?_⟩) (by assumption) ?_
  rotate_left
  · intro wS hSw; (try dsimp only at hSw); go_simp; (try with_reducible rfl)
  try simp only [Act.put, List.setIfInBounds_toArray, List.set_cons_zero, List.set_cons_succ]
  refine wpAnyH_take (i := 43) (oi := { dst := some 311, op := Op.move (Operand.tmp 11), type := 25, pos := "law.go:106", after := #[{ on := 42, ground := Ground.guard }], guard := some (42, false) }) (v := ?_) rfl (by kernel_rfl) (by kernel_rfl) (by kernel_rfl) (fun c a w h => hpan c (Act.put a _ _) a w rfl h) (Or.inl ⟨by rfl, ?_⟩) (by assumption) ?_
  rotate_left
  · intro wS hSw; (try dsimp only at hSw); go_simp; (try with_reducible rfl)
  try simp only [Act.put, List.setIfInBounds_toArray, List.set_cons_zero, List.set_cons_succ]
  refine wpAnyH_take (i := 45) (oi := { dst := some 313, op := Op.move (Operand.tmp 12), type := 27, pos := "law.go:106", after := #[{ on := 42, ground := Ground.guard }], guard := some (42, false) }) (v := ?_) rfl (by kernel_rfl) (by kernel_rfl) (by kernel_rfl) (fun c a w h => hpan c (Act.put a _ _) a w rfl h) (Or.inl ⟨by rfl, ?_⟩) (by assumption) ?_
  rotate_left
  · intro wS hSw; (try dsimp only at hSw); go_simp; (try with_reducible rfl)
  try simp only [Act.put, List.setIfInBounds_toArray, List.set_cons_zero, List.set_cons_succ]
  refine wpAnyH_ready (rs := [44]) (by kernel_rfl) (by simp) ?_
  refine AllReadyH.cons (o := { dst := some 312, op := Op.call { callee := Callee.value (Operand.func 28), args := #[Operand.tmp 311], argTypes := #[25] }, type := 3, pos := "law.go:106", after := #[{ on := 43, ground := Ground.data }, { on := 42, ground := Ground.chain }, { on := 42, ground := Ground.guard }], guard := some (42, false) }) rfl (fun K hK => ?_) AllReadyH.nil
  go_simp
  obtain ⟨P1, hq1, _, _⟩ := (Du.out.below b0).one
  refine (qs_open hq1 Sm.out).mono ?_
  rintro e w5 ⟨rfl, _, k5⟩
  replace b0 := b0.trans (k5.mono b0.size)
  clear k5 hq1
  try dsimp only
  refine hK.out _ _ ?_ (fun hHeld => ?_)
  · exact HS.out _ b0
  clear hK K
  try simp only [Act.put, List.setIfInBounds_toArray, List.set_cons_zero, List.set_cons_succ]
  refine wpAnyH_ready (rs := [46]) (by kernel_rfl) (by simp) ?_
  refine AllReadyH.cons (o := { dst := some 314, op := Op.call { callee := Callee.value (Operand.func 29), args := #[Operand.tmp 313], argTypes := #[27] }, type := 3, pos := "law.go:106", after := #[{ on := 45, ground := Ground.data }, { on := 44, ground := Ground.chain }, { on := 42, ground := Ground.guard }], guard := some (42, false) }) rfl (fun K hK => ?_) AllReadyH.nil
  go_simp
  obtain ⟨P1, hq1, _, _⟩ := (Du.out.below b0).two
  refine (rs_open hq1 Sm.out).mono ?_
  rintro e w6 ⟨rfl, _, k5⟩
  replace b0 := b0.trans (k5.mono b0.size)
  clear k5 hq1
  try dsimp only
  refine hK.out _ _ ?_ (fun hHeld => ?_)
  · exact HS.out _ b0
  clear hK K
  try simp only [Act.put, List.setIfInBounds_toArray, List.set_cons_zero, List.set_cons_succ]
  refine wpAnyH_take (i := 47) (oi := { dst := some 315, op := Op.binOp BinOp.neq 3 (Operand.tmp 312) (Operand.tmp 314) 3, type := 4, pos := "law.go:106", after := #[{ on := 44, ground := Ground.data }, { on := 46, ground := Ground.data }, { on := 42, ground := Ground.guard }], guard := some (42, false) }) (v := ?_) rfl (by kernel_rfl) (by kernel_rfl) (by kernel_rfl) (fun c a w h => hpan c (Act.put a _ _) a w rfl h) (Or.inl ⟨by rfl, ?_⟩) (by assumption) ?_
  rotate_left
  · intro wS hSw; (try dsimp only at hSw); go_simp; (try with_reducible rfl)
  try simp only [Act.put, List.setIfInBounds_toArray, List.set_cons_zero, List.set_cons_succ]
  refine wpAnyH_take (i := 48) (oi := { dst := some 316, op := Op.pick (Operand.tmp 310) (Operand.const (Value.bool true)) (Operand.tmp 315), type := 4, pos := "law.go:106", after := #[{ on := 42, ground := Ground.data }, { on := 47, ground := Ground.data }], guard := none }) (v := ?_) rfl (by kernel_rfl) (by kernel_rfl) (by kernel_rfl) (fun c a w h => hpan c (Act.put a _ _) a w rfl h) (Or.inl ⟨by rfl, ?_⟩) (by assumption) ?_
  rotate_left
  · intro wS hSw; (try dsimp only at hSw); go_simp; (try with_reducible rfl)
  try simp only [Act.put, List.setIfInBounds_toArray, List.set_cons_zero, List.set_cons_succ]
  refine wpAnyH_take (i := 49) (oi := { dst := some 317, op := Op.move (Operand.tmp 316), type := 4, pos := "law.go:106", after := #[{ on := 48, ground := Ground.data }, { on := 46, ground := Ground.chain }], guard := none }) (v := ?_) rfl (by kernel_rfl) (by kernel_rfl) (by kernel_rfl) (fun c a w h => hpan c (Act.put a _ _) a w rfl h) (Or.inl ⟨by rfl, ?_⟩) (by assumption) ?_
  rotate_left
  · intro wS hSw; (try dsimp only at hSw); go_simp; (try with_reducible rfl)
  try simp only [Act.put, List.setIfInBounds_toArray, List.set_cons_zero, List.set_cons_succ]
  refine wpAnyH_take (i := 50) (oi := { dst := some 318, op := Op.move (Operand.tmp 11), type := 25, pos := "law.go:106", after := #[{ on := 49, ground := Ground.guard }], guard := some (49, false) }) (v := ?_) rfl (by kernel_rfl) (by kernel_rfl) (by kernel_rfl) (fun c a w h => hpan c (Act.put a _ _) a w rfl h) (Or.inl ⟨by rfl, ?_⟩) (by assumption) ?_
  rotate_left
  · intro wS hSw; (try dsimp only at hSw); go_simp; (try with_reducible rfl)
  try simp only [Act.put, List.setIfInBounds_toArray, List.set_cons_zero, List.set_cons_succ]
  refine wpAnyH_take (i := 52) (oi := { dst := some 320, op := Op.move (Operand.tmp 12), type := 27, pos := "law.go:106", after := #[{ on := 49, ground := Ground.guard }], guard := some (49, false) }) (v := ?_) rfl (by kernel_rfl) (by kernel_rfl) (by kernel_rfl) (fun c a w h => hpan c (Act.put a _ _) a w rfl h) (Or.inl ⟨by rfl, ?_⟩) (by assumption) ?_
  rotate_left
  · intro wS hSw; (try dsimp only at hSw); go_simp; (try with_reducible rfl)
  try simp only [Act.put, List.setIfInBounds_toArray, List.set_cons_zero, List.set_cons_succ]
  refine wpAnyH_take (i := 54) (oi := { dst := some 322, op := Op.move (Operand.tmp 12), type := 27, pos := "law.go:106", after := #[{ on := 49, ground := Ground.guard }], guard := some (49, false) }) (v := ?_) rfl (by kernel_rfl) (by kernel_rfl) (by kernel_rfl) (fun c a w h => hpan c (Act.put a _ _) a w rfl h) (Or.inl ⟨by rfl, ?_⟩) (by assumption) ?_
  rotate_left
  · intro wS hSw; (try dsimp only at hSw); go_simp; (try with_reducible rfl)
  try simp only [Act.put, List.setIfInBounds_toArray, List.set_cons_zero, List.set_cons_succ]
  refine wpAnyH_take (i := 55) (oi := { dst := some 323, op := Op.nilCheck (Operand.tmp 322), type := 0, pos := "law.go:106", after := #[{ on := 54, ground := Ground.data }, { on := 49, ground := Ground.guard }], guard := some (49, false) }) (v := ?_) rfl (by kernel_rfl) (by kernel_rfl) (by kernel_rfl) (fun c a w h => hpan c (Act.put a _ _) a w rfl h) (Or.inl ⟨by rfl, ?_⟩) (by assumption) ?_
  rotate_left
  · intro wS hSw; (try dsimp only at hSw); go_simp; (try with_reducible rfl)
  try simp only [Act.put, List.setIfInBounds_toArray, List.set_cons_zero, List.set_cons_succ]
  refine wpAnyH_take (i := 56) (oi := { dst := some 324, op := Op.fieldAddr 56 (Operand.tmp 323) 1, type := 0, pos := "law.go:106", after := #[{ on := 55, ground := Ground.data }, { on := 49, ground := Ground.guard }], guard := some (49, false) }) (v := ?_) rfl (by kernel_rfl) (by kernel_rfl) (by kernel_rfl) (fun c a w h => hpan c (Act.put a _ _) a w rfl h) (Or.inl ⟨by rfl, ?_⟩) (by assumption) ?_
  rotate_left
  · intro wS hSw; (try dsimp only at hSw); go_simp; (try with_reducible rfl)
  try simp only [Act.put, List.setIfInBounds_toArray, List.set_cons_zero, List.set_cons_succ]
  refine wpAnyH_take (i := 57) (oi := { dst := some 325, op := Op.load 3 (Operand.tmp 324), type := 3, pos := "law.go:106", after := #[{ on := 56, ground := Ground.data }, { on := 49, ground := Ground.guard }], guard := some (49, false) }) (v := ?_) rfl (by kernel_rfl) (by kernel_rfl) (by kernel_rfl) (fun c a w h => hpan c (Act.put a _ _) a w rfl h) (Or.inl ⟨by rfl, ?_⟩) (by assumption) ?_
  rotate_left
  · intro wS hSw; (try dsimp only at hSw); go_simp; (try with_reducible rfl)
  try simp only [Act.put, List.setIfInBounds_toArray, List.set_cons_zero, List.set_cons_succ]
  refine wpAnyH_ready (rs := [51]) (by kernel_rfl) (by simp) ?_
  refine AllReadyH.cons (o := { dst := some 319, op := Op.call { callee := Callee.value (Operand.func 30), args := #[Operand.tmp 318], argTypes := #[25] }, type := 4, pos := "law.go:106", after := #[{ on := 50, ground := Ground.data }, { on := 49, ground := Ground.chain }, { on := 49, ground := Ground.guard }], guard := some (49, false) }) rfl (fun K hK => ?_) AllReadyH.nil
  go_simp
  obtain ⟨P1, hq1, _, _⟩ := (Du.out.below b0).one
  refine (qs_full hq1 Sm.out).mono ?_
  rintro e w7 ⟨rfl, _, k5⟩
  replace b0 := b0.trans (k5.mono b0.size)
  clear k5 hq1
  try dsimp only
  refine hK.out _ _ ?_ (fun hHeld => ?_)
  · exact HS.out _ b0
  clear hK K
  try simp only [Act.put, List.setIfInBounds_toArray, List.set_cons_zero, List.set_cons_succ]
  refine wpAnyH_ready (rs := [53]) (by kernel_rfl) (by simp) ?_
  refine AllReadyH.cons (o := { dst := some 321, op := Op.call { callee := Callee.value (Operand.func 29), args := #[Operand.tmp 320], argTypes := #[27] }, type := 3, pos := "law.go:106", after := #[{ on := 52, ground := Ground.data }, { on := 51, ground := Ground.chain }, { on := 49, ground := Ground.guard }], guard := some (49, false) }) rfl (fun K hK => ?_) AllReadyH.nil
  go_simp
  obtain ⟨P1, hq1, _, _⟩ := (Du.out.below b0).two
  refine (rs_open hq1 Sm.out).mono ?_
  rintro e w8 ⟨rfl, _, k5⟩
  replace b0 := b0.trans (k5.mono b0.size)
  clear k5 hq1
  try dsimp only
  refine hK.out _ _ ?_ (fun hHeld => ?_)
  · exact HS.out _ b0
  clear hK K
  try simp only [Act.put, List.setIfInBounds_toArray, List.set_cons_zero, List.set_cons_succ]
  refine wpAnyH_take (i := 58) (oi := { dst := some 326, op := Op.binOp BinOp.geq 3 (Operand.tmp 321) (Operand.tmp 325) 3, type := 4, pos := "law.go:106", after := #[{ on := 53, ground := Ground.data }, { on := 57, ground := Ground.data }, { on := 49, ground := Ground.guard }], guard := some (49, false) }) (v := ?_) rfl (by kernel_rfl) (by kernel_rfl) (by kernel_rfl) (fun c a w h => hpan c (Act.put a _ _) a w rfl h) (Or.inl ⟨by rfl, ?_⟩) (by assumption) ?_
  rotate_left
  · intro wS hSw; (try dsimp only at hSw); go_simp; (try with_reducible rfl)
  try simp only [Act.put, List.setIfInBounds_toArray, List.set_cons_zero, List.set_cons_succ]
  refine wpAnyH_take (i := 59) (oi := { dst := some 327, op := Op.binOp BinOp.neq 4 (Operand.tmp 319) (Operand.tmp 326) 4, type := 4, pos := "law.go:106", after := #[{ on := 51, ground := Ground.data }, { on := 58, ground := Ground.data }, { on := 49, ground := Ground.guard }], guard := some (49, false) }) (v := ?_) rfl (by kernel_rfl) (by kernel_rfl) (by kernel_rfl) (fun c a w h => hpan c (Act.put a _ _) a w rfl h) (Or.inl ⟨by rfl, ?_⟩) (by assumption) ?_
  rotate_left
  · intro wS hSw; (try dsimp only at hSw); go_simp; (try with_reducible rfl)
  try simp only [Act.put, List.setIfInBounds_toArray, List.set_cons_zero, List.set_cons_succ]
  refine wpAnyH_take (i := 60) (oi := { dst := some 328, op := Op.pick (Operand.tmp 317) (Operand.const (Value.bool true)) (Operand.tmp 327), type := 4, pos := "law.go:106", after := #[{ on := 49, ground := Ground.data }, { on := 59, ground := Ground.data }], guard := none }) (v := ?_) rfl (by kernel_rfl) (by kernel_rfl) (by kernel_rfl) (fun c a w h => hpan c (Act.put a _ _) a w rfl h) (Or.inl ⟨by rfl, ?_⟩) (by assumption) ?_
  rotate_left
  · intro wS hSw; (try dsimp only at hSw); go_simp; (try with_reducible rfl)
  try simp only [Act.put, List.setIfInBounds_toArray, List.set_cons_zero, List.set_cons_succ]
  refine wpAnyH_done (by kernel_rfl) ?_ _
  exact HE.out _ _ _ _ _ _ _ _ _ _ _ _ _ _ _ _ _ _ _ _ _ _ _ _ _ _ _ _ _ _ _ _ _ _ _ _ _ _ _ _ _ _ _ _ _ _ _ _ _ _ _ _ _ _ _ _ _ _ _ _ _ b0

set_option maxRecDepth 1000000 in
set_option maxHeartbeats 16000000 in
theorem chk_neg (t0 t1 t2 t3 t4 t5 t6 t7 t8 t9 t10 t13 t15 t16 t17 t18 t19 t20 t21 t22 t23 t24 t25 t26 t27 t30 t31 t32 t33 t34 t35 t36 t37 t38 t39 t40 t41 t42 t43 t44 t45 t46 t47 t48 t49 t50 t51 t52 t53 t54 t55 t56 t57 t58 t59 t60 t61 t62 t63 t64 t65 t66 t67 t68 t69 t70 t71 t72 t73 t74 t75 t76 t77 t78 t79 t80 t81 t82 t83 t84 t85 t86 t87 t88 t89 t90 t91 t92 t93 t94 t95 t96 t97 t98 t99 t100 t101 t102 t103 t104 t105 t106 t107 t108 t109 t110 t111 t112 t113 t114 t115 t116 t117 t118 t119 t120 t121 t122 t123 t124 t125 t126 t127 t128 t129 t130 t131 t132 t133 t134 t135 t136 t137 t138 t139 t140 t141 t142 t143 t144 t145 t146 t147 t148 t149 t150 t151 t152 t153 t154 t155 t156 t157 t158 t159 t160 t161 t162 t163 t164 t165 t166 t167 t168 t169 t170 t171 t172 t173 t174 t175 t176 t177 t178 t179 t180 t181 t182 t183 t184 t185 t186 t187 t188 t189 t190 t191 t192 t193 t194 t195 t196 t197 t198 t199 t200 t201 t202 t203 t204 t205 t206 t207 t208 t209 t210 t211 t212 t213 t214 t215 t216 t217 t218 t219 t220 t221 t222 t223 t224 t225 t226 t227 t228 t229 t230 t231 t232 t233 t234 t235 t236 t237 t238 t239 t240 t241 t242 t243 t244 t245 t246 t247 t248 t249 t250 t251 t252 t253 t254 t255 t256 t257 t258 t259 t260 t261 t262 t263 t264 t265 t266 t267 t268 t269 t270 t271 t272 t273 t274 t275 t276 t277 t278 t279 t280 t281 t282 t283 t284 t285 t286 t287 t288 t289 t290 t291 t292 t293 t294 t295 t296 t297 t298 t299 t300 t301 t302 t303 t304 t305 t306 t307 t308 t309 t310 t311 t312 t313 t314 t315 t316 t317 t318 t319 t320 t321 t322 t323 t324 t325 t326 t327 t328 t329 t330 t331 t332 t333 t334 t335 t336 t337 t338 t339 t340 t341 t342 t343 t344 t345 t346 t347 t348 t349 t350 t351 t352 : Value) (g1 g2 X Y : Nat) (P : Nat → Prop) (q : List It) (R T D : Int) (D0 : Int) (hD : D0 < 1) (w : World) (du : Duo w P g1 g2 q q R T D) (Sm : RowKit.Hid (Small q)) (cX : w.cell? ⟨X, 12, none⟩ = some (.int .i64 D0)) (lX : X < w.heap.size)
    (Q : Exit → Act → World → Prop) (hpan : ∀ c a a' w, a.defers = a'.defers → Q (.panic c) a w → Q (.panic c) a' w)
    (hexit : ∀ (u268 u269 u270 u271 u272 u273 u274 u275 u276 u277 u278 u279 u280 u281 u282 u283 u284 u285 u286 u287 u288 u289 u290 u291 u292 u293 u294 u295 u296 u297 u298 u299 u300 u301 u302 u303 u304 u305 u306 u307 u308 u309 u310 u311 u312 u313 u314 u315 u316 u317 u318 u319 u320 u321 u322 u323 u324 u325 u326 u327 : Value) (w' : World), Below w.heap.size w w' → Q .normal ⟨List.toArray (t0 :: t1 :: t2 :: t3 :: t4 :: t5 :: t6 :: t7 :: t8 :: t9 :: t10 :: (.pointer (some ⟨g1, 0, none⟩)) :: (.pointer (some ⟨g2, 0, none⟩)) :: t13 :: (.pointer (some ⟨X, 0, none⟩)) :: t15 :: t16 :: t17 :: t18 :: t19 :: t20 :: t21 :: t22 :: t23 :: t24 :: t25 :: t26 :: t27 :: (.pointer (some ⟨Y, 0, none⟩)) :: (.bool false) :: t30 :: t31 :: t32 :: t33 :: t34 :: t35 :: t36 :: t37 :: t38 :: t39 :: t40 :: t41 :: t42 :: t43 :: t44 :: t45 :: t46 :: t47 :: t48 :: t49 :: t50 :: t51 :: t52 :: t53 :: t54 :: t55 :: t56 :: t57 :: t58 :: t59 :: t60 :: t61 :: t62 :: t63 :: t64 :: t65 :: t66 :: t67 :: t68 :: t69 :: t70 :: t71 :: t72 :: t73 :: t74 :: t75 :: t76 :: t77 :: t78 :: t79 :: t80 :: t81 :: t82 :: t83 :: t84 :: t85 :: t86 :: t87 :: t88 :: t89 :: t90 :: t91 :: t92 :: t93 :: t94 :: t95 :: t96 :: t97 :: t98 :: t99 :: t100 :: t101 :: t102 :: t103 :: t104 :: t105 :: t106 :: t107 :: t108 :: t109 :: t110 :: t111 :: t112 :: t113 :: t114 :: t115 :: t116 :: t117 :: t118 :: t119 :: t120 :: t121 :: t122 :: t123 :: t124 :: t125 :: t126 :: t127 :: t128 :: t129 :: t130 :: t131 :: t132 :: t133 :: t134 :: t135 :: t136 :: t137 :: t138 :: t139 :: t140 :: t141 :: t142 :: t143 :: t144 :: t145 :: t146 :: t147 :: t148 :: t149 :: t150 :: t151 :: t152 :: t153 :: t154 :: t155 :: t156 :: t157 :: t158 :: t159 :: t160 :: t161 :: t162 :: t163 :: t164 :: t165 :: t166 :: t167 :: t168 :: t169 :: t170 :: t171 :: t172 :: t173 :: t174 :: t175 :: t176 :: t177 :: t178 :: t179 :: t180 :: t181 :: t182 :: t183 :: t184 :: t185 :: t186 :: t187 :: t188 :: t189 :: t190 :: t191 :: t192 :: t193 :: t194 :: t195 :: t196 :: t197 :: t198 :: t199 :: t200 :: t201 :: t202 :: t203 :: t204 :: t205 :: t206 :: t207 :: t208 :: t209 :: t210 :: t211 :: t212 :: t213 :: t214 :: t215 :: t216 :: t217 :: t218 :: t219 :: t220 :: t221 :: t222 :: t223 :: t224 :: t225 :: t226 :: t227 :: t228 :: t229 :: t230 :: t231 :: t232 :: t233 :: t234 :: t235 :: t236 :: t237 :: t238 :: t239 :: t240 :: t241 :: t242 :: t243 :: t244 :: t245 :: t246 :: t247 :: t248 :: t249 :: t250 :: t251 :: t252 :: t253 :: t254 :: t255 :: t256 :: t257 :: t258 :: t259 :: t260 :: t261 :: t262 :: t263 :: t264 :: t265 :: t266 :: t267 :: u268 :: u269 :: u270 :: u271 :: u272 :: u273 :: u274 :: u275 :: u276 :: u277 :: u278 :: u279 :: u280 :: u281 :: u282 :: u283 :: u284 :: u285 :: u286 :: u287 :: u288 :: u289 :: u290 :: u291 :: u292 :: u293 :: u294 :: u295 :: u296 :: u297 :: u298 :: u299 :: u300 :: u301 :: u302 :: u303 :: u304 :: u305 :: u306 :: u307 :: u308 :: u309 :: u310 :: u311 :: u312 :: u313 :: u314 :: u315 :: u316 :: u317 :: u318 :: u319 :: u320 :: u321 :: u322 :: u323 :: u324 :: u325 :: u326 :: u327 :: (.bool false) :: t329 :: t330 :: t331 :: t332 :: t333 :: t334 :: t335 :: t336 :: t337 :: t338 :: t339 :: t340 :: t341 :: t342 :: t343 :: t344 :: t345 :: t346 :: t347 :: t348 :: t349 :: t350 :: t351 :: t352 :: []), []⟩ w') :
    Code.wp Try.prog (rg3 45) Q ⟨List.toArray (t0 :: t1 :: t2 :: t3 :: t4 :: t5 :: t6 :: t7 :: t8 :: t9 :: t10 :: (.pointer (some ⟨g1, 0, none⟩)) :: (.pointer (some ⟨g2, 0, none⟩)) :: t13 :: (.pointer (some ⟨X, 0, none⟩)) :: t15 :: t16 :: t17 :: t18 :: t19 :: t20 :: t21 :: t22 :: t23 :: t24 :: t25 :: t26 :: t27 :: (.pointer (some ⟨Y, 0, none⟩)) :: (.bool false) :: t30 :: t31 :: t32 :: t33 :: t34 :: t35 :: t36 :: t37 :: t38 :: t39 :: t40 :: t41 :: t42 :: t43 :: t44 :: t45 :: t46 :: t47 :: t48 :: t49 :: t50 :: t51 :: t52 :: t53 :: t54 :: t55 :: t56 :: t57 :: t58 :: t59 :: t60 :: t61 :: t62 :: t63 :: t64 :: t65 :: t66 :: t67 :: t68 :: t69 :: t70 :: t71 :: t72 :: t73 :: t74 :: t75 :: t76 :: t77 :: t78 :: t79 :: t80 :: t81 :: t82 :: t83 :: t84 :: t85 :: t86 :: t87 :: t88 :: t89 :: t90 :: t91 :: t92 :: t93 :: t94 :: t95 :: t96 :: t97 :: t98 :: t99 :: t100 :: t101 :: t102 :: t103 :: t104 :: t105 :: t106 :: t107 :: t108 :: t109 :: t110 :: t111 :: t112 :: t113 :: t114 :: t115 :: t116 :: t117 :: t118 :: t119 :: t120 :: t121 :: t122 :: t123 :: t124 :: t125 :: t126 :: t127 :: t128 :: t129 :: t130 :: t131 :: t132 :: t133 :: t134 :: t135 :: t136 :: t137 :: t138 :: t139 :: t140 :: t141 :: t142 :: t143 :: t144 :: t145 :: t146 :: t147 :: t148 :: t149 :: t150 :: t151 :: t152 :: t153 :: t154 :: t155 :: t156 :: t157 :: t158 :: t159 :: t160 :: t161 :: t162 :: t163 :: t164 :: t165 :: t166 :: t167 :: t168 :: t169 :: t170 :: t171 :: t172 :: t173 :: t174 :: t175 :: t176 :: t177 :: t178 :: t179 :: t180 :: t181 :: t182 :: t183 :: t184 :: t185 :: t186 :: t187 :: t188 :: t189 :: t190 :: t191 :: t192 :: t193 :: t194 :: t195 :: t196 :: t197 :: t198 :: t199 :: t200 :: t201 :: t202 :: t203 :: t204 :: t205 :: t206 :: t207 :: t208 :: t209 :: t210 :: t211 :: t212 :: t213 :: t214 :: t215 :: t216 :: t217 :: t218 :: t219 :: t220 :: t221 :: t222 :: t223 :: t224 :: t225 :: t226 :: t227 :: t228 :: t229 :: t230 :: t231 :: t232 :: t233 :: t234 :: t235 :: t236 :: t237 :: t238 :: t239 :: t240 :: t241 :: t242 :: t243 :: t244 :: t245 :: t246 :: t247 :: t248 :: t249 :: t250 :: t251 :: t252 :: t253 :: t254 :: t255 :: t256 :: t257 :: t258 :: t259 :: t260 :: t261 :: t262 :: t263 :: t264 :: t265 :: t266 :: t267 :: t268 :: t269 :: t270 :: t271 :: t272 :: t273 :: t274 :: t275 :: t276 :: t277 :: t278 :: t279 :: t280 :: t281 :: t282 :: t283 :: t284 :: t285 :: t286 :: t287 :: t288 :: t289 :: t290 :: t291 :: t292 :: t293 :: t294 :: t295 :: t296 :: t297 :: t298 :: t299 :: t300 :: t301 :: t302 :: t303 :: t304 :: t305 :: t306 :: t307 :: t308 :: t309 :: t310 :: t311 :: t312 :: t313 :: t314 :: t315 :: t316 :: t317 :: t318 :: t319 :: t320 :: t321 :: t322 :: t323 :: t324 :: t325 :: t326 :: t327 :: t328 :: t329 :: t330 :: t331 :: t332 :: t333 :: t334 :: t335 :: t336 :: t337 :: t338 :: t339 :: t340 :: t341 :: t342 :: t343 :: t344 :: t345 :: t346 :: t347 :: t348 :: t349 :: t350 :: t351 :: t352 :: []), []⟩ w := by
  have HE := Lib.hid hexit
  obtain ⟨Aq, cq, kg, hit⟩ := du.ref
  have hS' : ∀ W, Below w.heap.size w W → (fun w' : World => w'.cell? ⟨X, 12, none⟩ = some (.int .i64 D0) ∧ w'.cell? ⟨g2, 0, none⟩ = some (.slice Aq q.length cq) ∧ w'.cell? ⟨g2, 1, none⟩ = some (.int .i64 R)) W := fun W bw => ⟨(bw.cell (p := ⟨X, 12, none⟩) lX).trans cX, (bw.cell (p := ⟨g2, 0, none⟩) kg.lt).trans (kg.cell 0), (bw.cell (p := ⟨g2, 1, none⟩) kg.lt).trans (kg.cell 1)⟩
  have HS := Lib.hid hS'
  have Du := Lib.hid du
  have d1 : decide ((0 : Int) < D0) = false := by simp; omega

  have b0 : Below w.heap.size w w.drew := (Below.refl _ w).drew
  clear hexit hS' du hit kg
  conv => arg 2; whnf
  refine wp_region_held_drew (S := fun w' : World => w'.cell? ⟨X, 12, none⟩ = some (.int .i64 D0) ∧ w'.cell? ⟨g2, 0, none⟩ = some (.slice Aq q.length cq) ∧ w'.cell? ⟨g2, 1, none⟩ = some (.int .i64 R)) (by kernel_rfl) ?_ (fun hHeld => ?_)
  · exact HS.out _ b0
  refine wpAnyH_take (i := 0) (oi := { dst := some 268, op := Op.move (Operand.tmp 29), type := 4, pos := "law.go:106", after := #[], guard := none }) (v := ?_) rfl (by kernel_rfl) (by kernel_rfl) (by kernel_rfl) (fun c a w h => hpan c (Act.put a _ _) a w rfl h) (Or.inl ⟨by rfl, ?_⟩) (by assumption) ?_
  rotate_left
  · intro wS hSw; (try dsimp only at hSw); go_simp; (try with_reducible rfl)
  try simp only [Act.put, List.setIfInBounds_toArray, List.set_cons_zero, List.set_cons_succ]
  refine wpAnyH_take (i := 1) (oi := { dst := some 269, op := Op.fieldAddr 40 (Operand.tmp 14) 2, type := 0, pos := "law.go:106", after := #[], guard := none }) (v := ?_) rfl (by kernel_rfl) (by kernel_rfl) (by kernel_rfl) (fun c a w h => hpan c (Act.put a _ _) a w rfl h) (Or.inl ⟨by rfl, ?_⟩) (by assumption) ?_
  rotate_left
  · intro wS hSw; (try dsimp only at hSw); go_simp; (try with_reducible rfl)
  try simp only [Act.put, List.setIfInBounds_toArray, List.set_cons_zero, List.set_cons_succ]
  refine wpAnyH_take (i := 2) (oi := { dst := some 270, op := Op.load 3 (Operand.tmp 269), type := 3, pos := "law.go:106", after := #[{ on := 1, ground := Ground.data }], guard := none }) (v := ?_) rfl (by kernel_rfl) (by kernel_rfl) (by kernel_rfl) (fun c a w h => hpan c (Act.put a _ _) a w rfl h) (Or.inl ⟨by rfl, ?_⟩) (by assumption) ?_
  rotate_left
  · intro wS hSw; (try dsimp only at hSw); go_simp; (try with_reducible rfl)
  try simp only [Act.put, List.setIfInBounds_toArray, List.set_cons_zero, List.set_cons_succ]
  refine wpAnyH_take (i := 3) (oi := { dst := some 271, op := Op.binOp BinOp.gtr 3 (Operand.tmp 270) (Operand.const (Value.int IntKind.i64 0)) 3, type := 4, pos := "law.go:106", after := #[{ on := 2, ground := Ground.data }], guard := none }) (v := ?_) rfl (by kernel_rfl) (by kernel_rfl) (by kernel_rfl) (fun c a w h => hpan c (Act.put a _ _) a w rfl h) (Or.inl ⟨by rfl, ?_⟩) (by assumption) ?_
  rotate_left
  · intro wS hSw; (try dsimp only at hSw); go_simp; (try with_reducible rfl)
  try simp only [Act.put, List.setIfInBounds_toArray, List.set_cons_zero, List.set_cons_succ]
  refine wpAnyH_take (i := 4) (oi := { dst := some 272, op := Op.move (Operand.tmp 271), type := 4, pos := "law.go:106", after := #[{ on := 3, ground := Ground.data }], guard := none }) (v := ?_) rfl (by kernel_rfl) (by kernel_rfl) (by kernel_rfl) (fun c a w h => hpan c (Act.put a _ _) a w rfl h) (Or.inl ⟨by rfl, ?_⟩) (by assumption) ?_
  rotate_left
  · intro wS hSw; (try dsimp only at hSw); go_simp; (try with_reducible rfl)
  try simp only [Act.put, List.setIfInBounds_toArray, List.set_cons_zero, List.set_cons_succ]
  refine wpAnyH_take (i := 5) (oi := { dst := some 273, op := Op.fieldAddr 40 (Operand.tmp 14) 2, type := 0, pos := "law.go:106", after := #[{ on := 4, ground := Ground.guard }], guard := some (4, true) }) (v := undef) rfl (by kernel_rfl) (by kernel_rfl) (by kernel_rfl) (fun c a w h => hpan c (Act.put a _ _) a w rfl h) (Or.inr ⟨by rfl, rfl⟩) (by assumption) ?_
  try simp only [Act.put, List.setIfInBounds_toArray, List.set_cons_zero, List.set_cons_succ]
  refine wpAnyH_take (i := 6) (oi := { dst := some 274, op := Op.load 3 (Operand.tmp 273), type := 3, pos := "law.go:106", after := #[{ on := 5, ground := Ground.data }, { on := 4, ground := Ground.guard }], guard := some (4, true) }) (v := undef) rfl (by kernel_rfl) (by kernel_rfl) (by kernel_rfl) (fun c a w h => hpan c (Act.put a _ _) a w rfl h) (Or.inr ⟨by rfl, rfl⟩) (by assumption) ?_
  try simp only [Act.put, List.setIfInBounds_toArray, List.set_cons_zero, List.set_cons_succ]
  refine wpAnyH_take (i := 7) (oi := { dst := some 275, op := Op.move (Operand.tmp 12), type := 27, pos := "law.go:106", after := #[{ on := 4, ground := Ground.guard }], guard := some (4, true) }) (v := undef) rfl (by kernel_rfl) (by kernel_rfl) (by kernel_rfl) (fun c a w h => hpan c (Act.put a _ _) a w rfl h) (Or.inr ⟨by rfl, rfl⟩) (by assumption) ?_
  try simp only [Act.put, List.setIfInBounds_toArray, List.set_cons_zero, List.set_cons_succ]
  refine wpAnyH_take (i := 8) (oi := { dst := some 276, op := Op.nilCheck (Operand.tmp 275), type := 0, pos := "law.go:106", after := #[{ on := 7, ground := Ground.data }, { on := 4, ground := Ground.guard }], guard := some (4, true) }) (v := undef) rfl (by kernel_rfl) (by kernel_rfl) (by kernel_rfl) (fun c a w h => hpan c (Act.put a _ _) a w rfl h) (Or.inr ⟨by rfl, rfl⟩) (by assumption) ?_
  try simp only [Act.put, List.setIfInBounds_toArray, List.set_cons_zero, List.set_cons_succ]
  refine wpAnyH_take (i := 9) (oi := { dst := some 277, op := Op.fieldAddr 56 (Operand.tmp 276) 0, type := 0, pos := "law.go:106", after := #[{ on := 8, ground := Ground.data }, { on := 4, ground := Ground.guard }], guard := some (4, true) }) (v := undef) rfl (by kernel_rfl) (by kernel_rfl) (by kernel_rfl) (fun c a w h => hpan c (Act.put a _ _) a w rfl h) (Or.inr ⟨by rfl, rfl⟩) (by assumption) ?_
  try simp only [Act.put, List.setIfInBounds_toArray, List.set_cons_zero, List.set_cons_succ]
  refine wpAnyH_take (i := 10) (oi := { dst := some 278, op := Op.load 54 (Operand.tmp 277), type := 54, pos := "law.go:106", after := #[{ on := 9, ground := Ground.data }, { on := 4, ground := Ground.guard }], guard := some (4, true) }) (v := undef) rfl (by kernel_rfl) (by kernel_rfl) (by kernel_rfl) (fun c a w h => hpan c (Act.put a _ _) a w rfl h) (Or.inr ⟨by rfl, rfl⟩) (by assumption) ?_
  try simp only [Act.put, List.setIfInBounds_toArray, List.set_cons_zero, List.set_cons_succ]
  refine wpAnyH_take (i := 11) (oi := { dst := some 279, op := Op.call { callee := Callee.builtin Builtin.len, args := #[Operand.tmp 278], argTypes := #[54] }, type := 3, pos := "law.go:106", after := #[{ on := 10, ground := Ground.data }, { on := 4, ground := Ground.guard }], guard := some (4, true) }) (v := undef) rfl (by kernel_rfl) (by kernel_rfl) (by kernel_rfl) (fun c a w h => hpan c (Act.put a _ _) a w rfl h) (Or.inr ⟨by rfl, rfl⟩) (by assumption) ?_
  try simp only [Act.put, List.setIfInBounds_toArray, List.set_cons_zero, List.set_cons_succ]
  refine wpAnyH_take (i := 12) (oi := { dst := some 280, op := Op.binOp BinOp.leq 3 (Operand.tmp 274) (Operand.tmp 279) 3, type := 4, pos := "law.go:106", after := #[{ on := 6, ground := Ground.data }, { on := 11, ground := Ground.data }, { on := 4, ground := Ground.guard }], guard := some (4, true) }) (v := undef) rfl (by kernel_rfl) (by kernel_rfl) (by kernel_rfl) (fun c a w h => hpan c (Act.put a _ _) a w rfl h) (Or.inr ⟨by rfl, rfl⟩) (by assumption) ?_
  try simp only [Act.put, List.setIfInBounds_toArray, List.set_cons_zero, List.set_cons_succ]
  refine wpAnyH_take (i := 13) (oi := { dst := some 281, op := Op.pick (Operand.tmp 272) (Operand.tmp 280) (Operand.const (Value.bool false)), type := 4, pos := "law.go:106", after := #[{ on := 4, ground := Ground.data }, { on := 12, ground := Ground.data }], guard := none }) (v := ?_) rfl (by kernel_rfl) (by kernel_rfl) (by kernel_rfl) (fun c a w h => hpan c (Act.put a _ _) a w rfl h) (Or.inl ⟨by rfl, ?_⟩) (by assumption) ?_
  rotate_left
  · intro wS hSw; (try dsimp only at hSw); go_simp; (try with_reducible rfl)
  try simp only [Act.put, List.setIfInBounds_toArray, List.set_cons_zero, List.set_cons_succ]
  refine wpAnyH_take (i := 14) (oi := { dst := some 282, op := Op.binOp BinOp.neq 4 (Operand.tmp 268) (Operand.tmp 281) 4, type := 4, pos := "law.go:106", after := #[{ on := 0, ground := Ground.data }, { on := 13, ground := Ground.data }], guard := none }) (v := ?_) rfl (by kernel_rfl) (by kernel_rfl) (by kernel_rfl) (fun c a w h => hpan c (Act.put a _ _) a w rfl h) (Or.inl ⟨by rfl, ?_⟩) (by assumption) ?_
  rotate_left
  · intro wS hSw; (try dsimp only at hSw); go_simp; (try with_reducible rfl)
  try simp only [Act.put, List.setIfInBounds_toArray, List.set_cons_zero, List.set_cons_succ]
  refine wpAnyH_take (i := 15) (oi := { dst := some 283, op := Op.move (Operand.tmp 282), type := 4, pos := "law.go:106", after := #[{ on := 14, ground := Ground.data }, { on := 4, ground := Ground.chain }], guard := none }) (v := ?_) rfl (by kernel_rfl) (by kernel_rfl) (by kernel_rfl) (fun c a w h => hpan c (Act.put a _ _) a w rfl h) (Or.inl ⟨by rfl, ?_⟩) (by assumption) ?_
  rotate_left
  · intro wS hSw; (try dsimp only at hSw); go_simp; (try with_reducible rfl)
  try simp only [Act.put, List.setIfInBounds_toArray, List.set_cons_zero, List.set_cons_succ]
  refine wpAnyH_take (i := 16) (oi := { dst := some 284, op := Op.move (Operand.tmp 29), type := 4, pos := "law.go:106", after := #[{ on := 15, ground := Ground.guard }], guard := some (15, false) }) (v := ?_) rfl (by kernel_rfl) (by kernel_rfl) (by kernel_rfl) (fun c a w h => hpan c (Act.put a _ _) a w rfl h) (Or.inl ⟨by rfl, ?_⟩) (by assumption) ?_
  rotate_left
  · intro wS hSw; (try dsimp only at hSw); go_simp; (try with_reducible rfl)
  try simp only [Act.put, List.setIfInBounds_toArray, List.set_cons_zero, List.set_cons_succ]
  refine wpAnyH_take (i := 17) (oi := { dst := some 285, op := Op.move (Operand.tmp 284), type := 4, pos := "law.go:106", after := #[{ on := 16, ground := Ground.data }, { on := 15, ground := Ground.chain }, { on := 15, ground := Ground.guard }], guard := some (15, false) }) (v := ?_) rfl (by kernel_rfl) (by kernel_rfl) (by kernel_rfl) (fun c a w h => hpan c (Act.put a _ _) a w rfl h) (Or.inl ⟨by rfl, ?_⟩) (by assumption) ?_
  rotate_left
  · intro wS hSw; (try dsimp only at hSw); go_simp; (try with_reducible rfl)
  try simp only [Act.put, List.setIfInBounds_toArray, List.set_cons_zero, List.set_cons_succ]
  refine wpAnyH_take (i := 18) (oi := { dst := some 286, op := Op.load 51 (Operand.tmp 28), type := 51, pos := "law.go:106", after := #[{ on := 17, ground := Ground.guard }], guard := some (17, true) }) (v := undef) rfl (by kernel_rfl) (by kernel_rfl) (by kernel_rfl) (fun c a w h => hpan c (Act.put a _ _) a w rfl h) (Or.inr ⟨by rfl, rfl⟩) (by assumption) ?_
  try simp only [Act.put, List.setIfInBounds_toArray, List.set_cons_zero, List.set_cons_succ]
  refine wpAnyH_take (i := 19) (oi := { dst := some 287, op := Op.move (Operand.tmp 12), type := 27, pos := "law.go:106", after := #[{ on := 17, ground := Ground.guard }], guard := some (17, true) }) (v := undef) rfl (by kernel_rfl) (by kernel_rfl) (by kernel_rfl) (fun c a w h => hpan c (Act.put a _ _) a w rfl h) (Or.inr ⟨by rfl, rfl⟩) (by assumption) ?_
  try simp only [Act.put, List.setIfInBounds_toArray, List.set_cons_zero, List.set_cons_succ]
  refine wpAnyH_take (i := 20) (oi := { dst := some 288, op := Op.nilCheck (Operand.tmp 287), type := 0, pos := "law.go:106", after := #[{ on := 19, ground := Ground.data }, { on := 17, ground := Ground.guard }], guard := some (17, true) }) (v := undef) rfl (by kernel_rfl) (by kernel_rfl) (by kernel_rfl) (fun c a w h => hpan c (Act.put a _ _) a w rfl h) (Or.inr ⟨by rfl, rfl⟩) (by assumption) ?_
  try simp only [Act.put, List.setIfInBounds_toArray, List.set_cons_zero, List.set_cons_succ]
  refine wpAnyH_take (i := 21) (oi := { dst := some 289, op := Op.fieldAddr 56 (Operand.tmp 288) 0, type := 0, pos := "law.go:106", after := #[{ on := 20, ground := Ground.data }, { on := 17, ground := Ground.guard }], guard := some (17, true) }) (v := undef) rfl (by kernel_rfl) (by kernel_rfl) (by kernel_rfl) (fun c a w h => hpan c (Act.put a _ _) a w rfl h) (Or.inr ⟨by rfl, rfl⟩) (by assumption) ?_
  try simp only [Act.put, List.setIfInBounds_toArray, List.set_cons_zero, List.set_cons_succ]
  refine wpAnyH_take (i := 22) (oi := { dst := some 290, op := Op.load 54 (Operand.tmp 289), type := 54, pos := "law.go:106", after := #[{ on := 21, ground := Ground.data }, { on := 17, ground := Ground.guard }], guard := some (17, true) }) (v := undef) rfl (by kernel_rfl) (by kernel_rfl) (by kernel_rfl) (fun c a w h => hpan c (Act.put a _ _) a w rfl h) (Or.inr ⟨by rfl, rfl⟩) (by assumption) ?_
  try simp only [Act.put, List.setIfInBounds_toArray, List.set_cons_zero, List.set_cons_succ]
  refine wpAnyH_take (i := 23) (oi := { dst := some 291, op := Op.fieldAddr 40 (Operand.tmp 14) 2, type := 0, pos := "law.go:106", after := #[{ on := 17, ground := Ground.guard }], guard := some (17, true) }) (v := undef) rfl (by kernel_rfl) (by kernel_rfl) (by kernel_rfl) (fun c a w h => hpan c (Act.put a _ _) a w rfl h) (Or.inr ⟨by rfl, rfl⟩) (by assumption) ?_
  try simp only [Act.put, List.setIfInBounds_toArray, List.set_cons_zero, List.set_cons_succ]
  refine wpAnyH_take (i := 24) (oi := { dst := some 292, op := Op.load 3 (Operand.tmp 291), type := 3, pos := "law.go:106", after := #[{ on := 23, ground := Ground.data }, { on := 17, ground := Ground.guard }], guard := some (17, true) }) (v := undef) rfl (by kernel_rfl) (by kernel_rfl) (by kernel_rfl) (fun c a w h => hpan c (Act.put a _ _) a w rfl h) (Or.inr ⟨by rfl, rfl⟩) (by assumption) ?_
  try simp only [Act.put, List.setIfInBounds_toArray, List.set_cons_zero, List.set_cons_succ]
  refine wpAnyH_take (i := 25) (oi := { dst := some 293, op := Op.binOp BinOp.sub 3 (Operand.tmp 292) (Operand.const (Value.int IntKind.i64 1)) 3, type := 3, pos := "law.go:106", after := #[{ on := 24, ground := Ground.data }, { on := 17, ground := Ground.guard }], guard := some (17, true) }) (v := undef) rfl (by kernel_rfl) (by kernel_rfl) (by kernel_rfl) (fun c a w h => hpan c (Act.put a _ _) a w rfl h) (Or.inr ⟨by rfl, rfl⟩) (by assumption) ?_
  try simp only [Act.put, List.setIfInBounds_toArray, List.set_cons_zero, List.set_cons_succ]
  refine wpAnyH_take (i := 26) (oi := { dst := some 294, op := Op.indexAddr 54 (Operand.tmp 290) (Operand.tmp 293), type := 0, pos := "law.go:106", after := #[{ on := 22, ground := Ground.data }, { on := 25, ground := Ground.data }, { on := 17, ground := Ground.guard }], guard := some (17, true) }) (v := undef) rfl (by kernel_rfl) (by kernel_rfl) (by kernel_rfl) (fun c a w h => hpan c (Act.put a _ _) a w rfl h) (Or.inr ⟨by rfl, rfl⟩) (by assumption) ?_
  try simp only [Act.put, List.setIfInBounds_toArray, List.set_cons_zero, List.set_cons_succ]
  refine wpAnyH_take (i := 27) (oi := { dst := some 295, op := Op.load 51 (Operand.tmp 294), type := 51, pos := "law.go:106", after := #[{ on := 26, ground := Ground.data }, { on := 17, ground := Ground.guard }], guard := some (17, true) }) (v := undef) rfl (by kernel_rfl) (by kernel_rfl) (by kernel_rfl) (fun c a w h => hpan c (Act.put a _ _) a w rfl h) (Or.inr ⟨by rfl, rfl⟩) (by assumption) ?_
  try simp only [Act.put, List.setIfInBounds_toArray, List.set_cons_zero, List.set_cons_succ]
  refine wpAnyH_take (i := 28) (oi := { dst := some 296, op := Op.call { callee := Callee.value (Operand.func 26), args := #[Operand.tmp 286, Operand.tmp 295], argTypes := #[51, 51] }, type := 4, pos := "law.go:106", after := #[{ on := 18, ground := Ground.data }, { on := 27, ground := Ground.data }, { on := 17, ground := Ground.chain }, { on := 17, ground := Ground.guard }], guard := some (17, true) }) (v := undef) rfl (by kernel_rfl) (by kernel_rfl) (by kernel_rfl) (fun c a w h => hpan c (Act.put a _ _) a w rfl h) (Or.inr ⟨by rfl, rfl⟩) (by assumption) ?_
  try simp only [Act.put, List.setIfInBounds_toArray, List.set_cons_zero, List.set_cons_succ]
  refine wpAnyH_take (i := 29) (oi := { dst := some 297, op := Op.unOp UnOp.not 4 (Operand.tmp 296), type := 4, pos := "law.go:106", after := #[{ on := 28, ground := Ground.data }, { on := 17, ground := Ground.guard }], guard := some (17, true) }) (v := undef) rfl (by kernel_rfl) (by kernel_rfl) (by kernel_rfl) (fun c a w h => hpan c (Act.put a _ _) a w rfl h) (Or.inr ⟨by rfl, rfl⟩) (by assumption) ?_
  try simp only [Act.put, List.setIfInBounds_toArray, List.set_cons_zero, List.set_cons_succ]
  refine wpAnyH_take (i := 30) (oi := { dst := some 298, op := Op.pick (Operand.tmp 285) (Operand.tmp 297) (Operand.const (Value.bool false)), type := 4, pos := "law.go:106", after := #[{ on := 17, ground := Ground.data }, { on := 29, ground := Ground.data }, { on := 15, ground := Ground.guard }], guard := some (15, false) }) (v := ?_) rfl (by kernel_rfl) (by kernel_rfl) (by kernel_rfl) (fun c a w h => hpan c (Act.put a _ _) a w rfl h) (Or.inl ⟨by rfl, ?_⟩) (by assumption) ?_
  rotate_left
  · intro wS hSw; (try dsimp only at hSw); go_simp; (try with_reducible rfl)
  try simp only [Act.put, List.setIfInBounds_toArray, List.set_cons_zero, List.set_cons_succ]
  refine wpAnyH_take (i := 31) (oi := { dst := some 299, op := Op.pick (Operand.tmp 283) (Operand.const (Value.bool true)) (Operand.tmp 298), type := 4, pos := "law.go:106", after := #[{ on := 15, ground := Ground.data }, { on := 30, ground := Ground.data }], guard := none }) (v := ?_) rfl (by kernel_rfl) (by kernel_rfl) (by kernel_rfl) (fun c a w h => hpan c (Act.put a _ _) a w rfl h) (Or.inl ⟨by rfl, ?_⟩) (by assumption) ?_
  rotate_left
  · intro wS hSw; (try dsimp only at hSw); go_simp; (try with_reducible rfl)
  try simp only [Act.put, List.setIfInBounds_toArray, List.set_cons_zero, List.set_cons_succ]
  refine wpAnyH_take (i := 32) (oi := { dst := some 300, op := Op.move (Operand.tmp 299), type := 4, pos := "law.go:106", after := #[{ on := 31, ground := Ground.data }, { on := 28, ground := Ground.chain }], guard := none }) (v := ?_) rfl (by kernel_rfl) (by kernel_rfl) (by kernel_rfl) (fun c a w h => hpan c (Act.put a _ _) a w rfl h) (Or.inl ⟨by rfl, ?_⟩) (by assumption) ?_
  rotate_left
  · intro wS hSw; (try dsimp only at hSw); go_simp; (try with_reducible rfl)
  try simp only [Act.put, List.setIfInBounds_toArray, List.set_cons_zero, List.set_cons_succ]
  refine wpAnyH_take (i := 33) (oi := { dst := some 301, op := Op.move (Operand.tmp 11), type := 25, pos := "law.go:106", after := #[{ on := 32, ground := Ground.guard }], guard := some (32, false) }) (v := ?_) rfl (by kernel_rfl) (by kernel_rfl) (by kernel_rfl) (fun c a w h => hpan c (Act.put a _ _) a w rfl h) (Or.inl ⟨by rfl, ?_⟩) (by assumption) ?_
  rotate_left
  · intro wS hSw; (try dsimp only at hSw); go_simp; (try with_reducible rfl)
  try simp only [Act.put, List.setIfInBounds_toArray, List.set_cons_zero, List.set_cons_succ]
  refine wpAnyH_take (i := 35) (oi := { dst := some 303, op := Op.move (Operand.tmp 12), type := 27, pos := "law.go:106", after := #[{ on := 32, ground := Ground.guard }], guard := some (32, false) }) (v := ?_) rfl (by kernel_rfl) (by kernel_rfl) (by kernel_rfl) (fun c a w h => hpan c (Act.put a _ _) a w rfl h) (Or.inl ⟨by rfl, ?_⟩) (by assumption) ?_
  rotate_left
  · intro wS hSw; (try dsimp only at hSw); go_simp; (try with_reducible rfl)
  try simp only [Act.put, List.setIfInBounds_toArray, List.set_cons_zero, List.set_cons_succ]
  refine wpAnyH_take (i := 36) (oi := { dst := some 304, op := Op.nilCheck (Operand.tmp 303), type := 0, pos := "law.go:106", after := #[{ on := 35, ground := Ground.data }, { on := 32, ground := Ground.guard }], guard := some (32, false) }) (v := ?_) rfl (by kernel_rfl) (by kernel_rfl) (by kernel_rfl) (fun c a w h => hpan c (Act.put a _ _) a w rfl h) (Or.inl ⟨by rfl, ?_⟩) (by assumption) ?_
  rotate_left
  · intro wS hSw; (try dsimp only at hSw); go_simp; (try with_reducible rfl)
  try simp only [Act.put, List.setIfInBounds_toArray, List.set_cons_zero, List.set_cons_succ]
  refine wpAnyH_take (i := 37) (oi := { dst := some 305, op := Op.fieldAddr 56 (Operand.tmp 304) 0, type := 0, pos := "law.go:106", after := #[{ on := 36, ground := Ground.data }, { on := 32, ground := Ground.guard }], guard := some (32, false) }) (v := ?_) rfl (by kernel_rfl) (by kernel_rfl) (by kernel_rfl) (fun c a w h => hpan c (Act.put a _ _) a w rfl h) (Or.inl ⟨by rfl, ?_⟩) (by assumption) ?_
  rotate_left
  · intro wS hSw; (try dsimp only at hSw); go_simp; (try with_reducible rfl)
  try simp only [Act.put, List.setIfInBounds_toArray, List.set_cons_zero, List.set_cons_succ]
  refine wpAnyH_take (i := 38) (oi := { dst := some 306, op := Op.load 54 (Operand.tmp 305), type := 54, pos := "law.go:106", after := #[{ on := 37, ground := Ground.data }, { on := 32, ground := Ground.guard }], guard := some (32, false) }) (v := ?_) rfl (by kernel_rfl) (by kernel_rfl) (by kernel_rfl) (fun c a w h => hpan c (Act.put a _ _) a w rfl h) (Or.inl ⟨by rfl, ?_⟩) (by assumption) ?_
  rotate_left
  · intro wS hSw; (try dsimp only at hSw); go_simp; (try with_reducible rfl)
  try simp only [Act.put, List.setIfInBounds_toArray, List.set_cons_zero, List.set_cons_succ]
  refine wpAnyH_take (i := 39) (oi := { dst := some 307, op := Op.call { callee := Callee.builtin Builtin.len, args := #[Operand.tmp 306], argTypes := #[54] }, type := 3, pos := "law.go:106", after := #[{ on := 38, ground := Ground.data }, { on := 32, ground := Ground.guard }], guard := some (32, false) }) (v := ?_) rfl (by kernel_rfl) (by kernel_rfl) (by kernel_rfl) (fun c a w h => hpan c (Act.put a _ _) a w rfl h) (Or.inl ⟨by rfl, ?_⟩) (by assumption) ?_
  rotate_left
  · intro wS hSw; (try dsimp only at hSw); go_simp; (try with_reducible rfl)
  try simp only [Act.put, List.setIfInBounds_toArray, List.set_cons_zero, List.set_cons_succ]
  refine wpAnyH_ready (rs := [34]) (by kernel_rfl) (by simp) ?_
  refine AllReadyH.cons (o := { dst := some 302, op := Op.call { callee := Callee.value (Operand.func 27), args := #[Operand.tmp 301], argTypes := #[25] }, type := 3, pos := "law.go:106", after := #[{ on := 33, ground := Ground.data }, { on := 32, ground := Ground.chain }, { on := 32, ground := Ground.guard }], guard := some (32, false) }) rfl (fun K hK => ?_) AllReadyH.nil
  go_simp
  obtain ⟨P1, hq1, _, _⟩ := (Du.out.below b0).one
  refine (qs_len hq1).mono ?_
  rintro e w' ⟨rfl, rfl⟩
  clear hq1
  try dsimp only
  refine hK.out _ _ ?_ (fun hHeld => ?_)
  · exact HS.out _ b0
  clear hK K
  try simp only [Act.put, List.setIfInBounds_toArray, List.set_cons_zero, List.set_cons_succ]
  refine wpAnyH_take (i := 40) (oi := { dst := some 308, op := Op.binOp BinOp.neq 3 (Operand.tmp 302) (Operand.tmp 307) 3, type := 4, pos := "law.go:106", after := #[{ on := 34, ground := Ground.data }, { on := 39, ground := Ground.data }, { on := 32, ground := Ground.guard }], guard := some (32, false) }) (v := ?_) rfl (by kernel_rfl) (by kernel_rfl) (by kernel_rfl) (fun c a w h => hpan c (Act.put a _ _) a w rfl h) (Or.inl ⟨by rfl, ?_⟩) (by assumption) ?_
  rotate_left
  · intro wS hSw; (try dsimp only at hSw); go_simp; (try with_reducible rfl)
  try simp only [Act.put, List.setIfInBounds_toArray, List.set_cons_zero, List.set_cons_succ]
  refine wpAnyH_take (i := 41) (oi := { dst := some 309, op := Op.pick (Operand.tmp 300) (Operand.const (Value.bool true)) (Operand.tmp 308), type := 4, pos := "law.go:106", after := #[{ on := 32, ground := Ground.data }, { on := 40, ground := Ground.data }], guard := none }) (v := ?_) rfl (by kernel_rfl) (by kernel_rfl) (by kernel_rfl) (fun c a w h => hpan c (Act.put a _ _) a w rfl h) (Or.inl ⟨by rfl, ?_⟩) (by assumption) ?_
  rotate_left
  · intro wS hSw; (try dsimp only at hSw); go_simp; (try with_reducible rfl)
  try simp only [Act.put, List.setIfInBounds_toArray, List.set_cons_zero, List.set_cons_succ]
  refine wpAnyH_take (i := 42) (oi := { dst := some 310, op := Op.move (Operand.tmp 309), type := 4, pos := "law.go:106", after := #[{ on := 41, ground := Ground.data }, { on := 34, ground := Ground.chain }], guard := none }) (v := ?_) rfl (by kernel_rfl) (by kernel_rfl) (by kernel_rfl) (fun c a w h => hpan c (Act.put a _ _) a w rfl h) (Or.inl ⟨by rfl, ?_⟩) (by assumption) ?_
  rotate_left
  · intro wS hSw; (try dsimp only at hSw); go_simp; (try with_reducible rfl)
  try simp only [Act.put, List.setIfInBounds_toArray, List.set_cons_zero, List.set_cons_succ]
  refine wpAnyH_take (i := 43) (oi := { dst := some 311, op := Op.move (Operand.tmp 11), type := 25, pos := "law.go:106", after := #[{ on := 42, ground := Ground.guard }], guard := some (42, false) }) (v := ?_) rfl (by kernel_rfl) (by kernel_rfl) (by kernel_rfl) (fun c a w h => hpan c (Act.put a _ _) a w rfl h) (Or.inl ⟨by rfl, ?_⟩) (by assumption) ?_
  rotate_left
  · intro wS hSw; (try dsimp only at hSw); go_simp; (try with_reducible rfl)
  try simp only [Act.put, List.setIfInBounds_toArray, List.set_cons_zero, List.set_cons_succ]
  refine wpAnyH_take (i := 45) (oi := { dst := some 313, op := Op.move (Operand.tmp 12), type := 27, pos := "law.go:106", after := #[{ on := 42, ground := Ground.guard }], guard := some (42, false) }) (v := ?_) rfl (by kernel_rfl) (by kernel_rfl) (by kernel_rfl) (fun c a w h => hpan c (Act.put a _ _) a w rfl h) (Or.inl ⟨by rfl, ?_⟩) (by assumption) ?_
  rotate_left
  · intro wS hSw; (try dsimp only at hSw); go_simp; (try with_reducible rfl)
  try simp only [Act.put, List.setIfInBounds_toArray, List.set_cons_zero, List.set_cons_succ]
  refine wpAnyH_ready (rs := [44]) (by kernel_rfl) (by simp) ?_
  refine AllReadyH.cons (o := { dst := some 312, op := Op.call { callee := Callee.value (Operand.func 28), args := #[Operand.tmp 311], argTypes := #[25] }, type := 3, pos := "law.go:106", after := #[{ on := 43, ground := Ground.data }, { on := 42, ground := Ground.chain }, { on := 42, ground := Ground.guard }], guard := some (42, false) }) rfl (fun K hK => ?_) AllReadyH.nil
  go_simp
  obtain ⟨P1, hq1, _, _⟩ := (Du.out.below b0).one
  refine (qs_open hq1 Sm.out).mono ?_
  rintro e w5 ⟨rfl, _, k5⟩
  replace b0 := b0.trans (k5.mono b0.size)
  clear k5 hq1
  try dsimp only
  refine hK.out _ _ ?_ (fun hHeld => ?_)
  · exact HS.out _ b0
  clear hK K
  try simp only [Act.put, List.setIfInBounds_toArray, List.set_cons_zero, List.set_cons_succ]
  refine wpAnyH_ready (rs := [46]) (by kernel_rfl) (by simp) ?_
  refine AllReadyH.cons (o := { dst := some 314, op := Op.call { callee := Callee.value (Operand.func 29), args := #[Operand.tmp 313], argTypes := #[27] }, type := 3, pos := "law.go:106", after := #[{ on := 45, ground := Ground.data }, { on := 44, ground := Ground.chain }, { on := 42, ground := Ground.guard }], guard := some (42, false) }) rfl (fun K hK => ?_) AllReadyH.nil
  go_simp
  obtain ⟨P1, hq1, _, _⟩ := (Du.out.below b0).two
  refine (rs_open hq1 Sm.out).mono ?_
  rintro e w6 ⟨rfl, _, k5⟩
  replace b0 := b0.trans (k5.mono b0.size)
  clear k5 hq1
  try dsimp only
  refine hK.out _ _ ?_ (fun hHeld => ?_)
  · exact HS.out _ b0
  clear hK K
  try simp only [Act.put, List.setIfInBounds_toArray, List.set_cons_zero, List.set_cons_succ]
  refine wpAnyH_take (i := 47) (oi := { dst := some 315, op := Op.binOp BinOp.neq 3 (Operand.tmp 312) (Operand.tmp 314) 3, type := 4, pos := "law.go:106", after := #[{ on := 44, ground := Ground.data }, { on := 46, ground := Ground.data }, { on := 42, ground := Ground.guard }], guard := some (42, false) }) (v := ?_) rfl (by kernel_rfl) (by kernel_rfl) (by kernel_rfl) (fun c a w h => hpan c (Act.put a _ _) a w rfl h) (Or.inl ⟨by rfl, ?_⟩) (by assumption) ?_
  rotate_left
  · intro wS hSw; (try dsimp only at hSw); go_simp; (try with_reducible rfl)
  try simp only [Act.put, List.setIfInBounds_toArray, List.set_cons_zero, List.set_cons_succ]
  refine wpAnyH_take (i := 48) (oi := { dst := some 316, op := Op.pick (Operand.tmp 310) (Operand.const (Value.bool true)) (Operand.tmp 315), type := 4, pos := "law.go:106", after := #[{ on := 42, ground := Ground.data }, { on := 47, ground := Ground.data }], guard := none }) (v := ?_) rfl (by kernel_rfl) (by kernel_rfl) (by kernel_rfl) (fun c a w h => hpan c (Act.put a _ _) a w rfl h) (Or.inl ⟨by rfl, ?_⟩) (by assumption) ?_
  rotate_left
  · intro wS hSw; (try dsimp only at hSw); go_simp; (try with_reducible rfl)
  try simp only [Act.put, List.setIfInBounds_toArray, List.set_cons_zero, List.set_cons_succ]
  refine wpAnyH_take (i := 49) (oi := { dst := some 317, op := Op.move (Operand.tmp 316), type := 4, pos := "law.go:106", after := #[{ on := 48, ground := Ground.data }, { on := 46, ground := Ground.chain }], guard := none }) (v := ?_) rfl (by kernel_rfl) (by kernel_rfl) (by kernel_rfl) (fun c a w h => hpan c (Act.put a _ _) a w rfl h) (Or.inl ⟨by rfl, ?_⟩) (by assumption) ?_
  rotate_left
  · intro wS hSw; (try dsimp only at hSw); go_simp; (try with_reducible rfl)
  try simp only [Act.put, List.setIfInBounds_toArray, List.set_cons_zero, List.set_cons_succ]
  refine wpAnyH_take (i := 50) (oi := { dst := some 318, op := Op.move (Operand.tmp 11), type := 25, pos := "law.go:106", after := #[{ on := 49, ground := Ground.guard }], guard := some (49, false) }) (v := ?_) rfl (by kernel_rfl) (by kernel_rfl) (by kernel_rfl) (fun c a w h => hpan c (Act.put a _ _) a w rfl h) (Or.inl ⟨by rfl, ?_⟩) (by assumption) ?_
  rotate_left
  · intro wS hSw; (try dsimp only at hSw); go_simp; (try with_reducible rfl)
  try simp only [Act.put, List.setIfInBounds_toArray, List.set_cons_zero, List.set_cons_succ]
  refine wpAnyH_take (i := 52) (oi := { dst := some 320, op := Op.move (Operand.tmp 12), type := 27, pos := "law.go:106", after := #[{ on := 49, ground := Ground.guard }], guard := some (49, false) }) (v := ?_) rfl (by kernel_rfl) (by kernel_rfl) (by kernel_rfl) (fun c a w h => hpan c (Act.put a _ _) a w rfl h) (Or.inl ⟨by rfl, ?_⟩) (by assumption) ?_
  rotate_left
  · intro wS hSw; (try dsimp only at hSw); go_simp; (try with_reducible rfl)
  try simp only [Act.put, List.setIfInBounds_toArray, List.set_cons_zero, List.set_cons_succ]
  refine wpAnyH_take (i := 54) (oi := { dst := some 322, op := Op.move (Operand.tmp 12), type := 27, pos := "law.go:106", after := #[{ on := 49, ground := Ground.guard }], guard := some (49, false) }) (v := ?_) rfl (by kernel_rfl) (by kernel_rfl) (by kernel_rfl) (fun c a w h => hpan c (Act.put a _ _) a w rfl h) (Or.inl ⟨by rfl, ?_⟩) (by assumption) ?_
  rotate_left
  · intro wS hSw; (try dsimp only at hSw); go_simp; (try with_reducible rfl)
  try simp only [Act.put, List.setIfInBounds_toArray, List.set_cons_zero, List.set_cons_succ]
  refine wpAnyH_take (i := 55) (oi := { dst := some 323, op := Op.nilCheck (Operand.tmp 322), type := 0, pos := "law.go:106", after := #[{ on := 54, ground := Ground.data }, { on := 49, ground := Ground.guard }], guard := some (49, false) }) (v := ?_) rfl (by kernel_rfl) (by kernel_rfl) (by kernel_rfl) (fun c a w h => hpan c (Act.put a _ _) a w rfl h) (Or.inl ⟨by rfl, ?_⟩) (by assumption) ?_
  rotate_left
  · intro wS hSw; (try dsimp only at hSw); go_simp; (try with_reducible rfl)
  try simp only [Act.put, List.setIfInBounds_toArray, List.set_cons_zero, List.set_cons_succ]
  refine wpAnyH_take (i := 56) (oi := { dst := some 324, op := Op.fieldAddr 56 (Operand.tmp 323) 1, type := 0, pos := "law.go:106", after := #[{ on := 55, ground := Ground.data }, { on := 49, ground := Ground.guard }], guard := some (49, false) }) (v := ?_) rfl (by kernel_rfl) (by kernel_rfl) (by kernel_rfl) (fun c a w h => hpan c (Act.put a _ _) a w rfl h) (Or.inl ⟨by rfl, ?_⟩) (by assumption) ?_
  rotate_left
  · intro wS hSw; (try dsimp only at hSw); go_simp; (try with_reducible rfl)
  try simp only [Act.put, List.setIfInBounds_toArray, List.set_cons_zero, List.set_cons_succ]
  refine wpAnyH_take (i := 57) (oi := { dst := some 325, op := Op.load 3 (Operand.tmp 324), type := 3, pos := "law.go:106", after := #[{ on := 56, ground := Ground.data }, { on := 49, ground := Ground.guard }], guard := some (49, false) }) (v := ?_) rfl (by kernel_rfl) (by kernel_rfl) (by kernel_rfl) (fun c a w h => hpan c (Act.put a _ _) a w rfl h) (Or.inl ⟨by rfl, ?_⟩) (by assumption) ?_
  rotate_left
  · intro wS hSw; (try dsimp only at hSw); go_simp; (try with_reducible rfl)
  try simp only [Act.put, List.setIfInBounds_toArray, List.set_cons_zero, List.set_cons_succ]
  refine wpAnyH_ready (rs := [51]) (by kernel_rfl) (by simp) ?_
  refine AllReadyH.cons (o := { dst := some 319, op := Op.call { callee := Callee.value (Operand.func 30), args := #[Operand.tmp 318], argTypes := #[25] }, type := 4, pos := "law.go:106", after := #[{ on := 50, ground := Ground.data }, { on := 49, ground := Ground.chain }, { on := 49, ground := Ground.guard }], guard := some (49, false) }) rfl (fun K hK => ?_) AllReadyH.nil
  go_simp
  obtain ⟨P1, hq1, _, _⟩ := (Du.out.below b0).one
  refine (qs_full hq1 Sm.out).mono ?_
  rintro e w7 ⟨rfl, _, k5⟩
  replace b0 := b0.trans (k5.mono b0.size)
  clear k5 hq1
  try dsimp only
  refine hK.out _ _ ?_ (fun hHeld => ?_)
  · exact HS.out _ b0
  clear hK K
  try simp only [Act.put, List.setIfInBounds_toArray, List.set_cons_zero, List.set_cons_succ]
  refine wpAnyH_ready (rs := [53]) (by kernel_rfl) (by simp) ?_
  refine AllReadyH.cons (o := { dst := some 321, op := Op.call { callee := Callee.value (Operand.func 29), args := #[Operand.tmp 320], argTypes := #[27] }, type := 3, pos := "law.go:106", after := #[{ on := 52, ground := Ground.data }, { on := 51, ground := Ground.chain }, { on := 49, ground := Ground.guard }], guard := some (49, false) }) rfl (fun K hK => ?_) AllReadyH.nil
  go_simp
  obtain ⟨P1, hq1, _, _⟩ := (Du.out.below b0).two
  refine (rs_open hq1 Sm.out).mono ?_
  rintro e w8 ⟨rfl, _, k5⟩
  replace b0 := b0.trans (k5.mono b0.size)
  clear k5 hq1
  try dsimp only
  refine hK.out _ _ ?_ (fun hHeld => ?_)
  · exact HS.out _ b0
  clear hK K
  try simp only [Act.put, List.setIfInBounds_toArray, List.set_cons_zero, List.set_cons_succ]
  refine wpAnyH_take (i := 58) (oi := { dst := some 326, op := Op.binOp BinOp.geq 3 (Operand.tmp 321) (Operand.tmp 325) 3, type := 4, pos := "law.go:106", after := #[{ on := 53, ground := Ground.data }, { on := 57, ground := Ground.data }, { on := 49, ground := Ground.guard }], guard := some (49, false) }) (v := ?_) rfl (by kernel_rfl) (by kernel_rfl) (by kernel_rfl) (fun c a w h => hpan c (Act.put a _ _) a w rfl h) (Or.inl ⟨by rfl, ?_⟩) (by assumption) ?_
  rotate_left
  · intro wS hSw; (try dsimp only at hSw); go_simp; (try with_reducible rfl)
  try simp only [Act.put, List.setIfInBounds_toArray, List.set_cons_zero, List.set_cons_succ]
  refine wpAnyH_take (i := 59) (oi := { dst := some 327, op := Op.binOp BinOp.neq 4 (Operand.tmp 319) (Operand.tmp 326) 4, type := 4, pos := "law.go:106", after := #[{ on := 51, ground := Ground.data }, { on := 58, ground := Ground.data }, { on := 49, ground := Ground.guard }], guard := some (49, false) }) (v := ?_) rfl (by kernel_rfl) (by kernel_rfl) (by kernel_rfl) (fun c a w h => hpan c (Act.put a _ _) a w rfl h) (Or.inl ⟨by rfl, ?_⟩) (by assumption) ?_
  rotate_left
  · intro wS hSw; (try dsimp only at hSw); go_simp; (try with_reducible rfl)
  try simp only [Act.put, List.setIfInBounds_toArray, List.set_cons_zero, List.set_cons_succ]
  refine wpAnyH_take (i := 60) (oi := { dst := some 328, op := Op.pick (Operand.tmp 317) (Operand.const (Value.bool true)) (Operand.tmp 327), type := 4, pos := "law.go:106", after := #[{ on := 49, ground := Ground.data }, { on := 59, ground := Ground.data }], guard := none }) (v := ?_) rfl (by kernel_rfl) (by kernel_rfl) (by kernel_rfl) (fun c a w h => hpan c (Act.put a _ _) a w rfl h) (Or.inl ⟨by rfl, ?_⟩) (by assumption) ?_
  rotate_left
  · intro wS hSw; (try dsimp only at hSw); go_simp; (try with_reducible rfl)
  try simp only [Act.put, List.setIfInBounds_toArray, List.set_cons_zero, List.set_cons_succ]
  refine wpAnyH_done (by kernel_rfl) ?_ _
  exact HE.out _ _ _ _ _ _ _ _ _ _ _ _ _ _ _ _ _ _ _ _ _ _ _ _ _ _ _ _ _ _ _ _ _ _ _ _ _ _ _ _ _ _ _ _ _ _ _ _ _ _ _ _ _ _ _ _ _ _ _ _ _ b0

set_option maxRecDepth 1000000 in
set_option maxHeartbeats 16000000 in
theorem chk_big (t0 t1 t2 t3 t4 t5 t6 t7 t8 t9 t10 t13 t15 t16 t17 t18 t19 t20 t21 t22 t23 t24 t25 t26 t27 t30 t31 t32 t33 t34 t35 t36 t37 t38 t39 t40 t41 t42 t43 t44 t45 t46 t47 t48 t49 t50 t51 t52 t53 t54 t55 t56 t57 t58 t59 t60 t61 t62 t63 t64 t65 t66 t67 t68 t69 t70 t71 t72 t73 t74 t75 t76 t77 t78 t79 t80 t81 t82 t83 t84 t85 t86 t87 t88 t89 t90 t91 t92 t93 t94 t95 t96 t97 t98 t99 t100 t101 t102 t103 t104 t105 t106 t107 t108 t109 t110 t111 t112 t113 t114 t115 t116 t117 t118 t119 t120 t121 t122 t123 t124 t125 t126 t127 t128 t129 t130 t131 t132 t133 t134 t135 t136 t137 t138 t139 t140 t141 t142 t143 t144 t145 t146 t147 t148 t149 t150 t151 t152 t153 t154 t155 t156 t157 t158 t159 t160 t161 t162 t163 t164 t165 t166 t167 t168 t169 t170 t171 t172 t173 t174 t175 t176 t177 t178 t179 t180 t181 t182 t183 t184 t185 t186 t187 t188 t189 t190 t191 t192 t193 t194 t195 t196 t197 t198 t199 t200 t201 t202 t203 t204 t205 t206 t207 t208 t209 t210 t211 t212 t213 t214 t215 t216 t217 t218 t219 t220 t221 t222 t223 t224 t225 t226 t227 t228 t229 t230 t231 t232 t233 t234 t235 t236 t237 t238 t239 t240 t241 t242 t243 t244 t245 t246 t247 t248 t249 t250 t251 t252 t253 t254 t255 t256 t257 t258 t259 t260 t261 t262 t263 t264 t265 t266 t267 t268 t269 t270 t271 t272 t273 t274 t275 t276 t277 t278 t279 t280 t281 t282 t283 t284 t285 t286 t287 t288 t289 t290 t291 t292 t293 t294 t295 t296 t297 t298 t299 t300 t301 t302 t303 t304 t305 t306 t307 t308 t309 t310 t311 t312 t313 t314 t315 t316 t317 t318 t319 t320 t321 t322 t323 t324 t325 t326 t327 t328 t329 t330 t331 t332 t333 t334 t335 t336 t337 t338 t339 t340 t341 t342 t343 t344 t345 t346 t347 t348 t349 t350 t351 t352 : Value) (g1 g2 X Y : Nat) (P : Nat → Prop) (q : List It) (R T D : Int) (D0 : Int) (hD : (q.length : Int) < D0) (w : World) (du : Duo w P g1 g2 q q R T D) (Sm : RowKit.Hid (Small q)) (cX : w.cell? ⟨X, 12, none⟩ = some (.int .i64 D0)) (lX : X < w.heap.size)
    (Q : Exit → Act → World → Prop) (hpan : ∀ c a a' w, a.defers = a'.defers → Q (.panic c) a w → Q (.panic c) a' w)
    (hexit : ∀ (u268 u269 u270 u271 u272 u273 u274 u275 u276 u277 u278 u279 u280 u281 u282 u283 u284 u285 u286 u287 u288 u289 u290 u291 u292 u293 u294 u295 u296 u297 u298 u299 u300 u301 u302 u303 u304 u305 u306 u307 u308 u309 u310 u311 u312 u313 u314 u315 u316 u317 u318 u319 u320 u321 u322 u323 u324 u325 u326 u327 : Value) (w' : World), Below w.heap.size w w' → Q .normal ⟨List.toArray (t0 :: t1 :: t2 :: t3 :: t4 :: t5 :: t6 :: t7 :: t8 :: t9 :: t10 :: (.pointer (some ⟨g1, 0, none⟩)) :: (.pointer (some ⟨g2, 0, none⟩)) :: t13 :: (.pointer (some ⟨X, 0, none⟩)) :: t15 :: t16 :: t17 :: t18 :: t19 :: t20 :: t21 :: t22 :: t23 :: t24 :: t25 :: t26 :: t27 :: (.pointer (some ⟨Y, 0, none⟩)) :: (.bool false) :: t30 :: t31 :: t32 :: t33 :: t34 :: t35 :: t36 :: t37 :: t38 :: t39 :: t40 :: t41 :: t42 :: t43 :: t44 :: t45 :: t46 :: t47 :: t48 :: t49 :: t50 :: t51 :: t52 :: t53 :: t54 :: t55 :: t56 :: t57 :: t58 :: t59 :: t60 :: t61 :: t62 :: t63 :: t64 :: t65 :: t66 :: t67 :: t68 :: t69 :: t70 :: t71 :: t72 :: t73 :: t74 :: t75 :: t76 :: t77 :: t78 :: t79 :: t80 :: t81 :: t82 :: t83 :: t84 :: t85 :: t86 :: t87 :: t88 :: t89 :: t90 :: t91 :: t92 :: t93 :: t94 :: t95 :: t96 :: t97 :: t98 :: t99 :: t100 :: t101 :: t102 :: t103 :: t104 :: t105 :: t106 :: t107 :: t108 :: t109 :: t110 :: t111 :: t112 :: t113 :: t114 :: t115 :: t116 :: t117 :: t118 :: t119 :: t120 :: t121 :: t122 :: t123 :: t124 :: t125 :: t126 :: t127 :: t128 :: t129 :: t130 :: t131 :: t132 :: t133 :: t134 :: t135 :: t136 :: t137 :: t138 :: t139 :: t140 :: t141 :: t142 :: t143 :: t144 :: t145 :: t146 :: t147 :: t148 :: t149 :: t150 :: t151 :: t152 :: t153 :: t154 :: t155 :: t156 :: t157 :: t158 :: t159 :: t160 :: t161 :: t162 :: t163 :: t164 :: t165 :: t166 :: t167 :: t168 :: t169 :: t170 :: t171 :: t172 :: t173 :: t174 :: t175 :: t176 :: t177 :: t178 :: t179 :: t180 :: t181 :: t182 :: t183 :: t184 :: t185 :: t186 :: t187 :: t188 :: t189 :: t190 :: t191 :: t192 :: t193 :: t194 :: t195 :: t196 :: t197 :: t198 :: t199 :: t200 :: t201 :: t202 :: t203 :: t204 :: t205 :: t206 :: t207 :: t208 :: t209 :: t210 :: t211 :: t212 :: t213 :: t214 :: t215 :: t216 :: t217 :: t218 :: t219 :: t220 :: t221 :: t222 :: t223 :: t224 :: t225 :: t226 :: t227 :: t228 :: t229 :: t230 :: t231 :: t232 :: t233 :: t234 :: t235 :: t236 :: t237 :: t238 :: t239 :: t240 :: t241 :: t242 :: t243 :: t244 :: t245 :: t246 :: t247 :: t248 :: t249 :: t250 :: t251 :: t252 :: t253 :: t254 :: t255 :: t256 :: t257 :: t258 :: t259 :: t260 :: t261 :: t262 :: t263 :: t264 :: t265 :: t266 :: t267 :: u268 :: u269 :: u270 :: u271 :: u272 :: u273 :: u274 :: u275 :: u276 :: u277 :: u278 :: u279 :: u280 :: u281 :: u282 :: u283 :: u284 :: u285 :: u286 :: u287 :: u288 :: u289 :: u290 :: u291 :: u292 :: u293 :: u294 :: u295 :: u296 :: u297 :: u298 :: u299 :: u300 :: u301 :: u302 :: u303 :: u304 :: u305 :: u306 :: u307 :: u308 :: u309 :: u310 :: u311 :: u312 :: u313 :: u314 :: u315 :: u316 :: u317 :: u318 :: u319 :: u320 :: u321 :: u322 :: u323 :: u324 :: u325 :: u326 :: u327 :: (.bool false) :: t329 :: t330 :: t331 :: t332 :: t333 :: t334 :: t335 :: t336 :: t337 :: t338 :: t339 :: t340 :: t341 :: t342 :: t343 :: t344 :: t345 :: t346 :: t347 :: t348 :: t349 :: t350 :: t351 :: t352 :: []), []⟩ w') :
    Code.wp Try.prog (rg3 45) Q ⟨List.toArray (t0 :: t1 :: t2 :: t3 :: t4 :: t5 :: t6 :: t7 :: t8 :: t9 :: t10 :: (.pointer (some ⟨g1, 0, none⟩)) :: (.pointer (some ⟨g2, 0, none⟩)) :: t13 :: (.pointer (some ⟨X, 0, none⟩)) :: t15 :: t16 :: t17 :: t18 :: t19 :: t20 :: t21 :: t22 :: t23 :: t24 :: t25 :: t26 :: t27 :: (.pointer (some ⟨Y, 0, none⟩)) :: (.bool false) :: t30 :: t31 :: t32 :: t33 :: t34 :: t35 :: t36 :: t37 :: t38 :: t39 :: t40 :: t41 :: t42 :: t43 :: t44 :: t45 :: t46 :: t47 :: t48 :: t49 :: t50 :: t51 :: t52 :: t53 :: t54 :: t55 :: t56 :: t57 :: t58 :: t59 :: t60 :: t61 :: t62 :: t63 :: t64 :: t65 :: t66 :: t67 :: t68 :: t69 :: t70 :: t71 :: t72 :: t73 :: t74 :: t75 :: t76 :: t77 :: t78 :: t79 :: t80 :: t81 :: t82 :: t83 :: t84 :: t85 :: t86 :: t87 :: t88 :: t89 :: t90 :: t91 :: t92 :: t93 :: t94 :: t95 :: t96 :: t97 :: t98 :: t99 :: t100 :: t101 :: t102 :: t103 :: t104 :: t105 :: t106 :: t107 :: t108 :: t109 :: t110 :: t111 :: t112 :: t113 :: t114 :: t115 :: t116 :: t117 :: t118 :: t119 :: t120 :: t121 :: t122 :: t123 :: t124 :: t125 :: t126 :: t127 :: t128 :: t129 :: t130 :: t131 :: t132 :: t133 :: t134 :: t135 :: t136 :: t137 :: t138 :: t139 :: t140 :: t141 :: t142 :: t143 :: t144 :: t145 :: t146 :: t147 :: t148 :: t149 :: t150 :: t151 :: t152 :: t153 :: t154 :: t155 :: t156 :: t157 :: t158 :: t159 :: t160 :: t161 :: t162 :: t163 :: t164 :: t165 :: t166 :: t167 :: t168 :: t169 :: t170 :: t171 :: t172 :: t173 :: t174 :: t175 :: t176 :: t177 :: t178 :: t179 :: t180 :: t181 :: t182 :: t183 :: t184 :: t185 :: t186 :: t187 :: t188 :: t189 :: t190 :: t191 :: t192 :: t193 :: t194 :: t195 :: t196 :: t197 :: t198 :: t199 :: t200 :: t201 :: t202 :: t203 :: t204 :: t205 :: t206 :: t207 :: t208 :: t209 :: t210 :: t211 :: t212 :: t213 :: t214 :: t215 :: t216 :: t217 :: t218 :: t219 :: t220 :: t221 :: t222 :: t223 :: t224 :: t225 :: t226 :: t227 :: t228 :: t229 :: t230 :: t231 :: t232 :: t233 :: t234 :: t235 :: t236 :: t237 :: t238 :: t239 :: t240 :: t241 :: t242 :: t243 :: t244 :: t245 :: t246 :: t247 :: t248 :: t249 :: t250 :: t251 :: t252 :: t253 :: t254 :: t255 :: t256 :: t257 :: t258 :: t259 :: t260 :: t261 :: t262 :: t263 :: t264 :: t265 :: t266 :: t267 :: t268 :: t269 :: t270 :: t271 :: t272 :: t273 :: t274 :: t275 :: t276 :: t277 :: t278 :: t279 :: t280 :: t281 :: t282 :: t283 :: t284 :: t285 :: t286 :: t287 :: t288 :: t289 :: t290 :: t291 :: t292 :: t293 :: t294 :: t295 :: t296 :: t297 :: t298 :: t299 :: t300 :: t301 :: t302 :: t303 :: t304 :: t305 :: t306 :: t307 :: t308 :: t309 :: t310 :: t311 :: t312 :: t313 :: t314 :: t315 :: t316 :: t317 :: t318 :: t319 :: t320 :: t321 :: t322 :: t323 :: t324 :: t325 :: t326 :: t327 :: t328 :: t329 :: t330 :: t331 :: t332 :: t333 :: t334 :: t335 :: t336 :: t337 :: t338 :: t339 :: t340 :: t341 :: t342 :: t343 :: t344 :: t345 :: t346 :: t347 :: t348 :: t349 :: t350 :: t351 :: t352 :: []), []⟩ w := by
  have HE := Lib.hid hexit
  obtain ⟨Aq, cq, kg, hit⟩ := du.ref
  have hS' : ∀ W, Below w.heap.size w W → (fun w' : World => w'.cell? ⟨X, 12, none⟩ = some (.int .i64 D0) ∧ w'.cell? ⟨g2, 0, none⟩ = some (.slice Aq q.length cq) ∧ w'.cell? ⟨g2, 1, none⟩ = some (.int .i64 R)) W := fun W bw => ⟨(bw.cell (p := ⟨X, 12, none⟩) lX).trans cX, (bw.cell (p := ⟨g2, 0, none⟩) kg.lt).trans (kg.cell 0), (bw.cell (p := ⟨g2, 1, none⟩) kg.lt).trans (kg.cell 1)⟩
  have HS := Lib.hid hS'
  have Du := Lib.hid du
  have d1 : decide ((0 : Int) < D0) = true := by simp; omega
  have d2 : decide (D0 ≤ (q.length : Int)) = false := by simp; omega
  have b0 : Below w.heap.size w w.drew := (Below.refl _ w).drew
  clear hexit hS' du hit kg
  conv => arg 2; whnf
  refine wp_region_held_drew (S := fun w' : World => w'.cell? ⟨X, 12, none⟩ = some (.int .i64 D0) ∧ w'.cell? ⟨g2, 0, none⟩ = some (.slice Aq q.length cq) ∧ w'.cell? ⟨g2, 1, none⟩ = some (.int .i64 R)) (by kernel_rfl) ?_ (fun hHeld => ?_)
  · exact HS.out _ b0
  refine wpAnyH_take (i := 0) (oi := { dst := some 268, op := Op.move (Operand.tmp 29), type := 4, pos := "law.go:106", after := #[], guard := none }) (v := ?_) rfl (by kernel_rfl) (by kernel_rfl) (by kernel_rfl) (fun c a w h => hpan c (Act.put a _ _) a w rfl h) (Or.inl ⟨by rfl, ?_⟩) (by assumption) ?_
  rotate_left
  · intro wS hSw; (try dsimp only at hSw); go_simp; (try with_reducible rfl)
  try simp only [Act.put, List.setIfInBounds_toArray, List.set_cons_zero, List.set_cons_succ]
  refine wpAnyH_take (i := 1) (oi := { dst := some 269, op := Op.fieldAddr 40 (Operand.tmp 14) 2, type := 0, pos := "law.go:106", after := #[], guard := none }) (v := ?_) rfl (by kernel_rfl) (by kernel_rfl) (by kernel_rfl) (fun c a w h => hpan c (Act.put a _ _) a w rfl h) (Or.inl ⟨by rfl, ?_⟩) (by assumption) ?_
  rotate_left
  · intro wS hSw; (try dsimp only at hSw); go_simp; (try with_reducible rfl)
  try simp only [Act.put, List.setIfInBounds_toArray, List.set_cons_zero, List.set_cons_succ]
  refine wpAnyH_take (i := 2) (oi := { dst := some 270, op := Op.load 3 (Operand.tmp 269), type := 3, pos := "law.go:106", after := #[{ on := 1, ground := Ground.data }], guard := none }) (v := ?_) rfl (by kernel_rfl) (by kernel_rfl) (by kernel_rfl) (fun c a w h => hpan c (Act.put a _ _) a w rfl h) (Or.inl ⟨by rfl, ?_⟩) (by assumption) ?_
  rotate_left
  · intro wS hSw; (try dsimp only at hSw); go_simp; (try with_reducible rfl)
  try simp only [Act.put, List.setIfInBounds_toArray, List.set_cons_zero, List.set_cons_succ]
  refine wpAnyH_take (i := 3) (oi := { dst := some 271, op := Op.binOp BinOp.gtr 3 (Operand.tmp 270) (Operand.const (Value.int IntKind.i64 0)) 3, type := 4, pos := "law.go:106", after := #[{ on := 2, ground := Ground.data }], guard := none }) (v := ?_) rfl (by kernel_rfl) (by kernel_rfl) (by kernel_rfl) (fun c a w h => hpan c (Act.put a _ _) a w rfl h) (Or.inl ⟨by rfl, ?_⟩) (by assumption) ?_
  rotate_left
  · intro wS hSw; (try dsimp only at hSw); go_simp; (try with_reducible rfl)
  try simp only [Act.put, List.setIfInBounds_toArray, List.set_cons_zero, List.set_cons_succ]
  refine wpAnyH_take (i := 4) (oi := { dst := some 272, op := Op.move (Operand.tmp 271), type := 4, pos := "law.go:106", after := #[{ on := 3, ground := Ground.data }], guard := none }) (v := ?_) rfl (by kernel_rfl) (by kernel_rfl) (by kernel_rfl) (fun c a w h => hpan c (Act.put a _ _) a w rfl h) (Or.inl ⟨by rfl, ?_⟩) (by assumption) ?_
  rotate_left
  · intro wS hSw; (try dsimp only at hSw); go_simp; (try with_reducible rfl)
  try simp only [Act.put, List.setIfInBounds_toArray, List.set_cons_zero, List.set_cons_succ]
  refine wpAnyH_take (i := 5) (oi := { dst := some 273, op := Op.fieldAddr 40 (Operand.tmp 14) 2, type := 0, pos := "law.go:106", after := #[{ on := 4, ground := Ground.guard }], guard := some (4, true) }) (v := ?_) rfl (by kernel_rfl) (by kernel_rfl) (by kernel_rfl) (fun c a w h => hpan c (Act.put a _ _) a w rfl h) (Or.inl ⟨by rfl, ?_⟩) (by assumption) ?_
  rotate_left
  · intro wS hSw; (try dsimp only at hSw); go_simp; (try with_reducible rfl)
  try simp only [Act.put, List.setIfInBounds_toArray, List.set_cons_zero, List.set_cons_succ]
  refine wpAnyH_take (i := 6) (oi := { dst := some 274, op := Op.load 3 (Operand.tmp 273), type := 3, pos := "law.go:106", after := #[{ on := 5, ground := Ground.data }, { on := 4, ground := Ground.guard }], guard := some (4, true) }) (v := ?_) rfl (by kernel_rfl) (by kernel_rfl) (by kernel_rfl) (fun c a w h => hpan c (Act.put a _ _) a w rfl h) (Or.inl ⟨by rfl, ?_⟩) (by assumption) ?_
  rotate_left
  · intro wS hSw; (try dsimp only at hSw); go_simp; (try with_reducible rfl)
  try simp only [Act.put, List.setIfInBounds_toArray, List.set_cons_zero, List.set_cons_succ]
  refine wpAnyH_take (i := 7) (oi := { dst := some 275, op := Op.move (Operand.tmp 12), type := 27, pos := "law.go:106", after := #[{ on := 4, ground := Ground.guard }], guard := some (4, true) }) (v := ?_) rfl (by kernel_rfl) (by kernel_rfl) (by kernel_rfl) (fun c a w h => hpan c (Act.put a _ _) a w rfl h) (Or.inl ⟨by rfl, ?_⟩) (by assumption) ?_
  rotate_left
  · intro wS hSw; (try dsimp only at hSw); go_simp; (try with_reducible rfl)
  try simp only [Act.put, List.setIfInBounds_toArray, List.set_cons_zero, List.set_cons_succ]
  refine wpAnyH_take (i := 8) (oi := { dst := some 276, op := Op.nilCheck (Operand.tmp 275), type := 0, pos := "law.go:106", after := #[{ on := 7, ground := Ground.data }, { on := 4, ground := Ground.guard }], guard := some (4, true) }) (v := ?_) rfl (by kernel_rfl) (by kernel_rfl) (by kernel_rfl) (fun c a w h => hpan c (Act.put a _ _) a w rfl h) (Or.inl ⟨by rfl, ?_⟩) (by assumption) ?_
  rotate_left
  · intro wS hSw; (try dsimp only at hSw); go_simp; (try with_reducible rfl)
  try simp only [Act.put, List.setIfInBounds_toArray, List.set_cons_zero, List.set_cons_succ]
  refine wpAnyH_take (i := 9) (oi := { dst := some 277, op := Op.fieldAddr 56 (Operand.tmp 276) 0, type := 0, pos := "law.go:106", after := #[{ on := 8, ground := Ground.data }, { on := 4, ground := Ground.guard }], guard := some (4, true) }) (v := ?_) rfl (by kernel_rfl) (by kernel_rfl) (by kernel_rfl) (fun c a w h => hpan c (Act.put a _ _) a w rfl h) (Or.inl ⟨by rfl, ?_⟩) (by assumption) ?_
  rotate_left
  · intro wS hSw; (try dsimp only at hSw); go_simp; (try with_reducible rfl)
  try simp only [Act.put, List.setIfInBounds_toArray, List.set_cons_zero, List.set_cons_succ]
  refine wpAnyH_take (i := 10) (oi := { dst := some 278, op := Op.load 54 (Operand.tmp 277), type := 54, pos := "law.go:106", after := #[{ on := 9, ground := Ground.data }, { on := 4, ground := Ground.guard }], guard := some (4, true) }) (v := ?_) rfl (by kernel_rfl) (by kernel_rfl) (by kernel_rfl) (fun c a w h => hpan c (Act.put a _ _) a w rfl h) (Or.inl ⟨by rfl, ?_⟩) (by assumption) ?_
  rotate_left
  · intro wS hSw; (try dsimp only at hSw); go_simp; (try with_reducible rfl)
  try simp only [Act.put, List.setIfInBounds_toArray, List.set_cons_zero, List.set_cons_succ]
  refine wpAnyH_take (i := 11) (oi := { dst := some 279, op := Op.call { callee := Callee.builtin Builtin.len, args := #[Operand.tmp 278], argTypes := #[54] }, type := 3, pos := "law.go:106", after := #[{ on := 10, ground := Ground.data }, { on := 4, ground := Ground.guard }], guard := some (4, true) }) (v := ?_) rfl (by kernel_rfl) (by kernel_rfl) (by kernel_rfl) (fun c a w h => hpan c (Act.put a _ _) a w rfl h) (Or.inl ⟨by rfl, ?_⟩) (by assumption) ?_
  rotate_left
  · intro wS hSw; (try dsimp only at hSw); go_simp; (try with_reducible rfl)
  try simp only [Act.put, List.setIfInBounds_toArray, List.set_cons_zero, List.set_cons_succ]
  refine wpAnyH_take (i := 12) (oi := { dst := some 280, op := Op.binOp BinOp.leq 3 (Operand.tmp 274) (Operand.tmp 279) 3, type := 4, pos := "law.go:106", after := #[{ on := 6, ground := Ground.data }, { on := 11, ground := Ground.data }, { on := 4, ground := Ground.guard }], guard := some (4, true) }) (v := ?_) rfl (by kernel_rfl) (by kernel_rfl) (by kernel_rfl) (fun c a w h => hpan c (Act.put a _ _) a w rfl h) (Or.inl ⟨by rfl, ?_⟩) (by assumption) ?_
  rotate_left
  · intro wS hSw; (try dsimp only at hSw); go_simp; (try with_reducible rfl)
  try simp only [Act.put, List.setIfInBounds_toArray, List.set_cons_zero, List.set_cons_succ]
  refine wpAnyH_take (i := 13) (oi := { dst := some 281, op := Op.pick (Operand.tmp 272) (Operand.tmp 280) (Operand.const (Value.bool false)), type := 4, pos := "law.go:106", after := #[{ on := 4, ground := Ground.data }, { on := 12, ground := Ground.data }], guard := none }) (v := ?_) rfl (by kernel_rfl) (by kernel_rfl) (by kernel_rfl) (fun c a w h => hpan c (Act.put a _ _) a w rfl h) (Or.inl ⟨by rfl, ?_⟩) (by assumption) ?_
  rotate_left
  · intro wS hSw; (try dsimp only at hSw); go_simp; (try with_reducible rfl)
  try simp only [Act.put, List.setIfInBounds_toArray, List.set_cons_zero, List.set_cons_succ]
  refine wpAnyH_take (i := 14) (oi := { dst := some 282, op := Op.binOp BinOp.neq 4 (Operand.tmp 268) (Operand.tmp 281) 4, type := 4, pos := "law.go:106", after := #[{ on := 0, ground := Ground.data }, { on := 13, ground := Ground.data }], guard := none }) (v := ?_) rfl (by kernel_rfl) (by kernel_rfl) (by kernel_rfl) (fun c a w h => hpan c (Act.put a _ _) a w rfl h) (Or.inl ⟨by rfl, ?_⟩) (by assumption) ?_
  rotate_left
  · intro wS hSw; (try dsimp only at hSw); go_simp; (try with_reducible rfl)
  try simp only [Act.put, List.setIfInBounds_toArray, List.set_cons_zero, List.set_cons_succ]
  refine wpAnyH_take (i := 15) (oi := { dst := some 283, op := Op.move (Operand.tmp 282), type := 4, pos := "law.go:106", after := #[{ on := 14, ground := Ground.data }, { on := 4, ground := Ground.chain }], guard := none }) (v := ?_) rfl (by kernel_rfl) (by kernel_rfl) (by kernel_rfl) (fun c a w h => hpan c (Act.put a _ _) a w rfl h) (Or.inl ⟨by rfl, ?_⟩) (by assumption) ?_
  rotate_left
  · intro wS hSw; (try dsimp only at hSw); go_simp; (try with_reducible rfl)
  try simp only [Act.put, List.setIfInBounds_toArray, List.set_cons_zero, List.set_cons_succ]
  refine wpAnyH_take (i := 16) (oi := { dst := some 284, op := Op.move (Operand.tmp 29), type := 4, pos := "law.go:106", after := #[{ on := 15, ground := Ground.guard }], guard := some (15, false) }) (v := ?_) rfl (by kernel_rfl) (by kernel_rfl) (by kernel_rfl) (fun c a w h => hpan c (Act.put a _ _) a w rfl h) (Or.inl ⟨by rfl, ?_⟩) (by assumption) ?_
  rotate_left
  · intro wS hSw; (try dsimp only at hSw); go_simp; (try with_reducible rfl)
  try simp only [Act.put, List.setIfInBounds_toArray, List.set_cons_zero, List.set_cons_succ]
  refine wpAnyH_take (i := 17) (oi := { dst := some 285, op := Op.move (Operand.tmp 284), type := 4, pos := "law.go:106", after := #[{ on := 16, ground := Ground.data }, { on := 15, ground := Ground.chain }, { on := 15, ground := Ground.guard }], guard := some (15, false) }) (v := ?_) rfl (by kernel_rfl) (by kernel_rfl) (by kernel_rfl) (fun c a w h => hpan c (Act.put a _ _) a w rfl h) (Or.inl ⟨by rfl, ?_⟩) (by assumption) ?_
  rotate_left
  · intro wS hSw; (try dsimp only at hSw); go_simp; (try with_reducible rfl)
  try simp only [Act.put, List.setIfInBounds_toArray, List.set_cons_zero, List.set_cons_succ]
  refine wpAnyH_take (i := 18) (oi := { dst := some 286, op := Op.load 51 (Operand.tmp 28), type := 51, pos := "law.go:106", after := #[{ on := 17, ground := Ground.guard }], guard := some (17, true) }) (v := undef) rfl (by kernel_rfl) (by kernel_rfl) (by kernel_rfl) (fun c a w h => hpan c (Act.put a _ _) a w rfl h) (Or.inr ⟨by rfl, rfl⟩) (by assumption) ?_
  try simp only [Act.put, List.setIfInBounds_toArray, List.set_cons_zero, List.set_cons_succ]
  refine wpAnyH_take (i := 19) (oi := { dst := some 287, op := Op.move (Operand.tmp 12), type := 27, pos := "law.go:106", after := #[{ on := 17, ground := Ground.guard }], guard := some (17, true) }) (v := undef) rfl (by kernel_rfl) (by kernel_rfl) (by kernel_rfl) (fun c a w h => hpan c (Act.put a _ _) a w rfl h) (Or.inr ⟨by rfl, rfl⟩) (by assumption) ?_
  try simp only [Act.put, List.setIfInBounds_toArray, List.set_cons_zero, List.set_cons_succ]
  refine wpAnyH_take (i := 20) (oi := { dst := some 288, op := Op.nilCheck (Operand.tmp 287), type := 0, pos := "law.go:106", after := #[{ on := 19, ground := Ground.data }, { on := 17, ground := Ground.guard }], guard := some (17, true) }) (v := undef) rfl (by kernel_rfl) (by kernel_rfl) (by kernel_rfl) (fun c a w h => hpan c (Act.put a _ _) a w rfl h) (Or.inr ⟨by rfl, rfl⟩) (by assumption) ?_
  try simp only [Act.put, List.setIfInBounds_toArray, List.set_cons_zero, List.set_cons_succ]
  refine wpAnyH_take (i := 21) (oi := { dst := some 289, op := Op.fieldAddr 56 (Operand.tmp 288) 0, type := 0, pos := "law.go:106", after := #[{ on := 20, ground := Ground.data }, { on := 17, ground := Ground.guard }], guard := some (17, true) }) (v := undef) rfl (by kernel_rfl) (by kernel_rfl) (by kernel_rfl) (fun c a w h => hpan c (Act.put a _ _) a w rfl h) (Or.inr ⟨by rfl, rfl⟩) (by assumption) ?_
  try simp only [Act.put, List.setIfInBounds_toArray, List.set_cons_zero, List.set_cons_succ]
  refine wpAnyH_take (i := 22) (oi := { dst := some 290, op := Op.load 54 (Operand.tmp 289), type := 54, pos := "law.go:106", after := #[{ on := 21, ground := Ground.data }, { on := 17, ground := Ground.guard }], guard := some (17, true) }) (v := undef) rfl (by kernel_rfl) (by kernel_rfl) (by kernel_rfl) (fun c a w h => hpan c (Act.put a _ _) a w rfl h) (Or.inr ⟨by rfl, rfl⟩) (by assumption) ?_
  try simp only [Act.put, List.setIfInBounds_toArray, List.set_cons_zero, List.set_cons_succ]
  refine wpAnyH_take (i := 23) (oi := { dst := some 291, op := Op.fieldAddr 40 (Operand.tmp 14) 2, type := 0, pos := "law.go:106", after := #[{ on := 17, ground := Ground.guard }], guard := some (17, true) }) (v := undef) rfl (by kernel_rfl) (by kernel_rfl) (by kernel_rfl) (fun c a w h => hpan c (Act.put a _ _) a w rfl h) (Or.inr ⟨by rfl, rfl⟩) (by assumption) ?_
  try simp only [Act.put, List.setIfInBounds_toArray, List.set_cons_zero, List.set_cons_succ]
  refine wpAnyH_take (i := 24) (oi := { dst := some 292, op := Op.load 3 (Operand.tmp 291), type := 3, pos := "law.go:106", after := #[{ on := 23, ground := Ground.data }, { on := 17, ground := Ground.guard }], guard := some (17, true) }) (v := undef) rfl (by kernel_rfl) (by kernel_rfl) (by kernel_rfl) (fun c a w h => hpan c (Act.put a _ _) a w rfl h) (Or.inr ⟨by rfl, rfl⟩) (by assumption) ?_
  try simp only [Act.put, List.setIfInBounds_toArray, List.set_cons_zero, List.set_cons_succ]
  refine wpAnyH_take (i := 25) (oi := { dst := some 293, op := Op.binOp BinOp.sub 3 (Operand.tmp 292) (Operand.const (Value.int IntKind.i64 1)) 3, type := 3, pos := "law.go:106", after := #[{ on := 24, ground := Ground.data }, { on := 17, ground := Ground.guard }], guard := some (17, true) }) (v := undef) rfl (by kernel_rfl) (by kernel_rfl) (by kernel_rfl) (fun c a w h => hpan c (Act.put a _ _) a w rfl h) (Or.inr ⟨by rfl, rfl⟩) (by assumption) ?_
  try simp only [Act.put, List.setIfInBounds_toArray, List.set_cons_zero, List.set_cons_succ]
  refine wpAnyH_take (i := 26) (oi := { dst := some 294, op := Op.indexAddr 54 (Operand.tmp 290) (Operand.tmp 293), type := 0, pos := "law.go:106", after := #[{ on := 22, ground := Ground.data }, { on := 25, ground := Ground.data }, { on := 17, ground := Ground.guard }], guard := some (17, true) }) (v := undef) rfl (by kernel_rfl) (by kernel_rfl) (by kernel_rfl) (fun c a w h => hpan c (Act.put a _ _) a w rfl h) (Or.inr ⟨by rfl, rfl⟩) (by assumption) ?_
  try simp only [Act.put, List.setIfInBounds_toArray, List.set_cons_zero, List.set_cons_succ]
  refine wpAnyH_take (i := 27) (oi := { dst := some 295, op := Op.load 51 (Operand.tmp 294), type := 51, pos := "law.go:106", after := #[{ on := 26, ground := Ground.data }, { on := 17, ground := Ground.guard }], guard := some (17, true) }) (v := undef) rfl (by kernel_rfl) (by kernel_rfl) (by kernel_rfl) (fun c a w h => hpan c (Act.put a _ _) a w rfl h) (Or.inr ⟨by rfl, rfl⟩) (by assumption) ?_
  try simp only [Act.put, List.setIfInBounds_toArray, List.set_cons_zero, List.set_cons_succ]
  refine wpAnyH_take (i := 28) (oi := { dst := some 296, op := Op.call { callee := Callee.value (Operand.func 26), args := #[Operand.tmp 286, Operand.tmp 295], argTypes := #[51, 51] }, type := 4, pos := "law.go:106", after := #[{ on := 18, ground := Ground.data }, { on := 27, ground := Ground.data }, { on := 17, ground := Ground.chain }, { on := 17, ground := Ground.guard }], guard := some (17, true) }) (v := undef) rfl (by kernel_rfl) (by kernel_rfl) (by kernel_rfl) (fun c a w h => hpan c (Act.put a _ _) a w rfl h) (Or.inr ⟨by rfl, rfl⟩) (by assumption) ?_
  try simp only [Act.put, List.setIfInBounds_toArray, List.set_cons_zero, List.set_cons_succ]
  refine wpAnyH_take (i := 29) (oi := { dst := some 297, op := Op.unOp UnOp.not 4 (Operand.tmp 296), type := 4, pos := "law.go:106", after := #[{ on := 28, ground := Ground.data }, { on := 17, ground := Ground.guard }], guard := some (17, true) }) (v := undef) rfl (by kernel_rfl) (by kernel_rfl) (by kernel_rfl) (fun c a w h => hpan c (Act.put a _ _) a w rfl h) (Or.inr ⟨by rfl, rfl⟩) (by assumption) ?_
  try simp only [Act.put, List.setIfInBounds_toArray, List.set_cons_zero, List.set_cons_succ]
  refine wpAnyH_take (i := 30) (oi := { dst := some 298, op := Op.pick (Operand.tmp 285) (Operand.tmp 297) (Operand.const (Value.bool false)), type := 4, pos := "law.go:106", after := #[{ on := 17, ground := Ground.data }, { on := 29, ground := Ground.data }, { on := 15, ground := Ground.guard }], guard := some (15, false) }) (v := ?_) rfl (by kernel_rfl) (by kernel_rfl) (by kernel_rfl) (fun c a w h => hpan c (Act.put a _ _) a w rfl h) (Or.inl ⟨by rfl, ?_⟩) (by assumption) ?_
  rotate_left
  · intro wS hSw; (try dsimp only at hSw); go_simp; (try with_reducible rfl)
  try simp only [Act.put, List.setIfInBounds_toArray, List.set_cons_zero, List.set_cons_succ]
  refine wpAnyH_take (i := 31) (oi := { dst := some 299, op := Op.pick (Operand.tmp 283) (Operand.const (Value.bool true)) (Operand.tmp 298), type := 4, pos := "law.go:106", after := #[{ on := 15, ground := Ground.data }, { on := 30, ground := Ground.data }], guard := none }) (v := ?_) rfl (by kernel_rfl) (by kernel_rfl) (by kernel_rfl) (fun c a w h => hpan c (Act.put a _ _) a w rfl h) (Or.inl ⟨by rfl, ?_⟩) (by assumption) ?_
  rotate_left
  · intro wS hSw; (try dsimp only at hSw); go_simp; (try with_reducible rfl)
  try simp only [Act.put, List.setIfInBounds_toArray, List.set_cons_zero, List.set_cons_succ]
  refine wpAnyH_take (i := 32) (oi := { dst := some 300, op := Op.move (Operand.tmp 299), type := 4, pos := "law.go:106", after := #[{ on := 31, ground := Ground.data }, { on := 28, ground := Ground.chain }], guard := none }) (v := ?_) rfl (by kernel_rfl) (by kernel_rfl) (by kernel_rfl) (fun c a w h => hpan c (Act.put a _ _) a w rfl h) (Or.inl ⟨by rfl, ?_⟩) (by assumption) ?_
  rotate_left
  · intro wS hSw; (try dsimp only at hSw); go_simp; (try with_reducible rfl)
  try simp only [Act.put, List.setIfInBounds_toArray, List.set_cons_zero, List.set_cons_succ]
  refine wpAnyH_take (i := 33) (oi := { dst := some 301, op := Op.move (Operand.tmp 11), type := 25, pos := "law.go:106", after := #[{ on := 32, ground := Ground.guard }], guard := some (32, false) }) (v := ?_) rfl (by kernel_rfl) (by kernel_rfl) (by kernel_rfl) (fun c a w h => hpan c (Act.put a _ _) a w rfl h) (Or.inl ⟨by rfl, ?_⟩) (by assumption) ?_
  rotate_left
  · intro wS hSw; (try dsimp only at hSw); go_simp; (try with_reducible rfl)
  try simp only [Act.put, List.setIfInBounds_toArray, List.set_cons_zero, List.set_cons_succ]
  refine wpAnyH_take (i := 35) (oi := { dst := some 303, op := Op.move (Operand.tmp 12), type := 27, pos := "law.go:106", after := #[{ on := 32, ground := Ground.guard }], guard := some (32, false) }) (v := ?_) rfl (by kernel_rfl) (by kernel_rfl) (by kernel_rfl) (fun c a w h => hpan c (Act.put a _ _) a w rfl h) (Or.inl ⟨by rfl, ?_⟩) (by assumption) ?_
  rotate_left
  · intro wS hSw; (try dsimp only at hSw); go_simp; (try with_reducible rfl)
  try simp only [Act.put, List.setIfInBounds_toArray, List.set_cons_zero, List.set_cons_succ]
  refine wpAnyH_take (i := 36) (oi := { dst := some 304, op := Op.nilCheck (Operand.tmp 303), type := 0, pos := "law.go:106", after := #[{ on := 35, ground := Ground.data }, { on := 32, ground := Ground.guard }], guard := some (32, false) }) (v := ?_) rfl (by kernel_rfl) (by kernel_rfl) (by kernel_rfl) (fun c a w h => hpan c (Act.put a _ _) a w rfl h) (Or.inl ⟨by rfl, ?_⟩) (by assumption) ?_
  rotate_left
  · intro wS hSw; (try dsimp only at hSw); go_simp; (try with_reducible rfl)
  try simp only [Act.put, List.setIfInBounds_toArray, List.set_cons_zero, List.set_cons_succ]
  refine wpAnyH_take (i := 37) (oi := { dst := some 305, op := Op.fieldAddr 56 (Operand.tmp 304) 0, type := 0, pos := "law.go:106", after := #[{ on := 36, ground := Ground.data }, { on := 32, ground := Ground.guard }], guard := some (32, false) }) (v := ?_) rfl (by kernel_rfl) (by kernel_rfl) (by kernel_rfl) (fun c a w h => hpan c (Act.put a _ _) a w rfl h) (Or.inl ⟨by rfl, ?_⟩) (by assumption) ?_
  rotate_left
  · intro wS hSw; (try dsimp only at hSw); go_simp; (try with_reducible rfl)
  try simp only [Act.put, List.setIfInBounds_toArray, List.set_cons_zero, List.set_cons_succ]
  refine wpAnyH_take (i := 38) (oi := { dst := some 306, op := Op.load 54 (Operand.tmp 305), type := 54, pos := "law.go:106", after := #[{ on := 37, ground := Ground.data }, { on := 32, ground := Ground.guard }], guard := some (32, false) }) (v := ?_) rfl (by kernel_rfl) (by kernel_rfl) (by kernel_rfl) (fun c a w h => hpan c (Act.put a _ _) a w rfl h) (Or.inl ⟨by rfl, ?_⟩) (by assumption) ?_
  rotate_left
  · intro wS hSw; (try dsimp only at hSw); go_simp; (try with_reducible rfl)
  try simp only [Act.put, List.setIfInBounds_toArray, List.set_cons_zero, List.set_cons_succ]
  refine wpAnyH_take (i := 39) (oi := { dst := some 307, op := Op.call { callee := Callee.builtin Builtin.len, args := #[Operand.tmp 306], argTypes := #[54] }, type := 3, pos := "law.go:106", after := #[{ on := 38, ground := Ground.data }, { on := 32, ground := Ground.guard }], guard := some (32, false) }) (v := ?_) rfl (by kernel_rfl) (by kernel_rfl) (by kernel_rfl) (fun c a w h => hpan c (Act.put a _ _) a w rfl h) (Or.inl ⟨by rfl, ?_⟩) (by assumption) ?_
  rotate_left
  · intro wS hSw; (try dsimp only at hSw); go_simp; (try with_reducible rfl)
  try simp only [Act.put, List.setIfInBounds_toArray, List.set_cons_zero, List.set_cons_succ]
  refine wpAnyH_ready (rs := [34]) (by kernel_rfl) (by simp) ?_
  refine AllReadyH.cons (o := { dst := some 302, op := Op.call { callee := Callee.value (Operand.func 27), args := #[Operand.tmp 301], argTypes := #[25] }, type := 3, pos := "law.go:106", after := #[{ on := 33, ground := Ground.data }, { on := 32, ground := Ground.chain }, { on := 32, ground := Ground.guard }], guard := some (32, false) }) rfl (fun K hK => ?_) AllReadyH.nil
  go_simp
  obtain ⟨P1, hq1, _, _⟩ := (Du.out.below b0).one
  refine (qs_len hq1).mono ?_
  rintro e w' ⟨rfl, rfl⟩
  clear hq1
  try dsimp only
  refine hK.out _ _ ?_ (fun hHeld => ?_)
  · exact HS.out _ b0
  clear hK K
  try simp only [Act.put, List.setIfInBounds_toArray, List.set_cons_zero, List.set_cons_succ]
  refine wpAnyH_take (i := 40) (oi := { dst := some 308, op := Op.binOp BinOp.neq 3 (Operand.tmp 302) (Operand.tmp 307) 3, type := 4, pos := "law.go:106", after := #[{ on := 34, ground := Ground.data }, { on := 39, ground := Ground.data }, { on := 32, ground := Ground.guard }], guard := some (32, false) }) (v := ?_) rfl (by kernel_rfl) (by kernel_rfl) (by kernel_rfl) (fun c a w h => hpan c (Act.put a _ _) a w rfl h) (Or.inl ⟨by rfl, ?_⟩) (by assumption) ?_
  rotate_left
  · intro wS hSw; (try dsimp only at hSw); go_simp; (try with_reducible rfl)
  try simp only [Act.put, List.setIfInBounds_toArray, List.set_cons_zero, List.set_cons_succ]
  refine wpAnyH_take (i := 41) (oi := { dst := some 309, op := Op.pick (Operand.tmp 300) (Operand.const (Value.bool true)) (Operand.tmp 308), type := 4, pos := "law.go:106", after := #[{ on := 32, ground := Ground.data }, { on := 40, ground := Ground.data }], guard := none }) (v := ?_) rfl (by kernel_rfl) (by kernel_rfl) (by kernel_rfl) (fun c a w h => hpan c (Act.put a _ _) a w rfl h) (Or.inl ⟨by rfl, ?_⟩) (by assumption) ?_
  rotate_left
  · intro wS hSw; (try dsimp only at hSw); go_simp; (try with_reducible rfl)
  try simp only [Act.put, List.setIfInBounds_toArray, List.set_cons_zero, List.set_cons_succ]
  refine wpAnyH_take (i := 42) (oi := { dst := some 310, op := Op.move (Operand.tmp 309), type := 4, pos := "law.go:106", after := #[{ on := 41, ground := Ground.data }, { on := 34, ground := Ground.chain }], guard := none }) (v := ?_) rfl (by kernel_rfl) (by kernel_rfl) (by kernel_rfl) (fun c a w h => hpan c (Act.put a _ _) a w rfl h) (Or.inl ⟨by rfl, ?_⟩) (by assumption) ?_
  rotate_left
  · intro wS hSw; (try dsimp only at hSw); go_simp; (try with_reducible rfl)
  try simp only [Act.put, List.setIfInBounds_toArray, List.set_cons_zero, List.set_cons_succ]
  refine wpAnyH_take (i := 43) (oi := { dst := some 311, op := Op.move (Operand.tmp 11), type := 25, pos := "law.go:106", after := #[{ on := 42, ground := Ground.guard }], guard := some (42, false) }) (v := ?_) rfl (by kernel_rfl) (by kernel_rfl) (by kernel_rfl) (fun c a w h => hpan c (Act.put a _ _) a w rfl h) (Or.inl ⟨by rfl, ?_⟩) (by assumption) ?_
  rotate_left
  · intro wS hSw; (try dsimp only at hSw); go_simp; (try with_reducible rfl)
  try simp only [Act.put, List.setIfInBounds_toArray, List.set_cons_zero, List.set_cons_succ]
  refine wpAnyH_take (i := 45) (oi := { dst := some 313, op := Op.move (Operand.tmp 12), type := 27, pos := "law.go:106", after := #[{ on := 42, ground := Ground.guard }], guard := some (42, false) }) (v := ?_) rfl (by kernel_rfl) (by kernel_rfl) (by kernel_rfl) (fun c a w h => hpan c (Act.put a _ _) a w rfl h) (Or.inl ⟨by rfl, ?_⟩) (by assumption) ?_
  rotate_left
  · intro wS hSw; (try dsimp only at hSw); go_simp; (try with_reducible rfl)
  try simp only [Act.put, List.setIfInBounds_toArray, List.set_cons_zero, List.set_cons_succ]
  refine wpAnyH_ready (rs := [44]) (by kernel_rfl) (by simp) ?_
  refine AllReadyH.cons (o := { dst := some 312, op := Op.call { callee := Callee.value (Operand.func 28), args := #[Operand.tmp 311], argTypes := #[25] }, type := 3, pos := "law.go:106", after := #[{ on := 43, ground := Ground.data }, { on := 42, ground := Ground.chain }, { on := 42, ground := Ground.guard }], guard := some (42, false) }) rfl (fun K hK => ?_) AllReadyH.nil
  go_simp
  obtain ⟨P1, hq1, _, _⟩ := (Du.out.below b0).one
  refine (qs_open hq1 Sm.out).mono ?_
  rintro e w5 ⟨rfl, _, k5⟩
  replace b0 := b0.trans (k5.mono b0.size)
  clear k5 hq1
  try dsimp only
  refine hK.out _ _ ?_ (fun hHeld => ?_)
  · exact HS.out _ b0
  clear hK K
  try simp only [Act.put, List.setIfInBounds_toArray, List.set_cons_zero, List.set_cons_succ]
  refine wpAnyH_ready (rs := [46]) (by kernel_rfl) (by simp) ?_
  refine AllReadyH.cons (o := { dst := some 314, op := Op.call { callee := Callee.value (Operand.func 29), args := #[Operand.tmp 313], argTypes := #[27] }, type := 3, pos := "law.go:106", after := #[{ on := 45, ground := Ground.data }, { on := 44, ground := Ground.chain }, { on := 42, ground := Ground.guard }], guard := some (42, false) }) rfl (fun K hK => ?_) AllReadyH.nil
  go_simp
  obtain ⟨P1, hq1, _, _⟩ := (Du.out.below b0).two
  refine (rs_open hq1 Sm.out).mono ?_
  rintro e w6 ⟨rfl, _, k5⟩
  replace b0 := b0.trans (k5.mono b0.size)
  clear k5 hq1
  try dsimp only
  refine hK.out _ _ ?_ (fun hHeld => ?_)
  · exact HS.out _ b0
  clear hK K
  try simp only [Act.put, List.setIfInBounds_toArray, List.set_cons_zero, List.set_cons_succ]
  refine wpAnyH_take (i := 47) (oi := { dst := some 315, op := Op.binOp BinOp.neq 3 (Operand.tmp 312) (Operand.tmp 314) 3, type := 4, pos := "law.go:106", after := #[{ on := 44, ground := Ground.data }, { on := 46, ground := Ground.data }, { on := 42, ground := Ground.guard }], guard := some (42, false) }) (v := ?_) rfl (by kernel_rfl) (by kernel_rfl) (by kernel_rfl) (fun c a w h => hpan c (Act.put a _ _) a w rfl h) (Or.inl ⟨by rfl, ?_⟩) (by assumption) ?_
  rotate_left
  · intro wS hSw; (try dsimp only at hSw); go_simp; (try with_reducible rfl)
  try simp only [Act.put, List.setIfInBounds_toArray, List.set_cons_zero, List.set_cons_succ]
  refine wpAnyH_take (i := 48) (oi := { dst := some 316, op := Op.pick (Operand.tmp 310) (Operand.const (Value.bool true)) (Operand.tmp 315), type := 4, pos := "law.go:106", after := #[{ on := 42, ground := Ground.data }, { on := 47, ground := Ground.data }], guard := none }) (v := ?_) rfl (by kernel_rfl) (by kernel_rfl) (by kernel_rfl) (fun c a w h => hpan c (Act.put a _ _) a w rfl h) (Or.inl ⟨by rfl, ?_⟩) (by assumption) ?_
  rotate_left
  · intro wS hSw; (try dsimp only at hSw); go_simp; (try with_reducible rfl)
  try simp only [Act.put, List.setIfInBounds_toArray, List.set_cons_zero, List.set_cons_succ]
  refine wpAnyH_take (i := 49) (oi := { dst := some 317, op := Op.move (Operand.tmp 316), type := 4, pos := "law.go:106", after := #[{ on := 48, ground := Ground.data }, { on := 46, ground := Ground.chain }], guard := none }) (v := ?_) rfl (by kernel_rfl) (by kernel_rfl) (by kernel_rfl) (fun c a w h => hpan c (Act.put a _ _) a w rfl h) (Or.inl ⟨by rfl, ?_⟩) (by assumption) ?_
  rotate_left
  · intro wS hSw; (try dsimp only at hSw); go_simp; (try with_reducible rfl)
  try simp only [Act.put, List.setIfInBounds_toArray, List.set_cons_zero, List.set_cons_succ]
  refine wpAnyH_take (i := 50) (oi := { dst := some 318, op := Op.move (Operand.tmp 11), type := 25, pos := "law.go:106", after := #[{ on := 49, ground := Ground.guard }], guard := some (49, false) }) (v := ?_) rfl (by kernel_rfl) (by kernel_rfl) (by kernel_rfl) (fun c a w h => hpan c (Act.put a _ _) a w rfl h) (Or.inl ⟨by rfl, ?_⟩) (by assumption) ?_
  rotate_left
  · intro wS hSw; (try dsimp only at hSw); go_simp; (try with_reducible rfl)
  try simp only [Act.put, List.setIfInBounds_toArray, List.set_cons_zero, List.set_cons_succ]
  refine wpAnyH_take (i := 52) (oi := { dst := some 320, op := Op.move (Operand.tmp 12), type := 27, pos := "law.go:106", after := #[{ on := 49, ground := Ground.guard }], guard := some (49, false) }) (v := ?_) rfl (by kernel_rfl) (by kernel_rfl) (by kernel_rfl) (fun c a w h => hpan c (Act.put a _ _) a w rfl h) (Or.inl ⟨by rfl, ?_⟩) (by assumption) ?_
  rotate_left
  · intro wS hSw; (try dsimp only at hSw); go_simp; (try with_reducible rfl)
  try simp only [Act.put, List.setIfInBounds_toArray, List.set_cons_zero, List.set_cons_succ]
  refine wpAnyH_take (i := 54) (oi := { dst := some 322, op := Op.move (Operand.tmp 12), type := 27, pos := "law.go:106", after := #[{ on := 49, ground := Ground.guard }], guard := some (49, false) }) (v := ?_) rfl (by kernel_rfl) (by kernel_rfl) (by kernel_rfl) (fun c a w h => hpan c (Act.put a _ _) a w rfl h) (Or.inl ⟨by rfl, ?_⟩) (by assumption) ?_
  rotate_left
  · intro wS hSw; (try dsimp only at hSw); go_simp; (try with_reducible rfl)
  try simp only [Act.put, List.setIfInBounds_toArray, List.set_cons_zero, List.set_cons_succ]
  refine wpAnyH_take (i := 55) (oi := { dst := some 323, op := Op.nilCheck (Operand.tmp 322), type := 0, pos := "law.go:106", after := #[{ on := 54, ground := Ground.data }, { on := 49, ground := Ground.guard }], guard := some (49, false) }) (v := ?_) rfl (by kernel_rfl) (by kernel_rfl) (by kernel_rfl) (fun c a w h => hpan c (Act.put a _ _) a w rfl h) (Or.inl ⟨by rfl, ?_⟩) (by assumption) ?_
  rotate_left
  · intro wS hSw; (try dsimp only at hSw); go_simp; (try with_reducible rfl)
  try simp only [Act.put, List.setIfInBounds_toArray, List.set_cons_zero, List.set_cons_succ]
  refine wpAnyH_take (i := 56) (oi := { dst := some 324, op := Op.fieldAddr 56 (Operand.tmp 323) 1, type := 0, pos := "law.go:106", after := #[{ on := 55, ground := Ground.data }, { on := 49, ground := Ground.guard }], guard := some (49, false) }) (v := ?_) rfl (by kernel_rfl) (by kernel_rfl) (by kernel_rfl) (fun c a w h => hpan c (Act.put a _ _) a w rfl h) (Or.inl ⟨by rfl, ?_⟩) (by assumption) ?_
  rotate_left
  · intro wS hSw; (try dsimp only at hSw); go_simp; (try with_reducible rfl)
  try simp only [Act.put, List.setIfInBounds_toArray, List.set_cons_zero, List.set_cons_succ]
  refine wpAnyH_take (i := 57) (oi := { dst := some 325, op := Op.load 3 (Operand.tmp 324), type := 3, pos := "law.go:106", after := #[{ on := 56, ground := Ground.data }, { on := 49, ground := Ground.guard }], guard := some (49, false) }) (v := ?_) rfl (by kernel_rfl) (by kernel_rfl) (by kernel_rfl) (fun c a w h => hpan c (Act.put a _ _) a w rfl h) (Or.inl ⟨by rfl, ?_⟩) (by assumption) ?_
  rotate_left
  · intro wS hSw; (try dsimp only at hSw); go_simp; (try with_reducible rfl)
  try simp only [Act.put, List.setIfInBounds_toArray, List.set_cons_zero, List.set_cons_succ]
  refine wpAnyH_ready (rs := [51]) (by kernel_rfl) (by simp) ?_
  refine AllReadyH.cons (o := { dst := some 319, op := Op.call { callee := Callee.value (Operand.func 30), args := #[Operand.tmp 318], argTypes := #[25] }, type := 4, pos := "law.go:106", after := #[{ on := 50, ground := Ground.data }, { on := 49, ground := Ground.chain }, { on := 49, ground := Ground.guard }], guard := some (49, false) }) rfl (fun K hK => ?_) AllReadyH.nil
  go_simp
  obtain ⟨P1, hq1, _, _⟩ := (Du.out.below b0).one
  refine (qs_full hq1 Sm.out).mono ?_
  rintro e w7 ⟨rfl, _, k5⟩
  replace b0 := b0.trans (k5.mono b0.size)
  clear k5 hq1
  try dsimp only
  refine hK.out _ _ ?_ (fun hHeld => ?_)
  · exact HS.out _ b0
  clear hK K
  try simp only [Act.put, List.setIfInBounds_toArray, List.set_cons_zero, List.set_cons_succ]
  refine wpAnyH_ready (rs := [53]) (by kernel_rfl) (by simp) ?_
  refine AllReadyH.cons (o := { dst := some 321, op := Op.call { callee := Callee.value (Operand.func 29), args := #[Operand.tmp 320], argTypes := #[27] }, type := 3, pos := "law.go:106", after := #[{ on := 52, ground := Ground.data }, { on := 51, ground := Ground.chain }, { on := 49, ground := Ground.guard }], guard := some (49, false) }) rfl (fun K hK => ?_) AllReadyH.nil
  go_simp
  obtain ⟨P1, hq1, _, _⟩ := (Du.out.below b0).two
  refine (rs_open hq1 Sm.out).mono ?_
  rintro e w8 ⟨rfl, _, k5⟩
  replace b0 := b0.trans (k5.mono b0.size)
  clear k5 hq1
  try dsimp only
  refine hK.out _ _ ?_ (fun hHeld => ?_)
  · exact HS.out _ b0
  clear hK K
  try simp only [Act.put, List.setIfInBounds_toArray, List.set_cons_zero, List.set_cons_succ]
  refine wpAnyH_take (i := 58) (oi := { dst := some 326, op := Op.binOp BinOp.geq 3 (Operand.tmp 321) (Operand.tmp 325) 3, type := 4, pos := "law.go:106", after := #[{ on := 53, ground := Ground.data }, { on := 57, ground := Ground.data }, { on := 49, ground := Ground.guard }], guard := some (49, false) }) (v := ?_) rfl (by kernel_rfl) (by kernel_rfl) (by kernel_rfl) (fun c a w h => hpan c (Act.put a _ _) a w rfl h) (Or.inl ⟨by rfl, ?_⟩) (by assumption) ?_
  rotate_left
  · intro wS hSw; (try dsimp only at hSw); go_simp; (try with_reducible rfl)
  try simp only [Act.put, List.setIfInBounds_toArray, List.set_cons_zero, List.set_cons_succ]
  refine wpAnyH_take (i := 59) (oi := { dst := some 327, op := Op.binOp BinOp.neq 4 (Operand.tmp 319) (Operand.tmp 326) 4, type := 4, pos := "law.go:106", after := #[{ on := 51, ground := Ground.data }, { on := 58, ground := Ground.data }, { on := 49, ground := Ground.guard }], guard := some (49, false) }) (v := ?_) rfl (by kernel_rfl) (by kernel_rfl) (by kernel_rfl) (fun c a w h => hpan c (Act.put a _ _) a w rfl h) (Or.inl ⟨by rfl, ?_⟩) (by assumption) ?_
  rotate_left
  · intro wS hSw; (try dsimp only at hSw); go_simp; (try with_reducible rfl)
  try simp only [Act.put, List.setIfInBounds_toArray, List.set_cons_zero, List.set_cons_succ]
  refine wpAnyH_take (i := 60) (oi := { dst := some 328, op := Op.pick (Operand.tmp 317) (Operand.const (Value.bool true)) (Operand.tmp 327), type := 4, pos := "law.go:106", after := #[{ on := 49, ground := Ground.data }, { on := 59, ground := Ground.data }], guard := none }) (v := ?_) rfl (by kernel_rfl) (by kernel_rfl) (by kernel_rfl) (fun c a w h => hpan c (Act.put a _ _) a w rfl h) (Or.inl ⟨by rfl, ?_⟩) (by assumption) ?_
  rotate_left
  · intro wS hSw; (try dsimp only at hSw); go_simp; (try with_reducible rfl)
  try simp only [Act.put, List.setIfInBounds_toArray, List.set_cons_zero, List.set_cons_succ]
  refine wpAnyH_done (by kernel_rfl) ?_ _
  exact HE.out _ _ _ _ _ _ _ _ _ _ _ _ _ _ _ _ _ _ _ _ _ _ _ _ _ _ _ _ _ _ _ _ _ _ _ _ _ _ _ _ _ _ _ _ _ _ _ _ _ _ _ _ _ _ _ _ _ _ _ _ _ b0
end Go.Proofs.Ytlbghgmeiajioaa
