/- QueuePlays: the case Add. -/
import Derived.Test.YtlbghgmeiajioaaPb
import Derived.Test.YtlbghgmeiajioaaSm
import Derived.Test.YtlbghgmeiajioaaRs
namespace Go.Proofs.Ytlbghgmeiajioaa
open Go.RowKit
set_option linter.unusedVariables false

/-- The smallest arm of a choice that holds the region of a number. -/
def armsOf (id : Nat) : Code → List Code
  | .loop c => armsOf id c
  | .seq a b => armsOf id a ++ armsOf id b
  | .block _ c => armsOf id c
  | .scope c => armsOf id c
  | .cond _ a b => (match armsOf id a with | [] => if (regionsOf id a).isEmpty then [] else [a] | l => l) ++ (match armsOf id b with | [] => if (regionsOf id b).isEmpty then [] else [b] | l => l)
  | _ => []
noncomputable def arm3 (i : Nat) : Code := ((armsOf i (Try.f3.body.getD .skip))[0]?).getD .skip
noncomputable def rest3 : Code := match arm3 14 with | .seq _ b => b | c => c
theorem own_rdn {w : World} {base : Nat} {e : TypeId} {size n : Nat} {A : Option Addr} {c : Nat} {xs : List Value} (h : w.ownsRow base e size (.slice A n c) n xs) : Rd w w.heap.size A xs := by
  rcases Nat.eq_zero_or_pos n with h0 | h0
  · exact .inl (List.eq_nil_of_length_eq_zero (by have := h.1; subst h0; simpa using this))
  · rcases h.2 with ⟨_, h1⟩ | ⟨g, cap, cur, hv, _, hh, _⟩
    · omega
    · have hA : A = some ⟨g, 0, none⟩ := by injection hv
      subst hA
      refine .inr ⟨g, 0, rfl, (Array.getElem?_eq_some_iff.1 hh).1, fun j u hu => ?_⟩
      have := h.cells (g := g) rfl j u hu
      have e : (⟨g, 0, none⟩ : Addr).add j = ⟨g, 0 + j, none⟩ := by unfold Addr.add; split <;> simp_all
      rwa [e] at this

set_option maxRecDepth 1000000 in
set_option maxHeartbeats 16000000 in
theorem add3 (t0 t1 t2 t3 t4 t5 t6 t7 t8 t9 t10 t13 t15 t16 t17 t18 t19 t20 t21 t22 t23 t24 t25 t26 t27 t28 t29 t30 t31 t32 t33 t34 t35 t36 t37 t38 t39 t40 t41 t42 t43 t44 t45 t46 t47 t48 t49 t50 t51 t52 t53 t54 t55 t56 t57 t58 t59 t60 t61 t62 t63 t64 t65 t66 t67 t68 t69 t70 t71 t72 t73 t74 t75 t76 t77 t78 t79 t80 t81 t82 t83 t84 t85 t86 t87 t88 t89 t90 t91 t92 t93 t94 t95 t96 t97 t98 t99 t100 t101 t102 t103 t104 t105 t106 t107 t108 t109 t110 t111 t112 t113 t114 t115 t116 t117 t118 t119 t120 t121 t122 t123 t124 t125 t126 t127 t128 t129 t130 t131 t132 t133 t134 t135 t136 t137 t138 t139 t140 t141 t142 t143 t144 t145 t146 t147 t148 t149 t150 t151 t152 t153 t154 t155 t156 t157 t158 t159 t160 t161 t162 t163 t164 t165 t166 t167 t168 t169 t170 t171 t172 t173 t174 t175 t176 t177 t178 t179 t180 t181 t182 t183 t184 t185 t186 t187 t188 t189 t190 t191 t192 t193 t194 t195 t196 t197 t198 t199 t200 t201 t202 t203 t204 t205 t206 t207 t208 t209 t210 t211 t212 t213 t214 t215 t216 t217 t218 t219 t220 t221 t222 t223 t224 t225 t226 t227 t228 t229 t230 t231 t232 t233 t234 t235 t236 t237 t238 t239 t240 t241 t242 t243 t244 t245 t246 t247 t248 t249 t250 t251 t252 t253 t254 t255 t256 t257 t258 t259 t260 t261 t262 t263 t264 t265 t266 t267 t268 t269 t270 t271 t272 t273 t274 t275 t276 t277 t278 t279 t280 t281 t282 t283 t284 t285 t286 t287 t288 t289 t290 t291 t292 t293 t294 t295 t296 t297 t298 t299 t300 t301 t302 t303 t304 t305 t306 t307 t308 t309 t310 t311 t312 t313 t314 t315 t316 t317 t318 t319 t320 t321 t322 t323 t324 t325 t326 t327 t328 t329 t330 t331 t332 t333 t334 t335 t336 t337 t338 t339 t340 t341 t342 t343 t344 t345 t346 t347 t348 t349 t350 t351 t352 : Value) (N0 g1 g2 X : Nat) (P : Nat → Prop) (q : List It) (R T D : Int) (C : CRow) (At Al : Option Addr) (ct cl : Nat) (w0 w : World) (du : Duo w P g1 g2 q q R T D) (Sm : RowKit.Hid (Small q)) (hX : P X) (HPN : RowKit.Hid (∀ k, k < N0 → P k)) (h0 : N0 ≤ w0.heap.size) (bw : Below N0 w0 w) (kc : Bk w X 40 #[.int .i64 C.which, .bool C.m.frm.null, .string C.m.frm.loc, .string C.m.frm.dom, .slice At C.m.to.length ct, .slice Al C.m.lines.length cl, .bool C.m.flags.head, .bool C.m.flags.body, .bool C.m.flags.bad, .int .i64 C.m.flags.lines, .int .i64 C.m.flags.hops, .int .i64 C.m.bytes, .int .i64 C.id, .int .i64 C.k, .int .i64 C.n]) (n1 : C.m.to.length ≤ 100000) (lk : C.m.lines.length ≤ 50) (q500 : q.length ≤ 500)
    (Rt : Hid (Rd w0 N0 At (C.m.to.flatMap Pth.cells))) (Rl : Hid (Rd w0 N0 Al (C.m.lines.map .string))) (Q : Exit → Act → World → Prop) (K : Act → World → Prop) (hK : ∀ a w, Code.wp Try.prog rest3 Q a w → K a w) (hpan : ∀ c a a' w, a.defers = a'.defers → Q (.panic c) a w → Q (.panic c) a' w)
    (hexit : ∀ (u15 u16 u17 u18 u19 u20 u21 u70 u71 u72 u73 u74 u75 u76 u77 u78 u79 u80 u81 u82 u83 u84 u85 u86 u87 u88 u89 u90 u91 u92 u93 u94 u95 u96 u97 u98 u99 u100 u101 u102 u103 u104 u105 u106 u107 u108 u109 u110 u111 u112 u113 u114 u115 u116 u117 u118 u119 u120 u121 u122 u123 u124 u125 u126 u127 u128 u129 u130 u131 u132 u133 u134 u135 u136 u137 u138 u139 u140 u141 u142 u143 u144 u145 u146 u147 u148 u149 u150 : Value) (w' : World), Duo w' P g1 g2 ((addS R q C.m (bits BinOp.and IntKind.i64 C.which 7 == 7)).2.2) ((addS R q C.m (bits BinOp.and IntKind.i64 C.which 7 == 7)).2.2) R T D → Bk w' X 40 #[.int .i64 C.which, .bool C.m.frm.null, .string C.m.frm.loc, .string C.m.frm.dom, .slice At C.m.to.length ct, .slice Al C.m.lines.length cl, .bool C.m.flags.head, .bool C.m.flags.body, .bool C.m.flags.bad, .int .i64 C.m.flags.lines, .int .i64 C.m.flags.hops, .int .i64 C.m.bytes, .int .i64 C.id, .int .i64 C.k, .int .i64 C.n] → Below N0 w0 w' → Q .normal ⟨List.toArray (t0 :: t1 :: t2 :: t3 :: t4 :: t5 :: t6 :: t7 :: t8 :: t9 :: t10 :: (.pointer (some ⟨g1, 0, none⟩)) :: (.pointer (some ⟨g2, 0, none⟩)) :: t13 :: (.pointer (some ⟨X, 0, none⟩)) :: u15 :: u16 :: u17 :: u18 :: u19 :: u20 :: u21 :: t22 :: t23 :: t24 :: t25 :: t26 :: t27 :: t28 :: t29 :: t30 :: t31 :: t32 :: t33 :: t34 :: t35 :: t36 :: t37 :: t38 :: t39 :: t40 :: t41 :: t42 :: t43 :: t44 :: t45 :: t46 :: t47 :: t48 :: t49 :: t50 :: t51 :: t52 :: t53 :: t54 :: t55 :: t56 :: t57 :: t58 :: t59 :: t60 :: t61 :: t62 :: t63 :: t64 :: t65 :: t66 :: t67 :: t68 :: t69 :: u70 :: u71 :: u72 :: u73 :: u74 :: u75 :: u76 :: u77 :: u78 :: u79 :: u80 :: u81 :: u82 :: u83 :: u84 :: u85 :: u86 :: u87 :: u88 :: u89 :: u90 :: u91 :: u92 :: u93 :: u94 :: u95 :: u96 :: u97 :: u98 :: u99 :: u100 :: u101 :: u102 :: u103 :: u104 :: u105 :: u106 :: u107 :: u108 :: u109 :: u110 :: u111 :: u112 :: u113 :: u114 :: u115 :: u116 :: u117 :: u118 :: u119 :: u120 :: u121 :: u122 :: u123 :: u124 :: u125 :: u126 :: u127 :: u128 :: u129 :: u130 :: u131 :: u132 :: u133 :: u134 :: u135 :: u136 :: u137 :: u138 :: u139 :: u140 :: u141 :: u142 :: u143 :: u144 :: u145 :: u146 :: u147 :: u148 :: u149 :: u150 :: t151 :: t152 :: t153 :: t154 :: t155 :: t156 :: t157 :: t158 :: t159 :: t160 :: t161 :: t162 :: t163 :: t164 :: t165 :: t166 :: t167 :: t168 :: t169 :: t170 :: t171 :: t172 :: t173 :: t174 :: t175 :: t176 :: t177 :: t178 :: t179 :: t180 :: t181 :: t182 :: t183 :: t184 :: t185 :: t186 :: t187 :: t188 :: t189 :: t190 :: t191 :: t192 :: t193 :: t194 :: t195 :: t196 :: t197 :: t198 :: t199 :: t200 :: t201 :: t202 :: t203 :: t204 :: t205 :: t206 :: t207 :: t208 :: t209 :: t210 :: t211 :: t212 :: t213 :: t214 :: t215 :: t216 :: t217 :: t218 :: t219 :: t220 :: t221 :: t222 :: t223 :: t224 :: t225 :: t226 :: t227 :: t228 :: t229 :: t230 :: t231 :: t232 :: t233 :: t234 :: t235 :: t236 :: t237 :: t238 :: t239 :: t240 :: t241 :: t242 :: t243 :: t244 :: t245 :: t246 :: t247 :: t248 :: t249 :: t250 :: t251 :: t252 :: t253 :: t254 :: t255 :: t256 :: t257 :: t258 :: t259 :: t260 :: t261 :: t262 :: t263 :: t264 :: t265 :: t266 :: t267 :: t268 :: t269 :: t270 :: t271 :: t272 :: t273 :: t274 :: t275 :: t276 :: t277 :: t278 :: t279 :: t280 :: t281 :: t282 :: t283 :: t284 :: t285 :: t286 :: t287 :: t288 :: t289 :: t290 :: t291 :: t292 :: t293 :: t294 :: t295 :: t296 :: t297 :: t298 :: t299 :: t300 :: t301 :: t302 :: t303 :: t304 :: t305 :: t306 :: t307 :: t308 :: t309 :: t310 :: t311 :: t312 :: t313 :: t314 :: t315 :: t316 :: t317 :: t318 :: t319 :: t320 :: t321 :: t322 :: t323 :: t324 :: t325 :: t326 :: t327 :: t328 :: t329 :: t330 :: t331 :: t332 :: t333 :: t334 :: t335 :: t336 :: t337 :: t338 :: t339 :: t340 :: t341 :: t342 :: t343 :: t344 :: t345 :: t346 :: t347 :: t348 :: t349 :: t350 :: t351 :: t352 :: []), []⟩ w') :
    Code.wp Try.prog (rg3 14) (Exit.then K Q) ⟨List.toArray (t0 :: t1 :: t2 :: t3 :: t4 :: t5 :: t6 :: t7 :: t8 :: t9 :: t10 :: (.pointer (some ⟨g1, 0, none⟩)) :: (.pointer (some ⟨g2, 0, none⟩)) :: t13 :: (.pointer (some ⟨X, 0, none⟩)) :: t15 :: t16 :: t17 :: t18 :: t19 :: t20 :: t21 :: t22 :: t23 :: t24 :: t25 :: t26 :: t27 :: t28 :: t29 :: t30 :: t31 :: t32 :: t33 :: t34 :: t35 :: t36 :: t37 :: t38 :: t39 :: t40 :: t41 :: t42 :: t43 :: t44 :: t45 :: t46 :: t47 :: t48 :: t49 :: t50 :: t51 :: t52 :: t53 :: t54 :: t55 :: t56 :: t57 :: t58 :: t59 :: t60 :: t61 :: t62 :: t63 :: t64 :: t65 :: t66 :: t67 :: t68 :: t69 :: t70 :: t71 :: t72 :: t73 :: t74 :: t75 :: t76 :: t77 :: t78 :: t79 :: t80 :: t81 :: t82 :: t83 :: t84 :: t85 :: t86 :: t87 :: t88 :: t89 :: t90 :: t91 :: t92 :: t93 :: t94 :: t95 :: t96 :: t97 :: t98 :: t99 :: t100 :: t101 :: t102 :: t103 :: t104 :: t105 :: t106 :: t107 :: t108 :: t109 :: t110 :: t111 :: t112 :: t113 :: t114 :: t115 :: t116 :: t117 :: t118 :: t119 :: t120 :: t121 :: t122 :: t123 :: t124 :: t125 :: t126 :: t127 :: t128 :: t129 :: t130 :: t131 :: t132 :: t133 :: t134 :: t135 :: t136 :: t137 :: t138 :: t139 :: t140 :: t141 :: t142 :: t143 :: t144 :: t145 :: t146 :: t147 :: t148 :: t149 :: t150 :: t151 :: t152 :: t153 :: t154 :: t155 :: t156 :: t157 :: t158 :: t159 :: t160 :: t161 :: t162 :: t163 :: t164 :: t165 :: t166 :: t167 :: t168 :: t169 :: t170 :: t171 :: t172 :: t173 :: t174 :: t175 :: t176 :: t177 :: t178 :: t179 :: t180 :: t181 :: t182 :: t183 :: t184 :: t185 :: t186 :: t187 :: t188 :: t189 :: t190 :: t191 :: t192 :: t193 :: t194 :: t195 :: t196 :: t197 :: t198 :: t199 :: t200 :: t201 :: t202 :: t203 :: t204 :: t205 :: t206 :: t207 :: t208 :: t209 :: t210 :: t211 :: t212 :: t213 :: t214 :: t215 :: t216 :: t217 :: t218 :: t219 :: t220 :: t221 :: t222 :: t223 :: t224 :: t225 :: t226 :: t227 :: t228 :: t229 :: t230 :: t231 :: t232 :: t233 :: t234 :: t235 :: t236 :: t237 :: t238 :: t239 :: t240 :: t241 :: t242 :: t243 :: t244 :: t245 :: t246 :: t247 :: t248 :: t249 :: t250 :: t251 :: t252 :: t253 :: t254 :: t255 :: t256 :: t257 :: t258 :: t259 :: t260 :: t261 :: t262 :: t263 :: t264 :: t265 :: t266 :: t267 :: t268 :: t269 :: t270 :: t271 :: t272 :: t273 :: t274 :: t275 :: t276 :: t277 :: t278 :: t279 :: t280 :: t281 :: t282 :: t283 :: t284 :: t285 :: t286 :: t287 :: t288 :: t289 :: t290 :: t291 :: t292 :: t293 :: t294 :: t295 :: t296 :: t297 :: t298 :: t299 :: t300 :: t301 :: t302 :: t303 :: t304 :: t305 :: t306 :: t307 :: t308 :: t309 :: t310 :: t311 :: t312 :: t313 :: t314 :: t315 :: t316 :: t317 :: t318 :: t319 :: t320 :: t321 :: t322 :: t323 :: t324 :: t325 :: t326 :: t327 :: t328 :: t329 :: t330 :: t331 :: t332 :: t333 :: t334 :: t335 :: t336 :: t337 :: t338 :: t339 :: t340 :: t341 :: t342 :: t343 :: t344 :: t345 :: t346 :: t347 :: t348 :: t349 :: t350 :: t351 :: t352 :: []), []⟩ w := by
  have HE := Lib.hid hexit
  have hN : N0 ≤ w.heap.size := Nat.le_trans h0 bw.size
  have HN := Lib.hid hN
  have hXl : X < w.heap.size := kc.lt
  have HXl := Lib.hid hXl
  have HX := Lib.hid hX
  have Du := Lib.hid du; have BW := Lib.hid bw; have KC := Lib.hid kc; have N1 := Lib.hid n1; have LK := Lib.hid lk; have Q5 := Lib.hid q500; have H0 := Lib.hid h0
  have LK1 : Hid (C.m.lines.length ≤ 100000) := Lib.hid (by omega)
  clear hexit hN hXl hX du bw kc n1 lk q500 h0
  refine in_made _ _ _ _ _ _ _ _ _ _ _ _ _ _ _ _ _ _ _ _ _ _ _ _ _ _ _ _ _ _ _ _ _ _ _ _ _ _ _ _ _ _ _ _ _ _ _ _ _ _ _ _ _ _ _ _ _ _ _ _ _ _ _ _ _ _ _ _ _ _ _ _ _ _ _ _ _ _ _ _ _ _ _ _ _ _ _ _ _ _ _ _ _ _ _ _ _ _ _ _ _ _ _ _ _ _ _ _ _ _ _ _ _ _ _ _ _ _ _ _ _ _ _ _ _ _ _ _ _ _ _ _ _ _ _ _ _ _ _ _ _ _ _ _ _ _ _ _ _ _ _ _ _ _ _ _ _ _ _ _ _ _ _ _ _ _ _ _ _ _ _ _ _ _ _ _ _ _ _ _ _ _ _ _ _ _ _ _ _ _ _ _ _ _ _ _ _ _ _ _ _ _ _ _ _ _ _ _ _ _ _ _ _ _ _ _ _ _ _ _ _ _ _ _ _ _ _ _ _ _ _ _ _ _ _ _ _ _ _ _ _ _ _ _ _ _ _ _ _ _ _ _ _ _ _ _ _ _ _ _ _ _ _ _ _ _ _ _ _ _ _ _ _ _ _ _ _ _ _ _ _ _ _ _ _ _ _ _ _ _ _ _ _ _ _ _ _ _ _ _ _ _ _ _ _ _ _ _ _ _ _ _ _ _ _ _ _ _ _ _ _ _ _ _ _ _ _ _ _ _ _ _ _ _ _ _ _ _ _ _ _ _ _ _ _ _ _ _ _ _ _ _ X w.heap.size C At Al ct cl w rfl KC.out ((Rt.out.below BW.out).more HN.out) ((Rl.out.below BW.out).more HN.out) N1.out LK1.out _ (fun c a a' w hd h => hpan c a a' w hd h) ?_
  intro v70 v71 v72 v73 v74 v75 v76 v77 v78 v79 v80 v81 v82 v83 v84 v85 v86 v87 v88 v89 x15 A3 A4 c3 c4 w5 hx15 kx o3 o4 bm
  have du5 : Duo w5 (fun k => P k ∨ (w.heap.size ≤ k ∧ k < w5.heap.size)) g1 g2 q q R T D := Du.out.grow (S := fun _ => False) (Only.of_below bm) (fun k hk => hk.elim)
  have kc5 := KC.out.below bm HXl.out
  have b5 := BW.out.trans (bm.mono HN.out)
  have hp3 : ∀ k, (Value.slice A3 C.m.to.length c3).ownBlock = some k → P k ∨ (w.heap.size ≤ k ∧ k < w5.heap.size) := fun k hk => .inr (o3.lt k hk)
  have hp4 : ∀ k, (Value.slice A4 C.m.lines.length c4).ownBlock = some k → P k ∨ (w.heap.size ≤ k ∧ k < w5.heap.size) := fun k hk => .inr (o4.lt k hk)
  have hpx : P x15 ∨ (w.heap.size ≤ x15 ∧ x15 < w5.heap.size) := .inr ⟨hx15, kx.lt⟩
  have hpX : P X ∨ (w.heap.size ≤ X ∧ X < w5.heap.size) := .inl HX.out
  have hs3 : ∀ k, (Value.slice A3 C.m.to.length c3).ownBlock = some k → w.heap.size ≤ k := fun k hk => (o3.lt k hk).1
  have hs4 : ∀ k, (Value.slice A4 C.m.lines.length c4).ownBlock = some k → w.heap.size ≤ k := fun k hk => (o4.lt k hk).1
  obtain ⟨P2, hP2⟩ : ∃ P2 : Nat → Prop, (fun k => P k ∨ (w.heap.size ≤ k ∧ k < w5.heap.size)) = P2 := ⟨_, rfl⟩
  have e2 : ∀ k, P2 k = (P k ∨ (w.heap.size ≤ k ∧ k < w5.heap.size)) := fun k => by rw [← hP2]
  rw [hP2] at du5
  simp only [← e2] at hp3 hp4 hpx hpX
  have hPP : ∀ k, P k → P2 k := fun k hk => by rw [e2]; exact .inl hk
  have HPP := Lib.hid hPP; have HP3 := Lib.hid hp3; have HP4 := Lib.hid hp4; have HPx := Lib.hid hpx; have HPX := Lib.hid hpX; have HS3 := Lib.hid hs3; have HS4 := Lib.hid hs4
  clear hP2 e2 hPP hp3 hp4 hpx hpX bm hs3 hs4 hx15
  refine hK _ _ ?_
  clear hK
  conv => arg 2; whnf
  obtain ⟨P1, hq1, hp1, back1⟩ := du5.one
  have y0 := kx.cell 0
  have y1 := kx.cell 1
  have y2 := kx.cell 2
  have y3 := kx.cell 3
  have y4 := kx.cell 4
  have y5 := kx.cell 5
  have y6 := kx.cell 6
  have y7 := kx.cell 7
  have y8 := kx.cell 8
  have y9 := kx.cell 9
  have y10 := kx.cell 10
  have z0 := kc5.cell 0
  simp at y0 y1 y2 y3 y4 y5 y6 y7 y8 y9 y10 z0
  have HKX := Lib.hid kx; have KC5 := Lib.hid kc5; have O3 := Lib.hid o3; have O4 := Lib.hid o4; have B5 := Lib.hid b5; have HP1 := Lib.hid hp1; have BK1 := Lib.hid back1
  clear du5 kx kc5 o3 o4 b5 hp1 back1
  go_wp2_with fail
  refine (qs_add hq1 Sm.out Q5.out C.m A3 A4 c3 c4 (Nat.le_trans N1.out (by decide)) LK1.out (own_rdn O3.out) (own_rd O4.out) _).mono ?_
  rintro e w6 ⟨rfl, hq6, k6⟩
  have du6 := BK1.out _ _ hq6 k6
  have kx6 := HKX.out.keep k6 (HP1.out _ HPx.out)
  have kc6 := KC5.out.keep k6 (HP1.out _ HPX.out)
  have o36 := own_only O3.out k6 (fun k hk h => h (HP1.out k (HP3.out k hk)))
  have o46 := own_only O4.out k6 (fun k hk h => h (HP1.out k (HP4.out k hk)))
  have b6 := keep_to_below B5.out k6 H0.out (fun k hk => HP1.out k (HPP.out k (HPN.out k hk)))
  obtain ⟨P3, hr6, hp6, back6⟩ := du6.two
  clear y0 y1 y2 y3 y4 y5 y6 y7 y8 y9 y10 z0 hq1 hq6 k6 HKX KC5 O3 O4 B5 HP1 BK1 du6
  have z0 := kc6.cell 0
  have z1 := kc6.cell 1
  have z2 := kc6.cell 2
  have z3 := kc6.cell 3
  have z4 := kc6.cell 4
  have z5 := kc6.cell 5
  have z6 := kc6.cell 6
  have z7 := kc6.cell 7
  have z8 := kc6.cell 8
  have z9 := kc6.cell 9
  have z10 := kc6.cell 10
  have z11 := kc6.cell 11
  simp at z0 z1 z2 z3 z4 z5 z6 z7 z8 z9 z10 z11
  have HKX := Lib.hid kx6; have KC6 := Lib.hid kc6; have O3 := Lib.hid o36; have O4 := Lib.hid o46; have B6 := Lib.hid b6; have HP6 := Lib.hid hp6; have BK6 := Lib.hid back6
  clear kx6 kc6 o36 o46 b6 hp6 back6
  go_wp2_with fail
  have hr6l : C.m.lines.length ≤ 1000 := by have := LK.out; omega
  refine (rs_add hr6 Sm.out Q5.out C.m At Al ct cl (Nat.le_trans N1.out (by decide)) hr6l ((Rt.out.below B6.out).more (Nat.le_trans H0.out B6.out.size)) ((Rl.out.below B6.out).more (Nat.le_trans H0.out B6.out.size)) _).mono ?_
  rintro e w7 ⟨rfl, hr7, k7⟩
  clear hr6l
  have du7 := BK6.out _ _ hr7 k7
  have kx7 := HKX.out.keep k7 (HP6.out _ HPx.out)
  have kc7 := KC6.out.keep k7 (HP6.out _ HPX.out)
  have o37 := own_only O3.out k7 (fun k hk h => h (HP6.out k (HP3.out k hk)))
  have o47 := own_only O4.out k7 (fun k hk h => h (HP6.out k (HP4.out k hk)))
  have b7 := keep_to_below B6.out k7 H0.out (fun k hk => HP6.out k (HPP.out k (HPN.out k hk)))
  clear z0 z1 z2 z3 z4 z5 z6 z7 z8 z9 z10 z11 hr6 hr7 k7 HKX KC6 O3 O4 B6 HP6 BK6
  have z5 := kc7.cell 5
  have y4 := kx7.cell 4
  simp at z5 y4
  have HKX := Lib.hid kx7; have KC7 := Lib.hid kc7; have O3 := Lib.hid o37; have O4 := Lib.hid o47; have B7 := Lib.hid b7; have Du7 := Lib.hid du7
  clear kx7 kc7 o37 o47 b7 du7
  go_wp2_with fail
  refine (rows_any A4 Al c4 cl C.m.lines C.m.lines w7 (own_rd O4.out) ((Rl.out.below B7.out).more (Nat.le_trans H0.out B7.out.size)) (Nat.le_trans LK1.out (by decide)) (Nat.le_trans LK1.out (by decide))).mono ?_
  rintro e w8 ⟨rfl, b8⟩
  rw [rows_refl]
  have du8 := Du7.out.below b8
  have kx8 := HKX.out.below b8 HKX.out.lt
  have kc8 := KC7.out.below b8 KC7.out.lt
  have o38 := own_only (S := fun _ => False) O3.out (Only.of_below b8) (fun _ _ h => h)
  have o48 := own_only (S := fun _ => False) O4.out (Only.of_below b8) (fun _ _ h => h)
  have b88 := B7.out.trans (b8.mono (Nat.le_trans H0.out B7.out.size))
  clear z5 y4 b8 HKX KC7 O3 O4 B7 Du7
  have HKX := Lib.hid kx8; have KC8 := Lib.hid kc8; have O3 := Lib.hid o38; have O4 := Lib.hid o48; have B8 := Lib.hid b88; have Du8 := Lib.hid du8
  clear kx8 kc8 o38 o48 b88 du8
  go_wp2_with fail
  refine spoil_in_lines _ _ _ _ _ _ _ _ _ _ _ _ _ _ _ _ _ _ _ _ _ _ _ _ _ _ _ _ _ _ _ _ _ _ _ _ _ _ _ _ _ _ _ _ _ _ _ _ _ _ _ _ _ _ _ _ _ _ _ _ _ _ _ _ _ _ _ _ _ _ _ _ _ _ _ _ _ _ _ _ _ _ _ _ _ _ _ _ _ _ _ _ _ _ _ _ _ _ _ _ _ _ _ _ _ _ _ _ _ _ _ _ _ _ _ _ _ _ _ _ _ _ _ _ _ _ _ _ _ _ _ _ _ _ _ _ _ _ _ _ _ _ _ _ _ _ _ _ _ _ _ _ _ _ _ _ _ _ _ _ _ _ _ _ _ _ _ _ _ _ _ _ _ _ _ _ _ _ _ _ _ _ _ _ _ _ _ _ _ _ _ _ _ _ _ _ _ _ _ _ _ _ _ _ _ _ _ _ _ _ _ _ _ _ _ _ _ _ _ _ _ _ _ _ _ _ _ _ _ _ _ _ _ _ _ _ _ _ _ _ _ _ _ _ _ _ _ _ _ _ _ _ _ _ _ _ _ _ _ _ _ _ _ _ _ _ _ _ _ _ _ _ _ _ _ _ _ _ _ _ _ _ _ _ _ _ _ _ _ _ _ _ _ _ _ _ _ _ _ _ _ _ _ _ _ _ _ _ _ _ _ _ _ _ _ _ _ _ _ _ _ _ _ _ _ _ _ _ _ _ _ _ _ _ _ _ _ _ _ _ _ _ _ _ _ _ _ _ _ _ _ x15 w.heap.size A4 c4 C.m.lines.length 38 _ w8 HKX.out (by decide) rfl _ O4.out LK1.out _ ?_
  intro x20 x128 x129 x130 x131 x132 x133 x134 x135 x136 x137 x138 w9 on9
  have du9 := Du8.out.only on9 (fun k hk => HP4.out k hk)
  have kx9 : Bk w9 x15 38 _ := HKX.out.same (on9.block _ HKX.out.lt (own_ne O4.out HKX.out (by decide)))
  have kc9 : Bk w9 X 40 _ := KC8.out.same (on9.block _ KC8.out.lt (own_ne O4.out KC8.out (by decide)))
  have o39 := own_only O3.out on9 (fun k hk => ne_of_types O3.out O4.out (by decide) k hk)
  have b9 := Only.belowOf B8.out on9 H0.out (fun k hk => Nat.le_trans HN.out (HS4.out k hk))
  clear on9 HKX KC8 O3 O4 B8 Du8
  have HKX := Lib.hid kx9; have KC9 := Lib.hid kc9; have O3 := Lib.hid o39; have B9 := Lib.hid b9; have Du9 := Lib.hid du9
  clear kx9 kc9 o39 b9 du9
  go_wp2_with fail
  refine spoil_in_to _ _ _ _ _ _ _ _ _ _ _ _ _ _ _ _ _ _ _ _ _ _ _ _ _ _ _ _ _ _ _ _ _ _ _ _ _ _ _ _ _ _ _ _ _ _ _ _ _ _ _ _ _ _ _ _ _ _ _ _ _ _ _ _ _ _ _ _ _ _ _ _ _ _ _ _ _ _ _ _ _ _ _ _ _ _ _ _ _ _ _ _ _ _ _ _ _ _ _ _ _ _ _ _ _ _ _ _ _ _ _ _ _ _ _ _ _ _ _ _ _ _ _ _ _ _ _ _ _ _ _ _ _ _ _ _ _ _ _ _ _ _ _ _ _ _ _ _ _ _ _ _ _ _ _ _ _ _ _ _ _ _ _ _ _ _ _ _ _ _ _ _ _ _ _ _ _ _ _ _ _ _ _ _ _ _ _ _ _ _ _ _ _ _ _ _ _ _ _ _ _ _ _ _ _ _ _ _ _ _ _ _ _ _ _ _ _ _ _ _ _ _ _ _ _ _ _ _ _ _ _ _ _ _ _ _ _ _ _ _ _ _ _ _ _ _ _ _ _ _ _ _ _ _ _ _ _ _ _ _ _ _ _ _ _ _ _ _ _ _ _ _ _ _ _ _ _ _ _ _ _ _ _ _ _ _ _ _ _ _ _ _ _ _ _ _ _ _ _ _ _ _ _ _ _ _ _ _ _ _ _ _ _ _ _ _ _ _ _ _ _ _ _ _ _ _ _ _ _ _ _ _ _ _ _ _ _ _ _ _ _ _ _ _ _ _ _ _ _ _ _ x15 w.heap.size A3 c3 C.m.to.length 38 _ w9 HKX.out (by decide) rfl _ O3.out N1.out _ ?_
  intro s21 s139 s140 s141 s142 s143 s144 s145 s146 s147 s148 s149 s150 wx on9
  have du9 := (Du9.out.only on9 (fun k hk => HP3.out k hk)).less HPP.out
  have kc9 : Bk wx X 40 _ := KC9.out.same (on9.block _ KC9.out.lt (own_ne O3.out KC9.out (by decide)))
  have b9 := Only.belowOf B9.out on9 H0.out (fun k hk => Nat.le_trans HN.out (HS3.out k hk))
  exact HE.out _ _ _ _ _ _ _ _ _ _ _ _ _ _ _ _ _ _ _ _ _ _ _ _ _ _ _ _ _ _ _ _ _ _ _ _ _ _ _ _ _ _ _ _ _ _ _ _ _ _ _ _ _ _ _ _ _ _ _ _ _ _ _ _ _ _ _ _ _ _ _ _ _ _ _ _ _ _ _ _ _ _ _ _ _ _ _ _ wx du9 kc9 b9
end Go.Proofs.Ytlbghgmeiajioaa
