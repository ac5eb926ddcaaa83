/- QueuePlays: the message's own copy. -/
import Derived.Test.YtlbghgmeiajioaaPa
import Derived.Test.YtlbghgmeiajioaaRd
namespace Go.Proofs.Ytlbghgmeiajioaa
open Go.RowKit
set_option linter.unusedVariables false

/-- The region of a number. -/
def regionsOf (id : Nat) : Code → List Code
  | .loop c => regionsOf id c
  | .seq a b => regionsOf id a ++ regionsOf id b
  | .block _ c => regionsOf id c
  | .scope c => regionsOf id c
  | .cond _ a b => regionsOf id a ++ regionsOf id b
  | .region i ops b => if i = id then [.region i ops b] else []
  | _ => []
noncomputable def rg3 (i : Nat) : Code := ((regionsOf i (Try.f3.body.getD .skip))[0]?).getD .skip
def zeroPth : Value := .agg #[.bool false, .string ⟨#[]⟩, .string ⟨#[]⟩]
theorem info32 : (Try.prog.info? 32).map (fun i => (i.zero, i.size, i.bytes)) = some (some zeroPth, 3, 40) := by kernel_rfl
theorem pth_one (l : List Pth) : ∀ u ∈ l.flatMap Pth.cells, u.oneCell' = true := by
  intro u hu
  obtain ⟨r, _, hr⟩ := List.mem_flatMap.1 hu
  simp [Pth.cells] at hr
  rcases hr with rfl | rfl | rfl <;> rfl
section
variable {ops : Array Oper} {o : Oper} {a : Act} {w : World} {K : Act → World → Prop} {Q : Exit → Act → World → Prop} {E : Prop}
theorem step_paths (s x : Operand) (hgd : o.guard = none) (ho : o.op = .call { callee := .builtin .append, args := #[s, x], argTypes := #[33, 33] })
    (base B : Nat) (v : Value) (hs : a.eval s = v) (hown : w.ownsRow base 32 3 v 0 []) (A : Option Addr) (c : Nat) (l : List Pth) (hx : a.eval x = .slice A l.length c) (hr : Rd w B A (l.flatMap Pth.cells)) (hn : l.length ≤ 100000) (hbase : base ≤ w.heap.size)
    (h : ∀ v' w', w'.ownsRow base 32 3 v' l.length (l.flatMap Pth.cells) → w.grownBy w' v.ownBlock → (v'.ownBlock = v.ownBlock ∨ v'.ownBlock = some w.heap.size) → K (a.put o.dst v') w') : if Region.wanted o (yielded ops a.tmps) = true then Oper.wp Try.prog o a w K Q else E := by
  have hw : Region.wanted o (yielded ops a.tmps) = true := by simp [Region.wanted, hgd]
  rw [if_pos hw]
  obtain ⟨i0, hi, hz0, hz1, hz2⟩ := info_parts info32
  exact wp_app s x 33 ho 32 i0 zeroPth 3 40 Try.underlying33 hi hz0 hz1 hz2 rfl (by decide) w base B v 0 [] hs hown A l.length c _ hx hr (flat_len Pth.len l) (pth_one l) (by unfold maxLen; omega) (by omega) hbase (fun v' w' h2 h3 h4 => h v' w' (by simpa using h2) h3 h4)
theorem step_strs (s x : Operand) (hgd : o.guard = none) (ho : o.op = .call { callee := .builtin .append, args := #[s, x], argTypes := #[34, 34] })
    (base B : Nat) (v : Value) (hs : a.eval s = v) (hown : w.ownsRow base 9 1 v 0 []) (A : Option Addr) (c : Nat) (l : List ByteArray) (hx : a.eval x = .slice A l.length c) (hr : Rd w B A (l.map .string)) (hn : l.length ≤ 100000) (hbase : base ≤ w.heap.size)
    (h : ∀ v' w', w'.ownsRow base 9 1 v' l.length (l.map .string) → w.grownBy w' v.ownBlock → (v'.ownBlock = v.ownBlock ∨ v'.ownBlock = some w.heap.size) → K (a.put o.dst v') w') : if Region.wanted o (yielded ops a.tmps) = true then Oper.wp Try.prog o a w K Q else E := by
  have hw : Region.wanted o (yielded ops a.tmps) = true := by simp [Region.wanted, hgd]
  rw [if_pos hw]
  obtain ⟨i0, hi, hz0, hz1, hz2⟩ := info_parts info9
  exact wp_app s x 34 ho 9 i0 (.string ⟨#[]⟩) 1 16 Try.underlying34 hi hz0 hz1 hz2 rfl (by decide) w base B v 0 [] hs hown A l.length c _ hx hr (by simp) (str_one l) (by unfold maxLen; omega) (by omega) hbase (fun v' w' h2 h3 h4 => h v' w' (by simpa using h2) h3 h4)
end
set_option maxRecDepth 1000000 in
set_option maxHeartbeats 16000000 in
theorem in_made (t0 t1 t2 t3 t4 t5 t6 t7 t8 t9 t10 t11 t12 t13 t15 t16 t17 t18 t19 t20 t21 t22 t23 t24 t25 t26 t27 t28 t29 t30 t31 t32 t33 t34 t35 t36 t37 t38 t39 t40 t41 t42 t43 t44 t45 t46 t47 t48 t49 t50 t51 t52 t53 t54 t55 t56 t57 t58 t59 t60 t61 t62 t63 t64 t65 t66 t67 t68 t69 t70 t71 t72 t73 t74 t75 t76 t77 t78 t79 t80 t81 t82 t83 t84 t85 t86 t87 t88 t89 t90 t91 t92 t93 t94 t95 t96 t97 t98 t99 t100 t101 t102 t103 t104 t105 t106 t107 t108 t109 t110 t111 t112 t113 t114 t115 t116 t117 t118 t119 t120 t121 t122 t123 t124 t125 t126 t127 t128 t129 t130 t131 t132 t133 t134 t135 t136 t137 t138 t139 t140 t141 t142 t143 t144 t145 t146 t147 t148 t149 t150 t151 t152 t153 t154 t155 t156 t157 t158 t159 t160 t161 t162 t163 t164 t165 t166 t167 t168 t169 t170 t171 t172 t173 t174 t175 t176 t177 t178 t179 t180 t181 t182 t183 t184 t185 t186 t187 t188 t189 t190 t191 t192 t193 t194 t195 t196 t197 t198 t199 t200 t201 t202 t203 t204 t205 t206 t207 t208 t209 t210 t211 t212 t213 t214 t215 t216 t217 t218 t219 t220 t221 t222 t223 t224 t225 t226 t227 t228 t229 t230 t231 t232 t233 t234 t235 t236 t237 t238 t239 t240 t241 t242 t243 t244 t245 t246 t247 t248 t249 t250 t251 t252 t253 t254 t255 t256 t257 t258 t259 t260 t261 t262 t263 t264 t265 t266 t267 t268 t269 t270 t271 t272 t273 t274 t275 t276 t277 t278 t279 t280 t281 t282 t283 t284 t285 t286 t287 t288 t289 t290 t291 t292 t293 t294 t295 t296 t297 t298 t299 t300 t301 t302 t303 t304 t305 t306 t307 t308 t309 t310 t311 t312 t313 t314 t315 t316 t317 t318 t319 t320 t321 t322 t323 t324 t325 t326 t327 t328 t329 t330 t331 t332 t333 t334 t335 t336 t337 t338 t339 t340 t341 t342 t343 t344 t345 t346 t347 t348 t349 t350 t351 t352 : Value) (X N0 : Nat) (C : CRow) (At Al : Option Addr) (ct cl : Nat) (w : World) (hN : N0 = w.heap.size) (kc : Bk w X 40 #[.int .i64 C.which, .bool C.m.frm.null, .string C.m.frm.loc, .string C.m.frm.dom, .slice At C.m.to.length ct, .slice Al C.m.lines.length cl, .bool C.m.flags.head, .bool C.m.flags.body, .bool C.m.flags.bad, .int .i64 C.m.flags.lines, .int .i64 C.m.flags.hops, .int .i64 C.m.bytes, .int .i64 C.id, .int .i64 C.k, .int .i64 C.n]) (ht : Rd w N0 At (C.m.to.flatMap Pth.cells)) (hl : Rd w N0 Al (C.m.lines.map .string)) (nt : C.m.to.length ≤ 100000) (nl : C.m.lines.length ≤ 100000)
    (Q : Exit → Act → World → Prop) (hpan : ∀ c a a' w, a.defers = a'.defers → Q (.panic c) a w → Q (.panic c) a' w)
    (hexit : ∀ (u70 u71 u72 u73 u74 u75 u76 u77 u78 u79 u80 u81 u82 u83 u84 u85 u86 u87 u88 u89 : Value) (x15 : Nat) (A3 A4 : Option Addr) (c3 c4 : Nat) (w' : World), N0 ≤ x15 → Bk w' x15 38 #[.bool C.m.frm.null, .string C.m.frm.loc, .string C.m.frm.dom, .slice A3 C.m.to.length c3, .slice A4 C.m.lines.length c4, .bool C.m.flags.head, .bool C.m.flags.body, .bool C.m.flags.bad, .int .i64 C.m.flags.lines, .int .i64 C.m.flags.hops, .int .i64 C.m.bytes] → w'.ownsRow N0 32 3 (.slice A3 C.m.to.length c3) C.m.to.length (C.m.to.flatMap Pth.cells) → w'.ownsRow N0 9 1 (.slice A4 C.m.lines.length c4) C.m.lines.length (C.m.lines.map .string) → Below N0 w w' →
      Q .normal ⟨List.toArray (t0 :: t1 :: t2 :: t3 :: t4 :: t5 :: t6 :: t7 :: t8 :: t9 :: t10 :: t11 :: t12 :: t13 :: (.pointer (some ⟨X, 0, none⟩)) :: (.pointer (some ⟨x15, 0, none⟩)) :: t16 :: t17 :: t18 :: t19 :: t20 :: t21 :: t22 :: t23 :: t24 :: t25 :: t26 :: t27 :: t28 :: t29 :: t30 :: t31 :: t32 :: t33 :: t34 :: t35 :: t36 :: t37 :: t38 :: t39 :: t40 :: t41 :: t42 :: t43 :: t44 :: t45 :: t46 :: t47 :: t48 :: t49 :: t50 :: t51 :: t52 :: t53 :: t54 :: t55 :: t56 :: t57 :: t58 :: t59 :: t60 :: t61 :: t62 :: t63 :: t64 :: t65 :: t66 :: t67 :: t68 :: t69 :: u70 :: u71 :: u72 :: u73 :: u74 :: u75 :: u76 :: u77 :: u78 :: u79 :: u80 :: u81 :: u82 :: u83 :: u84 :: u85 :: u86 :: u87 :: u88 :: u89 :: t90 :: t91 :: t92 :: t93 :: t94 :: t95 :: t96 :: t97 :: t98 :: t99 :: t100 :: t101 :: t102 :: t103 :: t104 :: t105 :: t106 :: t107 :: t108 :: t109 :: t110 :: t111 :: t112 :: t113 :: t114 :: t115 :: t116 :: t117 :: t118 :: t119 :: t120 :: t121 :: t122 :: t123 :: t124 :: t125 :: t126 :: t127 :: t128 :: t129 :: t130 :: t131 :: t132 :: t133 :: t134 :: t135 :: t136 :: t137 :: t138 :: t139 :: t140 :: t141 :: t142 :: t143 :: t144 :: t145 :: t146 :: t147 :: t148 :: t149 :: t150 :: t151 :: t152 :: t153 :: t154 :: t155 :: t156 :: t157 :: t158 :: t159 :: t160 :: t161 :: t162 :: t163 :: t164 :: t165 :: t166 :: t167 :: t168 :: t169 :: t170 :: t171 :: t172 :: t173 :: t174 :: t175 :: t176 :: t177 :: t178 :: t179 :: t180 :: t181 :: t182 :: t183 :: t184 :: t185 :: t186 :: t187 :: t188 :: t189 :: t190 :: t191 :: t192 :: t193 :: t194 :: t195 :: t196 :: t197 :: t198 :: t199 :: t200 :: t201 :: t202 :: t203 :: t204 :: t205 :: t206 :: t207 :: t208 :: t209 :: t210 :: t211 :: t212 :: t213 :: t214 :: t215 :: t216 :: t217 :: t218 :: t219 :: t220 :: t221 :: t222 :: t223 :: t224 :: t225 :: t226 :: t227 :: t228 :: t229 :: t230 :: t231 :: t232 :: t233 :: t234 :: t235 :: t236 :: t237 :: t238 :: t239 :: t240 :: t241 :: t242 :: t243 :: t244 :: t245 :: t246 :: t247 :: t248 :: t249 :: t250 :: t251 :: t252 :: t253 :: t254 :: t255 :: t256 :: t257 :: t258 :: t259 :: t260 :: t261 :: t262 :: t263 :: t264 :: t265 :: t266 :: t267 :: t268 :: t269 :: t270 :: t271 :: t272 :: t273 :: t274 :: t275 :: t276 :: t277 :: t278 :: t279 :: t280 :: t281 :: t282 :: t283 :: t284 :: t285 :: t286 :: t287 :: t288 :: t289 :: t290 :: t291 :: t292 :: t293 :: t294 :: t295 :: t296 :: t297 :: t298 :: t299 :: t300 :: t301 :: t302 :: t303 :: t304 :: t305 :: t306 :: t307 :: t308 :: t309 :: t310 :: t311 :: t312 :: t313 :: t314 :: t315 :: t316 :: t317 :: t318 :: t319 :: t320 :: t321 :: t322 :: t323 :: t324 :: t325 :: t326 :: t327 :: t328 :: t329 :: t330 :: t331 :: t332 :: t333 :: t334 :: t335 :: t336 :: t337 :: t338 :: t339 :: t340 :: t341 :: t342 :: t343 :: t344 :: t345 :: t346 :: t347 :: t348 :: t349 :: t350 :: t351 :: t352 :: []), []⟩ w') :
    Code.wp Try.prog (rg3 14) Q ⟨List.toArray (t0 :: t1 :: t2 :: t3 :: t4 :: t5 :: t6 :: t7 :: t8 :: t9 :: t10 :: t11 :: t12 :: t13 :: (.pointer (some ⟨X, 0, none⟩)) :: t15 :: t16 :: t17 :: t18 :: t19 :: t20 :: t21 :: t22 :: t23 :: t24 :: t25 :: t26 :: t27 :: t28 :: t29 :: t30 :: t31 :: t32 :: t33 :: t34 :: t35 :: t36 :: t37 :: t38 :: t39 :: t40 :: t41 :: t42 :: t43 :: t44 :: t45 :: t46 :: t47 :: t48 :: t49 :: t50 :: t51 :: t52 :: t53 :: t54 :: t55 :: t56 :: t57 :: t58 :: t59 :: t60 :: t61 :: t62 :: t63 :: t64 :: t65 :: t66 :: t67 :: t68 :: t69 :: t70 :: t71 :: t72 :: t73 :: t74 :: t75 :: t76 :: t77 :: t78 :: t79 :: t80 :: t81 :: t82 :: t83 :: t84 :: t85 :: t86 :: t87 :: t88 :: t89 :: t90 :: t91 :: t92 :: t93 :: t94 :: t95 :: t96 :: t97 :: t98 :: t99 :: t100 :: t101 :: t102 :: t103 :: t104 :: t105 :: t106 :: t107 :: t108 :: t109 :: t110 :: t111 :: t112 :: t113 :: t114 :: t115 :: t116 :: t117 :: t118 :: t119 :: t120 :: t121 :: t122 :: t123 :: t124 :: t125 :: t126 :: t127 :: t128 :: t129 :: t130 :: t131 :: t132 :: t133 :: t134 :: t135 :: t136 :: t137 :: t138 :: t139 :: t140 :: t141 :: t142 :: t143 :: t144 :: t145 :: t146 :: t147 :: t148 :: t149 :: t150 :: t151 :: t152 :: t153 :: t154 :: t155 :: t156 :: t157 :: t158 :: t159 :: t160 :: t161 :: t162 :: t163 :: t164 :: t165 :: t166 :: t167 :: t168 :: t169 :: t170 :: t171 :: t172 :: t173 :: t174 :: t175 :: t176 :: t177 :: t178 :: t179 :: t180 :: t181 :: t182 :: t183 :: t184 :: t185 :: t186 :: t187 :: t188 :: t189 :: t190 :: t191 :: t192 :: t193 :: t194 :: t195 :: t196 :: t197 :: t198 :: t199 :: t200 :: t201 :: t202 :: t203 :: t204 :: t205 :: t206 :: t207 :: t208 :: t209 :: t210 :: t211 :: t212 :: t213 :: t214 :: t215 :: t216 :: t217 :: t218 :: t219 :: t220 :: t221 :: t222 :: t223 :: t224 :: t225 :: t226 :: t227 :: t228 :: t229 :: t230 :: t231 :: t232 :: t233 :: t234 :: t235 :: t236 :: t237 :: t238 :: t239 :: t240 :: t241 :: t242 :: t243 :: t244 :: t245 :: t246 :: t247 :: t248 :: t249 :: t250 :: t251 :: t252 :: t253 :: t254 :: t255 :: t256 :: t257 :: t258 :: t259 :: t260 :: t261 :: t262 :: t263 :: t264 :: t265 :: t266 :: t267 :: t268 :: t269 :: t270 :: t271 :: t272 :: t273 :: t274 :: t275 :: t276 :: t277 :: t278 :: t279 :: t280 :: t281 :: t282 :: t283 :: t284 :: t285 :: t286 :: t287 :: t288 :: t289 :: t290 :: t291 :: t292 :: t293 :: t294 :: t295 :: t296 :: t297 :: t298 :: t299 :: t300 :: t301 :: t302 :: t303 :: t304 :: t305 :: t306 :: t307 :: t308 :: t309 :: t310 :: t311 :: t312 :: t313 :: t314 :: t315 :: t316 :: t317 :: t318 :: t319 :: t320 :: t321 :: t322 :: t323 :: t324 :: t325 :: t326 :: t327 :: t328 :: t329 :: t330 :: t331 :: t332 :: t333 :: t334 :: t335 :: t336 :: t337 :: t338 :: t339 :: t340 :: t341 :: t342 :: t343 :: t344 :: t345 :: t346 :: t347 :: t348 :: t349 :: t350 :: t351 :: t352 :: []), []⟩ w := by
  have HE := Lib.hid hexit
  have HN := Lib.hid (Nat.le_of_eq hN)
  have Ht := Lib.hid ht; have Hl := Lib.hid hl; have HT := Lib.hid nt; have HLn := Lib.hid nl
  have lx : X < N0 := by rw [hN]; exact kc.lt
  have hS' : ∀ W, Below N0 w W → (fun w' : World => w'.cell? ⟨X, 1, none⟩ = some (.bool C.m.frm.null) ∧ w'.cell? ⟨X, 2, none⟩ = some (.string C.m.frm.loc) ∧ w'.cell? ⟨X, 3, none⟩ = some (.string C.m.frm.dom) ∧ w'.cell? ⟨X, 4, none⟩ = some (.slice At C.m.to.length ct) ∧ w'.cell? ⟨X, 5, none⟩ = some (.slice Al C.m.lines.length cl) ∧ w'.cell? ⟨X, 6, none⟩ = some (.bool C.m.flags.head) ∧ w'.cell? ⟨X, 7, none⟩ = some (.bool C.m.flags.body) ∧ w'.cell? ⟨X, 8, none⟩ = some (.bool C.m.flags.bad) ∧ w'.cell? ⟨X, 9, none⟩ = some (.int .i64 C.m.flags.lines) ∧ w'.cell? ⟨X, 10, none⟩ = some (.int .i64 C.m.flags.hops) ∧ w'.cell? ⟨X, 11, none⟩ = some (.int .i64 C.m.bytes)) W := fun W b => ⟨(b.cell (p := ⟨X, 1, none⟩) lx).trans (kc.cell 1), (b.cell (p := ⟨X, 2, none⟩) lx).trans (kc.cell 2), (b.cell (p := ⟨X, 3, none⟩) lx).trans (kc.cell 3), (b.cell (p := ⟨X, 4, none⟩) lx).trans (kc.cell 4), (b.cell (p := ⟨X, 5, none⟩) lx).trans (kc.cell 5), (b.cell (p := ⟨X, 6, none⟩) lx).trans (kc.cell 6), (b.cell (p := ⟨X, 7, none⟩) lx).trans (kc.cell 7), (b.cell (p := ⟨X, 8, none⟩) lx).trans (kc.cell 8), (b.cell (p := ⟨X, 9, none⟩) lx).trans (kc.cell 9), (b.cell (p := ⟨X, 10, none⟩) lx).trans (kc.cell 10), (b.cell (p := ⟨X, 11, none⟩) lx).trans (kc.cell 11)⟩
  have HS := Lib.hid hS'
  clear hexit hS' ht hl nt nl kc hN
  conv => arg 2; whnf
  refine wp_region_held_drew (S := fun w' : World => w'.cell? ⟨X, 1, none⟩ = some (.bool C.m.frm.null) ∧ w'.cell? ⟨X, 2, none⟩ = some (.string C.m.frm.loc) ∧ w'.cell? ⟨X, 3, none⟩ = some (.string C.m.frm.dom) ∧ w'.cell? ⟨X, 4, none⟩ = some (.slice At C.m.to.length ct) ∧ w'.cell? ⟨X, 5, none⟩ = some (.slice Al C.m.lines.length cl) ∧ w'.cell? ⟨X, 6, none⟩ = some (.bool C.m.flags.head) ∧ w'.cell? ⟨X, 7, none⟩ = some (.bool C.m.flags.body) ∧ w'.cell? ⟨X, 8, none⟩ = some (.bool C.m.flags.bad) ∧ w'.cell? ⟨X, 9, none⟩ = some (.int .i64 C.m.flags.lines) ∧ w'.cell? ⟨X, 10, none⟩ = some (.int .i64 C.m.flags.hops) ∧ w'.cell? ⟨X, 11, none⟩ = some (.int .i64 C.m.bytes)) (by kernel_rfl) ?_ (fun hHeld => ?_)
  · exact HS.out _ (Below.refl _ w).drew
  refine wpAnyH_take (i := 0) (oi := { dst := some 70, op := Op.fieldAddr 40 (Operand.tmp 14) 1, type := 0, pos := "law.go:70", after := #[], guard := none }) (v := ?_) rfl (by kernel_rfl) (by kernel_rfl) (by kernel_rfl) (fun c a w h => hpan c (Act.put a _ _) a w rfl h) (Or.inl ⟨by rfl, ?_⟩) (by assumption) ?_
  rotate_left
  · intro wS hSw; (try dsimp only at hSw); go_simp; (try with_reducible rfl)
  try simp only [Act.put, List.setIfInBounds_toArray, List.set_cons_zero, List.set_cons_succ]
  refine wpAnyH_take (i := 1) (oi := { dst := some 71, op := Op.fieldAddr 38 (Operand.tmp 70) 0, type := 0, pos := "law.go:70", after := #[{ on := 0, ground := Ground.data }], guard := none }) (v := ?_) rfl (by kernel_rfl) (by kernel_rfl) (by kernel_rfl) (fun c a w h => hpan c (Act.put a _ _) a w rfl h) (Or.inl ⟨by rfl, ?_⟩) (by assumption) ?_
  rotate_left
  · intro wS hSw; (try dsimp only at hSw); go_simp; (try with_reducible rfl)
  try simp only [Act.put, List.setIfInBounds_toArray, List.set_cons_zero, List.set_cons_succ]
  refine wpAnyH_take (i := 2) (oi := { dst := some 72, op := Op.load 32 (Operand.tmp 71), type := 32, pos := "law.go:70", after := #[{ on := 1, ground := Ground.data }], guard := none }) (v := ?_) rfl (by kernel_rfl) (by kernel_rfl) (by kernel_rfl) (fun c a w h => hpan c (Act.put a _ _) a w rfl h) (Or.inl ⟨by rfl, ?_⟩) (by assumption) ?_
  rotate_left
  · intro wS hSw; (try dsimp only at hSw); go_simp; (try with_reducible rfl)
  try simp only [Act.put, List.setIfInBounds_toArray, List.set_cons_zero, List.set_cons_succ]
  refine wpAnyH_take (i := 4) (oi := { dst := some 74, op := Op.fieldAddr 40 (Operand.tmp 14) 1, type := 0, pos := "law.go:70", after := #[], guard := none }) (v := ?_) rfl (by kernel_rfl) (by kernel_rfl) (by kernel_rfl) (fun c a w h => hpan c (Act.put a _ _) a w rfl h) (Or.inl ⟨by rfl, ?_⟩) (by assumption) ?_
  rotate_left
  · intro wS hSw; (try dsimp only at hSw); go_simp; (try with_reducible rfl)
  try simp only [Act.put, List.setIfInBounds_toArray, List.set_cons_zero, List.set_cons_succ]
  refine wpAnyH_take (i := 5) (oi := { dst := some 75, op := Op.fieldAddr 38 (Operand.tmp 74) 1, type := 0, pos := "law.go:70", after := #[{ on := 4, ground := Ground.data }], guard := none }) (v := ?_) rfl (by kernel_rfl) (by kernel_rfl) (by kernel_rfl) (fun c a w h => hpan c (Act.put a _ _) a w rfl h) (Or.inl ⟨by rfl, ?_⟩) (by assumption) ?_
  rotate_left
  · intro wS hSw; (try dsimp only at hSw); go_simp; (try with_reducible rfl)
  try simp only [Act.put, List.setIfInBounds_toArray, List.set_cons_zero, List.set_cons_succ]
  refine wpAnyH_take (i := 6) (oi := { dst := some 76, op := Op.load 33 (Operand.tmp 75), type := 33, pos := "law.go:70", after := #[{ on := 5, ground := Ground.data }], guard := none }) (v := ?_) rfl (by kernel_rfl) (by kernel_rfl) (by kernel_rfl) (fun c a w h => hpan c (Act.put a _ _) a w rfl h) (Or.inl ⟨by rfl, ?_⟩) (by assumption) ?_
  rotate_left
  · intro wS hSw; (try dsimp only at hSw); go_simp; (try with_reducible rfl)
  try simp only [Act.put, List.setIfInBounds_toArray, List.set_cons_zero, List.set_cons_succ]
  refine wpAnyH_take (i := 9) (oi := { dst := some 79, op := Op.fieldAddr 40 (Operand.tmp 14) 1, type := 0, pos := "law.go:70", after := #[], guard := none }) (v := ?_) rfl (by kernel_rfl) (by kernel_rfl) (by kernel_rfl) (fun c a w h => hpan c (Act.put a _ _) a w rfl h) (Or.inl ⟨by rfl, ?_⟩) (by assumption) ?_
  rotate_left
  · intro wS hSw; (try dsimp only at hSw); go_simp; (try with_reducible rfl)
  try simp only [Act.put, List.setIfInBounds_toArray, List.set_cons_zero, List.set_cons_succ]
  refine wpAnyH_take (i := 10) (oi := { dst := some 80, op := Op.fieldAddr 38 (Operand.tmp 79) 2, type := 0, pos := "law.go:70", after := #[{ on := 9, ground := Ground.data }], guard := none }) (v := ?_) rfl (by kernel_rfl) (by kernel_rfl) (by kernel_rfl) (fun c a w h => hpan c (Act.put a _ _) a w rfl h) (Or.inl ⟨by rfl, ?_⟩) (by assumption) ?_
  rotate_left
  · intro wS hSw; (try dsimp only at hSw); go_simp; (try with_reducible rfl)
  try simp only [Act.put, List.setIfInBounds_toArray, List.set_cons_zero, List.set_cons_succ]
  refine wpAnyH_take (i := 11) (oi := { dst := some 81, op := Op.load 34 (Operand.tmp 80), type := 34, pos := "law.go:70", after := #[{ on := 10, ground := Ground.data }], guard := none }) (v := ?_) rfl (by kernel_rfl) (by kernel_rfl) (by kernel_rfl) (fun c a w h => hpan c (Act.put a _ _) a w rfl h) (Or.inl ⟨by rfl, ?_⟩) (by assumption) ?_
  rotate_left
  · intro wS hSw; (try dsimp only at hSw); go_simp; (try with_reducible rfl)
  try simp only [Act.put, List.setIfInBounds_toArray, List.set_cons_zero, List.set_cons_succ]
  refine wpAnyH_take (i := 13) (oi := { dst := some 83, op := Op.fieldAddr 40 (Operand.tmp 14) 1, type := 0, pos := "law.go:70", after := #[], guard := none }) (v := ?_) rfl (by kernel_rfl) (by kernel_rfl) (by kernel_rfl) (fun c a w h => hpan c (Act.put a _ _) a w rfl h) (Or.inl ⟨by rfl, ?_⟩) (by assumption) ?_
  rotate_left
  · intro wS hSw; (try dsimp only at hSw); go_simp; (try with_reducible rfl)
  try simp only [Act.put, List.setIfInBounds_toArray, List.set_cons_zero, List.set_cons_succ]
  refine wpAnyH_take (i := 14) (oi := { dst := some 84, op := Op.fieldAddr 38 (Operand.tmp 83) 3, type := 0, pos := "law.go:70", after := #[{ on := 13, ground := Ground.data }], guard := none }) (v := ?_) rfl (by kernel_rfl) (by kernel_rfl) (by kernel_rfl) (fun c a w h => hpan c (Act.put a _ _) a w rfl h) (Or.inl ⟨by rfl, ?_⟩) (by assumption) ?_
  rotate_left
  · intro wS hSw; (try dsimp only at hSw); go_simp; (try with_reducible rfl)
  try simp only [Act.put, List.setIfInBounds_toArray, List.set_cons_zero, List.set_cons_succ]
  refine wpAnyH_take (i := 15) (oi := { dst := some 85, op := Op.load 36 (Operand.tmp 84), type := 36, pos := "law.go:70", after := #[{ on := 14, ground := Ground.data }], guard := none }) (v := ?_) rfl (by kernel_rfl) (by kernel_rfl) (by kernel_rfl) (fun c a w h => hpan c (Act.put a _ _) a w rfl h) (Or.inl ⟨by rfl, ?_⟩) (by assumption) ?_
  rotate_left
  · intro wS hSw; (try dsimp only at hSw); go_simp; (try with_reducible rfl)
  try simp only [Act.put, List.setIfInBounds_toArray, List.set_cons_zero, List.set_cons_succ]
  refine wpAnyH_take (i := 16) (oi := { dst := some 86, op := Op.fieldAddr 40 (Operand.tmp 14) 1, type := 0, pos := "law.go:70", after := #[], guard := none }) (v := ?_) rfl (by kernel_rfl) (by kernel_rfl) (by kernel_rfl) (fun c a w h => hpan c (Act.put a _ _) a w rfl h) (Or.inl ⟨by rfl, ?_⟩) (by assumption) ?_
  rotate_left
  · intro wS hSw; (try dsimp only at hSw); go_simp; (try with_reducible rfl)
  try simp only [Act.put, List.setIfInBounds_toArray, List.set_cons_zero, List.set_cons_succ]
  refine wpAnyH_take (i := 17) (oi := { dst := some 87, op := Op.fieldAddr 38 (Operand.tmp 86) 4, type := 0, pos := "law.go:70", after := #[{ on := 16, ground := Ground.data }], guard := none }) (v := ?_) rfl (by kernel_rfl) (by kernel_rfl) (by kernel_rfl) (fun c a w h => hpan c (Act.put a _ _) a w rfl h) (Or.inl ⟨by rfl, ?_⟩) (by assumption) ?_
  rotate_left
  · intro wS hSw; (try dsimp only at hSw); go_simp; (try with_reducible rfl)
  try simp only [Act.put, List.setIfInBounds_toArray, List.set_cons_zero, List.set_cons_succ]
  refine wpAnyH_take (i := 18) (oi := { dst := some 88, op := Op.load 3 (Operand.tmp 87), type := 3, pos := "law.go:70", after := #[{ on := 17, ground := Ground.data }], guard := none }) (v := ?_) rfl (by kernel_rfl) (by kernel_rfl) (by kernel_rfl) (fun c a w h => hpan c (Act.put a _ _) a w rfl h) (Or.inl ⟨by rfl, ?_⟩) (by assumption) ?_
  rotate_left
  · intro wS hSw; (try dsimp only at hSw); go_simp; (try with_reducible rfl)
  try simp only [Act.put, List.setIfInBounds_toArray, List.set_cons_zero, List.set_cons_succ]
  have BW : Below N0 w w.drew := (Below.refl _ w).drew
  clear hHeld
  generalize w.drew = w1 at *
  refine wpAnyH_ready (rs := [3, 8, 20]) (by kernel_rfl) (by simp) ?_
  refine AllReadyH.cons (o := { dst := some 73, op := Op.buildSlice 33 0 #[], type := 33, pos := "law.go:70", after := #[], guard := none }) rfl (fun K hK => ?_) (AllReadyH.cons (o := { dst := some 78, op := Op.buildSlice 34 0 #[], type := 34, pos := "law.go:70", after := #[], guard := none }) rfl (fun K hK => ?_) (AllReadyH.cons (o := { dst := some 15, op := Op.alloc 38, type := 0, pos := "law.go:70", after := #[], guard := none }) rfl (fun K hK => ?_) (AllReadyH.nil)))
  · go_simp
    refine hK.out _ _ ?_ (fun hHeld => ?_)
    · exact HS.out _ (BW.alloc (Nat.le_trans HN.out BW.size) _)
    clear hK K hHeld
    try simp only [Act.put, List.setIfInBounds_toArray, List.set_cons_zero, List.set_cons_succ]
    have F3 : (w1.alloc (.cells #[] 32)).ownsRow N0 32 3 (.slice (some ⟨w1.heap.size, 0, none⟩) 0 0) 0 [] := own_base (World.ownsRow_made w1 #[] 0 (Nat.le_refl _) (by decide) rfl) (Nat.le_trans HN.out BW.size)
    replace BW := BW.alloc (Nat.le_trans HN.out BW.size) (.cells #[] 32)
    generalize hv73 : (some ⟨w1.heap.size, 0, none⟩ : Option Addr) = a73 at *
    generalize w1.alloc (.cells #[] 32) = w2 at *
    refine wpAnyH_ready (rs := [7, 8, 20]) (by kernel_rfl) (by simp) ?_
    refine AllReadyH.cons (o := { dst := some 77, op := Op.call { callee := Callee.builtin Builtin.append, args := #[Operand.tmp 73, Operand.tmp 76], argTypes := #[33, 33] }, type := 33, pos := "law.go:70", after := #[{ on := 3, ground := Ground.data }, { on := 6, ground := Ground.data }], guard := none }) rfl (fun K hK => ?_) (AllReadyH.cons (o := { dst := some 78, op := Op.buildSlice 34 0 #[], type := 34, pos := "law.go:70", after := #[], guard := none }) rfl (fun K hK => ?_) (AllReadyH.cons (o := { dst := some 15, op := Op.alloc 38, type := 0, pos := "law.go:70", after := #[], guard := none }) rfl (fun K hK => ?_) (AllReadyH.nil)))
    · refine step_paths (.tmp 73) (.tmp 76) rfl rfl N0 N0 (.slice a73 0 0) rfl F3 At ct C.m.to rfl (Ht.out.below BW) HT.out (Nat.le_trans HN.out BW.size) ?_
      intro v' w3 o g hat
      try dsimp only
      obtain ⟨A3, c3, rfl⟩ := own_any o
      have BW2 := BW.grown g (Nat.le_trans HN.out BW.size) (fun j hj => (F3.lt j hj).1)
      replace BW := BW2
      clear BW2 g hat
      have F7 := o
      clear o
      refine hK.out _ _ ?_ (fun hHeld => ?_)
      · exact HS.out _ BW
      clear hK K hHeld
      try simp only [Act.put, List.setIfInBounds_toArray, List.set_cons_zero, List.set_cons_succ]
      refine wpAnyH_ready (rs := [8, 20]) (by kernel_rfl) (by simp) ?_
      refine AllReadyH.cons (o := { dst := some 78, op := Op.buildSlice 34 0 #[], type := 34, pos := "law.go:70", after := #[], guard := none }) rfl (fun K hK => ?_) (AllReadyH.cons (o := { dst := some 15, op := Op.alloc 38, type := 0, pos := "law.go:70", after := #[], guard := none }) rfl (fun K hK => ?_) (AllReadyH.nil))
      · go_simp
        refine hK.out _ _ ?_ (fun hHeld => ?_)
        · exact HS.out _ (BW.alloc (Nat.le_trans HN.out BW.size) _)
        clear hK K hHeld
        try simp only [Act.put, List.setIfInBounds_toArray, List.set_cons_zero, List.set_cons_succ]
        replace F7 := F7.alloc (.cells #[] 9)
        have F8 : (w3.alloc (.cells #[] 9)).ownsRow N0 9 1 (.slice (some ⟨w3.heap.size, 0, none⟩) 0 0) 0 [] := own_base (World.ownsRow_made w3 #[] 0 (Nat.le_refl _) (by decide) rfl) (Nat.le_trans HN.out BW.size)
        replace BW := BW.alloc (Nat.le_trans HN.out BW.size) (.cells #[] 9)
        generalize hv78 : (some ⟨w3.heap.size, 0, none⟩ : Option Addr) = a78 at *
        generalize w3.alloc (.cells #[] 9) = w4 at *
        refine wpAnyH_ready (rs := [12, 20]) (by kernel_rfl) (by simp) ?_
        refine AllReadyH.cons (o := { dst := some 82, op := Op.call { callee := Callee.builtin Builtin.append, args := #[Operand.tmp 78, Operand.tmp 81], argTypes := #[34, 34] }, type := 34, pos := "law.go:70", after := #[{ on := 8, ground := Ground.data }, { on := 11, ground := Ground.data }, { on := 7, ground := Ground.chain }], guard := none }) rfl (fun K hK => ?_) (AllReadyH.cons (o := { dst := some 15, op := Op.alloc 38, type := 0, pos := "law.go:70", after := #[], guard := none }) rfl (fun K hK => ?_) (AllReadyH.nil))
        · refine step_strs (.tmp 78) (.tmp 81) rfl rfl N0 N0 (.slice a78 0 0) rfl F8 Al cl C.m.lines rfl (Hl.out.below BW) HLn.out (Nat.le_trans HN.out BW.size) ?_
          intro v' w5 o g hat
          try dsimp only
          obtain ⟨A4, c4, rfl⟩ := own_any o
          have BW2 := BW.grown g (Nat.le_trans HN.out BW.size) (fun j hj => (F8.lt j hj).1)
          replace F7 := own_only F7 ((Only.refl _ (fun k => (Value.slice a78 0 0).ownBlock = some k)).grown g (fun k hk _ => hk)) (fun k hk e => ne_of_types F7 F8 (by decide) k hk e)
          replace BW := BW2
          clear BW2 g hat
          have F12 := o
          clear o
          refine hK.out _ _ ?_ (fun hHeld => ?_)
          · exact HS.out _ BW
          clear hK K hHeld
          try simp only [Act.put, List.setIfInBounds_toArray, List.set_cons_zero, List.set_cons_succ]
          have hHeld := HS.out _ BW
          refine wpAnyH_take (i := 19) (oi := { dst := some 89, op := Op.build 38 #[(0, Operand.tmp 72), (1, Operand.tmp 77), (2, Operand.tmp 82), (3, Operand.tmp 85), (4, Operand.tmp 88)], type := 38, pos := "law.go:70", after := #[{ on := 2, ground := Ground.data }, { on := 7, ground := Ground.data }, { on := 12, ground := Ground.data }, { on := 15, ground := Ground.data }, { on := 18, ground := Ground.data }], guard := none }) (v := ?_) rfl (by kernel_rfl) (by kernel_rfl) (by kernel_rfl) (fun c a w h => hpan c (Act.put a _ _) a w rfl h) (Or.inl ⟨by rfl, ?_⟩) (by assumption) ?_
          rotate_left
          · intro wS hSw; (try dsimp only at hSw); go_simp; (try with_reducible rfl)
          try simp only [Act.put, List.setIfInBounds_toArray, List.set_cons_zero, List.set_cons_succ]
          clear hHeld
          refine wpAnyH_ready (rs := [20]) (by kernel_rfl) (by simp) ?_
          refine AllReadyH.cons (o := { dst := some 15, op := Op.alloc 38, type := 0, pos := "law.go:70", after := #[], guard := none }) rfl (fun K hK => ?_) AllReadyH.nil
          go_simp
          refine hK.out _ _ ?_ (fun hHeld => ?_)
          · exact HS.out _ (BW.alloc (Nat.le_trans HN.out BW.size) _)
          clear hK K hHeld
          try simp only [Act.put, List.setIfInBounds_toArray, List.set_cons_zero, List.set_cons_succ]
          replace F7 := F7.alloc (.cells #[.bool false, .string ⟨#[]⟩, .string ⟨#[]⟩, .slice none 0 0, .slice none 0 0, .bool false, .bool false, .bool false, .int .i64 0, .int .i64 0, .int .i64 0] 38)
          replace F12 := F12.alloc (.cells #[.bool false, .string ⟨#[]⟩, .string ⟨#[]⟩, .slice none 0 0, .slice none 0 0, .bool false, .bool false, .bool false, .int .i64 0, .int .i64 0, .int .i64 0] 38)
          have F20 : Bk (w5.alloc (.cells #[.bool false, .string ⟨#[]⟩, .string ⟨#[]⟩, .slice none 0 0, .slice none 0 0, .bool false, .bool false, .bool false, .int .i64 0, .int .i64 0, .int .i64 0] 38)) w5.heap.size 38 #[.bool false, .string ⟨#[]⟩, .string ⟨#[]⟩, .slice none 0 0, .slice none 0 0, .bool false, .bool false, .bool false, .int .i64 0, .int .i64 0, .int .i64 0] := Bk.new _ _ _
          have X15 := Lib.hid (Nat.le_trans HN.out BW.size)
          replace BW := BW.alloc (Nat.le_trans HN.out BW.size) (.cells #[.bool false, .string ⟨#[]⟩, .string ⟨#[]⟩, .slice none 0 0, .slice none 0 0, .bool false, .bool false, .bool false, .int .i64 0, .int .i64 0, .int .i64 0] 38)
          generalize hx15 : w5.heap.size = x15 at *
          generalize w5.alloc (.cells #[.bool false, .string ⟨#[]⟩, .string ⟨#[]⟩, .slice none 0 0, .slice none 0 0, .bool false, .bool false, .bool false, .int .i64 0, .int .i64 0, .int .i64 0] 38) = w6 at *
          have z0 := F20.cell 0
          have z1 := F20.cell 1
          have z2 := F20.cell 2
          have z3 := F20.cell 3
          have z4 := F20.cell 4
          have z5 := F20.cell 5
          have z6 := F20.cell 6
          have z7 := F20.cell 7
          have z8 := F20.cell 8
          have z9 := F20.cell 9
          have z10 := F20.cell 10
          simp at z0 z1 z2 z3 z4 z5 z6 z7 z8 z9 z10
          have y0 := F20.frozen 0
          have y1 := F20.frozen 1
          have y2 := F20.frozen 2
          have y3 := F20.frozen 3
          have y4 := F20.frozen 4
          have y5 := F20.frozen 5
          have y6 := F20.frozen 6
          have y7 := F20.frozen 7
          have y8 := F20.frozen 8
          have y9 := F20.frozen 9
          have y10 := F20.frozen 10
          have KF := (((((((((((F20.set_ 0 (.bool C.m.frm.null)).set_ 1 (.string C.m.frm.loc)).set_ 2 (.string C.m.frm.dom)).set_ 3 (.slice A3 C.m.to.length c3)).set_ 4 (.slice A4 C.m.lines.length c4)).set_ 5 (.bool C.m.flags.head)).set_ 6 (.bool C.m.flags.body)).set_ 7 (.bool C.m.flags.bad)).set_ 8 (.int .i64 C.m.flags.lines)).set_ 9 (.int .i64 C.m.flags.hops)).set_ 10 (.int .i64 C.m.bytes))
          simp at KF
          have BF := (((((((((((BW.setCell (p := ⟨x15, 0, none⟩) X15.out (.bool C.m.frm.null)).setCell (p := ⟨x15, 1, none⟩) X15.out (.string C.m.frm.loc)).setCell (p := ⟨x15, 2, none⟩) X15.out (.string C.m.frm.dom)).setCell (p := ⟨x15, 3, none⟩) X15.out (.slice A3 C.m.to.length c3)).setCell (p := ⟨x15, 4, none⟩) X15.out (.slice A4 C.m.lines.length c4)).setCell (p := ⟨x15, 5, none⟩) X15.out (.bool C.m.flags.head)).setCell (p := ⟨x15, 6, none⟩) X15.out (.bool C.m.flags.body)).setCell (p := ⟨x15, 7, none⟩) X15.out (.bool C.m.flags.bad)).setCell (p := ⟨x15, 8, none⟩) X15.out (.int .i64 C.m.flags.lines)).setCell (p := ⟨x15, 9, none⟩) X15.out (.int .i64 C.m.flags.hops)).setCell (p := ⟨x15, 10, none⟩) X15.out (.int .i64 C.m.bytes))
          have G7 := (own_set (own_set (own_set (own_set (own_set (own_set (own_set (own_set (own_set (own_set (own_set F7 (p := ⟨x15, 0, none⟩) (own_ne F7 F20 (by decide)) (.bool C.m.frm.null)) (p := ⟨x15, 1, none⟩) (own_ne F7 F20 (by decide)) (.string C.m.frm.loc)) (p := ⟨x15, 2, none⟩) (own_ne F7 F20 (by decide)) (.string C.m.frm.dom)) (p := ⟨x15, 3, none⟩) (own_ne F7 F20 (by decide)) (.slice A3 C.m.to.length c3)) (p := ⟨x15, 4, none⟩) (own_ne F7 F20 (by decide)) (.slice A4 C.m.lines.length c4)) (p := ⟨x15, 5, none⟩) (own_ne F7 F20 (by decide)) (.bool C.m.flags.head)) (p := ⟨x15, 6, none⟩) (own_ne F7 F20 (by decide)) (.bool C.m.flags.body)) (p := ⟨x15, 7, none⟩) (own_ne F7 F20 (by decide)) (.bool C.m.flags.bad)) (p := ⟨x15, 8, none⟩) (own_ne F7 F20 (by decide)) (.int .i64 C.m.flags.lines)) (p := ⟨x15, 9, none⟩) (own_ne F7 F20 (by decide)) (.int .i64 C.m.flags.hops)) (p := ⟨x15, 10, none⟩) (own_ne F7 F20 (by decide)) (.int .i64 C.m.bytes))
          have G12 := (own_set (own_set (own_set (own_set (own_set (own_set (own_set (own_set (own_set (own_set (own_set F12 (p := ⟨x15, 0, none⟩) (own_ne F12 F20 (by decide)) (.bool C.m.frm.null)) (p := ⟨x15, 1, none⟩) (own_ne F12 F20 (by decide)) (.string C.m.frm.loc)) (p := ⟨x15, 2, none⟩) (own_ne F12 F20 (by decide)) (.string C.m.frm.dom)) (p := ⟨x15, 3, none⟩) (own_ne F12 F20 (by decide)) (.slice A3 C.m.to.length c3)) (p := ⟨x15, 4, none⟩) (own_ne F12 F20 (by decide)) (.slice A4 C.m.lines.length c4)) (p := ⟨x15, 5, none⟩) (own_ne F12 F20 (by decide)) (.bool C.m.flags.head)) (p := ⟨x15, 6, none⟩) (own_ne F12 F20 (by decide)) (.bool C.m.flags.body)) (p := ⟨x15, 7, none⟩) (own_ne F12 F20 (by decide)) (.bool C.m.flags.bad)) (p := ⟨x15, 8, none⟩) (own_ne F12 F20 (by decide)) (.int .i64 C.m.flags.lines)) (p := ⟨x15, 9, none⟩) (own_ne F12 F20 (by decide)) (.int .i64 C.m.flags.hops)) (p := ⟨x15, 10, none⟩) (own_ne F12 F20 (by decide)) (.int .i64 C.m.bytes))
          refine wpAnyH_ready (rs := [21]) (by kernel_rfl) (by simp) ?_
          refine AllReadyH.cons (o := { dst := none, op := Op.store 38 (Operand.tmp 15) (Operand.tmp 89), type := 0, pos := "law.go:70", after := #[{ on := 20, ground := Ground.data }, { on := 19, ground := Ground.data }, { on := 12, ground := Ground.chain }, { on := 0, ground := Ground.phase }, { on := 1, ground := Ground.phase }, { on := 2, ground := Ground.phase }, { on := 3, ground := Ground.phase }, { on := 4, ground := Ground.phase }, { on := 5, ground := Ground.phase }, { on := 6, ground := Ground.phase }, { on := 7, ground := Ground.phase }, { on := 8, ground := Ground.phase }, { on := 9, ground := Ground.phase }, { on := 10, ground := Ground.phase }, { on := 11, ground := Ground.phase }, { on := 12, ground := Ground.phase }, { on := 13, ground := Ground.phase }, { on := 14, ground := Ground.phase }, { on := 15, ground := Ground.phase }, { on := 16, ground := Ground.phase }, { on := 17, ground := Ground.phase }, { on := 18, ground := Ground.phase }, { on := 19, ground := Ground.phase }, { on := 20, ground := Ground.phase }], guard := none }) rfl (fun K hK => ?_) AllReadyH.nil
          go_simp
          try dsimp only
          refine hK.out _ _ ?_ (fun hHeld => ?_)
          · exact HS.out _ BF
          clear hK K
          try simp only [Act.put, List.setIfInBounds_toArray, List.set_cons_zero, List.set_cons_succ]
          refine wpAnyH_done (by kernel_rfl) ?_ _
          go_wp2_with fail
          exact HE.out _ _ _ _ _ _ _ _ _ _ _ _ _ _ _ _ _ _ _ _ x15 A3 A4 c3 c4 _ X15.out KF G7 G12 BF
        · go_simp
          refine hK.out _ _ ?_ (fun hHeld => ?_)
          · exact HS.out _ (BW.alloc (Nat.le_trans HN.out BW.size) _)
          clear hK K hHeld
          try simp only [Act.put, List.setIfInBounds_toArray, List.set_cons_zero, List.set_cons_succ]
          replace F7 := F7.alloc (.cells #[.bool false, .string ⟨#[]⟩, .string ⟨#[]⟩, .slice none 0 0, .slice none 0 0, .bool false, .bool false, .bool false, .int .i64 0, .int .i64 0, .int .i64 0] 38)
          replace F8 := F8.alloc (.cells #[.bool false, .string ⟨#[]⟩, .string ⟨#[]⟩, .slice none 0 0, .slice none 0 0, .bool false, .bool false, .bool false, .int .i64 0, .int .i64 0, .int .i64 0] 38)
          have F20 : Bk (w4.alloc (.cells #[.bool false, .string ⟨#[]⟩, .string ⟨#[]⟩, .slice none 0 0, .slice none 0 0, .bool false, .bool false, .bool false, .int .i64 0, .int .i64 0, .int .i64 0] 38)) w4.heap.size 38 #[.bool false, .string ⟨#[]⟩, .string ⟨#[]⟩, .slice none 0 0, .slice none 0 0, .bool false, .bool false, .bool false, .int .i64 0, .int .i64 0, .int .i64 0] := Bk.new _ _ _
          have X15 := Lib.hid (Nat.le_trans HN.out BW.size)
          replace BW := BW.alloc (Nat.le_trans HN.out BW.size) (.cells #[.bool false, .string ⟨#[]⟩, .string ⟨#[]⟩, .slice none 0 0, .slice none 0 0, .bool false, .bool false, .bool false, .int .i64 0, .int .i64 0, .int .i64 0] 38)
          generalize hx15 : w4.heap.size = x15 at *
          generalize w4.alloc (.cells #[.bool false, .string ⟨#[]⟩, .string ⟨#[]⟩, .slice none 0 0, .slice none 0 0, .bool false, .bool false, .bool false, .int .i64 0, .int .i64 0, .int .i64 0] 38) = w5 at *
          refine wpAnyH_ready (rs := [12]) (by kernel_rfl) (by simp) ?_
          refine AllReadyH.cons (o := { dst := some 82, op := Op.call { callee := Callee.builtin Builtin.append, args := #[Operand.tmp 78, Operand.tmp 81], argTypes := #[34, 34] }, type := 34, pos := "law.go:70", after := #[{ on := 8, ground := Ground.data }, { on := 11, ground := Ground.data }, { on := 7, ground := Ground.chain }], guard := none }) rfl (fun K hK => ?_) AllReadyH.nil
          refine step_strs (.tmp 78) (.tmp 81) rfl rfl N0 N0 (.slice a78 0 0) rfl F8 Al cl C.m.lines rfl (Hl.out.below BW) HLn.out (Nat.le_trans HN.out BW.size) ?_
          intro v' w6 o g hat
          try dsimp only
          obtain ⟨A4, c4, rfl⟩ := own_any o
          have BW2 := BW.grown g (Nat.le_trans HN.out BW.size) (fun j hj => (F8.lt j hj).1)
          replace F7 := own_only F7 ((Only.refl _ (fun k => (Value.slice a78 0 0).ownBlock = some k)).grown g (fun k hk _ => hk)) (fun k hk e => ne_of_types F7 F8 (by decide) k hk e)
          replace F20 := F20.grown g (fun e => own_ne F8 F20 (by decide) e.symm)
          replace BW := BW2
          clear BW2 g hat
          have F12 := o
          clear o
          refine hK.out _ _ ?_ (fun hHeld => ?_)
          · exact HS.out _ BW
          clear hK K hHeld
          try simp only [Act.put, List.setIfInBounds_toArray, List.set_cons_zero, List.set_cons_succ]
          have hHeld := HS.out _ BW
          refine wpAnyH_take (i := 19) (oi := { dst := some 89, op := Op.build 38 #[(0, Operand.tmp 72), (1, Operand.tmp 77), (2, Operand.tmp 82), (3, Operand.tmp 85), (4, Operand.tmp 88)], type := 38, pos := "law.go:70", after := #[{ on := 2, ground := Ground.data }, { on := 7, ground := Ground.data }, { on := 12, ground := Ground.data }, { on := 15, ground := Ground.data }, { on := 18, ground := Ground.data }], guard := none }) (v := ?_) rfl (by kernel_rfl) (by kernel_rfl) (by kernel_rfl) (fun c a w h => hpan c (Act.put a _ _) a w rfl h) (Or.inl ⟨by rfl, ?_⟩) (by assumption) ?_
          rotate_left
          · intro wS hSw; (try dsimp only at hSw); go_simp; (try with_reducible rfl)
          try simp only [Act.put, List.setIfInBounds_toArray, List.set_cons_zero, List.set_cons_succ]
          clear hHeld
          have z0 := F20.cell 0
          have z1 := F20.cell 1
          have z2 := F20.cell 2
          have z3 := F20.cell 3
          have z4 := F20.cell 4
          have z5 := F20.cell 5
          have z6 := F20.cell 6
          have z7 := F20.cell 7
          have z8 := F20.cell 8
          have z9 := F20.cell 9
          have z10 := F20.cell 10
          simp at z0 z1 z2 z3 z4 z5 z6 z7 z8 z9 z10
          have y0 := F20.frozen 0
          have y1 := F20.frozen 1
          have y2 := F20.frozen 2
          have y3 := F20.frozen 3
          have y4 := F20.frozen 4
          have y5 := F20.frozen 5
          have y6 := F20.frozen 6
          have y7 := F20.frozen 7
          have y8 := F20.frozen 8
          have y9 := F20.frozen 9
          have y10 := F20.frozen 10
          have KF := (((((((((((F20.set_ 0 (.bool C.m.frm.null)).set_ 1 (.string C.m.frm.loc)).set_ 2 (.string C.m.frm.dom)).set_ 3 (.slice A3 C.m.to.length c3)).set_ 4 (.slice A4 C.m.lines.length c4)).set_ 5 (.bool C.m.flags.head)).set_ 6 (.bool C.m.flags.body)).set_ 7 (.bool C.m.flags.bad)).set_ 8 (.int .i64 C.m.flags.lines)).set_ 9 (.int .i64 C.m.flags.hops)).set_ 10 (.int .i64 C.m.bytes))
          simp at KF
          have BF := (((((((((((BW.setCell (p := ⟨x15, 0, none⟩) X15.out (.bool C.m.frm.null)).setCell (p := ⟨x15, 1, none⟩) X15.out (.string C.m.frm.loc)).setCell (p := ⟨x15, 2, none⟩) X15.out (.string C.m.frm.dom)).setCell (p := ⟨x15, 3, none⟩) X15.out (.slice A3 C.m.to.length c3)).setCell (p := ⟨x15, 4, none⟩) X15.out (.slice A4 C.m.lines.length c4)).setCell (p := ⟨x15, 5, none⟩) X15.out (.bool C.m.flags.head)).setCell (p := ⟨x15, 6, none⟩) X15.out (.bool C.m.flags.body)).setCell (p := ⟨x15, 7, none⟩) X15.out (.bool C.m.flags.bad)).setCell (p := ⟨x15, 8, none⟩) X15.out (.int .i64 C.m.flags.lines)).setCell (p := ⟨x15, 9, none⟩) X15.out (.int .i64 C.m.flags.hops)).setCell (p := ⟨x15, 10, none⟩) X15.out (.int .i64 C.m.bytes))
          have G7 := (own_set (own_set (own_set (own_set (own_set (own_set (own_set (own_set (own_set (own_set (own_set F7 (p := ⟨x15, 0, none⟩) (own_ne F7 F20 (by decide)) (.bool C.m.frm.null)) (p := ⟨x15, 1, none⟩) (own_ne F7 F20 (by decide)) (.string C.m.frm.loc)) (p := ⟨x15, 2, none⟩) (own_ne F7 F20 (by decide)) (.string C.m.frm.dom)) (p := ⟨x15, 3, none⟩) (own_ne F7 F20 (by decide)) (.slice A3 C.m.to.length c3)) (p := ⟨x15, 4, none⟩) (own_ne F7 F20 (by decide)) (.slice A4 C.m.lines.length c4)) (p := ⟨x15, 5, none⟩) (own_ne F7 F20 (by decide)) (.bool C.m.flags.head)) (p := ⟨x15, 6, none⟩) (own_ne F7 F20 (by decide)) (.bool C.m.flags.body)) (p := ⟨x15, 7, none⟩) (own_ne F7 F20 (by decide)) (.bool C.m.flags.bad)) (p := ⟨x15, 8, none⟩) (own_ne F7 F20 (by decide)) (.int .i64 C.m.flags.lines)) (p := ⟨x15, 9, none⟩) (own_ne F7 F20 (by decide)) (.int .i64 C.m.flags.hops)) (p := ⟨x15, 10, none⟩) (own_ne F7 F20 (by decide)) (.int .i64 C.m.bytes))
          have G12 := (own_set (own_set (own_set (own_set (own_set (own_set (own_set (own_set (own_set (own_set (own_set F12 (p := ⟨x15, 0, none⟩) (own_ne F12 F20 (by decide)) (.bool C.m.frm.null)) (p := ⟨x15, 1, none⟩) (own_ne F12 F20 (by decide)) (.string C.m.frm.loc)) (p := ⟨x15, 2, none⟩) (own_ne F12 F20 (by decide)) (.string C.m.frm.dom)) (p := ⟨x15, 3, none⟩) (own_ne F12 F20 (by decide)) (.slice A3 C.m.to.length c3)) (p := ⟨x15, 4, none⟩) (own_ne F12 F20 (by decide)) (.slice A4 C.m.lines.length c4)) (p := ⟨x15, 5, none⟩) (own_ne F12 F20 (by decide)) (.bool C.m.flags.head)) (p := ⟨x15, 6, none⟩) (own_ne F12 F20 (by decide)) (.bool C.m.flags.body)) (p := ⟨x15, 7, none⟩) (own_ne F12 F20 (by decide)) (.bool C.m.flags.bad)) (p := ⟨x15, 8, none⟩) (own_ne F12 F20 (by decide)) (.int .i64 C.m.flags.lines)) (p := ⟨x15, 9, none⟩) (own_ne F12 F20 (by decide)) (.int .i64 C.m.flags.hops)) (p := ⟨x15, 10, none⟩) (own_ne F12 F20 (by decide)) (.int .i64 C.m.bytes))
          refine wpAnyH_ready (rs := [21]) (by kernel_rfl) (by simp) ?_
          refine AllReadyH.cons (o := { dst := none, op := Op.store 38 (Operand.tmp 15) (Operand.tmp 89), type := 0, pos := "law.go:70", after := #[{ on := 20, ground := Ground.data }, { on := 19, ground := Ground.data }, { on := 12, ground := Ground.chain }, { on := 0, ground := Ground.phase }, { on := 1, ground := Ground.phase }, { on := 2, ground := Ground.phase }, { on := 3, ground := Ground.phase }, { on := 4, ground := Ground.phase }, { on := 5, ground := Ground.phase }, { on := 6, ground := Ground.phase }, { on := 7, ground := Ground.phase }, { on := 8, ground := Ground.phase }, { on := 9, ground := Ground.phase }, { on := 10, ground := Ground.phase }, { on := 11, ground := Ground.phase }, { on := 12, ground := Ground.phase }, { on := 13, ground := Ground.phase }, { on := 14, ground := Ground.phase }, { on := 15, ground := Ground.phase }, { on := 16, ground := Ground.phase }, { on := 17, ground := Ground.phase }, { on := 18, ground := Ground.phase }, { on := 19, ground := Ground.phase }, { on := 20, ground := Ground.phase }], guard := none }) rfl (fun K hK => ?_) AllReadyH.nil
          go_simp
          try dsimp only
          refine hK.out _ _ ?_ (fun hHeld => ?_)
          · exact HS.out _ BF
          clear hK K
          try simp only [Act.put, List.setIfInBounds_toArray, List.set_cons_zero, List.set_cons_succ]
          refine wpAnyH_done (by kernel_rfl) ?_ _
          go_wp2_with fail
          exact HE.out _ _ _ _ _ _ _ _ _ _ _ _ _ _ _ _ _ _ _ _ x15 A3 A4 c3 c4 _ X15.out KF G7 G12 BF
      · go_simp
        refine hK.out _ _ ?_ (fun hHeld => ?_)
        · exact HS.out _ (BW.alloc (Nat.le_trans HN.out BW.size) _)
        clear hK K hHeld
        try simp only [Act.put, List.setIfInBounds_toArray, List.set_cons_zero, List.set_cons_succ]
        replace F7 := F7.alloc (.cells #[.bool false, .string ⟨#[]⟩, .string ⟨#[]⟩, .slice none 0 0, .slice none 0 0, .bool false, .bool false, .bool false, .int .i64 0, .int .i64 0, .int .i64 0] 38)
        have F20 : Bk (w3.alloc (.cells #[.bool false, .string ⟨#[]⟩, .string ⟨#[]⟩, .slice none 0 0, .slice none 0 0, .bool false, .bool false, .bool false, .int .i64 0, .int .i64 0, .int .i64 0] 38)) w3.heap.size 38 #[.bool false, .string ⟨#[]⟩, .string ⟨#[]⟩, .slice none 0 0, .slice none 0 0, .bool false, .bool false, .bool false, .int .i64 0, .int .i64 0, .int .i64 0] := Bk.new _ _ _
        have X15 := Lib.hid (Nat.le_trans HN.out BW.size)
        replace BW := BW.alloc (Nat.le_trans HN.out BW.size) (.cells #[.bool false, .string ⟨#[]⟩, .string ⟨#[]⟩, .slice none 0 0, .slice none 0 0, .bool false, .bool false, .bool false, .int .i64 0, .int .i64 0, .int .i64 0] 38)
        generalize hx15 : w3.heap.size = x15 at *
        generalize w3.alloc (.cells #[.bool false, .string ⟨#[]⟩, .string ⟨#[]⟩, .slice none 0 0, .slice none 0 0, .bool false, .bool false, .bool false, .int .i64 0, .int .i64 0, .int .i64 0] 38) = w4 at *
        refine wpAnyH_ready (rs := [8]) (by kernel_rfl) (by simp) ?_
        refine AllReadyH.cons (o := { dst := some 78, op := Op.buildSlice 34 0 #[], type := 34, pos := "law.go:70", after := #[], guard := none }) rfl (fun K hK => ?_) AllReadyH.nil
        go_simp
        refine hK.out _ _ ?_ (fun hHeld => ?_)
        · exact HS.out _ (BW.alloc (Nat.le_trans HN.out BW.size) _)
        clear hK K hHeld
        try simp only [Act.put, List.setIfInBounds_toArray, List.set_cons_zero, List.set_cons_succ]
        replace F7 := F7.alloc (.cells #[] 9)
        replace F20 := F20.alloc (.cells #[] 9)
        have F8 : (w4.alloc (.cells #[] 9)).ownsRow N0 9 1 (.slice (some ⟨w4.heap.size, 0, none⟩) 0 0) 0 [] := own_base (World.ownsRow_made w4 #[] 0 (Nat.le_refl _) (by decide) rfl) (Nat.le_trans HN.out BW.size)
        replace BW := BW.alloc (Nat.le_trans HN.out BW.size) (.cells #[] 9)
        generalize hv78 : (some ⟨w4.heap.size, 0, none⟩ : Option Addr) = a78 at *
        generalize w4.alloc (.cells #[] 9) = w5 at *
        refine wpAnyH_ready (rs := [12]) (by kernel_rfl) (by simp) ?_
        refine AllReadyH.cons (o := { dst := some 82, op := Op.call { callee := Callee.builtin Builtin.append, args := #[Operand.tmp 78, Operand.tmp 81], argTypes := #[34, 34] }, type := 34, pos := "law.go:70", after := #[{ on := 8, ground := Ground.data }, { on := 11, ground := Ground.data }, { on := 7, ground := Ground.chain }], guard := none }) rfl (fun K hK => ?_) AllReadyH.nil
        refine step_strs (.tmp 78) (.tmp 81) rfl rfl N0 N0 (.slice a78 0 0) rfl F8 Al cl C.m.lines rfl (Hl.out.below BW) HLn.out (Nat.le_trans HN.out BW.size) ?_
        intro v' w6 o g hat
        try dsimp only
        obtain ⟨A4, c4, rfl⟩ := own_any o
        have BW2 := BW.grown g (Nat.le_trans HN.out BW.size) (fun j hj => (F8.lt j hj).1)
        replace F7 := own_only F7 ((Only.refl _ (fun k => (Value.slice a78 0 0).ownBlock = some k)).grown g (fun k hk _ => hk)) (fun k hk e => ne_of_types F7 F8 (by decide) k hk e)
        replace F20 := F20.grown g (fun e => own_ne F8 F20 (by decide) e.symm)
        replace BW := BW2
        clear BW2 g hat
        have F12 := o
        clear o
        refine hK.out _ _ ?_ (fun hHeld => ?_)
        · exact HS.out _ BW
        clear hK K hHeld
        try simp only [Act.put, List.setIfInBounds_toArray, List.set_cons_zero, List.set_cons_succ]
        have hHeld := HS.out _ BW
        refine wpAnyH_take (i := 19) (oi := { dst := some 89, op := Op.build 38 #[(0, Operand.tmp 72), (1, Operand.tmp 77), (2, Operand.tmp 82), (3, Operand.tmp 85), (4, Operand.tmp 88)], type := 38, pos := "law.go:70", after := #[{ on := 2, ground := Ground.data }, { on := 7, ground := Ground.data }, { on := 12, ground := Ground.data }, { on := 15, ground := Ground.data }, { on := 18, ground := Ground.data }], guard := none }) (v := ?_) rfl (by kernel_rfl) (by kernel_rfl) (by kernel_rfl) (fun c a w h => hpan c (Act.put a _ _) a w rfl h) (Or.inl ⟨by rfl, ?_⟩) (by assumption) ?_
        rotate_left
        · intro wS hSw; (try dsimp only at hSw); go_simp; (try with_reducible rfl)
        try simp only [Act.put, List.setIfInBounds_toArray, List.set_cons_zero, List.set_cons_succ]
        clear hHeld
        have z0 := F20.cell 0
        have z1 := F20.cell 1
        have z2 := F20.cell 2
        have z3 := F20.cell 3
        have z4 := F20.cell 4
        have z5 := F20.cell 5
        have z6 := F20.cell 6
        have z7 := F20.cell 7
        have z8 := F20.cell 8
        have z9 := F20.cell 9
        have z10 := F20.cell 10
        simp at z0 z1 z2 z3 z4 z5 z6 z7 z8 z9 z10
        have y0 := F20.frozen 0
        have y1 := F20.frozen 1
        have y2 := F20.frozen 2
        have y3 := F20.frozen 3
        have y4 := F20.frozen 4
        have y5 := F20.frozen 5
        have y6 := F20.frozen 6
        have y7 := F20.frozen 7
        have y8 := F20.frozen 8
        have y9 := F20.frozen 9
        have y10 := F20.frozen 10
        have KF := (((((((((((F20.set_ 0 (.bool C.m.frm.null)).set_ 1 (.string C.m.frm.loc)).set_ 2 (.string C.m.frm.dom)).set_ 3 (.slice A3 C.m.to.length c3)).set_ 4 (.slice A4 C.m.lines.length c4)).set_ 5 (.bool C.m.flags.head)).set_ 6 (.bool C.m.flags.body)).set_ 7 (.bool C.m.flags.bad)).set_ 8 (.int .i64 C.m.flags.lines)).set_ 9 (.int .i64 C.m.flags.hops)).set_ 10 (.int .i64 C.m.bytes))
        simp at KF
        have BF := (((((((((((BW.setCell (p := ⟨x15, 0, none⟩) X15.out (.bool C.m.frm.null)).setCell (p := ⟨x15, 1, none⟩) X15.out (.string C.m.frm.loc)).setCell (p := ⟨x15, 2, none⟩) X15.out (.string C.m.frm.dom)).setCell (p := ⟨x15, 3, none⟩) X15.out (.slice A3 C.m.to.length c3)).setCell (p := ⟨x15, 4, none⟩) X15.out (.slice A4 C.m.lines.length c4)).setCell (p := ⟨x15, 5, none⟩) X15.out (.bool C.m.flags.head)).setCell (p := ⟨x15, 6, none⟩) X15.out (.bool C.m.flags.body)).setCell (p := ⟨x15, 7, none⟩) X15.out (.bool C.m.flags.bad)).setCell (p := ⟨x15, 8, none⟩) X15.out (.int .i64 C.m.flags.lines)).setCell (p := ⟨x15, 9, none⟩) X15.out (.int .i64 C.m.flags.hops)).setCell (p := ⟨x15, 10, none⟩) X15.out (.int .i64 C.m.bytes))
        have G7 := (own_set (own_set (own_set (own_set (own_set (own_set (own_set (own_set (own_set (own_set (own_set F7 (p := ⟨x15, 0, none⟩) (own_ne F7 F20 (by decide)) (.bool C.m.frm.null)) (p := ⟨x15, 1, none⟩) (own_ne F7 F20 (by decide)) (.string C.m.frm.loc)) (p := ⟨x15, 2, none⟩) (own_ne F7 F20 (by decide)) (.string C.m.frm.dom)) (p := ⟨x15, 3, none⟩) (own_ne F7 F20 (by decide)) (.slice A3 C.m.to.length c3)) (p := ⟨x15, 4, none⟩) (own_ne F7 F20 (by decide)) (.slice A4 C.m.lines.length c4)) (p := ⟨x15, 5, none⟩) (own_ne F7 F20 (by decide)) (.bool C.m.flags.head)) (p := ⟨x15, 6, none⟩) (own_ne F7 F20 (by decide)) (.bool C.m.flags.body)) (p := ⟨x15, 7, none⟩) (own_ne F7 F20 (by decide)) (.bool C.m.flags.bad)) (p := ⟨x15, 8, none⟩) (own_ne F7 F20 (by decide)) (.int .i64 C.m.flags.lines)) (p := ⟨x15, 9, none⟩) (own_ne F7 F20 (by decide)) (.int .i64 C.m.flags.hops)) (p := ⟨x15, 10, none⟩) (own_ne F7 F20 (by decide)) (.int .i64 C.m.bytes))
        have G12 := (own_set (own_set (own_set (own_set (own_set (own_set (own_set (own_set (own_set (own_set (own_set F12 (p := ⟨x15, 0, none⟩) (own_ne F12 F20 (by decide)) (.bool C.m.frm.null)) (p := ⟨x15, 1, none⟩) (own_ne F12 F20 (by decide)) (.string C.m.frm.loc)) (p := ⟨x15, 2, none⟩) (own_ne F12 F20 (by decide)) (.string C.m.frm.dom)) (p := ⟨x15, 3, none⟩) (own_ne F12 F20 (by decide)) (.slice A3 C.m.to.length c3)) (p := ⟨x15, 4, none⟩) (own_ne F12 F20 (by decide)) (.slice A4 C.m.lines.length c4)) (p := ⟨x15, 5, none⟩) (own_ne F12 F20 (by decide)) (.bool C.m.flags.head)) (p := ⟨x15, 6, none⟩) (own_ne F12 F20 (by decide)) (.bool C.m.flags.body)) (p := ⟨x15, 7, none⟩) (own_ne F12 F20 (by decide)) (.bool C.m.flags.bad)) (p := ⟨x15, 8, none⟩) (own_ne F12 F20 (by decide)) (.int .i64 C.m.flags.lines)) (p := ⟨x15, 9, none⟩) (own_ne F12 F20 (by decide)) (.int .i64 C.m.flags.hops)) (p := ⟨x15, 10, none⟩) (own_ne F12 F20 (by decide)) (.int .i64 C.m.bytes))
        refine wpAnyH_ready (rs := [21]) (by kernel_rfl) (by simp) ?_
        refine AllReadyH.cons (o := { dst := none, op := Op.store 38 (Operand.tmp 15) (Operand.tmp 89), type := 0, pos := "law.go:70", after := #[{ on := 20, ground := Ground.data }, { on := 19, ground := Ground.data }, { on := 12, ground := Ground.chain }, { on := 0, ground := Ground.phase }, { on := 1, ground := Ground.phase }, { on := 2, ground := Ground.phase }, { on := 3, ground := Ground.phase }, { on := 4, ground := Ground.phase }, { on := 5, ground := Ground.phase }, { on := 6, ground := Ground.phase }, { on := 7, ground := Ground.phase }, { on := 8, ground := Ground.phase }, { on := 9, ground := Ground.phase }, { on := 10, ground := Ground.phase }, { on := 11, ground := Ground.phase }, { on := 12, ground := Ground.phase }, { on := 13, ground := Ground.phase }, { on := 14, ground := Ground.phase }, { on := 15, ground := Ground.phase }, { on := 16, ground := Ground.phase }, { on := 17, ground := Ground.phase }, { on := 18, ground := Ground.phase }, { on := 19, ground := Ground.phase }, { on := 20, ground := Ground.phase }], guard := none }) rfl (fun K hK => ?_) AllReadyH.nil
        go_simp
        try dsimp only
        refine hK.out _ _ ?_ (fun hHeld => ?_)
        · exact HS.out _ BF
        clear hK K
        try simp only [Act.put, List.setIfInBounds_toArray, List.set_cons_zero, List.set_cons_succ]
        refine wpAnyH_done (by kernel_rfl) ?_ _
        go_wp2_with fail
        exact HE.out _ _ _ _ _ _ _ _ _ _ _ _ _ _ _ _ _ _ _ _ x15 A3 A4 c3 c4 _ X15.out KF G7 G12 BF
    · go_simp
      refine hK.out _ _ ?_ (fun hHeld => ?_)
      · exact HS.out _ (BW.alloc (Nat.le_trans HN.out BW.size) _)
      clear hK K hHeld
      try simp only [Act.put, List.setIfInBounds_toArray, List.set_cons_zero, List.set_cons_succ]
      replace F3 := F3.alloc (.cells #[] 9)
      have F8 : (w2.alloc (.cells #[] 9)).ownsRow N0 9 1 (.slice (some ⟨w2.heap.size, 0, none⟩) 0 0) 0 [] := own_base (World.ownsRow_made w2 #[] 0 (Nat.le_refl _) (by decide) rfl) (Nat.le_trans HN.out BW.size)
      replace BW := BW.alloc (Nat.le_trans HN.out BW.size) (.cells #[] 9)
      generalize hv78 : (some ⟨w2.heap.size, 0, none⟩ : Option Addr) = a78 at *
      generalize w2.alloc (.cells #[] 9) = w3 at *
      refine wpAnyH_ready (rs := [7, 20]) (by kernel_rfl) (by simp) ?_
      refine AllReadyH.cons (o := { dst := some 77, op := Op.call { callee := Callee.builtin Builtin.append, args := #[Operand.tmp 73, Operand.tmp 76], argTypes := #[33, 33] }, type := 33, pos := "law.go:70", after := #[{ on := 3, ground := Ground.data }, { on := 6, ground := Ground.data }], guard := none }) rfl (fun K hK => ?_) (AllReadyH.cons (o := { dst := some 15, op := Op.alloc 38, type := 0, pos := "law.go:70", after := #[], guard := none }) rfl (fun K hK => ?_) (AllReadyH.nil))
      · refine step_paths (.tmp 73) (.tmp 76) rfl rfl N0 N0 (.slice a73 0 0) rfl F3 At ct C.m.to rfl (Ht.out.below BW) HT.out (Nat.le_trans HN.out BW.size) ?_
        intro v' w4 o g hat
        try dsimp only
        obtain ⟨A3, c3, rfl⟩ := own_any o
        have BW2 := BW.grown g (Nat.le_trans HN.out BW.size) (fun j hj => (F3.lt j hj).1)
        replace F8 := own_only F8 ((Only.refl _ (fun k => (Value.slice a73 0 0).ownBlock = some k)).grown g (fun k hk _ => hk)) (fun k hk e => ne_of_types F8 F3 (by decide) k hk e)
        replace BW := BW2
        clear BW2 g hat
        have F7 := o
        clear o
        refine hK.out _ _ ?_ (fun hHeld => ?_)
        · exact HS.out _ BW
        clear hK K hHeld
        try simp only [Act.put, List.setIfInBounds_toArray, List.set_cons_zero, List.set_cons_succ]
        refine wpAnyH_ready (rs := [12, 20]) (by kernel_rfl) (by simp) ?_
        refine AllReadyH.cons (o := { dst := some 82, op := Op.call { callee := Callee.builtin Builtin.append, args := #[Operand.tmp 78, Operand.tmp 81], argTypes := #[34, 34] }, type := 34, pos := "law.go:70", after := #[{ on := 8, ground := Ground.data }, { on := 11, ground := Ground.data }, { on := 7, ground := Ground.chain }], guard := none }) rfl (fun K hK => ?_) (AllReadyH.cons (o := { dst := some 15, op := Op.alloc 38, type := 0, pos := "law.go:70", after := #[], guard := none }) rfl (fun K hK => ?_) (AllReadyH.nil))
        · refine step_strs (.tmp 78) (.tmp 81) rfl rfl N0 N0 (.slice a78 0 0) rfl F8 Al cl C.m.lines rfl (Hl.out.below BW) HLn.out (Nat.le_trans HN.out BW.size) ?_
          intro v' w5 o g hat
          try dsimp only
          obtain ⟨A4, c4, rfl⟩ := own_any o
          have BW2 := BW.grown g (Nat.le_trans HN.out BW.size) (fun j hj => (F8.lt j hj).1)
          replace F7 := own_only F7 ((Only.refl _ (fun k => (Value.slice a78 0 0).ownBlock = some k)).grown g (fun k hk _ => hk)) (fun k hk e => ne_of_types F7 F8 (by decide) k hk e)
          replace BW := BW2
          clear BW2 g hat
          have F12 := o
          clear o
          refine hK.out _ _ ?_ (fun hHeld => ?_)
          · exact HS.out _ BW
          clear hK K hHeld
          try simp only [Act.put, List.setIfInBounds_toArray, List.set_cons_zero, List.set_cons_succ]
          have hHeld := HS.out _ BW
          refine wpAnyH_take (i := 19) (oi := { dst := some 89, op := Op.build 38 #[(0, Operand.tmp 72), (1, Operand.tmp 77), (2, Operand.tmp 82), (3, Operand.tmp 85), (4, Operand.tmp 88)], type := 38, pos := "law.go:70", after := #[{ on := 2, ground := Ground.data }, { on := 7, ground := Ground.data }, { on := 12, ground := Ground.data }, { on := 15, ground := Ground.data }, { on := 18, ground := Ground.data }], guard := none }) (v := ?_) rfl (by kernel_rfl) (by kernel_rfl) (by kernel_rfl) (fun c a w h => hpan c (Act.put a _ _) a w rfl h) (Or.inl ⟨by rfl, ?_⟩) (by assumption) ?_
          rotate_left
          · intro wS hSw; (try dsimp only at hSw); go_simp; (try with_reducible rfl)
          try simp only [Act.put, List.setIfInBounds_toArray, List.set_cons_zero, List.set_cons_succ]
          clear hHeld
          refine wpAnyH_ready (rs := [20]) (by kernel_rfl) (by simp) ?_
          refine AllReadyH.cons (o := { dst := some 15, op := Op.alloc 38, type := 0, pos := "law.go:70", after := #[], guard := none }) rfl (fun K hK => ?_) AllReadyH.nil
          go_simp
          refine hK.out _ _ ?_ (fun hHeld => ?_)
          · exact HS.out _ (BW.alloc (Nat.le_trans HN.out BW.size) _)
          clear hK K hHeld
          try simp only [Act.put, List.setIfInBounds_toArray, List.set_cons_zero, List.set_cons_succ]
          replace F7 := F7.alloc (.cells #[.bool false, .string ⟨#[]⟩, .string ⟨#[]⟩, .slice none 0 0, .slice none 0 0, .bool false, .bool false, .bool false, .int .i64 0, .int .i64 0, .int .i64 0] 38)
          replace F12 := F12.alloc (.cells #[.bool false, .string ⟨#[]⟩, .string ⟨#[]⟩, .slice none 0 0, .slice none 0 0, .bool false, .bool false, .bool false, .int .i64 0, .int .i64 0, .int .i64 0] 38)
          have F20 : Bk (w5.alloc (.cells #[.bool false, .string ⟨#[]⟩, .string ⟨#[]⟩, .slice none 0 0, .slice none 0 0, .bool false, .bool false, .bool false, .int .i64 0, .int .i64 0, .int .i64 0] 38)) w5.heap.size 38 #[.bool false, .string ⟨#[]⟩, .string ⟨#[]⟩, .slice none 0 0, .slice none 0 0, .bool false, .bool false, .bool false, .int .i64 0, .int .i64 0, .int .i64 0] := Bk.new _ _ _
          have X15 := Lib.hid (Nat.le_trans HN.out BW.size)
          replace BW := BW.alloc (Nat.le_trans HN.out BW.size) (.cells #[.bool false, .string ⟨#[]⟩, .string ⟨#[]⟩, .slice none 0 0, .slice none 0 0, .bool false, .bool false, .bool false, .int .i64 0, .int .i64 0, .int .i64 0] 38)
          generalize hx15 : w5.heap.size = x15 at *
          generalize w5.alloc (.cells #[.bool false, .string ⟨#[]⟩, .string ⟨#[]⟩, .slice none 0 0, .slice none 0 0, .bool false, .bool false, .bool false, .int .i64 0, .int .i64 0, .int .i64 0] 38) = w6 at *
          have z0 := F20.cell 0
          have z1 := F20.cell 1
          have z2 := F20.cell 2
          have z3 := F20.cell 3
          have z4 := F20.cell 4
          have z5 := F20.cell 5
          have z6 := F20.cell 6
          have z7 := F20.cell 7
          have z8 := F20.cell 8
          have z9 := F20.cell 9
          have z10 := F20.cell 10
          simp at z0 z1 z2 z3 z4 z5 z6 z7 z8 z9 z10
          have y0 := F20.frozen 0
          have y1 := F20.frozen 1
          have y2 := F20.frozen 2
          have y3 := F20.frozen 3
          have y4 := F20.frozen 4
          have y5 := F20.frozen 5
          have y6 := F20.frozen 6
          have y7 := F20.frozen 7
          have y8 := F20.frozen 8
          have y9 := F20.frozen 9
          have y10 := F20.frozen 10
          have KF := (((((((((((F20.set_ 0 (.bool C.m.frm.null)).set_ 1 (.string C.m.frm.loc)).set_ 2 (.string C.m.frm.dom)).set_ 3 (.slice A3 C.m.to.length c3)).set_ 4 (.slice A4 C.m.lines.length c4)).set_ 5 (.bool C.m.flags.head)).set_ 6 (.bool C.m.flags.body)).set_ 7 (.bool C.m.flags.bad)).set_ 8 (.int .i64 C.m.flags.lines)).set_ 9 (.int .i64 C.m.flags.hops)).set_ 10 (.int .i64 C.m.bytes))
          simp at KF
          have BF := (((((((((((BW.setCell (p := ⟨x15, 0, none⟩) X15.out (.bool C.m.frm.null)).setCell (p := ⟨x15, 1, none⟩) X15.out (.string C.m.frm.loc)).setCell (p := ⟨x15, 2, none⟩) X15.out (.string C.m.frm.dom)).setCell (p := ⟨x15, 3, none⟩) X15.out (.slice A3 C.m.to.length c3)).setCell (p := ⟨x15, 4, none⟩) X15.out (.slice A4 C.m.lines.length c4)).setCell (p := ⟨x15, 5, none⟩) X15.out (.bool C.m.flags.head)).setCell (p := ⟨x15, 6, none⟩) X15.out (.bool C.m.flags.body)).setCell (p := ⟨x15, 7, none⟩) X15.out (.bool C.m.flags.bad)).setCell (p := ⟨x15, 8, none⟩) X15.out (.int .i64 C.m.flags.lines)).setCell (p := ⟨x15, 9, none⟩) X15.out (.int .i64 C.m.flags.hops)).setCell (p := ⟨x15, 10, none⟩) X15.out (.int .i64 C.m.bytes))
          have G7 := (own_set (own_set (own_set (own_set (own_set (own_set (own_set (own_set (own_set (own_set (own_set F7 (p := ⟨x15, 0, none⟩) (own_ne F7 F20 (by decide)) (.bool C.m.frm.null)) (p := ⟨x15, 1, none⟩) (own_ne F7 F20 (by decide)) (.string C.m.frm.loc)) (p := ⟨x15, 2, none⟩) (own_ne F7 F20 (by decide)) (.string C.m.frm.dom)) (p := ⟨x15, 3, none⟩) (own_ne F7 F20 (by decide)) (.slice A3 C.m.to.length c3)) (p := ⟨x15, 4, none⟩) (own_ne F7 F20 (by decide)) (.slice A4 C.m.lines.length c4)) (p := ⟨x15, 5, none⟩) (own_ne F7 F20 (by decide)) (.bool C.m.flags.head)) (p := ⟨x15, 6, none⟩) (own_ne F7 F20 (by decide)) (.bool C.m.flags.body)) (p := ⟨x15, 7, none⟩) (own_ne F7 F20 (by decide)) (.bool C.m.flags.bad)) (p := ⟨x15, 8, none⟩) (own_ne F7 F20 (by decide)) (.int .i64 C.m.flags.lines)) (p := ⟨x15, 9, none⟩) (own_ne F7 F20 (by decide)) (.int .i64 C.m.flags.hops)) (p := ⟨x15, 10, none⟩) (own_ne F7 F20 (by decide)) (.int .i64 C.m.bytes))
          have G12 := (own_set (own_set (own_set (own_set (own_set (own_set (own_set (own_set (own_set (own_set (own_set F12 (p := ⟨x15, 0, none⟩) (own_ne F12 F20 (by decide)) (.bool C.m.frm.null)) (p := ⟨x15, 1, none⟩) (own_ne F12 F20 (by decide)) (.string C.m.frm.loc)) (p := ⟨x15, 2, none⟩) (own_ne F12 F20 (by decide)) (.string C.m.frm.dom)) (p := ⟨x15, 3, none⟩) (own_ne F12 F20 (by decide)) (.slice A3 C.m.to.length c3)) (p := ⟨x15, 4, none⟩) (own_ne F12 F20 (by decide)) (.slice A4 C.m.lines.length c4)) (p := ⟨x15, 5, none⟩) (own_ne F12 F20 (by decide)) (.bool C.m.flags.head)) (p := ⟨x15, 6, none⟩) (own_ne F12 F20 (by decide)) (.bool C.m.flags.body)) (p := ⟨x15, 7, none⟩) (own_ne F12 F20 (by decide)) (.bool C.m.flags.bad)) (p := ⟨x15, 8, none⟩) (own_ne F12 F20 (by decide)) (.int .i64 C.m.flags.lines)) (p := ⟨x15, 9, none⟩) (own_ne F12 F20 (by decide)) (.int .i64 C.m.flags.hops)) (p := ⟨x15, 10, none⟩) (own_ne F12 F20 (by decide)) (.int .i64 C.m.bytes))
          refine wpAnyH_ready (rs := [21]) (by kernel_rfl) (by simp) ?_
          refine AllReadyH.cons (o := { dst := none, op := Op.store 38 (Operand.tmp 15) (Operand.tmp 89), type := 0, pos := "law.go:70", after := #[{ on := 20, ground := Ground.data }, { on := 19, ground := Ground.data }, { on := 12, ground := Ground.chain }, { on := 0, ground := Ground.phase }, { on := 1, ground := Ground.phase }, { on := 2, ground := Ground.phase }, { on := 3, ground := Ground.phase }, { on := 4, ground := Ground.phase }, { on := 5, ground := Ground.phase }, { on := 6, ground := Ground.phase }, { on := 7, ground := Ground.phase }, { on := 8, ground := Ground.phase }, { on := 9, ground := Ground.phase }, { on := 10, ground := Ground.phase }, { on := 11, ground := Ground.phase }, { on := 12, ground := Ground.phase }, { on := 13, ground := Ground.phase }, { on := 14, ground := Ground.phase }, { on := 15, ground := Ground.phase }, { on := 16, ground := Ground.phase }, { on := 17, ground := Ground.phase }, { on := 18, ground := Ground.phase }, { on := 19, ground := Ground.phase }, { on := 20, ground := Ground.phase }], guard := none }) rfl (fun K hK => ?_) AllReadyH.nil
          go_simp
          try dsimp only
          refine hK.out _ _ ?_ (fun hHeld => ?_)
          · exact HS.out _ BF
          clear hK K
          try simp only [Act.put, List.setIfInBounds_toArray, List.set_cons_zero, List.set_cons_succ]
          refine wpAnyH_done (by kernel_rfl) ?_ _
          go_wp2_with fail
          exact HE.out _ _ _ _ _ _ _ _ _ _ _ _ _ _ _ _ _ _ _ _ x15 A3 A4 c3 c4 _ X15.out KF G7 G12 BF
        · go_simp
          refine hK.out _ _ ?_ (fun hHeld => ?_)
          · exact HS.out _ (BW.alloc (Nat.le_trans HN.out BW.size) _)
          clear hK K hHeld
          try simp only [Act.put, List.setIfInBounds_toArray, List.set_cons_zero, List.set_cons_succ]
          replace F7 := F7.alloc (.cells #[.bool false, .string ⟨#[]⟩, .string ⟨#[]⟩, .slice none 0 0, .slice none 0 0, .bool false, .bool false, .bool false, .int .i64 0, .int .i64 0, .int .i64 0] 38)
          replace F8 := F8.alloc (.cells #[.bool false, .string ⟨#[]⟩, .string ⟨#[]⟩, .slice none 0 0, .slice none 0 0, .bool false, .bool false, .bool false, .int .i64 0, .int .i64 0, .int .i64 0] 38)
          have F20 : Bk (w4.alloc (.cells #[.bool false, .string ⟨#[]⟩, .string ⟨#[]⟩, .slice none 0 0, .slice none 0 0, .bool false, .bool false, .bool false, .int .i64 0, .int .i64 0, .int .i64 0] 38)) w4.heap.size 38 #[.bool false, .string ⟨#[]⟩, .string ⟨#[]⟩, .slice none 0 0, .slice none 0 0, .bool false, .bool false, .bool false, .int .i64 0, .int .i64 0, .int .i64 0] := Bk.new _ _ _
          have X15 := Lib.hid (Nat.le_trans HN.out BW.size)
          replace BW := BW.alloc (Nat.le_trans HN.out BW.size) (.cells #[.bool false, .string ⟨#[]⟩, .string ⟨#[]⟩, .slice none 0 0, .slice none 0 0, .bool false, .bool false, .bool false, .int .i64 0, .int .i64 0, .int .i64 0] 38)
          generalize hx15 : w4.heap.size = x15 at *
          generalize w4.alloc (.cells #[.bool false, .string ⟨#[]⟩, .string ⟨#[]⟩, .slice none 0 0, .slice none 0 0, .bool false, .bool false, .bool false, .int .i64 0, .int .i64 0, .int .i64 0] 38) = w5 at *
          refine wpAnyH_ready (rs := [12]) (by kernel_rfl) (by simp) ?_
          refine AllReadyH.cons (o := { dst := some 82, op := Op.call { callee := Callee.builtin Builtin.append, args := #[Operand.tmp 78, Operand.tmp 81], argTypes := #[34, 34] }, type := 34, pos := "law.go:70", after := #[{ on := 8, ground := Ground.data }, { on := 11, ground := Ground.data }, { on := 7, ground := Ground.chain }], guard := none }) rfl (fun K hK => ?_) AllReadyH.nil
          refine step_strs (.tmp 78) (.tmp 81) rfl rfl N0 N0 (.slice a78 0 0) rfl F8 Al cl C.m.lines rfl (Hl.out.below BW) HLn.out (Nat.le_trans HN.out BW.size) ?_
          intro v' w6 o g hat
          try dsimp only
          obtain ⟨A4, c4, rfl⟩ := own_any o
          have BW2 := BW.grown g (Nat.le_trans HN.out BW.size) (fun j hj => (F8.lt j hj).1)
          replace F7 := own_only F7 ((Only.refl _ (fun k => (Value.slice a78 0 0).ownBlock = some k)).grown g (fun k hk _ => hk)) (fun k hk e => ne_of_types F7 F8 (by decide) k hk e)
          replace F20 := F20.grown g (fun e => own_ne F8 F20 (by decide) e.symm)
          replace BW := BW2
          clear BW2 g hat
          have F12 := o
          clear o
          refine hK.out _ _ ?_ (fun hHeld => ?_)
          · exact HS.out _ BW
          clear hK K hHeld
          try simp only [Act.put, List.setIfInBounds_toArray, List.set_cons_zero, List.set_cons_succ]
          have hHeld := HS.out _ BW
          refine wpAnyH_take (i := 19) (oi := { dst := some 89, op := Op.build 38 #[(0, Operand.tmp 72), (1, Operand.tmp 77), (2, Operand.tmp 82), (3, Operand.tmp 85), (4, Operand.tmp 88)], type := 38, pos := "law.go:70", after := #[{ on := 2, ground := Ground.data }, { on := 7, ground := Ground.data }, { on := 12, ground := Ground.data }, { on := 15, ground := Ground.data }, { on := 18, ground := Ground.data }], guard := none }) (v := ?_) rfl (by kernel_rfl) (by kernel_rfl) (by kernel_rfl) (fun c a w h => hpan c (Act.put a _ _) a w rfl h) (Or.inl ⟨by rfl, ?_⟩) (by assumption) ?_
          rotate_left
          · intro wS hSw; (try dsimp only at hSw); go_simp; (try with_reducible rfl)
          try simp only [Act.put, List.setIfInBounds_toArray, List.set_cons_zero, List.set_cons_succ]
          clear hHeld
          have z0 := F20.cell 0
          have z1 := F20.cell 1
          have z2 := F20.cell 2
          have z3 := F20.cell 3
          have z4 := F20.cell 4
          have z5 := F20.cell 5
          have z6 := F20.cell 6
          have z7 := F20.cell 7
          have z8 := F20.cell 8
          have z9 := F20.cell 9
          have z10 := F20.cell 10
          simp at z0 z1 z2 z3 z4 z5 z6 z7 z8 z9 z10
          have y0 := F20.frozen 0
          have y1 := F20.frozen 1
          have y2 := F20.frozen 2
          have y3 := F20.frozen 3
          have y4 := F20.frozen 4
          have y5 := F20.frozen 5
          have y6 := F20.frozen 6
          have y7 := F20.frozen 7
          have y8 := F20.frozen 8
          have y9 := F20.frozen 9
          have y10 := F20.frozen 10
          have KF := (((((((((((F20.set_ 0 (.bool C.m.frm.null)).set_ 1 (.string C.m.frm.loc)).set_ 2 (.string C.m.frm.dom)).set_ 3 (.slice A3 C.m.to.length c3)).set_ 4 (.slice A4 C.m.lines.length c4)).set_ 5 (.bool C.m.flags.head)).set_ 6 (.bool C.m.flags.body)).set_ 7 (.bool C.m.flags.bad)).set_ 8 (.int .i64 C.m.flags.lines)).set_ 9 (.int .i64 C.m.flags.hops)).set_ 10 (.int .i64 C.m.bytes))
          simp at KF
          have BF := (((((((((((BW.setCell (p := ⟨x15, 0, none⟩) X15.out (.bool C.m.frm.null)).setCell (p := ⟨x15, 1, none⟩) X15.out (.string C.m.frm.loc)).setCell (p := ⟨x15, 2, none⟩) X15.out (.string C.m.frm.dom)).setCell (p := ⟨x15, 3, none⟩) X15.out (.slice A3 C.m.to.length c3)).setCell (p := ⟨x15, 4, none⟩) X15.out (.slice A4 C.m.lines.length c4)).setCell (p := ⟨x15, 5, none⟩) X15.out (.bool C.m.flags.head)).setCell (p := ⟨x15, 6, none⟩) X15.out (.bool C.m.flags.body)).setCell (p := ⟨x15, 7, none⟩) X15.out (.bool C.m.flags.bad)).setCell (p := ⟨x15, 8, none⟩) X15.out (.int .i64 C.m.flags.lines)).setCell (p := ⟨x15, 9, none⟩) X15.out (.int .i64 C.m.flags.hops)).setCell (p := ⟨x15, 10, none⟩) X15.out (.int .i64 C.m.bytes))
          have G7 := (own_set (own_set (own_set (own_set (own_set (own_set (own_set (own_set (own_set (own_set (own_set F7 (p := ⟨x15, 0, none⟩) (own_ne F7 F20 (by decide)) (.bool C.m.frm.null)) (p := ⟨x15, 1, none⟩) (own_ne F7 F20 (by decide)) (.string C.m.frm.loc)) (p := ⟨x15, 2, none⟩) (own_ne F7 F20 (by decide)) (.string C.m.frm.dom)) (p := ⟨x15, 3, none⟩) (own_ne F7 F20 (by decide)) (.slice A3 C.m.to.length c3)) (p := ⟨x15, 4, none⟩) (own_ne F7 F20 (by decide)) (.slice A4 C.m.lines.length c4)) (p := ⟨x15, 5, none⟩) (own_ne F7 F20 (by decide)) (.bool C.m.flags.head)) (p := ⟨x15, 6, none⟩) (own_ne F7 F20 (by decide)) (.bool C.m.flags.body)) (p := ⟨x15, 7, none⟩) (own_ne F7 F20 (by decide)) (.bool C.m.flags.bad)) (p := ⟨x15, 8, none⟩) (own_ne F7 F20 (by decide)) (.int .i64 C.m.flags.lines)) (p := ⟨x15, 9, none⟩) (own_ne F7 F20 (by decide)) (.int .i64 C.m.flags.hops)) (p := ⟨x15, 10, none⟩) (own_ne F7 F20 (by decide)) (.int .i64 C.m.bytes))
          have G12 := (own_set (own_set (own_set (own_set (own_set (own_set (own_set (own_set (own_set (own_set (own_set F12 (p := ⟨x15, 0, none⟩) (own_ne F12 F20 (by decide)) (.bool C.m.frm.null)) (p := ⟨x15, 1, none⟩) (own_ne F12 F20 (by decide)) (.string C.m.frm.loc)) (p := ⟨x15, 2, none⟩) (own_ne F12 F20 (by decide)) (.string C.m.frm.dom)) (p := ⟨x15, 3, none⟩) (own_ne F12 F20 (by decide)) (.slice A3 C.m.to.length c3)) (p := ⟨x15, 4, none⟩) (own_ne F12 F20 (by decide)) (.slice A4 C.m.lines.length c4)) (p := ⟨x15, 5, none⟩) (own_ne F12 F20 (by decide)) (.bool C.m.flags.head)) (p := ⟨x15, 6, none⟩) (own_ne F12 F20 (by decide)) (.bool C.m.flags.body)) (p := ⟨x15, 7, none⟩) (own_ne F12 F20 (by decide)) (.bool C.m.flags.bad)) (p := ⟨x15, 8, none⟩) (own_ne F12 F20 (by decide)) (.int .i64 C.m.flags.lines)) (p := ⟨x15, 9, none⟩) (own_ne F12 F20 (by decide)) (.int .i64 C.m.flags.hops)) (p := ⟨x15, 10, none⟩) (own_ne F12 F20 (by decide)) (.int .i64 C.m.bytes))
          refine wpAnyH_ready (rs := [21]) (by kernel_rfl) (by simp) ?_
          refine AllReadyH.cons (o := { dst := none, op := Op.store 38 (Operand.tmp 15) (Operand.tmp 89), type := 0, pos := "law.go:70", after := #[{ on := 20, ground := Ground.data }, { on := 19, ground := Ground.data }, { on := 12, ground := Ground.chain }, { on := 0, ground := Ground.phase }, { on := 1, ground := Ground.phase }, { on := 2, ground := Ground.phase }, { on := 3, ground := Ground.phase }, { on := 4, ground := Ground.phase }, { on := 5, ground := Ground.phase }, { on := 6, ground := Ground.phase }, { on := 7, ground := Ground.phase }, { on := 8, ground := Ground.phase }, { on := 9, ground := Ground.phase }, { on := 10, ground := Ground.phase }, { on := 11, ground := Ground.phase }, { on := 12, ground := Ground.phase }, { on := 13, ground := Ground.phase }, { on := 14, ground := Ground.phase }, { on := 15, ground := Ground.phase }, { on := 16, ground := Ground.phase }, { on := 17, ground := Ground.phase }, { on := 18, ground := Ground.phase }, { on := 19, ground := Ground.phase }, { on := 20, ground := Ground.phase }], guard := none }) rfl (fun K hK => ?_) AllReadyH.nil
          go_simp
          try dsimp only
          refine hK.out _ _ ?_ (fun hHeld => ?_)
          · exact HS.out _ BF
          clear hK K
          try simp only [Act.put, List.setIfInBounds_toArray, List.set_cons_zero, List.set_cons_succ]
          refine wpAnyH_done (by kernel_rfl) ?_ _
          go_wp2_with fail
          exact HE.out _ _ _ _ _ _ _ _ _ _ _ _ _ _ _ _ _ _ _ _ x15 A3 A4 c3 c4 _ X15.out KF G7 G12 BF
      · go_simp
        refine hK.out _ _ ?_ (fun hHeld => ?_)
        · exact HS.out _ (BW.alloc (Nat.le_trans HN.out BW.size) _)
        clear hK K hHeld
        try simp only [Act.put, List.setIfInBounds_toArray, List.set_cons_zero, List.set_cons_succ]
        replace F3 := F3.alloc (.cells #[.bool false, .string ⟨#[]⟩, .string ⟨#[]⟩, .slice none 0 0, .slice none 0 0, .bool false, .bool false, .bool false, .int .i64 0, .int .i64 0, .int .i64 0] 38)
        replace F8 := F8.alloc (.cells #[.bool false, .string ⟨#[]⟩, .string ⟨#[]⟩, .slice none 0 0, .slice none 0 0, .bool false, .bool false, .bool false, .int .i64 0, .int .i64 0, .int .i64 0] 38)
        have F20 : Bk (w3.alloc (.cells #[.bool false, .string ⟨#[]⟩, .string ⟨#[]⟩, .slice none 0 0, .slice none 0 0, .bool false, .bool false, .bool false, .int .i64 0, .int .i64 0, .int .i64 0] 38)) w3.heap.size 38 #[.bool false, .string ⟨#[]⟩, .string ⟨#[]⟩, .slice none 0 0, .slice none 0 0, .bool false, .bool false, .bool false, .int .i64 0, .int .i64 0, .int .i64 0] := Bk.new _ _ _
        have X15 := Lib.hid (Nat.le_trans HN.out BW.size)
        replace BW := BW.alloc (Nat.le_trans HN.out BW.size) (.cells #[.bool false, .string ⟨#[]⟩, .string ⟨#[]⟩, .slice none 0 0, .slice none 0 0, .bool false, .bool false, .bool false, .int .i64 0, .int .i64 0, .int .i64 0] 38)
        generalize hx15 : w3.heap.size = x15 at *
        generalize w3.alloc (.cells #[.bool false, .string ⟨#[]⟩, .string ⟨#[]⟩, .slice none 0 0, .slice none 0 0, .bool false, .bool false, .bool false, .int .i64 0, .int .i64 0, .int .i64 0] 38) = w4 at *
        refine wpAnyH_ready (rs := [7]) (by kernel_rfl) (by simp) ?_
        refine AllReadyH.cons (o := { dst := some 77, op := Op.call { callee := Callee.builtin Builtin.append, args := #[Operand.tmp 73, Operand.tmp 76], argTypes := #[33, 33] }, type := 33, pos := "law.go:70", after := #[{ on := 3, ground := Ground.data }, { on := 6, ground := Ground.data }], guard := none }) rfl (fun K hK => ?_) AllReadyH.nil
        refine step_paths (.tmp 73) (.tmp 76) rfl rfl N0 N0 (.slice a73 0 0) rfl F3 At ct C.m.to rfl (Ht.out.below BW) HT.out (Nat.le_trans HN.out BW.size) ?_
        intro v' w5 o g hat
        try dsimp only
        obtain ⟨A3, c3, rfl⟩ := own_any o
        have BW2 := BW.grown g (Nat.le_trans HN.out BW.size) (fun j hj => (F3.lt j hj).1)
        replace F8 := own_only F8 ((Only.refl _ (fun k => (Value.slice a73 0 0).ownBlock = some k)).grown g (fun k hk _ => hk)) (fun k hk e => ne_of_types F8 F3 (by decide) k hk e)
        replace F20 := F20.grown g (fun e => own_ne F3 F20 (by decide) e.symm)
        replace BW := BW2
        clear BW2 g hat
        have F7 := o
        clear o
        refine hK.out _ _ ?_ (fun hHeld => ?_)
        · exact HS.out _ BW
        clear hK K hHeld
        try simp only [Act.put, List.setIfInBounds_toArray, List.set_cons_zero, List.set_cons_succ]
        refine wpAnyH_ready (rs := [12]) (by kernel_rfl) (by simp) ?_
        refine AllReadyH.cons (o := { dst := some 82, op := Op.call { callee := Callee.builtin Builtin.append, args := #[Operand.tmp 78, Operand.tmp 81], argTypes := #[34, 34] }, type := 34, pos := "law.go:70", after := #[{ on := 8, ground := Ground.data }, { on := 11, ground := Ground.data }, { on := 7, ground := Ground.chain }], guard := none }) rfl (fun K hK => ?_) AllReadyH.nil
        refine step_strs (.tmp 78) (.tmp 81) rfl rfl N0 N0 (.slice a78 0 0) rfl F8 Al cl C.m.lines rfl (Hl.out.below BW) HLn.out (Nat.le_trans HN.out BW.size) ?_
        intro v' w6 o g hat
        try dsimp only
        obtain ⟨A4, c4, rfl⟩ := own_any o
        have BW2 := BW.grown g (Nat.le_trans HN.out BW.size) (fun j hj => (F8.lt j hj).1)
        replace F7 := own_only F7 ((Only.refl _ (fun k => (Value.slice a78 0 0).ownBlock = some k)).grown g (fun k hk _ => hk)) (fun k hk e => ne_of_types F7 F8 (by decide) k hk e)
        replace F20 := F20.grown g (fun e => own_ne F8 F20 (by decide) e.symm)
        replace BW := BW2
        clear BW2 g hat
        have F12 := o
        clear o
        refine hK.out _ _ ?_ (fun hHeld => ?_)
        · exact HS.out _ BW
        clear hK K hHeld
        try simp only [Act.put, List.setIfInBounds_toArray, List.set_cons_zero, List.set_cons_succ]
        have hHeld := HS.out _ BW
        refine wpAnyH_take (i := 19) (oi := { dst := some 89, op := Op.build 38 #[(0, Operand.tmp 72), (1, Operand.tmp 77), (2, Operand.tmp 82), (3, Operand.tmp 85), (4, Operand.tmp 88)], type := 38, pos := "law.go:70", after := #[{ on := 2, ground := Ground.data }, { on := 7, ground := Ground.data }, { on := 12, ground := Ground.data }, { on := 15, ground := Ground.data }, { on := 18, ground := Ground.data }], guard := none }) (v := ?_) rfl (by kernel_rfl) (by kernel_rfl) (by kernel_rfl) (fun c a w h => hpan c (Act.put a _ _) a w rfl h) (Or.inl ⟨by rfl, ?_⟩) (by assumption) ?_
        rotate_left
        · intro wS hSw; (try dsimp only at hSw); go_simp; (try with_reducible rfl)
        try simp only [Act.put, List.setIfInBounds_toArray, List.set_cons_zero, List.set_cons_succ]
        clear hHeld
        have z0 := F20.cell 0
        have z1 := F20.cell 1
        have z2 := F20.cell 2
        have z3 := F20.cell 3
        have z4 := F20.cell 4
        have z5 := F20.cell 5
        have z6 := F20.cell 6
        have z7 := F20.cell 7
        have z8 := F20.cell 8
        have z9 := F20.cell 9
        have z10 := F20.cell 10
        simp at z0 z1 z2 z3 z4 z5 z6 z7 z8 z9 z10
        have y0 := F20.frozen 0
        have y1 := F20.frozen 1
        have y2 := F20.frozen 2
        have y3 := F20.frozen 3
        have y4 := F20.frozen 4
        have y5 := F20.frozen 5
        have y6 := F20.frozen 6
        have y7 := F20.frozen 7
        have y8 := F20.frozen 8
        have y9 := F20.frozen 9
        have y10 := F20.frozen 10
        have KF := (((((((((((F20.set_ 0 (.bool C.m.frm.null)).set_ 1 (.string C.m.frm.loc)).set_ 2 (.string C.m.frm.dom)).set_ 3 (.slice A3 C.m.to.length c3)).set_ 4 (.slice A4 C.m.lines.length c4)).set_ 5 (.bool C.m.flags.head)).set_ 6 (.bool C.m.flags.body)).set_ 7 (.bool C.m.flags.bad)).set_ 8 (.int .i64 C.m.flags.lines)).set_ 9 (.int .i64 C.m.flags.hops)).set_ 10 (.int .i64 C.m.bytes))
        simp at KF
        have BF := (((((((((((BW.setCell (p := ⟨x15, 0, none⟩) X15.out (.bool C.m.frm.null)).setCell (p := ⟨x15, 1, none⟩) X15.out (.string C.m.frm.loc)).setCell (p := ⟨x15, 2, none⟩) X15.out (.string C.m.frm.dom)).setCell (p := ⟨x15, 3, none⟩) X15.out (.slice A3 C.m.to.length c3)).setCell (p := ⟨x15, 4, none⟩) X15.out (.slice A4 C.m.lines.length c4)).setCell (p := ⟨x15, 5, none⟩) X15.out (.bool C.m.flags.head)).setCell (p := ⟨x15, 6, none⟩) X15.out (.bool C.m.flags.body)).setCell (p := ⟨x15, 7, none⟩) X15.out (.bool C.m.flags.bad)).setCell (p := ⟨x15, 8, none⟩) X15.out (.int .i64 C.m.flags.lines)).setCell (p := ⟨x15, 9, none⟩) X15.out (.int .i64 C.m.flags.hops)).setCell (p := ⟨x15, 10, none⟩) X15.out (.int .i64 C.m.bytes))
        have G7 := (own_set (own_set (own_set (own_set (own_set (own_set (own_set (own_set (own_set (own_set (own_set F7 (p := ⟨x15, 0, none⟩) (own_ne F7 F20 (by decide)) (.bool C.m.frm.null)) (p := ⟨x15, 1, none⟩) (own_ne F7 F20 (by decide)) (.string C.m.frm.loc)) (p := ⟨x15, 2, none⟩) (own_ne F7 F20 (by decide)) (.string C.m.frm.dom)) (p := ⟨x15, 3, none⟩) (own_ne F7 F20 (by decide)) (.slice A3 C.m.to.length c3)) (p := ⟨x15, 4, none⟩) (own_ne F7 F20 (by decide)) (.slice A4 C.m.lines.length c4)) (p := ⟨x15, 5, none⟩) (own_ne F7 F20 (by decide)) (.bool C.m.flags.head)) (p := ⟨x15, 6, none⟩) (own_ne F7 F20 (by decide)) (.bool C.m.flags.body)) (p := ⟨x15, 7, none⟩) (own_ne F7 F20 (by decide)) (.bool C.m.flags.bad)) (p := ⟨x15, 8, none⟩) (own_ne F7 F20 (by decide)) (.int .i64 C.m.flags.lines)) (p := ⟨x15, 9, none⟩) (own_ne F7 F20 (by decide)) (.int .i64 C.m.flags.hops)) (p := ⟨x15, 10, none⟩) (own_ne F7 F20 (by decide)) (.int .i64 C.m.bytes))
        have G12 := (own_set (own_set (own_set (own_set (own_set (own_set (own_set (own_set (own_set (own_set (own_set F12 (p := ⟨x15, 0, none⟩) (own_ne F12 F20 (by decide)) (.bool C.m.frm.null)) (p := ⟨x15, 1, none⟩) (own_ne F12 F20 (by decide)) (.string C.m.frm.loc)) (p := ⟨x15, 2, none⟩) (own_ne F12 F20 (by decide)) (.string C.m.frm.dom)) (p := ⟨x15, 3, none⟩) (own_ne F12 F20 (by decide)) (.slice A3 C.m.to.length c3)) (p := ⟨x15, 4, none⟩) (own_ne F12 F20 (by decide)) (.slice A4 C.m.lines.length c4)) (p := ⟨x15, 5, none⟩) (own_ne F12 F20 (by decide)) (.bool C.m.flags.head)) (p := ⟨x15, 6, none⟩) (own_ne F12 F20 (by decide)) (.bool C.m.flags.body)) (p := ⟨x15, 7, none⟩) (own_ne F12 F20 (by decide)) (.bool C.m.flags.bad)) (p := ⟨x15, 8, none⟩) (own_ne F12 F20 (by decide)) (.int .i64 C.m.flags.lines)) (p := ⟨x15, 9, none⟩) (own_ne F12 F20 (by decide)) (.int .i64 C.m.flags.hops)) (p := ⟨x15, 10, none⟩) (own_ne F12 F20 (by decide)) (.int .i64 C.m.bytes))
        refine wpAnyH_ready (rs := [21]) (by kernel_rfl) (by simp) ?_
        refine AllReadyH.cons (o := { dst := none, op := Op.store 38 (Operand.tmp 15) (Operand.tmp 89), type := 0, pos := "law.go:70", after := #[{ on := 20, ground := Ground.data }, { on := 19, ground := Ground.data }, { on := 12, ground := Ground.chain }, { on := 0, ground := Ground.phase }, { on := 1, ground := Ground.phase }, { on := 2, ground := Ground.phase }, { on := 3, ground := Ground.phase }, { on := 4, ground := Ground.phase }, { on := 5, ground := Ground.phase }, { on := 6, ground := Ground.phase }, { on := 7, ground := Ground.phase }, { on := 8, ground := Ground.phase }, { on := 9, ground := Ground.phase }, { on := 10, ground := Ground.phase }, { on := 11, ground := Ground.phase }, { on := 12, ground := Ground.phase }, { on := 13, ground := Ground.phase }, { on := 14, ground := Ground.phase }, { on := 15, ground := Ground.phase }, { on := 16, ground := Ground.phase }, { on := 17, ground := Ground.phase }, { on := 18, ground := Ground.phase }, { on := 19, ground := Ground.phase }, { on := 20, ground := Ground.phase }], guard := none }) rfl (fun K hK => ?_) AllReadyH.nil
        go_simp
        try dsimp only
        refine hK.out _ _ ?_ (fun hHeld => ?_)
        · exact HS.out _ BF
        clear hK K
        try simp only [Act.put, List.setIfInBounds_toArray, List.set_cons_zero, List.set_cons_succ]
        refine wpAnyH_done (by kernel_rfl) ?_ _
        go_wp2_with fail
        exact HE.out _ _ _ _ _ _ _ _ _ _ _ _ _ _ _ _ _ _ _ _ x15 A3 A4 c3 c4 _ X15.out KF G7 G12 BF
    · go_simp
      refine hK.out _ _ ?_ (fun hHeld => ?_)
      · exact HS.out _ (BW.alloc (Nat.le_trans HN.out BW.size) _)
      clear hK K hHeld
      try simp only [Act.put, List.setIfInBounds_toArray, List.set_cons_zero, List.set_cons_succ]
      replace F3 := F3.alloc (.cells #[.bool false, .string ⟨#[]⟩, .string ⟨#[]⟩, .slice none 0 0, .slice none 0 0, .bool false, .bool false, .bool false, .int .i64 0, .int .i64 0, .int .i64 0] 38)
      have F20 : Bk (w2.alloc (.cells #[.bool false, .string ⟨#[]⟩, .string ⟨#[]⟩, .slice none 0 0, .slice none 0 0, .bool false, .bool false, .bool false, .int .i64 0, .int .i64 0, .int .i64 0] 38)) w2.heap.size 38 #[.bool false, .string ⟨#[]⟩, .string ⟨#[]⟩, .slice none 0 0, .slice none 0 0, .bool false, .bool false, .bool false, .int .i64 0, .int .i64 0, .int .i64 0] := Bk.new _ _ _
      have X15 := Lib.hid (Nat.le_trans HN.out BW.size)
      replace BW := BW.alloc (Nat.le_trans HN.out BW.size) (.cells #[.bool false, .string ⟨#[]⟩, .string ⟨#[]⟩, .slice none 0 0, .slice none 0 0, .bool false, .bool false, .bool false, .int .i64 0, .int .i64 0, .int .i64 0] 38)
      generalize hx15 : w2.heap.size = x15 at *
      generalize w2.alloc (.cells #[.bool false, .string ⟨#[]⟩, .string ⟨#[]⟩, .slice none 0 0, .slice none 0 0, .bool false, .bool false, .bool false, .int .i64 0, .int .i64 0, .int .i64 0] 38) = w3 at *
      refine wpAnyH_ready (rs := [7, 8]) (by kernel_rfl) (by simp) ?_
      refine AllReadyH.cons (o := { dst := some 77, op := Op.call { callee := Callee.builtin Builtin.append, args := #[Operand.tmp 73, Operand.tmp 76], argTypes := #[33, 33] }, type := 33, pos := "law.go:70", after := #[{ on := 3, ground := Ground.data }, { on := 6, ground := Ground.data }], guard := none }) rfl (fun K hK => ?_) (AllReadyH.cons (o := { dst := some 78, op := Op.buildSlice 34 0 #[], type := 34, pos := "law.go:70", after := #[], guard := none }) rfl (fun K hK => ?_) (AllReadyH.nil))
      · refine step_paths (.tmp 73) (.tmp 76) rfl rfl N0 N0 (.slice a73 0 0) rfl F3 At ct C.m.to rfl (Ht.out.below BW) HT.out (Nat.le_trans HN.out BW.size) ?_
        intro v' w4 o g hat
        try dsimp only
        obtain ⟨A3, c3, rfl⟩ := own_any o
        have BW2 := BW.grown g (Nat.le_trans HN.out BW.size) (fun j hj => (F3.lt j hj).1)
        replace F20 := F20.grown g (fun e => own_ne F3 F20 (by decide) e.symm)
        replace BW := BW2
        clear BW2 g hat
        have F7 := o
        clear o
        refine hK.out _ _ ?_ (fun hHeld => ?_)
        · exact HS.out _ BW
        clear hK K hHeld
        try simp only [Act.put, List.setIfInBounds_toArray, List.set_cons_zero, List.set_cons_succ]
        refine wpAnyH_ready (rs := [8]) (by kernel_rfl) (by simp) ?_
        refine AllReadyH.cons (o := { dst := some 78, op := Op.buildSlice 34 0 #[], type := 34, pos := "law.go:70", after := #[], guard := none }) rfl (fun K hK => ?_) AllReadyH.nil
        go_simp
        refine hK.out _ _ ?_ (fun hHeld => ?_)
        · exact HS.out _ (BW.alloc (Nat.le_trans HN.out BW.size) _)
        clear hK K hHeld
        try simp only [Act.put, List.setIfInBounds_toArray, List.set_cons_zero, List.set_cons_succ]
        replace F7 := F7.alloc (.cells #[] 9)
        replace F20 := F20.alloc (.cells #[] 9)
        have F8 : (w4.alloc (.cells #[] 9)).ownsRow N0 9 1 (.slice (some ⟨w4.heap.size, 0, none⟩) 0 0) 0 [] := own_base (World.ownsRow_made w4 #[] 0 (Nat.le_refl _) (by decide) rfl) (Nat.le_trans HN.out BW.size)
        replace BW := BW.alloc (Nat.le_trans HN.out BW.size) (.cells #[] 9)
        generalize hv78 : (some ⟨w4.heap.size, 0, none⟩ : Option Addr) = a78 at *
        generalize w4.alloc (.cells #[] 9) = w5 at *
        refine wpAnyH_ready (rs := [12]) (by kernel_rfl) (by simp) ?_
        refine AllReadyH.cons (o := { dst := some 82, op := Op.call { callee := Callee.builtin Builtin.append, args := #[Operand.tmp 78, Operand.tmp 81], argTypes := #[34, 34] }, type := 34, pos := "law.go:70", after := #[{ on := 8, ground := Ground.data }, { on := 11, ground := Ground.data }, { on := 7, ground := Ground.chain }], guard := none }) rfl (fun K hK => ?_) AllReadyH.nil
        refine step_strs (.tmp 78) (.tmp 81) rfl rfl N0 N0 (.slice a78 0 0) rfl F8 Al cl C.m.lines rfl (Hl.out.below BW) HLn.out (Nat.le_trans HN.out BW.size) ?_
        intro v' w6 o g hat
        try dsimp only
        obtain ⟨A4, c4, rfl⟩ := own_any o
        have BW2 := BW.grown g (Nat.le_trans HN.out BW.size) (fun j hj => (F8.lt j hj).1)
        replace F7 := own_only F7 ((Only.refl _ (fun k => (Value.slice a78 0 0).ownBlock = some k)).grown g (fun k hk _ => hk)) (fun k hk e => ne_of_types F7 F8 (by decide) k hk e)
        replace F20 := F20.grown g (fun e => own_ne F8 F20 (by decide) e.symm)
        replace BW := BW2
        clear BW2 g hat
        have F12 := o
        clear o
        refine hK.out _ _ ?_ (fun hHeld => ?_)
        · exact HS.out _ BW
        clear hK K hHeld
        try simp only [Act.put, List.setIfInBounds_toArray, List.set_cons_zero, List.set_cons_succ]
        have hHeld := HS.out _ BW
        refine wpAnyH_take (i := 19) (oi := { dst := some 89, op := Op.build 38 #[(0, Operand.tmp 72), (1, Operand.tmp 77), (2, Operand.tmp 82), (3, Operand.tmp 85), (4, Operand.tmp 88)], type := 38, pos := "law.go:70", after := #[{ on := 2, ground := Ground.data }, { on := 7, ground := Ground.data }, { on := 12, ground := Ground.data }, { on := 15, ground := Ground.data }, { on := 18, ground := Ground.data }], guard := none }) (v := ?_) rfl (by kernel_rfl) (by kernel_rfl) (by kernel_rfl) (fun c a w h => hpan c (Act.put a _ _) a w rfl h) (Or.inl ⟨by rfl, ?_⟩) (by assumption) ?_
        rotate_left
        · intro wS hSw; (try dsimp only at hSw); go_simp; (try with_reducible rfl)
        try simp only [Act.put, List.setIfInBounds_toArray, List.set_cons_zero, List.set_cons_succ]
        clear hHeld
        have z0 := F20.cell 0
        have z1 := F20.cell 1
        have z2 := F20.cell 2
        have z3 := F20.cell 3
        have z4 := F20.cell 4
        have z5 := F20.cell 5
        have z6 := F20.cell 6
        have z7 := F20.cell 7
        have z8 := F20.cell 8
        have z9 := F20.cell 9
        have z10 := F20.cell 10
        simp at z0 z1 z2 z3 z4 z5 z6 z7 z8 z9 z10
        have y0 := F20.frozen 0
        have y1 := F20.frozen 1
        have y2 := F20.frozen 2
        have y3 := F20.frozen 3
        have y4 := F20.frozen 4
        have y5 := F20.frozen 5
        have y6 := F20.frozen 6
        have y7 := F20.frozen 7
        have y8 := F20.frozen 8
        have y9 := F20.frozen 9
        have y10 := F20.frozen 10
        have KF := (((((((((((F20.set_ 0 (.bool C.m.frm.null)).set_ 1 (.string C.m.frm.loc)).set_ 2 (.string C.m.frm.dom)).set_ 3 (.slice A3 C.m.to.length c3)).set_ 4 (.slice A4 C.m.lines.length c4)).set_ 5 (.bool C.m.flags.head)).set_ 6 (.bool C.m.flags.body)).set_ 7 (.bool C.m.flags.bad)).set_ 8 (.int .i64 C.m.flags.lines)).set_ 9 (.int .i64 C.m.flags.hops)).set_ 10 (.int .i64 C.m.bytes))
        simp at KF
        have BF := (((((((((((BW.setCell (p := ⟨x15, 0, none⟩) X15.out (.bool C.m.frm.null)).setCell (p := ⟨x15, 1, none⟩) X15.out (.string C.m.frm.loc)).setCell (p := ⟨x15, 2, none⟩) X15.out (.string C.m.frm.dom)).setCell (p := ⟨x15, 3, none⟩) X15.out (.slice A3 C.m.to.length c3)).setCell (p := ⟨x15, 4, none⟩) X15.out (.slice A4 C.m.lines.length c4)).setCell (p := ⟨x15, 5, none⟩) X15.out (.bool C.m.flags.head)).setCell (p := ⟨x15, 6, none⟩) X15.out (.bool C.m.flags.body)).setCell (p := ⟨x15, 7, none⟩) X15.out (.bool C.m.flags.bad)).setCell (p := ⟨x15, 8, none⟩) X15.out (.int .i64 C.m.flags.lines)).setCell (p := ⟨x15, 9, none⟩) X15.out (.int .i64 C.m.flags.hops)).setCell (p := ⟨x15, 10, none⟩) X15.out (.int .i64 C.m.bytes))
        have G7 := (own_set (own_set (own_set (own_set (own_set (own_set (own_set (own_set (own_set (own_set (own_set F7 (p := ⟨x15, 0, none⟩) (own_ne F7 F20 (by decide)) (.bool C.m.frm.null)) (p := ⟨x15, 1, none⟩) (own_ne F7 F20 (by decide)) (.string C.m.frm.loc)) (p := ⟨x15, 2, none⟩) (own_ne F7 F20 (by decide)) (.string C.m.frm.dom)) (p := ⟨x15, 3, none⟩) (own_ne F7 F20 (by decide)) (.slice A3 C.m.to.length c3)) (p := ⟨x15, 4, none⟩) (own_ne F7 F20 (by decide)) (.slice A4 C.m.lines.length c4)) (p := ⟨x15, 5, none⟩) (own_ne F7 F20 (by decide)) (.bool C.m.flags.head)) (p := ⟨x15, 6, none⟩) (own_ne F7 F20 (by decide)) (.bool C.m.flags.body)) (p := ⟨x15, 7, none⟩) (own_ne F7 F20 (by decide)) (.bool C.m.flags.bad)) (p := ⟨x15, 8, none⟩) (own_ne F7 F20 (by decide)) (.int .i64 C.m.flags.lines)) (p := ⟨x15, 9, none⟩) (own_ne F7 F20 (by decide)) (.int .i64 C.m.flags.hops)) (p := ⟨x15, 10, none⟩) (own_ne F7 F20 (by decide)) (.int .i64 C.m.bytes))
        have G12 := (own_set (own_set (own_set (own_set (own_set (own_set (own_set (own_set (own_set (own_set (own_set F12 (p := ⟨x15, 0, none⟩) (own_ne F12 F20 (by decide)) (.bool C.m.frm.null)) (p := ⟨x15, 1, none⟩) (own_ne F12 F20 (by decide)) (.string C.m.frm.loc)) (p := ⟨x15, 2, none⟩) (own_ne F12 F20 (by decide)) (.string C.m.frm.dom)) (p := ⟨x15, 3, none⟩) (own_ne F12 F20 (by decide)) (.slice A3 C.m.to.length c3)) (p := ⟨x15, 4, none⟩) (own_ne F12 F20 (by decide)) (.slice A4 C.m.lines.length c4)) (p := ⟨x15, 5, none⟩) (own_ne F12 F20 (by decide)) (.bool C.m.flags.head)) (p := ⟨x15, 6, none⟩) (own_ne F12 F20 (by decide)) (.bool C.m.flags.body)) (p := ⟨x15, 7, none⟩) (own_ne F12 F20 (by decide)) (.bool C.m.flags.bad)) (p := ⟨x15, 8, none⟩) (own_ne F12 F20 (by decide)) (.int .i64 C.m.flags.lines)) (p := ⟨x15, 9, none⟩) (own_ne F12 F20 (by decide)) (.int .i64 C.m.flags.hops)) (p := ⟨x15, 10, none⟩) (own_ne F12 F20 (by decide)) (.int .i64 C.m.bytes))
        refine wpAnyH_ready (rs := [21]) (by kernel_rfl) (by simp) ?_
        refine AllReadyH.cons (o := { dst := none, op := Op.store 38 (Operand.tmp 15) (Operand.tmp 89), type := 0, pos := "law.go:70", after := #[{ on := 20, ground := Ground.data }, { on := 19, ground := Ground.data }, { on := 12, ground := Ground.chain }, { on := 0, ground := Ground.phase }, { on := 1, ground := Ground.phase }, { on := 2, ground := Ground.phase }, { on := 3, ground := Ground.phase }, { on := 4, ground := Ground.phase }, { on := 5, ground := Ground.phase }, { on := 6, ground := Ground.phase }, { on := 7, ground := Ground.phase }, { on := 8, ground := Ground.phase }, { on := 9, ground := Ground.phase }, { on := 10, ground := Ground.phase }, { on := 11, ground := Ground.phase }, { on := 12, ground := Ground.phase }, { on := 13, ground := Ground.phase }, { on := 14, ground := Ground.phase }, { on := 15, ground := Ground.phase }, { on := 16, ground := Ground.phase }, { on := 17, ground := Ground.phase }, { on := 18, ground := Ground.phase }, { on := 19, ground := Ground.phase }, { on := 20, ground := Ground.phase }], guard := none }) rfl (fun K hK => ?_) AllReadyH.nil
        go_simp
        try dsimp only
        refine hK.out _ _ ?_ (fun hHeld => ?_)
        · exact HS.out _ BF
        clear hK K
        try simp only [Act.put, List.setIfInBounds_toArray, List.set_cons_zero, List.set_cons_succ]
        refine wpAnyH_done (by kernel_rfl) ?_ _
        go_wp2_with fail
        exact HE.out _ _ _ _ _ _ _ _ _ _ _ _ _ _ _ _ _ _ _ _ x15 A3 A4 c3 c4 _ X15.out KF G7 G12 BF
      · go_simp
        refine hK.out _ _ ?_ (fun hHeld => ?_)
        · exact HS.out _ (BW.alloc (Nat.le_trans HN.out BW.size) _)
        clear hK K hHeld
        try simp only [Act.put, List.setIfInBounds_toArray, List.set_cons_zero, List.set_cons_succ]
        replace F3 := F3.alloc (.cells #[] 9)
        replace F20 := F20.alloc (.cells #[] 9)
        have F8 : (w3.alloc (.cells #[] 9)).ownsRow N0 9 1 (.slice (some ⟨w3.heap.size, 0, none⟩) 0 0) 0 [] := own_base (World.ownsRow_made w3 #[] 0 (Nat.le_refl _) (by decide) rfl) (Nat.le_trans HN.out BW.size)
        replace BW := BW.alloc (Nat.le_trans HN.out BW.size) (.cells #[] 9)
        generalize hv78 : (some ⟨w3.heap.size, 0, none⟩ : Option Addr) = a78 at *
        generalize w3.alloc (.cells #[] 9) = w4 at *
        refine wpAnyH_ready (rs := [7]) (by kernel_rfl) (by simp) ?_
        refine AllReadyH.cons (o := { dst := some 77, op := Op.call { callee := Callee.builtin Builtin.append, args := #[Operand.tmp 73, Operand.tmp 76], argTypes := #[33, 33] }, type := 33, pos := "law.go:70", after := #[{ on := 3, ground := Ground.data }, { on := 6, ground := Ground.data }], guard := none }) rfl (fun K hK => ?_) AllReadyH.nil
        refine step_paths (.tmp 73) (.tmp 76) rfl rfl N0 N0 (.slice a73 0 0) rfl F3 At ct C.m.to rfl (Ht.out.below BW) HT.out (Nat.le_trans HN.out BW.size) ?_
        intro v' w5 o g hat
        try dsimp only
        obtain ⟨A3, c3, rfl⟩ := own_any o
        have BW2 := BW.grown g (Nat.le_trans HN.out BW.size) (fun j hj => (F3.lt j hj).1)
        replace F8 := own_only F8 ((Only.refl _ (fun k => (Value.slice a73 0 0).ownBlock = some k)).grown g (fun k hk _ => hk)) (fun k hk e => ne_of_types F8 F3 (by decide) k hk e)
        replace F20 := F20.grown g (fun e => own_ne F3 F20 (by decide) e.symm)
        replace BW := BW2
        clear BW2 g hat
        have F7 := o
        clear o
        refine hK.out _ _ ?_ (fun hHeld => ?_)
        · exact HS.out _ BW
        clear hK K hHeld
        try simp only [Act.put, List.setIfInBounds_toArray, List.set_cons_zero, List.set_cons_succ]
        refine wpAnyH_ready (rs := [12]) (by kernel_rfl) (by simp) ?_
        refine AllReadyH.cons (o := { dst := some 82, op := Op.call { callee := Callee.builtin Builtin.append, args := #[Operand.tmp 78, Operand.tmp 81], argTypes := #[34, 34] }, type := 34, pos := "law.go:70", after := #[{ on := 8, ground := Ground.data }, { on := 11, ground := Ground.data }, { on := 7, ground := Ground.chain }], guard := none }) rfl (fun K hK => ?_) AllReadyH.nil
        refine step_strs (.tmp 78) (.tmp 81) rfl rfl N0 N0 (.slice a78 0 0) rfl F8 Al cl C.m.lines rfl (Hl.out.below BW) HLn.out (Nat.le_trans HN.out BW.size) ?_
        intro v' w6 o g hat
        try dsimp only
        obtain ⟨A4, c4, rfl⟩ := own_any o
        have BW2 := BW.grown g (Nat.le_trans HN.out BW.size) (fun j hj => (F8.lt j hj).1)
        replace F7 := own_only F7 ((Only.refl _ (fun k => (Value.slice a78 0 0).ownBlock = some k)).grown g (fun k hk _ => hk)) (fun k hk e => ne_of_types F7 F8 (by decide) k hk e)
        replace F20 := F20.grown g (fun e => own_ne F8 F20 (by decide) e.symm)
        replace BW := BW2
        clear BW2 g hat
        have F12 := o
        clear o
        refine hK.out _ _ ?_ (fun hHeld => ?_)
        · exact HS.out _ BW
        clear hK K hHeld
        try simp only [Act.put, List.setIfInBounds_toArray, List.set_cons_zero, List.set_cons_succ]
        have hHeld := HS.out _ BW
        refine wpAnyH_take (i := 19) (oi := { dst := some 89, op := Op.build 38 #[(0, Operand.tmp 72), (1, Operand.tmp 77), (2, Operand.tmp 82), (3, Operand.tmp 85), (4, Operand.tmp 88)], type := 38, pos := "law.go:70", after := #[{ on := 2, ground := Ground.data }, { on := 7, ground := Ground.data }, { on := 12, ground := Ground.data }, { on := 15, ground := Ground.data }, { on := 18, ground := Ground.data }], guard := none }) (v := ?_) rfl (by kernel_rfl) (by kernel_rfl) (by kernel_rfl) (fun c a w h => hpan c (Act.put a _ _) a w rfl h) (Or.inl ⟨by rfl, ?_⟩) (by assumption) ?_
        rotate_left
        · intro wS hSw; (try dsimp only at hSw); go_simp; (try with_reducible rfl)
        try simp only [Act.put, List.setIfInBounds_toArray, List.set_cons_zero, List.set_cons_succ]
        clear hHeld
        have z0 := F20.cell 0
        have z1 := F20.cell 1
        have z2 := F20.cell 2
        have z3 := F20.cell 3
        have z4 := F20.cell 4
        have z5 := F20.cell 5
        have z6 := F20.cell 6
        have z7 := F20.cell 7
        have z8 := F20.cell 8
        have z9 := F20.cell 9
        have z10 := F20.cell 10
        simp at z0 z1 z2 z3 z4 z5 z6 z7 z8 z9 z10
        have y0 := F20.frozen 0
        have y1 := F20.frozen 1
        have y2 := F20.frozen 2
        have y3 := F20.frozen 3
        have y4 := F20.frozen 4
        have y5 := F20.frozen 5
        have y6 := F20.frozen 6
        have y7 := F20.frozen 7
        have y8 := F20.frozen 8
        have y9 := F20.frozen 9
        have y10 := F20.frozen 10
        have KF := (((((((((((F20.set_ 0 (.bool C.m.frm.null)).set_ 1 (.string C.m.frm.loc)).set_ 2 (.string C.m.frm.dom)).set_ 3 (.slice A3 C.m.to.length c3)).set_ 4 (.slice A4 C.m.lines.length c4)).set_ 5 (.bool C.m.flags.head)).set_ 6 (.bool C.m.flags.body)).set_ 7 (.bool C.m.flags.bad)).set_ 8 (.int .i64 C.m.flags.lines)).set_ 9 (.int .i64 C.m.flags.hops)).set_ 10 (.int .i64 C.m.bytes))
        simp at KF
        have BF := (((((((((((BW.setCell (p := ⟨x15, 0, none⟩) X15.out (.bool C.m.frm.null)).setCell (p := ⟨x15, 1, none⟩) X15.out (.string C.m.frm.loc)).setCell (p := ⟨x15, 2, none⟩) X15.out (.string C.m.frm.dom)).setCell (p := ⟨x15, 3, none⟩) X15.out (.slice A3 C.m.to.length c3)).setCell (p := ⟨x15, 4, none⟩) X15.out (.slice A4 C.m.lines.length c4)).setCell (p := ⟨x15, 5, none⟩) X15.out (.bool C.m.flags.head)).setCell (p := ⟨x15, 6, none⟩) X15.out (.bool C.m.flags.body)).setCell (p := ⟨x15, 7, none⟩) X15.out (.bool C.m.flags.bad)).setCell (p := ⟨x15, 8, none⟩) X15.out (.int .i64 C.m.flags.lines)).setCell (p := ⟨x15, 9, none⟩) X15.out (.int .i64 C.m.flags.hops)).setCell (p := ⟨x15, 10, none⟩) X15.out (.int .i64 C.m.bytes))
        have G7 := (own_set (own_set (own_set (own_set (own_set (own_set (own_set (own_set (own_set (own_set (own_set F7 (p := ⟨x15, 0, none⟩) (own_ne F7 F20 (by decide)) (.bool C.m.frm.null)) (p := ⟨x15, 1, none⟩) (own_ne F7 F20 (by decide)) (.string C.m.frm.loc)) (p := ⟨x15, 2, none⟩) (own_ne F7 F20 (by decide)) (.string C.m.frm.dom)) (p := ⟨x15, 3, none⟩) (own_ne F7 F20 (by decide)) (.slice A3 C.m.to.length c3)) (p := ⟨x15, 4, none⟩) (own_ne F7 F20 (by decide)) (.slice A4 C.m.lines.length c4)) (p := ⟨x15, 5, none⟩) (own_ne F7 F20 (by decide)) (.bool C.m.flags.head)) (p := ⟨x15, 6, none⟩) (own_ne F7 F20 (by decide)) (.bool C.m.flags.body)) (p := ⟨x15, 7, none⟩) (own_ne F7 F20 (by decide)) (.bool C.m.flags.bad)) (p := ⟨x15, 8, none⟩) (own_ne F7 F20 (by decide)) (.int .i64 C.m.flags.lines)) (p := ⟨x15, 9, none⟩) (own_ne F7 F20 (by decide)) (.int .i64 C.m.flags.hops)) (p := ⟨x15, 10, none⟩) (own_ne F7 F20 (by decide)) (.int .i64 C.m.bytes))
        have G12 := (own_set (own_set (own_set (own_set (own_set (own_set (own_set (own_set (own_set (own_set (own_set F12 (p := ⟨x15, 0, none⟩) (own_ne F12 F20 (by decide)) (.bool C.m.frm.null)) (p := ⟨x15, 1, none⟩) (own_ne F12 F20 (by decide)) (.string C.m.frm.loc)) (p := ⟨x15, 2, none⟩) (own_ne F12 F20 (by decide)) (.string C.m.frm.dom)) (p := ⟨x15, 3, none⟩) (own_ne F12 F20 (by decide)) (.slice A3 C.m.to.length c3)) (p := ⟨x15, 4, none⟩) (own_ne F12 F20 (by decide)) (.slice A4 C.m.lines.length c4)) (p := ⟨x15, 5, none⟩) (own_ne F12 F20 (by decide)) (.bool C.m.flags.head)) (p := ⟨x15, 6, none⟩) (own_ne F12 F20 (by decide)) (.bool C.m.flags.body)) (p := ⟨x15, 7, none⟩) (own_ne F12 F20 (by decide)) (.bool C.m.flags.bad)) (p := ⟨x15, 8, none⟩) (own_ne F12 F20 (by decide)) (.int .i64 C.m.flags.lines)) (p := ⟨x15, 9, none⟩) (own_ne F12 F20 (by decide)) (.int .i64 C.m.flags.hops)) (p := ⟨x15, 10, none⟩) (own_ne F12 F20 (by decide)) (.int .i64 C.m.bytes))
        refine wpAnyH_ready (rs := [21]) (by kernel_rfl) (by simp) ?_
        refine AllReadyH.cons (o := { dst := none, op := Op.store 38 (Operand.tmp 15) (Operand.tmp 89), type := 0, pos := "law.go:70", after := #[{ on := 20, ground := Ground.data }, { on := 19, ground := Ground.data }, { on := 12, ground := Ground.chain }, { on := 0, ground := Ground.phase }, { on := 1, ground := Ground.phase }, { on := 2, ground := Ground.phase }, { on := 3, ground := Ground.phase }, { on := 4, ground := Ground.phase }, { on := 5, ground := Ground.phase }, { on := 6, ground := Ground.phase }, { on := 7, ground := Ground.phase }, { on := 8, ground := Ground.phase }, { on := 9, ground := Ground.phase }, { on := 10, ground := Ground.phase }, { on := 11, ground := Ground.phase }, { on := 12, ground := Ground.phase }, { on := 13, ground := Ground.phase }, { on := 14, ground := Ground.phase }, { on := 15, ground := Ground.phase }, { on := 16, ground := Ground.phase }, { on := 17, ground := Ground.phase }, { on := 18, ground := Ground.phase }, { on := 19, ground := Ground.phase }, { on := 20, ground := Ground.phase }], guard := none }) rfl (fun K hK => ?_) AllReadyH.nil
        go_simp
        try dsimp only
        refine hK.out _ _ ?_ (fun hHeld => ?_)
        · exact HS.out _ BF
        clear hK K
        try simp only [Act.put, List.setIfInBounds_toArray, List.set_cons_zero, List.set_cons_succ]
        refine wpAnyH_done (by kernel_rfl) ?_ _
        go_wp2_with fail
        exact HE.out _ _ _ _ _ _ _ _ _ _ _ _ _ _ _ _ _ _ _ _ x15 A3 A4 c3 c4 _ X15.out KF G7 G12 BF
  · go_simp
    refine hK.out _ _ ?_ (fun hHeld => ?_)
    · exact HS.out _ (BW.alloc (Nat.le_trans HN.out BW.size) _)
    clear hK K hHeld
    try simp only [Act.put, List.setIfInBounds_toArray, List.set_cons_zero, List.set_cons_succ]
    have F8 : (w1.alloc (.cells #[] 9)).ownsRow N0 9 1 (.slice (some ⟨w1.heap.size, 0, none⟩) 0 0) 0 [] := own_base (World.ownsRow_made w1 #[] 0 (Nat.le_refl _) (by decide) rfl) (Nat.le_trans HN.out BW.size)
    replace BW := BW.alloc (Nat.le_trans HN.out BW.size) (.cells #[] 9)
    generalize hv78 : (some ⟨w1.heap.size, 0, none⟩ : Option Addr) = a78 at *
    generalize w1.alloc (.cells #[] 9) = w2 at *
    refine wpAnyH_ready (rs := [3, 20]) (by kernel_rfl) (by simp) ?_
    refine AllReadyH.cons (o := { dst := some 73, op := Op.buildSlice 33 0 #[], type := 33, pos := "law.go:70", after := #[], guard := none }) rfl (fun K hK => ?_) (AllReadyH.cons (o := { dst := some 15, op := Op.alloc 38, type := 0, pos := "law.go:70", after := #[], guard := none }) rfl (fun K hK => ?_) (AllReadyH.nil))
    · go_simp
      refine hK.out _ _ ?_ (fun hHeld => ?_)
      · exact HS.out _ (BW.alloc (Nat.le_trans HN.out BW.size) _)
      clear hK K hHeld
      try simp only [Act.put, List.setIfInBounds_toArray, List.set_cons_zero, List.set_cons_succ]
      replace F8 := F8.alloc (.cells #[] 32)
      have F3 : (w2.alloc (.cells #[] 32)).ownsRow N0 32 3 (.slice (some ⟨w2.heap.size, 0, none⟩) 0 0) 0 [] := own_base (World.ownsRow_made w2 #[] 0 (Nat.le_refl _) (by decide) rfl) (Nat.le_trans HN.out BW.size)
      replace BW := BW.alloc (Nat.le_trans HN.out BW.size) (.cells #[] 32)
      generalize hv73 : (some ⟨w2.heap.size, 0, none⟩ : Option Addr) = a73 at *
      generalize w2.alloc (.cells #[] 32) = w3 at *
      refine wpAnyH_ready (rs := [7, 20]) (by kernel_rfl) (by simp) ?_
      refine AllReadyH.cons (o := { dst := some 77, op := Op.call { callee := Callee.builtin Builtin.append, args := #[Operand.tmp 73, Operand.tmp 76], argTypes := #[33, 33] }, type := 33, pos := "law.go:70", after := #[{ on := 3, ground := Ground.data }, { on := 6, ground := Ground.data }], guard := none }) rfl (fun K hK => ?_) (AllReadyH.cons (o := { dst := some 15, op := Op.alloc 38, type := 0, pos := "law.go:70", after := #[], guard := none }) rfl (fun K hK => ?_) (AllReadyH.nil))
      · refine step_paths (.tmp 73) (.tmp 76) rfl rfl N0 N0 (.slice a73 0 0) rfl F3 At ct C.m.to rfl (Ht.out.below BW) HT.out (Nat.le_trans HN.out BW.size) ?_
        intro v' w4 o g hat
        try dsimp only
        obtain ⟨A3, c3, rfl⟩ := own_any o
        have BW2 := BW.grown g (Nat.le_trans HN.out BW.size) (fun j hj => (F3.lt j hj).1)
        replace F8 := own_only F8 ((Only.refl _ (fun k => (Value.slice a73 0 0).ownBlock = some k)).grown g (fun k hk _ => hk)) (fun k hk e => ne_of_types F8 F3 (by decide) k hk e)
        replace BW := BW2
        clear BW2 g hat
        have F7 := o
        clear o
        refine hK.out _ _ ?_ (fun hHeld => ?_)
        · exact HS.out _ BW
        clear hK K hHeld
        try simp only [Act.put, List.setIfInBounds_toArray, List.set_cons_zero, List.set_cons_succ]
        refine wpAnyH_ready (rs := [12, 20]) (by kernel_rfl) (by simp) ?_
        refine AllReadyH.cons (o := { dst := some 82, op := Op.call { callee := Callee.builtin Builtin.append, args := #[Operand.tmp 78, Operand.tmp 81], argTypes := #[34, 34] }, type := 34, pos := "law.go:70", after := #[{ on := 8, ground := Ground.data }, { on := 11, ground := Ground.data }, { on := 7, ground := Ground.chain }], guard := none }) rfl (fun K hK => ?_) (AllReadyH.cons (o := { dst := some 15, op := Op.alloc 38, type := 0, pos := "law.go:70", after := #[], guard := none }) rfl (fun K hK => ?_) (AllReadyH.nil))
        · refine step_strs (.tmp 78) (.tmp 81) rfl rfl N0 N0 (.slice a78 0 0) rfl F8 Al cl C.m.lines rfl (Hl.out.below BW) HLn.out (Nat.le_trans HN.out BW.size) ?_
          intro v' w5 o g hat
          try dsimp only
          obtain ⟨A4, c4, rfl⟩ := own_any o
          have BW2 := BW.grown g (Nat.le_trans HN.out BW.size) (fun j hj => (F8.lt j hj).1)
          replace F7 := own_only F7 ((Only.refl _ (fun k => (Value.slice a78 0 0).ownBlock = some k)).grown g (fun k hk _ => hk)) (fun k hk e => ne_of_types F7 F8 (by decide) k hk e)
          replace BW := BW2
          clear BW2 g hat
          have F12 := o
          clear o
          refine hK.out _ _ ?_ (fun hHeld => ?_)
          · exact HS.out _ BW
          clear hK K hHeld
          try simp only [Act.put, List.setIfInBounds_toArray, List.set_cons_zero, List.set_cons_succ]
          have hHeld := HS.out _ BW
          refine wpAnyH_take (i := 19) (oi := { dst := some 89, op := Op.build 38 #[(0, Operand.tmp 72), (1, Operand.tmp 77), (2, Operand.tmp 82), (3, Operand.tmp 85), (4, Operand.tmp 88)], type := 38, pos := "law.go:70", after := #[{ on := 2, ground := Ground.data }, { on := 7, ground := Ground.data }, { on := 12, ground := Ground.data }, { on := 15, ground := Ground.data }, { on := 18, ground := Ground.data }], guard := none }) (v := ?_) rfl (by kernel_rfl) (by kernel_rfl) (by kernel_rfl) (fun c a w h => hpan c (Act.put a _ _) a w rfl h) (Or.inl ⟨by rfl, ?_⟩) (by assumption) ?_
          rotate_left
          · intro wS hSw; (try dsimp only at hSw); go_simp; (try with_reducible rfl)
          try simp only [Act.put, List.setIfInBounds_toArray, List.set_cons_zero, List.set_cons_succ]
          clear hHeld
          refine wpAnyH_ready (rs := [20]) (by kernel_rfl) (by simp) ?_
          refine AllReadyH.cons (o := { dst := some 15, op := Op.alloc 38, type := 0, pos := "law.go:70", after := #[], guard := none }) rfl (fun K hK => ?_) AllReadyH.nil
          go_simp
          refine hK.out _ _ ?_ (fun hHeld => ?_)
          · exact HS.out _ (BW.alloc (Nat.le_trans HN.out BW.size) _)
          clear hK K hHeld
          try simp only [Act.put, List.setIfInBounds_toArray, List.set_cons_zero, List.set_cons_succ]
          replace F7 := F7.alloc (.cells #[.bool false, .string ⟨#[]⟩, .string ⟨#[]⟩, .slice none 0 0, .slice none 0 0, .bool false, .bool false, .bool false, .int .i64 0, .int .i64 0, .int .i64 0] 38)
          replace F12 := F12.alloc (.cells #[.bool false, .string ⟨#[]⟩, .string ⟨#[]⟩, .slice none 0 0, .slice none 0 0, .bool false, .bool false, .bool false, .int .i64 0, .int .i64 0, .int .i64 0] 38)
          have F20 : Bk (w5.alloc (.cells #[.bool false, .string ⟨#[]⟩, .string ⟨#[]⟩, .slice none 0 0, .slice none 0 0, .bool false, .bool false, .bool false, .int .i64 0, .int .i64 0, .int .i64 0] 38)) w5.heap.size 38 #[.bool false, .string ⟨#[]⟩, .string ⟨#[]⟩, .slice none 0 0, .slice none 0 0, .bool false, .bool false, .bool false, .int .i64 0, .int .i64 0, .int .i64 0] := Bk.new _ _ _
          have X15 := Lib.hid (Nat.le_trans HN.out BW.size)
          replace BW := BW.alloc (Nat.le_trans HN.out BW.size) (.cells #[.bool false, .string ⟨#[]⟩, .string ⟨#[]⟩, .slice none 0 0, .slice none 0 0, .bool false, .bool false, .bool false, .int .i64 0, .int .i64 0, .int .i64 0] 38)
          generalize hx15 : w5.heap.size = x15 at *
          generalize w5.alloc (.cells #[.bool false, .string ⟨#[]⟩, .string ⟨#[]⟩, .slice none 0 0, .slice none 0 0, .bool false, .bool false, .bool false, .int .i64 0, .int .i64 0, .int .i64 0] 38) = w6 at *
          have z0 := F20.cell 0
          have z1 := F20.cell 1
          have z2 := F20.cell 2
          have z3 := F20.cell 3
          have z4 := F20.cell 4
          have z5 := F20.cell 5
          have z6 := F20.cell 6
          have z7 := F20.cell 7
          have z8 := F20.cell 8
          have z9 := F20.cell 9
          have z10 := F20.cell 10
          simp at z0 z1 z2 z3 z4 z5 z6 z7 z8 z9 z10
          have y0 := F20.frozen 0
          have y1 := F20.frozen 1
          have y2 := F20.frozen 2
          have y3 := F20.frozen 3
          have y4 := F20.frozen 4
          have y5 := F20.frozen 5
          have y6 := F20.frozen 6
          have y7 := F20.frozen 7
          have y8 := F20.frozen 8
          have y9 := F20.frozen 9
          have y10 := F20.frozen 10
          have KF := (((((((((((F20.set_ 0 (.bool C.m.frm.null)).set_ 1 (.string C.m.frm.loc)).set_ 2 (.string C.m.frm.dom)).set_ 3 (.slice A3 C.m.to.length c3)).set_ 4 (.slice A4 C.m.lines.length c4)).set_ 5 (.bool C.m.flags.head)).set_ 6 (.bool C.m.flags.body)).set_ 7 (.bool C.m.flags.bad)).set_ 8 (.int .i64 C.m.flags.lines)).set_ 9 (.int .i64 C.m.flags.hops)).set_ 10 (.int .i64 C.m.bytes))
          simp at KF
          have BF := (((((((((((BW.setCell (p := ⟨x15, 0, none⟩) X15.out (.bool C.m.frm.null)).setCell (p := ⟨x15, 1, none⟩) X15.out (.string C.m.frm.loc)).setCell (p := ⟨x15, 2, none⟩) X15.out (.string C.m.frm.dom)).setCell (p := ⟨x15, 3, none⟩) X15.out (.slice A3 C.m.to.length c3)).setCell (p := ⟨x15, 4, none⟩) X15.out (.slice A4 C.m.lines.length c4)).setCell (p := ⟨x15, 5, none⟩) X15.out (.bool C.m.flags.head)).setCell (p := ⟨x15, 6, none⟩) X15.out (.bool C.m.flags.body)).setCell (p := ⟨x15, 7, none⟩) X15.out (.bool C.m.flags.bad)).setCell (p := ⟨x15, 8, none⟩) X15.out (.int .i64 C.m.flags.lines)).setCell (p := ⟨x15, 9, none⟩) X15.out (.int .i64 C.m.flags.hops)).setCell (p := ⟨x15, 10, none⟩) X15.out (.int .i64 C.m.bytes))
          have G7 := (own_set (own_set (own_set (own_set (own_set (own_set (own_set (own_set (own_set (own_set (own_set F7 (p := ⟨x15, 0, none⟩) (own_ne F7 F20 (by decide)) (.bool C.m.frm.null)) (p := ⟨x15, 1, none⟩) (own_ne F7 F20 (by decide)) (.string C.m.frm.loc)) (p := ⟨x15, 2, none⟩) (own_ne F7 F20 (by decide)) (.string C.m.frm.dom)) (p := ⟨x15, 3, none⟩) (own_ne F7 F20 (by decide)) (.slice A3 C.m.to.length c3)) (p := ⟨x15, 4, none⟩) (own_ne F7 F20 (by decide)) (.slice A4 C.m.lines.length c4)) (p := ⟨x15, 5, none⟩) (own_ne F7 F20 (by decide)) (.bool C.m.flags.head)) (p := ⟨x15, 6, none⟩) (own_ne F7 F20 (by decide)) (.bool C.m.flags.body)) (p := ⟨x15, 7, none⟩) (own_ne F7 F20 (by decide)) (.bool C.m.flags.bad)) (p := ⟨x15, 8, none⟩) (own_ne F7 F20 (by decide)) (.int .i64 C.m.flags.lines)) (p := ⟨x15, 9, none⟩) (own_ne F7 F20 (by decide)) (.int .i64 C.m.flags.hops)) (p := ⟨x15, 10, none⟩) (own_ne F7 F20 (by decide)) (.int .i64 C.m.bytes))
          have G12 := (own_set (own_set (own_set (own_set (own_set (own_set (own_set (own_set (own_set (own_set (own_set F12 (p := ⟨x15, 0, none⟩) (own_ne F12 F20 (by decide)) (.bool C.m.frm.null)) (p := ⟨x15, 1, none⟩) (own_ne F12 F20 (by decide)) (.string C.m.frm.loc)) (p := ⟨x15, 2, none⟩) (own_ne F12 F20 (by decide)) (.string C.m.frm.dom)) (p := ⟨x15, 3, none⟩) (own_ne F12 F20 (by decide)) (.slice A3 C.m.to.length c3)) (p := ⟨x15, 4, none⟩) (own_ne F12 F20 (by decide)) (.slice A4 C.m.lines.length c4)) (p := ⟨x15, 5, none⟩) (own_ne F12 F20 (by decide)) (.bool C.m.flags.head)) (p := ⟨x15, 6, none⟩) (own_ne F12 F20 (by decide)) (.bool C.m.flags.body)) (p := ⟨x15, 7, none⟩) (own_ne F12 F20 (by decide)) (.bool C.m.flags.bad)) (p := ⟨x15, 8, none⟩) (own_ne F12 F20 (by decide)) (.int .i64 C.m.flags.lines)) (p := ⟨x15, 9, none⟩) (own_ne F12 F20 (by decide)) (.int .i64 C.m.flags.hops)) (p := ⟨x15, 10, none⟩) (own_ne F12 F20 (by decide)) (.int .i64 C.m.bytes))
          refine wpAnyH_ready (rs := [21]) (by kernel_rfl) (by simp) ?_
          refine AllReadyH.cons (o := { dst := none, op := Op.store 38 (Operand.tmp 15) (Operand.tmp 89), type := 0, pos := "law.go:70", after := #[{ on := 20, ground := Ground.data }, { on := 19, ground := Ground.data }, { on := 12, ground := Ground.chain }, { on := 0, ground := Ground.phase }, { on := 1, ground := Ground.phase }, { on := 2, ground := Ground.phase }, { on := 3, ground := Ground.phase }, { on := 4, ground := Ground.phase }, { on := 5, ground := Ground.phase }, { on := 6, ground := Ground.phase }, { on := 7, ground := Ground.phase }, { on := 8, ground := Ground.phase }, { on := 9, ground := Ground.phase }, { on := 10, ground := Ground.phase }, { on := 11, ground := Ground.phase }, { on := 12, ground := Ground.phase }, { on := 13, ground := Ground.phase }, { on := 14, ground := Ground.phase }, { on := 15, ground := Ground.phase }, { on := 16, ground := Ground.phase }, { on := 17, ground := Ground.phase }, { on := 18, ground := Ground.phase }, { on := 19, ground := Ground.phase }, { on := 20, ground := Ground.phase }], guard := none }) rfl (fun K hK => ?_) AllReadyH.nil
          go_simp
          try dsimp only
          refine hK.out _ _ ?_ (fun hHeld => ?_)
          · exact HS.out _ BF
          clear hK K
          try simp only [Act.put, List.setIfInBounds_toArray, List.set_cons_zero, List.set_cons_succ]
          refine wpAnyH_done (by kernel_rfl) ?_ _
          go_wp2_with fail
          exact HE.out _ _ _ _ _ _ _ _ _ _ _ _ _ _ _ _ _ _ _ _ x15 A3 A4 c3 c4 _ X15.out KF G7 G12 BF
        · go_simp
          refine hK.out _ _ ?_ (fun hHeld => ?_)
          · exact HS.out _ (BW.alloc (Nat.le_trans HN.out BW.size) _)
          clear hK K hHeld
          try simp only [Act.put, List.setIfInBounds_toArray, List.set_cons_zero, List.set_cons_succ]
          replace F7 := F7.alloc (.cells #[.bool false, .string ⟨#[]⟩, .string ⟨#[]⟩, .slice none 0 0, .slice none 0 0, .bool false, .bool false, .bool false, .int .i64 0, .int .i64 0, .int .i64 0] 38)
          replace F8 := F8.alloc (.cells #[.bool false, .string ⟨#[]⟩, .string ⟨#[]⟩, .slice none 0 0, .slice none 0 0, .bool false, .bool false, .bool false, .int .i64 0, .int .i64 0, .int .i64 0] 38)
          have F20 : Bk (w4.alloc (.cells #[.bool false, .string ⟨#[]⟩, .string ⟨#[]⟩, .slice none 0 0, .slice none 0 0, .bool false, .bool false, .bool false, .int .i64 0, .int .i64 0, .int .i64 0] 38)) w4.heap.size 38 #[.bool false, .string ⟨#[]⟩, .string ⟨#[]⟩, .slice none 0 0, .slice none 0 0, .bool false, .bool false, .bool false, .int .i64 0, .int .i64 0, .int .i64 0] := Bk.new _ _ _
          have X15 := Lib.hid (Nat.le_trans HN.out BW.size)
          replace BW := BW.alloc (Nat.le_trans HN.out BW.size) (.cells #[.bool false, .string ⟨#[]⟩, .string ⟨#[]⟩, .slice none 0 0, .slice none 0 0, .bool false, .bool false, .bool false, .int .i64 0, .int .i64 0, .int .i64 0] 38)
          generalize hx15 : w4.heap.size = x15 at *
          generalize w4.alloc (.cells #[.bool false, .string ⟨#[]⟩, .string ⟨#[]⟩, .slice none 0 0, .slice none 0 0, .bool false, .bool false, .bool false, .int .i64 0, .int .i64 0, .int .i64 0] 38) = w5 at *
          refine wpAnyH_ready (rs := [12]) (by kernel_rfl) (by simp) ?_
          refine AllReadyH.cons (o := { dst := some 82, op := Op.call { callee := Callee.builtin Builtin.append, args := #[Operand.tmp 78, Operand.tmp 81], argTypes := #[34, 34] }, type := 34, pos := "law.go:70", after := #[{ on := 8, ground := Ground.data }, { on := 11, ground := Ground.data }, { on := 7, ground := Ground.chain }], guard := none }) rfl (fun K hK => ?_) AllReadyH.nil
          refine step_strs (.tmp 78) (.tmp 81) rfl rfl N0 N0 (.slice a78 0 0) rfl F8 Al cl C.m.lines rfl (Hl.out.below BW) HLn.out (Nat.le_trans HN.out BW.size) ?_
          intro v' w6 o g hat
          try dsimp only
          obtain ⟨A4, c4, rfl⟩ := own_any o
          have BW2 := BW.grown g (Nat.le_trans HN.out BW.size) (fun j hj => (F8.lt j hj).1)
          replace F7 := own_only F7 ((Only.refl _ (fun k => (Value.slice a78 0 0).ownBlock = some k)).grown g (fun k hk _ => hk)) (fun k hk e => ne_of_types F7 F8 (by decide) k hk e)
          replace F20 := F20.grown g (fun e => own_ne F8 F20 (by decide) e.symm)
          replace BW := BW2
          clear BW2 g hat
          have F12 := o
          clear o
          refine hK.out _ _ ?_ (fun hHeld => ?_)
          · exact HS.out _ BW
          clear hK K hHeld
          try simp only [Act.put, List.setIfInBounds_toArray, List.set_cons_zero, List.set_cons_succ]
          have hHeld := HS.out _ BW
          refine wpAnyH_take (i := 19) (oi := { dst := some 89, op := Op.build 38 #[(0, Operand.tmp 72), (1, Operand.tmp 77), (2, Operand.tmp 82), (3, Operand.tmp 85), (4, Operand.tmp 88)], type := 38, pos := "law.go:70", after := #[{ on := 2, ground := Ground.data }, { on := 7, ground := Ground.data }, { on := 12, ground := Ground.data }, { on := 15, ground := Ground.data }, { on := 18, ground := Ground.data }], guard := none }) (v := ?_) rfl (by kernel_rfl) (by kernel_rfl) (by kernel_rfl) (fun c a w h => hpan c (Act.put a _ _) a w rfl h) (Or.inl ⟨by rfl, ?_⟩) (by assumption) ?_
          rotate_left
          · intro wS hSw; (try dsimp only at hSw); go_simp; (try with_reducible rfl)
          try simp only [Act.put, List.setIfInBounds_toArray, List.set_cons_zero, List.set_cons_succ]
          clear hHeld
          have z0 := F20.cell 0
          have z1 := F20.cell 1
          have z2 := F20.cell 2
          have z3 := F20.cell 3
          have z4 := F20.cell 4
          have z5 := F20.cell 5
          have z6 := F20.cell 6
          have z7 := F20.cell 7
          have z8 := F20.cell 8
          have z9 := F20.cell 9
          have z10 := F20.cell 10
          simp at z0 z1 z2 z3 z4 z5 z6 z7 z8 z9 z10
          have y0 := F20.frozen 0
          have y1 := F20.frozen 1
          have y2 := F20.frozen 2
          have y3 := F20.frozen 3
          have y4 := F20.frozen 4
          have y5 := F20.frozen 5
          have y6 := F20.frozen 6
          have y7 := F20.frozen 7
          have y8 := F20.frozen 8
          have y9 := F20.frozen 9
          have y10 := F20.frozen 10
          have KF := (((((((((((F20.set_ 0 (.bool C.m.frm.null)).set_ 1 (.string C.m.frm.loc)).set_ 2 (.string C.m.frm.dom)).set_ 3 (.slice A3 C.m.to.length c3)).set_ 4 (.slice A4 C.m.lines.length c4)).set_ 5 (.bool C.m.flags.head)).set_ 6 (.bool C.m.flags.body)).set_ 7 (.bool C.m.flags.bad)).set_ 8 (.int .i64 C.m.flags.lines)).set_ 9 (.int .i64 C.m.flags.hops)).set_ 10 (.int .i64 C.m.bytes))
          simp at KF
          have BF := (((((((((((BW.setCell (p := ⟨x15, 0, none⟩) X15.out (.bool C.m.frm.null)).setCell (p := ⟨x15, 1, none⟩) X15.out (.string C.m.frm.loc)).setCell (p := ⟨x15, 2, none⟩) X15.out (.string C.m.frm.dom)).setCell (p := ⟨x15, 3, none⟩) X15.out (.slice A3 C.m.to.length c3)).setCell (p := ⟨x15, 4, none⟩) X15.out (.slice A4 C.m.lines.length c4)).setCell (p := ⟨x15, 5, none⟩) X15.out (.bool C.m.flags.head)).setCell (p := ⟨x15, 6, none⟩) X15.out (.bool C.m.flags.body)).setCell (p := ⟨x15, 7, none⟩) X15.out (.bool C.m.flags.bad)).setCell (p := ⟨x15, 8, none⟩) X15.out (.int .i64 C.m.flags.lines)).setCell (p := ⟨x15, 9, none⟩) X15.out (.int .i64 C.m.flags.hops)).setCell (p := ⟨x15, 10, none⟩) X15.out (.int .i64 C.m.bytes))
          have G7 := (own_set (own_set (own_set (own_set (own_set (own_set (own_set (own_set (own_set (own_set (own_set F7 (p := ⟨x15, 0, none⟩) (own_ne F7 F20 (by decide)) (.bool C.m.frm.null)) (p := ⟨x15, 1, none⟩) (own_ne F7 F20 (by decide)) (.string C.m.frm.loc)) (p := ⟨x15, 2, none⟩) (own_ne F7 F20 (by decide)) (.string C.m.frm.dom)) (p := ⟨x15, 3, none⟩) (own_ne F7 F20 (by decide)) (.slice A3 C.m.to.length c3)) (p := ⟨x15, 4, none⟩) (own_ne F7 F20 (by decide)) (.slice A4 C.m.lines.length c4)) (p := ⟨x15, 5, none⟩) (own_ne F7 F20 (by decide)) (.bool C.m.flags.head)) (p := ⟨x15, 6, none⟩) (own_ne F7 F20 (by decide)) (.bool C.m.flags.body)) (p := ⟨x15, 7, none⟩) (own_ne F7 F20 (by decide)) (.bool C.m.flags.bad)) (p := ⟨x15, 8, none⟩) (own_ne F7 F20 (by decide)) (.int .i64 C.m.flags.lines)) (p := ⟨x15, 9, none⟩) (own_ne F7 F20 (by decide)) (.int .i64 C.m.flags.hops)) (p := ⟨x15, 10, none⟩) (own_ne F7 F20 (by decide)) (.int .i64 C.m.bytes))
          have G12 := (own_set (own_set (own_set (own_set (own_set (own_set (own_set (own_set (own_set (own_set (own_set F12 (p := ⟨x15, 0, none⟩) (own_ne F12 F20 (by decide)) (.bool C.m.frm.null)) (p := ⟨x15, 1, none⟩) (own_ne F12 F20 (by decide)) (.string C.m.frm.loc)) (p := ⟨x15, 2, none⟩) (own_ne F12 F20 (by decide)) (.string C.m.frm.dom)) (p := ⟨x15, 3, none⟩) (own_ne F12 F20 (by decide)) (.slice A3 C.m.to.length c3)) (p := ⟨x15, 4, none⟩) (own_ne F12 F20 (by decide)) (.slice A4 C.m.lines.length c4)) (p := ⟨x15, 5, none⟩) (own_ne F12 F20 (by decide)) (.bool C.m.flags.head)) (p := ⟨x15, 6, none⟩) (own_ne F12 F20 (by decide)) (.bool C.m.flags.body)) (p := ⟨x15, 7, none⟩) (own_ne F12 F20 (by decide)) (.bool C.m.flags.bad)) (p := ⟨x15, 8, none⟩) (own_ne F12 F20 (by decide)) (.int .i64 C.m.flags.lines)) (p := ⟨x15, 9, none⟩) (own_ne F12 F20 (by decide)) (.int .i64 C.m.flags.hops)) (p := ⟨x15, 10, none⟩) (own_ne F12 F20 (by decide)) (.int .i64 C.m.bytes))
          refine wpAnyH_ready (rs := [21]) (by kernel_rfl) (by simp) ?_
          refine AllReadyH.cons (o := { dst := none, op := Op.store 38 (Operand.tmp 15) (Operand.tmp 89), type := 0, pos := "law.go:70", after := #[{ on := 20, ground := Ground.data }, { on := 19, ground := Ground.data }, { on := 12, ground := Ground.chain }, { on := 0, ground := Ground.phase }, { on := 1, ground := Ground.phase }, { on := 2, ground := Ground.phase }, { on := 3, ground := Ground.phase }, { on := 4, ground := Ground.phase }, { on := 5, ground := Ground.phase }, { on := 6, ground := Ground.phase }, { on := 7, ground := Ground.phase }, { on := 8, ground := Ground.phase }, { on := 9, ground := Ground.phase }, { on := 10, ground := Ground.phase }, { on := 11, ground := Ground.phase }, { on := 12, ground := Ground.phase }, { on := 13, ground := Ground.phase }, { on := 14, ground := Ground.phase }, { on := 15, ground := Ground.phase }, { on := 16, ground := Ground.phase }, { on := 17, ground := Ground.phase }, { on := 18, ground := Ground.phase }, { on := 19, ground := Ground.phase }, { on := 20, ground := Ground.phase }], guard := none }) rfl (fun K hK => ?_) AllReadyH.nil
          go_simp
          try dsimp only
          refine hK.out _ _ ?_ (fun hHeld => ?_)
          · exact HS.out _ BF
          clear hK K
          try simp only [Act.put, List.setIfInBounds_toArray, List.set_cons_zero, List.set_cons_succ]
          refine wpAnyH_done (by kernel_rfl) ?_ _
          go_wp2_with fail
          exact HE.out _ _ _ _ _ _ _ _ _ _ _ _ _ _ _ _ _ _ _ _ x15 A3 A4 c3 c4 _ X15.out KF G7 G12 BF
      · go_simp
        refine hK.out _ _ ?_ (fun hHeld => ?_)
        · exact HS.out _ (BW.alloc (Nat.le_trans HN.out BW.size) _)
        clear hK K hHeld
        try simp only [Act.put, List.setIfInBounds_toArray, List.set_cons_zero, List.set_cons_succ]
        replace F3 := F3.alloc (.cells #[.bool false, .string ⟨#[]⟩, .string ⟨#[]⟩, .slice none 0 0, .slice none 0 0, .bool false, .bool false, .bool false, .int .i64 0, .int .i64 0, .int .i64 0] 38)
        replace F8 := F8.alloc (.cells #[.bool false, .string ⟨#[]⟩, .string ⟨#[]⟩, .slice none 0 0, .slice none 0 0, .bool false, .bool false, .bool false, .int .i64 0, .int .i64 0, .int .i64 0] 38)
        have F20 : Bk (w3.alloc (.cells #[.bool false, .string ⟨#[]⟩, .string ⟨#[]⟩, .slice none 0 0, .slice none 0 0, .bool false, .bool false, .bool false, .int .i64 0, .int .i64 0, .int .i64 0] 38)) w3.heap.size 38 #[.bool false, .string ⟨#[]⟩, .string ⟨#[]⟩, .slice none 0 0, .slice none 0 0, .bool false, .bool false, .bool false, .int .i64 0, .int .i64 0, .int .i64 0] := Bk.new _ _ _
        have X15 := Lib.hid (Nat.le_trans HN.out BW.size)
        replace BW := BW.alloc (Nat.le_trans HN.out BW.size) (.cells #[.bool false, .string ⟨#[]⟩, .string ⟨#[]⟩, .slice none 0 0, .slice none 0 0, .bool false, .bool false, .bool false, .int .i64 0, .int .i64 0, .int .i64 0] 38)
        generalize hx15 : w3.heap.size = x15 at *
        generalize w3.alloc (.cells #[.bool false, .string ⟨#[]⟩, .string ⟨#[]⟩, .slice none 0 0, .slice none 0 0, .bool false, .bool false, .bool false, .int .i64 0, .int .i64 0, .int .i64 0] 38) = w4 at *
        refine wpAnyH_ready (rs := [7]) (by kernel_rfl) (by simp) ?_
        refine AllReadyH.cons (o := { dst := some 77, op := Op.call { callee := Callee.builtin Builtin.append, args := #[Operand.tmp 73, Operand.tmp 76], argTypes := #[33, 33] }, type := 33, pos := "law.go:70", after := #[{ on := 3, ground := Ground.data }, { on := 6, ground := Ground.data }], guard := none }) rfl (fun K hK => ?_) AllReadyH.nil
        refine step_paths (.tmp 73) (.tmp 76) rfl rfl N0 N0 (.slice a73 0 0) rfl F3 At ct C.m.to rfl (Ht.out.below BW) HT.out (Nat.le_trans HN.out BW.size) ?_
        intro v' w5 o g hat
        try dsimp only
        obtain ⟨A3, c3, rfl⟩ := own_any o
        have BW2 := BW.grown g (Nat.le_trans HN.out BW.size) (fun j hj => (F3.lt j hj).1)
        replace F8 := own_only F8 ((Only.refl _ (fun k => (Value.slice a73 0 0).ownBlock = some k)).grown g (fun k hk _ => hk)) (fun k hk e => ne_of_types F8 F3 (by decide) k hk e)
        replace F20 := F20.grown g (fun e => own_ne F3 F20 (by decide) e.symm)
        replace BW := BW2
        clear BW2 g hat
        have F7 := o
        clear o
        refine hK.out _ _ ?_ (fun hHeld => ?_)
        · exact HS.out _ BW
        clear hK K hHeld
        try simp only [Act.put, List.setIfInBounds_toArray, List.set_cons_zero, List.set_cons_succ]
        refine wpAnyH_ready (rs := [12]) (by kernel_rfl) (by simp) ?_
        refine AllReadyH.cons (o := { dst := some 82, op := Op.call { callee := Callee.builtin Builtin.append, args := #[Operand.tmp 78, Operand.tmp 81], argTypes := #[34, 34] }, type := 34, pos := "law.go:70", after := #[{ on := 8, ground := Ground.data }, { on := 11, ground := Ground.data }, { on := 7, ground := Ground.chain }], guard := none }) rfl (fun K hK => ?_) AllReadyH.nil
        refine step_strs (.tmp 78) (.tmp 81) rfl rfl N0 N0 (.slice a78 0 0) rfl F8 Al cl C.m.lines rfl (Hl.out.below BW) HLn.out (Nat.le_trans HN.out BW.size) ?_
        intro v' w6 o g hat
        try dsimp only
        obtain ⟨A4, c4, rfl⟩ := own_any o
        have BW2 := BW.grown g (Nat.le_trans HN.out BW.size) (fun j hj => (F8.lt j hj).1)
        replace F7 := own_only F7 ((Only.refl _ (fun k => (Value.slice a78 0 0).ownBlock = some k)).grown g (fun k hk _ => hk)) (fun k hk e => ne_of_types F7 F8 (by decide) k hk e)
        replace F20 := F20.grown g (fun e => own_ne F8 F20 (by decide) e.symm)
        replace BW := BW2
        clear BW2 g hat
        have F12 := o
        clear o
        refine hK.out _ _ ?_ (fun hHeld => ?_)
        · exact HS.out _ BW
        clear hK K hHeld
        try simp only [Act.put, List.setIfInBounds_toArray, List.set_cons_zero, List.set_cons_succ]
        have hHeld := HS.out _ BW
        refine wpAnyH_take (i := 19) (oi := { dst := some 89, op := Op.build 38 #[(0, Operand.tmp 72), (1, Operand.tmp 77), (2, Operand.tmp 82), (3, Operand.tmp 85), (4, Operand.tmp 88)], type := 38, pos := "law.go:70", after := #[{ on := 2, ground := Ground.data }, { on := 7, ground := Ground.data }, { on := 12, ground := Ground.data }, { on := 15, ground := Ground.data }, { on := 18, ground := Ground.data }], guard := none }) (v := ?_) rfl (by kernel_rfl) (by kernel_rfl) (by kernel_rfl) (fun c a w h => hpan c (Act.put a _ _) a w rfl h) (Or.inl ⟨by rfl, ?_⟩) (by assumption) ?_
        rotate_left
        · intro wS hSw; (try dsimp only at hSw); go_simp; (try with_reducible rfl)
        try simp only [Act.put, List.setIfInBounds_toArray, List.set_cons_zero, List.set_cons_succ]
        clear hHeld
        have z0 := F20.cell 0
        have z1 := F20.cell 1
        have z2 := F20.cell 2
        have z3 := F20.cell 3
        have z4 := F20.cell 4
        have z5 := F20.cell 5
        have z6 := F20.cell 6
        have z7 := F20.cell 7
        have z8 := F20.cell 8
        have z9 := F20.cell 9
        have z10 := F20.cell 10
        simp at z0 z1 z2 z3 z4 z5 z6 z7 z8 z9 z10
        have y0 := F20.frozen 0
        have y1 := F20.frozen 1
        have y2 := F20.frozen 2
        have y3 := F20.frozen 3
        have y4 := F20.frozen 4
        have y5 := F20.frozen 5
        have y6 := F20.frozen 6
        have y7 := F20.frozen 7
        have y8 := F20.frozen 8
        have y9 := F20.frozen 9
        have y10 := F20.frozen 10
        have KF := (((((((((((F20.set_ 0 (.bool C.m.frm.null)).set_ 1 (.string C.m.frm.loc)).set_ 2 (.string C.m.frm.dom)).set_ 3 (.slice A3 C.m.to.length c3)).set_ 4 (.slice A4 C.m.lines.length c4)).set_ 5 (.bool C.m.flags.head)).set_ 6 (.bool C.m.flags.body)).set_ 7 (.bool C.m.flags.bad)).set_ 8 (.int .i64 C.m.flags.lines)).set_ 9 (.int .i64 C.m.flags.hops)).set_ 10 (.int .i64 C.m.bytes))
        simp at KF
        have BF := (((((((((((BW.setCell (p := ⟨x15, 0, none⟩) X15.out (.bool C.m.frm.null)).setCell (p := ⟨x15, 1, none⟩) X15.out (.string C.m.frm.loc)).setCell (p := ⟨x15, 2, none⟩) X15.out (.string C.m.frm.dom)).setCell (p := ⟨x15, 3, none⟩) X15.out (.slice A3 C.m.to.length c3)).setCell (p := ⟨x15, 4, none⟩) X15.out (.slice A4 C.m.lines.length c4)).setCell (p := ⟨x15, 5, none⟩) X15.out (.bool C.m.flags.head)).setCell (p := ⟨x15, 6, none⟩) X15.out (.bool C.m.flags.body)).setCell (p := ⟨x15, 7, none⟩) X15.out (.bool C.m.flags.bad)).setCell (p := ⟨x15, 8, none⟩) X15.out (.int .i64 C.m.flags.lines)).setCell (p := ⟨x15, 9, none⟩) X15.out (.int .i64 C.m.flags.hops)).setCell (p := ⟨x15, 10, none⟩) X15.out (.int .i64 C.m.bytes))
        have G7 := (own_set (own_set (own_set (own_set (own_set (own_set (own_set (own_set (own_set (own_set (own_set F7 (p := ⟨x15, 0, none⟩) (own_ne F7 F20 (by decide)) (.bool C.m.frm.null)) (p := ⟨x15, 1, none⟩) (own_ne F7 F20 (by decide)) (.string C.m.frm.loc)) (p := ⟨x15, 2, none⟩) (own_ne F7 F20 (by decide)) (.string C.m.frm.dom)) (p := ⟨x15, 3, none⟩) (own_ne F7 F20 (by decide)) (.slice A3 C.m.to.length c3)) (p := ⟨x15, 4, none⟩) (own_ne F7 F20 (by decide)) (.slice A4 C.m.lines.length c4)) (p := ⟨x15, 5, none⟩) (own_ne F7 F20 (by decide)) (.bool C.m.flags.head)) (p := ⟨x15, 6, none⟩) (own_ne F7 F20 (by decide)) (.bool C.m.flags.body)) (p := ⟨x15, 7, none⟩) (own_ne F7 F20 (by decide)) (.bool C.m.flags.bad)) (p := ⟨x15, 8, none⟩) (own_ne F7 F20 (by decide)) (.int .i64 C.m.flags.lines)) (p := ⟨x15, 9, none⟩) (own_ne F7 F20 (by decide)) (.int .i64 C.m.flags.hops)) (p := ⟨x15, 10, none⟩) (own_ne F7 F20 (by decide)) (.int .i64 C.m.bytes))
        have G12 := (own_set (own_set (own_set (own_set (own_set (own_set (own_set (own_set (own_set (own_set (own_set F12 (p := ⟨x15, 0, none⟩) (own_ne F12 F20 (by decide)) (.bool C.m.frm.null)) (p := ⟨x15, 1, none⟩) (own_ne F12 F20 (by decide)) (.string C.m.frm.loc)) (p := ⟨x15, 2, none⟩) (own_ne F12 F20 (by decide)) (.string C.m.frm.dom)) (p := ⟨x15, 3, none⟩) (own_ne F12 F20 (by decide)) (.slice A3 C.m.to.length c3)) (p := ⟨x15, 4, none⟩) (own_ne F12 F20 (by decide)) (.slice A4 C.m.lines.length c4)) (p := ⟨x15, 5, none⟩) (own_ne F12 F20 (by decide)) (.bool C.m.flags.head)) (p := ⟨x15, 6, none⟩) (own_ne F12 F20 (by decide)) (.bool C.m.flags.body)) (p := ⟨x15, 7, none⟩) (own_ne F12 F20 (by decide)) (.bool C.m.flags.bad)) (p := ⟨x15, 8, none⟩) (own_ne F12 F20 (by decide)) (.int .i64 C.m.flags.lines)) (p := ⟨x15, 9, none⟩) (own_ne F12 F20 (by decide)) (.int .i64 C.m.flags.hops)) (p := ⟨x15, 10, none⟩) (own_ne F12 F20 (by decide)) (.int .i64 C.m.bytes))
        refine wpAnyH_ready (rs := [21]) (by kernel_rfl) (by simp) ?_
        refine AllReadyH.cons (o := { dst := none, op := Op.store 38 (Operand.tmp 15) (Operand.tmp 89), type := 0, pos := "law.go:70", after := #[{ on := 20, ground := Ground.data }, { on := 19, ground := Ground.data }, { on := 12, ground := Ground.chain }, { on := 0, ground := Ground.phase }, { on := 1, ground := Ground.phase }, { on := 2, ground := Ground.phase }, { on := 3, ground := Ground.phase }, { on := 4, ground := Ground.phase }, { on := 5, ground := Ground.phase }, { on := 6, ground := Ground.phase }, { on := 7, ground := Ground.phase }, { on := 8, ground := Ground.phase }, { on := 9, ground := Ground.phase }, { on := 10, ground := Ground.phase }, { on := 11, ground := Ground.phase }, { on := 12, ground := Ground.phase }, { on := 13, ground := Ground.phase }, { on := 14, ground := Ground.phase }, { on := 15, ground := Ground.phase }, { on := 16, ground := Ground.phase }, { on := 17, ground := Ground.phase }, { on := 18, ground := Ground.phase }, { on := 19, ground := Ground.phase }, { on := 20, ground := Ground.phase }], guard := none }) rfl (fun K hK => ?_) AllReadyH.nil
        go_simp
        try dsimp only
        refine hK.out _ _ ?_ (fun hHeld => ?_)
        · exact HS.out _ BF
        clear hK K
        try simp only [Act.put, List.setIfInBounds_toArray, List.set_cons_zero, List.set_cons_succ]
        refine wpAnyH_done (by kernel_rfl) ?_ _
        go_wp2_with fail
        exact HE.out _ _ _ _ _ _ _ _ _ _ _ _ _ _ _ _ _ _ _ _ x15 A3 A4 c3 c4 _ X15.out KF G7 G12 BF
    · go_simp
      refine hK.out _ _ ?_ (fun hHeld => ?_)
      · exact HS.out _ (BW.alloc (Nat.le_trans HN.out BW.size) _)
      clear hK K hHeld
      try simp only [Act.put, List.setIfInBounds_toArray, List.set_cons_zero, List.set_cons_succ]
      replace F8 := F8.alloc (.cells #[.bool false, .string ⟨#[]⟩, .string ⟨#[]⟩, .slice none 0 0, .slice none 0 0, .bool false, .bool false, .bool false, .int .i64 0, .int .i64 0, .int .i64 0] 38)
      have F20 : Bk (w2.alloc (.cells #[.bool false, .string ⟨#[]⟩, .string ⟨#[]⟩, .slice none 0 0, .slice none 0 0, .bool false, .bool false, .bool false, .int .i64 0, .int .i64 0, .int .i64 0] 38)) w2.heap.size 38 #[.bool false, .string ⟨#[]⟩, .string ⟨#[]⟩, .slice none 0 0, .slice none 0 0, .bool false, .bool false, .bool false, .int .i64 0, .int .i64 0, .int .i64 0] := Bk.new _ _ _
      have X15 := Lib.hid (Nat.le_trans HN.out BW.size)
      replace BW := BW.alloc (Nat.le_trans HN.out BW.size) (.cells #[.bool false, .string ⟨#[]⟩, .string ⟨#[]⟩, .slice none 0 0, .slice none 0 0, .bool false, .bool false, .bool false, .int .i64 0, .int .i64 0, .int .i64 0] 38)
      generalize hx15 : w2.heap.size = x15 at *
      generalize w2.alloc (.cells #[.bool false, .string ⟨#[]⟩, .string ⟨#[]⟩, .slice none 0 0, .slice none 0 0, .bool false, .bool false, .bool false, .int .i64 0, .int .i64 0, .int .i64 0] 38) = w3 at *
      refine wpAnyH_ready (rs := [3]) (by kernel_rfl) (by simp) ?_
      refine AllReadyH.cons (o := { dst := some 73, op := Op.buildSlice 33 0 #[], type := 33, pos := "law.go:70", after := #[], guard := none }) rfl (fun K hK => ?_) AllReadyH.nil
      go_simp
      refine hK.out _ _ ?_ (fun hHeld => ?_)
      · exact HS.out _ (BW.alloc (Nat.le_trans HN.out BW.size) _)
      clear hK K hHeld
      try simp only [Act.put, List.setIfInBounds_toArray, List.set_cons_zero, List.set_cons_succ]
      replace F8 := F8.alloc (.cells #[] 32)
      replace F20 := F20.alloc (.cells #[] 32)
      have F3 : (w3.alloc (.cells #[] 32)).ownsRow N0 32 3 (.slice (some ⟨w3.heap.size, 0, none⟩) 0 0) 0 [] := own_base (World.ownsRow_made w3 #[] 0 (Nat.le_refl _) (by decide) rfl) (Nat.le_trans HN.out BW.size)
      replace BW := BW.alloc (Nat.le_trans HN.out BW.size) (.cells #[] 32)
      generalize hv73 : (some ⟨w3.heap.size, 0, none⟩ : Option Addr) = a73 at *
      generalize w3.alloc (.cells #[] 32) = w4 at *
      refine wpAnyH_ready (rs := [7]) (by kernel_rfl) (by simp) ?_
      refine AllReadyH.cons (o := { dst := some 77, op := Op.call { callee := Callee.builtin Builtin.append, args := #[Operand.tmp 73, Operand.tmp 76], argTypes := #[33, 33] }, type := 33, pos := "law.go:70", after := #[{ on := 3, ground := Ground.data }, { on := 6, ground := Ground.data }], guard := none }) rfl (fun K hK => ?_) AllReadyH.nil
      refine step_paths (.tmp 73) (.tmp 76) rfl rfl N0 N0 (.slice a73 0 0) rfl F3 At ct C.m.to rfl (Ht.out.below BW) HT.out (Nat.le_trans HN.out BW.size) ?_
      intro v' w5 o g hat
      try dsimp only
      obtain ⟨A3, c3, rfl⟩ := own_any o
      have BW2 := BW.grown g (Nat.le_trans HN.out BW.size) (fun j hj => (F3.lt j hj).1)
      replace F8 := own_only F8 ((Only.refl _ (fun k => (Value.slice a73 0 0).ownBlock = some k)).grown g (fun k hk _ => hk)) (fun k hk e => ne_of_types F8 F3 (by decide) k hk e)
      replace F20 := F20.grown g (fun e => own_ne F3 F20 (by decide) e.symm)
      replace BW := BW2
      clear BW2 g hat
      have F7 := o
      clear o
      refine hK.out _ _ ?_ (fun hHeld => ?_)
      · exact HS.out _ BW
      clear hK K hHeld
      try simp only [Act.put, List.setIfInBounds_toArray, List.set_cons_zero, List.set_cons_succ]
      refine wpAnyH_ready (rs := [12]) (by kernel_rfl) (by simp) ?_
      refine AllReadyH.cons (o := { dst := some 82, op := Op.call { callee := Callee.builtin Builtin.append, args := #[Operand.tmp 78, Operand.tmp 81], argTypes := #[34, 34] }, type := 34, pos := "law.go:70", after := #[{ on := 8, ground := Ground.data }, { on := 11, ground := Ground.data }, { on := 7, ground := Ground.chain }], guard := none }) rfl (fun K hK => ?_) AllReadyH.nil
      refine step_strs (.tmp 78) (.tmp 81) rfl rfl N0 N0 (.slice a78 0 0) rfl F8 Al cl C.m.lines rfl (Hl.out.below BW) HLn.out (Nat.le_trans HN.out BW.size) ?_
      intro v' w6 o g hat
      try dsimp only
      obtain ⟨A4, c4, rfl⟩ := own_any o
      have BW2 := BW.grown g (Nat.le_trans HN.out BW.size) (fun j hj => (F8.lt j hj).1)
      replace F7 := own_only F7 ((Only.refl _ (fun k => (Value.slice a78 0 0).ownBlock = some k)).grown g (fun k hk _ => hk)) (fun k hk e => ne_of_types F7 F8 (by decide) k hk e)
      replace F20 := F20.grown g (fun e => own_ne F8 F20 (by decide) e.symm)
      replace BW := BW2
      clear BW2 g hat
      have F12 := o
      clear o
      refine hK.out _ _ ?_ (fun hHeld => ?_)
      · exact HS.out _ BW
      clear hK K hHeld
      try simp only [Act.put, List.setIfInBounds_toArray, List.set_cons_zero, List.set_cons_succ]
      have hHeld := HS.out _ BW
      refine wpAnyH_take (i := 19) (oi := { dst := some 89, op := Op.build 38 #[(0, Operand.tmp 72), (1, Operand.tmp 77), (2, Operand.tmp 82), (3, Operand.tmp 85), (4, Operand.tmp 88)], type := 38, pos := "law.go:70", after := #[{ on := 2, ground := Ground.data }, { on := 7, ground := Ground.data }, { on := 12, ground := Ground.data }, { on := 15, ground := Ground.data }, { on := 18, ground := Ground.data }], guard := none }) (v := ?_) rfl (by kernel_rfl) (by kernel_rfl) (by kernel_rfl) (fun c a w h => hpan c (Act.put a _ _) a w rfl h) (Or.inl ⟨by rfl, ?_⟩) (by assumption) ?_
      rotate_left
      · intro wS hSw; (try dsimp only at hSw); go_simp; (try with_reducible rfl)
      try simp only [Act.put, List.setIfInBounds_toArray, List.set_cons_zero, List.set_cons_succ]
      clear hHeld
      have z0 := F20.cell 0
      have z1 := F20.cell 1
      have z2 := F20.cell 2
      have z3 := F20.cell 3
      have z4 := F20.cell 4
      have z5 := F20.cell 5
      have z6 := F20.cell 6
      have z7 := F20.cell 7
      have z8 := F20.cell 8
      have z9 := F20.cell 9
      have z10 := F20.cell 10
      simp at z0 z1 z2 z3 z4 z5 z6 z7 z8 z9 z10
      have y0 := F20.frozen 0
      have y1 := F20.frozen 1
      have y2 := F20.frozen 2
      have y3 := F20.frozen 3
      have y4 := F20.frozen 4
      have y5 := F20.frozen 5
      have y6 := F20.frozen 6
      have y7 := F20.frozen 7
      have y8 := F20.frozen 8
      have y9 := F20.frozen 9
      have y10 := F20.frozen 10
      have KF := (((((((((((F20.set_ 0 (.bool C.m.frm.null)).set_ 1 (.string C.m.frm.loc)).set_ 2 (.string C.m.frm.dom)).set_ 3 (.slice A3 C.m.to.length c3)).set_ 4 (.slice A4 C.m.lines.length c4)).set_ 5 (.bool C.m.flags.head)).set_ 6 (.bool C.m.flags.body)).set_ 7 (.bool C.m.flags.bad)).set_ 8 (.int .i64 C.m.flags.lines)).set_ 9 (.int .i64 C.m.flags.hops)).set_ 10 (.int .i64 C.m.bytes))
      simp at KF
      have BF := (((((((((((BW.setCell (p := ⟨x15, 0, none⟩) X15.out (.bool C.m.frm.null)).setCell (p := ⟨x15, 1, none⟩) X15.out (.string C.m.frm.loc)).setCell (p := ⟨x15, 2, none⟩) X15.out (.string C.m.frm.dom)).setCell (p := ⟨x15, 3, none⟩) X15.out (.slice A3 C.m.to.length c3)).setCell (p := ⟨x15, 4, none⟩) X15.out (.slice A4 C.m.lines.length c4)).setCell (p := ⟨x15, 5, none⟩) X15.out (.bool C.m.flags.head)).setCell (p := ⟨x15, 6, none⟩) X15.out (.bool C.m.flags.body)).setCell (p := ⟨x15, 7, none⟩) X15.out (.bool C.m.flags.bad)).setCell (p := ⟨x15, 8, none⟩) X15.out (.int .i64 C.m.flags.lines)).setCell (p := ⟨x15, 9, none⟩) X15.out (.int .i64 C.m.flags.hops)).setCell (p := ⟨x15, 10, none⟩) X15.out (.int .i64 C.m.bytes))
      have G7 := (own_set (own_set (own_set (own_set (own_set (own_set (own_set (own_set (own_set (own_set (own_set F7 (p := ⟨x15, 0, none⟩) (own_ne F7 F20 (by decide)) (.bool C.m.frm.null)) (p := ⟨x15, 1, none⟩) (own_ne F7 F20 (by decide)) (.string C.m.frm.loc)) (p := ⟨x15, 2, none⟩) (own_ne F7 F20 (by decide)) (.string C.m.frm.dom)) (p := ⟨x15, 3, none⟩) (own_ne F7 F20 (by decide)) (.slice A3 C.m.to.length c3)) (p := ⟨x15, 4, none⟩) (own_ne F7 F20 (by decide)) (.slice A4 C.m.lines.length c4)) (p := ⟨x15, 5, none⟩) (own_ne F7 F20 (by decide)) (.bool C.m.flags.head)) (p := ⟨x15, 6, none⟩) (own_ne F7 F20 (by decide)) (.bool C.m.flags.body)) (p := ⟨x15, 7, none⟩) (own_ne F7 F20 (by decide)) (.bool C.m.flags.bad)) (p := ⟨x15, 8, none⟩) (own_ne F7 F20 (by decide)) (.int .i64 C.m.flags.lines)) (p := ⟨x15, 9, none⟩) (own_ne F7 F20 (by decide)) (.int .i64 C.m.flags.hops)) (p := ⟨x15, 10, none⟩) (own_ne F7 F20 (by decide)) (.int .i64 C.m.bytes))
      have G12 := (own_set (own_set (own_set (own_set (own_set (own_set (own_set (own_set (own_set (own_set (own_set F12 (p := ⟨x15, 0, none⟩) (own_ne F12 F20 (by decide)) (.bool C.m.frm.null)) (p := ⟨x15, 1, none⟩) (own_ne F12 F20 (by decide)) (.string C.m.frm.loc)) (p := ⟨x15, 2, none⟩) (own_ne F12 F20 (by decide)) (.string C.m.frm.dom)) (p := ⟨x15, 3, none⟩) (own_ne F12 F20 (by decide)) (.slice A3 C.m.to.length c3)) (p := ⟨x15, 4, none⟩) (own_ne F12 F20 (by decide)) (.slice A4 C.m.lines.length c4)) (p := ⟨x15, 5, none⟩) (own_ne F12 F20 (by decide)) (.bool C.m.flags.head)) (p := ⟨x15, 6, none⟩) (own_ne F12 F20 (by decide)) (.bool C.m.flags.body)) (p := ⟨x15, 7, none⟩) (own_ne F12 F20 (by decide)) (.bool C.m.flags.bad)) (p := ⟨x15, 8, none⟩) (own_ne F12 F20 (by decide)) (.int .i64 C.m.flags.lines)) (p := ⟨x15, 9, none⟩) (own_ne F12 F20 (by decide)) (.int .i64 C.m.flags.hops)) (p := ⟨x15, 10, none⟩) (own_ne F12 F20 (by decide)) (.int .i64 C.m.bytes))
      refine wpAnyH_ready (rs := [21]) (by kernel_rfl) (by simp) ?_
      refine AllReadyH.cons (o := { dst := none, op := Op.store 38 (Operand.tmp 15) (Operand.tmp 89), type := 0, pos := "law.go:70", after := #[{ on := 20, ground := Ground.data }, { on := 19, ground := Ground.data }, { on := 12, ground := Ground.chain }, { on := 0, ground := Ground.phase }, { on := 1, ground := Ground.phase }, { on := 2, ground := Ground.phase }, { on := 3, ground := Ground.phase }, { on := 4, ground := Ground.phase }, { on := 5, ground := Ground.phase }, { on := 6, ground := Ground.phase }, { on := 7, ground := Ground.phase }, { on := 8, ground := Ground.phase }, { on := 9, ground := Ground.phase }, { on := 10, ground := Ground.phase }, { on := 11, ground := Ground.phase }, { on := 12, ground := Ground.phase }, { on := 13, ground := Ground.phase }, { on := 14, ground := Ground.phase }, { on := 15, ground := Ground.phase }, { on := 16, ground := Ground.phase }, { on := 17, ground := Ground.phase }, { on := 18, ground := Ground.phase }, { on := 19, ground := Ground.phase }, { on := 20, ground := Ground.phase }], guard := none }) rfl (fun K hK => ?_) AllReadyH.nil
      go_simp
      try dsimp only
      refine hK.out _ _ ?_ (fun hHeld => ?_)
      · exact HS.out _ BF
      clear hK K
      try simp only [Act.put, List.setIfInBounds_toArray, List.set_cons_zero, List.set_cons_succ]
      refine wpAnyH_done (by kernel_rfl) ?_ _
      go_wp2_with fail
      exact HE.out _ _ _ _ _ _ _ _ _ _ _ _ _ _ _ _ _ _ _ _ x15 A3 A4 c3 c4 _ X15.out KF G7 G12 BF
  · go_simp
    refine hK.out _ _ ?_ (fun hHeld => ?_)
    · exact HS.out _ (BW.alloc (Nat.le_trans HN.out BW.size) _)
    clear hK K hHeld
    try simp only [Act.put, List.setIfInBounds_toArray, List.set_cons_zero, List.set_cons_succ]
    have F20 : Bk (w1.alloc (.cells #[.bool false, .string ⟨#[]⟩, .string ⟨#[]⟩, .slice none 0 0, .slice none 0 0, .bool false, .bool false, .bool false, .int .i64 0, .int .i64 0, .int .i64 0] 38)) w1.heap.size 38 #[.bool false, .string ⟨#[]⟩, .string ⟨#[]⟩, .slice none 0 0, .slice none 0 0, .bool false, .bool false, .bool false, .int .i64 0, .int .i64 0, .int .i64 0] := Bk.new _ _ _
    have X15 := Lib.hid (Nat.le_trans HN.out BW.size)
    replace BW := BW.alloc (Nat.le_trans HN.out BW.size) (.cells #[.bool false, .string ⟨#[]⟩, .string ⟨#[]⟩, .slice none 0 0, .slice none 0 0, .bool false, .bool false, .bool false, .int .i64 0, .int .i64 0, .int .i64 0] 38)
    generalize hx15 : w1.heap.size = x15 at *
    generalize w1.alloc (.cells #[.bool false, .string ⟨#[]⟩, .string ⟨#[]⟩, .slice none 0 0, .slice none 0 0, .bool false, .bool false, .bool false, .int .i64 0, .int .i64 0, .int .i64 0] 38) = w2 at *
    refine wpAnyH_ready (rs := [3, 8]) (by kernel_rfl) (by simp) ?_
    refine AllReadyH.cons (o := { dst := some 73, op := Op.buildSlice 33 0 #[], type := 33, pos := "law.go:70", after := #[], guard := none }) rfl (fun K hK => ?_) (AllReadyH.cons (o := { dst := some 78, op := Op.buildSlice 34 0 #[], type := 34, pos := "law.go:70", after := #[], guard := none }) rfl (fun K hK => ?_) (AllReadyH.nil))
    · go_simp
      refine hK.out _ _ ?_ (fun hHeld => ?_)
      · exact HS.out _ (BW.alloc (Nat.le_trans HN.out BW.size) _)
      clear hK K hHeld
      try simp only [Act.put, List.setIfInBounds_toArray, List.set_cons_zero, List.set_cons_succ]
      replace F20 := F20.alloc (.cells #[] 32)
      have F3 : (w2.alloc (.cells #[] 32)).ownsRow N0 32 3 (.slice (some ⟨w2.heap.size, 0, none⟩) 0 0) 0 [] := own_base (World.ownsRow_made w2 #[] 0 (Nat.le_refl _) (by decide) rfl) (Nat.le_trans HN.out BW.size)
      replace BW := BW.alloc (Nat.le_trans HN.out BW.size) (.cells #[] 32)
      generalize hv73 : (some ⟨w2.heap.size, 0, none⟩ : Option Addr) = a73 at *
      generalize w2.alloc (.cells #[] 32) = w3 at *
      refine wpAnyH_ready (rs := [7, 8]) (by kernel_rfl) (by simp) ?_
      refine AllReadyH.cons (o := { dst := some 77, op := Op.call { callee := Callee.builtin Builtin.append, args := #[Operand.tmp 73, Operand.tmp 76], argTypes := #[33, 33] }, type := 33, pos := "law.go:70", after := #[{ on := 3, ground := Ground.data }, { on := 6, ground := Ground.data }], guard := none }) rfl (fun K hK => ?_) (AllReadyH.cons (o := { dst := some 78, op := Op.buildSlice 34 0 #[], type := 34, pos := "law.go:70", after := #[], guard := none }) rfl (fun K hK => ?_) (AllReadyH.nil))
      · refine step_paths (.tmp 73) (.tmp 76) rfl rfl N0 N0 (.slice a73 0 0) rfl F3 At ct C.m.to rfl (Ht.out.below BW) HT.out (Nat.le_trans HN.out BW.size) ?_
        intro v' w4 o g hat
        try dsimp only
        obtain ⟨A3, c3, rfl⟩ := own_any o
        have BW2 := BW.grown g (Nat.le_trans HN.out BW.size) (fun j hj => (F3.lt j hj).1)
        replace F20 := F20.grown g (fun e => own_ne F3 F20 (by decide) e.symm)
        replace BW := BW2
        clear BW2 g hat
        have F7 := o
        clear o
        refine hK.out _ _ ?_ (fun hHeld => ?_)
        · exact HS.out _ BW
        clear hK K hHeld
        try simp only [Act.put, List.setIfInBounds_toArray, List.set_cons_zero, List.set_cons_succ]
        refine wpAnyH_ready (rs := [8]) (by kernel_rfl) (by simp) ?_
        refine AllReadyH.cons (o := { dst := some 78, op := Op.buildSlice 34 0 #[], type := 34, pos := "law.go:70", after := #[], guard := none }) rfl (fun K hK => ?_) AllReadyH.nil
        go_simp
        refine hK.out _ _ ?_ (fun hHeld => ?_)
        · exact HS.out _ (BW.alloc (Nat.le_trans HN.out BW.size) _)
        clear hK K hHeld
        try simp only [Act.put, List.setIfInBounds_toArray, List.set_cons_zero, List.set_cons_succ]
        replace F7 := F7.alloc (.cells #[] 9)
        replace F20 := F20.alloc (.cells #[] 9)
        have F8 : (w4.alloc (.cells #[] 9)).ownsRow N0 9 1 (.slice (some ⟨w4.heap.size, 0, none⟩) 0 0) 0 [] := own_base (World.ownsRow_made w4 #[] 0 (Nat.le_refl _) (by decide) rfl) (Nat.le_trans HN.out BW.size)
        replace BW := BW.alloc (Nat.le_trans HN.out BW.size) (.cells #[] 9)
        generalize hv78 : (some ⟨w4.heap.size, 0, none⟩ : Option Addr) = a78 at *
        generalize w4.alloc (.cells #[] 9) = w5 at *
        refine wpAnyH_ready (rs := [12]) (by kernel_rfl) (by simp) ?_
        refine AllReadyH.cons (o := { dst := some 82, op := Op.call { callee := Callee.builtin Builtin.append, args := #[Operand.tmp 78, Operand.tmp 81], argTypes := #[34, 34] }, type := 34, pos := "law.go:70", after := #[{ on := 8, ground := Ground.data }, { on := 11, ground := Ground.data }, { on := 7, ground := Ground.chain }], guard := none }) rfl (fun K hK => ?_) AllReadyH.nil
        refine step_strs (.tmp 78) (.tmp 81) rfl rfl N0 N0 (.slice a78 0 0) rfl F8 Al cl C.m.lines rfl (Hl.out.below BW) HLn.out (Nat.le_trans HN.out BW.size) ?_
        intro v' w6 o g hat
        try dsimp only
        obtain ⟨A4, c4, rfl⟩ := own_any o
        have BW2 := BW.grown g (Nat.le_trans HN.out BW.size) (fun j hj => (F8.lt j hj).1)
        replace F7 := own_only F7 ((Only.refl _ (fun k => (Value.slice a78 0 0).ownBlock = some k)).grown g (fun k hk _ => hk)) (fun k hk e => ne_of_types F7 F8 (by decide) k hk e)
        replace F20 := F20.grown g (fun e => own_ne F8 F20 (by decide) e.symm)
        replace BW := BW2
        clear BW2 g hat
        have F12 := o
        clear o
        refine hK.out _ _ ?_ (fun hHeld => ?_)
        · exact HS.out _ BW
        clear hK K hHeld
        try simp only [Act.put, List.setIfInBounds_toArray, List.set_cons_zero, List.set_cons_succ]
        have hHeld := HS.out _ BW
        refine wpAnyH_take (i := 19) (oi := { dst := some 89, op := Op.build 38 #[(0, Operand.tmp 72), (1, Operand.tmp 77), (2, Operand.tmp 82), (3, Operand.tmp 85), (4, Operand.tmp 88)], type := 38, pos := "law.go:70", after := #[{ on := 2, ground := Ground.data }, { on := 7, ground := Ground.data }, { on := 12, ground := Ground.data }, { on := 15, ground := Ground.data }, { on := 18, ground := Ground.data }], guard := none }) (v := ?_) rfl (by kernel_rfl) (by kernel_rfl) (by kernel_rfl) (fun c a w h => hpan c (Act.put a _ _) a w rfl h) (Or.inl ⟨by rfl, ?_⟩) (by assumption) ?_
        rotate_left
        · intro wS hSw; (try dsimp only at hSw); go_simp; (try with_reducible rfl)
        try simp only [Act.put, List.setIfInBounds_toArray, List.set_cons_zero, List.set_cons_succ]
        clear hHeld
        have z0 := F20.cell 0
        have z1 := F20.cell 1
        have z2 := F20.cell 2
        have z3 := F20.cell 3
        have z4 := F20.cell 4
        have z5 := F20.cell 5
        have z6 := F20.cell 6
        have z7 := F20.cell 7
        have z8 := F20.cell 8
        have z9 := F20.cell 9
        have z10 := F20.cell 10
        simp at z0 z1 z2 z3 z4 z5 z6 z7 z8 z9 z10
        have y0 := F20.frozen 0
        have y1 := F20.frozen 1
        have y2 := F20.frozen 2
        have y3 := F20.frozen 3
        have y4 := F20.frozen 4
        have y5 := F20.frozen 5
        have y6 := F20.frozen 6
        have y7 := F20.frozen 7
        have y8 := F20.frozen 8
        have y9 := F20.frozen 9
        have y10 := F20.frozen 10
        have KF := (((((((((((F20.set_ 0 (.bool C.m.frm.null)).set_ 1 (.string C.m.frm.loc)).set_ 2 (.string C.m.frm.dom)).set_ 3 (.slice A3 C.m.to.length c3)).set_ 4 (.slice A4 C.m.lines.length c4)).set_ 5 (.bool C.m.flags.head)).set_ 6 (.bool C.m.flags.body)).set_ 7 (.bool C.m.flags.bad)).set_ 8 (.int .i64 C.m.flags.lines)).set_ 9 (.int .i64 C.m.flags.hops)).set_ 10 (.int .i64 C.m.bytes))
        simp at KF
        have BF := (((((((((((BW.setCell (p := ⟨x15, 0, none⟩) X15.out (.bool C.m.frm.null)).setCell (p := ⟨x15, 1, none⟩) X15.out (.string C.m.frm.loc)).setCell (p := ⟨x15, 2, none⟩) X15.out (.string C.m.frm.dom)).setCell (p := ⟨x15, 3, none⟩) X15.out (.slice A3 C.m.to.length c3)).setCell (p := ⟨x15, 4, none⟩) X15.out (.slice A4 C.m.lines.length c4)).setCell (p := ⟨x15, 5, none⟩) X15.out (.bool C.m.flags.head)).setCell (p := ⟨x15, 6, none⟩) X15.out (.bool C.m.flags.body)).setCell (p := ⟨x15, 7, none⟩) X15.out (.bool C.m.flags.bad)).setCell (p := ⟨x15, 8, none⟩) X15.out (.int .i64 C.m.flags.lines)).setCell (p := ⟨x15, 9, none⟩) X15.out (.int .i64 C.m.flags.hops)).setCell (p := ⟨x15, 10, none⟩) X15.out (.int .i64 C.m.bytes))
        have G7 := (own_set (own_set (own_set (own_set (own_set (own_set (own_set (own_set (own_set (own_set (own_set F7 (p := ⟨x15, 0, none⟩) (own_ne F7 F20 (by decide)) (.bool C.m.frm.null)) (p := ⟨x15, 1, none⟩) (own_ne F7 F20 (by decide)) (.string C.m.frm.loc)) (p := ⟨x15, 2, none⟩) (own_ne F7 F20 (by decide)) (.string C.m.frm.dom)) (p := ⟨x15, 3, none⟩) (own_ne F7 F20 (by decide)) (.slice A3 C.m.to.length c3)) (p := ⟨x15, 4, none⟩) (own_ne F7 F20 (by decide)) (.slice A4 C.m.lines.length c4)) (p := ⟨x15, 5, none⟩) (own_ne F7 F20 (by decide)) (.bool C.m.flags.head)) (p := ⟨x15, 6, none⟩) (own_ne F7 F20 (by decide)) (.bool C.m.flags.body)) (p := ⟨x15, 7, none⟩) (own_ne F7 F20 (by decide)) (.bool C.m.flags.bad)) (p := ⟨x15, 8, none⟩) (own_ne F7 F20 (by decide)) (.int .i64 C.m.flags.lines)) (p := ⟨x15, 9, none⟩) (own_ne F7 F20 (by decide)) (.int .i64 C.m.flags.hops)) (p := ⟨x15, 10, none⟩) (own_ne F7 F20 (by decide)) (.int .i64 C.m.bytes))
        have G12 := (own_set (own_set (own_set (own_set (own_set (own_set (own_set (own_set (own_set (own_set (own_set F12 (p := ⟨x15, 0, none⟩) (own_ne F12 F20 (by decide)) (.bool C.m.frm.null)) (p := ⟨x15, 1, none⟩) (own_ne F12 F20 (by decide)) (.string C.m.frm.loc)) (p := ⟨x15, 2, none⟩) (own_ne F12 F20 (by decide)) (.string C.m.frm.dom)) (p := ⟨x15, 3, none⟩) (own_ne F12 F20 (by decide)) (.slice A3 C.m.to.length c3)) (p := ⟨x15, 4, none⟩) (own_ne F12 F20 (by decide)) (.slice A4 C.m.lines.length c4)) (p := ⟨x15, 5, none⟩) (own_ne F12 F20 (by decide)) (.bool C.m.flags.head)) (p := ⟨x15, 6, none⟩) (own_ne F12 F20 (by decide)) (.bool C.m.flags.body)) (p := ⟨x15, 7, none⟩) (own_ne F12 F20 (by decide)) (.bool C.m.flags.bad)) (p := ⟨x15, 8, none⟩) (own_ne F12 F20 (by decide)) (.int .i64 C.m.flags.lines)) (p := ⟨x15, 9, none⟩) (own_ne F12 F20 (by decide)) (.int .i64 C.m.flags.hops)) (p := ⟨x15, 10, none⟩) (own_ne F12 F20 (by decide)) (.int .i64 C.m.bytes))
        refine wpAnyH_ready (rs := [21]) (by kernel_rfl) (by simp) ?_
        refine AllReadyH.cons (o := { dst := none, op := Op.store 38 (Operand.tmp 15) (Operand.tmp 89), type := 0, pos := "law.go:70", after := #[{ on := 20, ground := Ground.data }, { on := 19, ground := Ground.data }, { on := 12, ground := Ground.chain }, { on := 0, ground := Ground.phase }, { on := 1, ground := Ground.phase }, { on := 2, ground := Ground.phase }, { on := 3, ground := Ground.phase }, { on := 4, ground := Ground.phase }, { on := 5, ground := Ground.phase }, { on := 6, ground := Ground.phase }, { on := 7, ground := Ground.phase }, { on := 8, ground := Ground.phase }, { on := 9, ground := Ground.phase }, { on := 10, ground := Ground.phase }, { on := 11, ground := Ground.phase }, { on := 12, ground := Ground.phase }, { on := 13, ground := Ground.phase }, { on := 14, ground := Ground.phase }, { on := 15, ground := Ground.phase }, { on := 16, ground := Ground.phase }, { on := 17, ground := Ground.phase }, { on := 18, ground := Ground.phase }, { on := 19, ground := Ground.phase }, { on := 20, ground := Ground.phase }], guard := none }) rfl (fun K hK => ?_) AllReadyH.nil
        go_simp
        try dsimp only
        refine hK.out _ _ ?_ (fun hHeld => ?_)
        · exact HS.out _ BF
        clear hK K
        try simp only [Act.put, List.setIfInBounds_toArray, List.set_cons_zero, List.set_cons_succ]
        refine wpAnyH_done (by kernel_rfl) ?_ _
        go_wp2_with fail
        exact HE.out _ _ _ _ _ _ _ _ _ _ _ _ _ _ _ _ _ _ _ _ x15 A3 A4 c3 c4 _ X15.out KF G7 G12 BF
      · go_simp
        refine hK.out _ _ ?_ (fun hHeld => ?_)
        · exact HS.out _ (BW.alloc (Nat.le_trans HN.out BW.size) _)
        clear hK K hHeld
        try simp only [Act.put, List.setIfInBounds_toArray, List.set_cons_zero, List.set_cons_succ]
        replace F3 := F3.alloc (.cells #[] 9)
        replace F20 := F20.alloc (.cells #[] 9)
        have F8 : (w3.alloc (.cells #[] 9)).ownsRow N0 9 1 (.slice (some ⟨w3.heap.size, 0, none⟩) 0 0) 0 [] := own_base (World.ownsRow_made w3 #[] 0 (Nat.le_refl _) (by decide) rfl) (Nat.le_trans HN.out BW.size)
        replace BW := BW.alloc (Nat.le_trans HN.out BW.size) (.cells #[] 9)
        generalize hv78 : (some ⟨w3.heap.size, 0, none⟩ : Option Addr) = a78 at *
        generalize w3.alloc (.cells #[] 9) = w4 at *
        refine wpAnyH_ready (rs := [7]) (by kernel_rfl) (by simp) ?_
        refine AllReadyH.cons (o := { dst := some 77, op := Op.call { callee := Callee.builtin Builtin.append, args := #[Operand.tmp 73, Operand.tmp 76], argTypes := #[33, 33] }, type := 33, pos := "law.go:70", after := #[{ on := 3, ground := Ground.data }, { on := 6, ground := Ground.data }], guard := none }) rfl (fun K hK => ?_) AllReadyH.nil
        refine step_paths (.tmp 73) (.tmp 76) rfl rfl N0 N0 (.slice a73 0 0) rfl F3 At ct C.m.to rfl (Ht.out.below BW) HT.out (Nat.le_trans HN.out BW.size) ?_
        intro v' w5 o g hat
        try dsimp only
        obtain ⟨A3, c3, rfl⟩ := own_any o
        have BW2 := BW.grown g (Nat.le_trans HN.out BW.size) (fun j hj => (F3.lt j hj).1)
        replace F8 := own_only F8 ((Only.refl _ (fun k => (Value.slice a73 0 0).ownBlock = some k)).grown g (fun k hk _ => hk)) (fun k hk e => ne_of_types F8 F3 (by decide) k hk e)
        replace F20 := F20.grown g (fun e => own_ne F3 F20 (by decide) e.symm)
        replace BW := BW2
        clear BW2 g hat
        have F7 := o
        clear o
        refine hK.out _ _ ?_ (fun hHeld => ?_)
        · exact HS.out _ BW
        clear hK K hHeld
        try simp only [Act.put, List.setIfInBounds_toArray, List.set_cons_zero, List.set_cons_succ]
        refine wpAnyH_ready (rs := [12]) (by kernel_rfl) (by simp) ?_
        refine AllReadyH.cons (o := { dst := some 82, op := Op.call { callee := Callee.builtin Builtin.append, args := #[Operand.tmp 78, Operand.tmp 81], argTypes := #[34, 34] }, type := 34, pos := "law.go:70", after := #[{ on := 8, ground := Ground.data }, { on := 11, ground := Ground.data }, { on := 7, ground := Ground.chain }], guard := none }) rfl (fun K hK => ?_) AllReadyH.nil
        refine step_strs (.tmp 78) (.tmp 81) rfl rfl N0 N0 (.slice a78 0 0) rfl F8 Al cl C.m.lines rfl (Hl.out.below BW) HLn.out (Nat.le_trans HN.out BW.size) ?_
        intro v' w6 o g hat
        try dsimp only
        obtain ⟨A4, c4, rfl⟩ := own_any o
        have BW2 := BW.grown g (Nat.le_trans HN.out BW.size) (fun j hj => (F8.lt j hj).1)
        replace F7 := own_only F7 ((Only.refl _ (fun k => (Value.slice a78 0 0).ownBlock = some k)).grown g (fun k hk _ => hk)) (fun k hk e => ne_of_types F7 F8 (by decide) k hk e)
        replace F20 := F20.grown g (fun e => own_ne F8 F20 (by decide) e.symm)
        replace BW := BW2
        clear BW2 g hat
        have F12 := o
        clear o
        refine hK.out _ _ ?_ (fun hHeld => ?_)
        · exact HS.out _ BW
        clear hK K hHeld
        try simp only [Act.put, List.setIfInBounds_toArray, List.set_cons_zero, List.set_cons_succ]
        have hHeld := HS.out _ BW
        refine wpAnyH_take (i := 19) (oi := { dst := some 89, op := Op.build 38 #[(0, Operand.tmp 72), (1, Operand.tmp 77), (2, Operand.tmp 82), (3, Operand.tmp 85), (4, Operand.tmp 88)], type := 38, pos := "law.go:70", after := #[{ on := 2, ground := Ground.data }, { on := 7, ground := Ground.data }, { on := 12, ground := Ground.data }, { on := 15, ground := Ground.data }, { on := 18, ground := Ground.data }], guard := none }) (v := ?_) rfl (by kernel_rfl) (by kernel_rfl) (by kernel_rfl) (fun c a w h => hpan c (Act.put a _ _) a w rfl h) (Or.inl ⟨by rfl, ?_⟩) (by assumption) ?_
        rotate_left
        · intro wS hSw; (try dsimp only at hSw); go_simp; (try with_reducible rfl)
        try simp only [Act.put, List.setIfInBounds_toArray, List.set_cons_zero, List.set_cons_succ]
        clear hHeld
        have z0 := F20.cell 0
        have z1 := F20.cell 1
        have z2 := F20.cell 2
        have z3 := F20.cell 3
        have z4 := F20.cell 4
        have z5 := F20.cell 5
        have z6 := F20.cell 6
        have z7 := F20.cell 7
        have z8 := F20.cell 8
        have z9 := F20.cell 9
        have z10 := F20.cell 10
        simp at z0 z1 z2 z3 z4 z5 z6 z7 z8 z9 z10
        have y0 := F20.frozen 0
        have y1 := F20.frozen 1
        have y2 := F20.frozen 2
        have y3 := F20.frozen 3
        have y4 := F20.frozen 4
        have y5 := F20.frozen 5
        have y6 := F20.frozen 6
        have y7 := F20.frozen 7
        have y8 := F20.frozen 8
        have y9 := F20.frozen 9
        have y10 := F20.frozen 10
        have KF := (((((((((((F20.set_ 0 (.bool C.m.frm.null)).set_ 1 (.string C.m.frm.loc)).set_ 2 (.string C.m.frm.dom)).set_ 3 (.slice A3 C.m.to.length c3)).set_ 4 (.slice A4 C.m.lines.length c4)).set_ 5 (.bool C.m.flags.head)).set_ 6 (.bool C.m.flags.body)).set_ 7 (.bool C.m.flags.bad)).set_ 8 (.int .i64 C.m.flags.lines)).set_ 9 (.int .i64 C.m.flags.hops)).set_ 10 (.int .i64 C.m.bytes))
        simp at KF
        have BF := (((((((((((BW.setCell (p := ⟨x15, 0, none⟩) X15.out (.bool C.m.frm.null)).setCell (p := ⟨x15, 1, none⟩) X15.out (.string C.m.frm.loc)).setCell (p := ⟨x15, 2, none⟩) X15.out (.string C.m.frm.dom)).setCell (p := ⟨x15, 3, none⟩) X15.out (.slice A3 C.m.to.length c3)).setCell (p := ⟨x15, 4, none⟩) X15.out (.slice A4 C.m.lines.length c4)).setCell (p := ⟨x15, 5, none⟩) X15.out (.bool C.m.flags.head)).setCell (p := ⟨x15, 6, none⟩) X15.out (.bool C.m.flags.body)).setCell (p := ⟨x15, 7, none⟩) X15.out (.bool C.m.flags.bad)).setCell (p := ⟨x15, 8, none⟩) X15.out (.int .i64 C.m.flags.lines)).setCell (p := ⟨x15, 9, none⟩) X15.out (.int .i64 C.m.flags.hops)).setCell (p := ⟨x15, 10, none⟩) X15.out (.int .i64 C.m.bytes))
        have G7 := (own_set (own_set (own_set (own_set (own_set (own_set (own_set (own_set (own_set (own_set (own_set F7 (p := ⟨x15, 0, none⟩) (own_ne F7 F20 (by decide)) (.bool C.m.frm.null)) (p := ⟨x15, 1, none⟩) (own_ne F7 F20 (by decide)) (.string C.m.frm.loc)) (p := ⟨x15, 2, none⟩) (own_ne F7 F20 (by decide)) (.string C.m.frm.dom)) (p := ⟨x15, 3, none⟩) (own_ne F7 F20 (by decide)) (.slice A3 C.m.to.length c3)) (p := ⟨x15, 4, none⟩) (own_ne F7 F20 (by decide)) (.slice A4 C.m.lines.length c4)) (p := ⟨x15, 5, none⟩) (own_ne F7 F20 (by decide)) (.bool C.m.flags.head)) (p := ⟨x15, 6, none⟩) (own_ne F7 F20 (by decide)) (.bool C.m.flags.body)) (p := ⟨x15, 7, none⟩) (own_ne F7 F20 (by decide)) (.bool C.m.flags.bad)) (p := ⟨x15, 8, none⟩) (own_ne F7 F20 (by decide)) (.int .i64 C.m.flags.lines)) (p := ⟨x15, 9, none⟩) (own_ne F7 F20 (by decide)) (.int .i64 C.m.flags.hops)) (p := ⟨x15, 10, none⟩) (own_ne F7 F20 (by decide)) (.int .i64 C.m.bytes))
        have G12 := (own_set (own_set (own_set (own_set (own_set (own_set (own_set (own_set (own_set (own_set (own_set F12 (p := ⟨x15, 0, none⟩) (own_ne F12 F20 (by decide)) (.bool C.m.frm.null)) (p := ⟨x15, 1, none⟩) (own_ne F12 F20 (by decide)) (.string C.m.frm.loc)) (p := ⟨x15, 2, none⟩) (own_ne F12 F20 (by decide)) (.string C.m.frm.dom)) (p := ⟨x15, 3, none⟩) (own_ne F12 F20 (by decide)) (.slice A3 C.m.to.length c3)) (p := ⟨x15, 4, none⟩) (own_ne F12 F20 (by decide)) (.slice A4 C.m.lines.length c4)) (p := ⟨x15, 5, none⟩) (own_ne F12 F20 (by decide)) (.bool C.m.flags.head)) (p := ⟨x15, 6, none⟩) (own_ne F12 F20 (by decide)) (.bool C.m.flags.body)) (p := ⟨x15, 7, none⟩) (own_ne F12 F20 (by decide)) (.bool C.m.flags.bad)) (p := ⟨x15, 8, none⟩) (own_ne F12 F20 (by decide)) (.int .i64 C.m.flags.lines)) (p := ⟨x15, 9, none⟩) (own_ne F12 F20 (by decide)) (.int .i64 C.m.flags.hops)) (p := ⟨x15, 10, none⟩) (own_ne F12 F20 (by decide)) (.int .i64 C.m.bytes))
        refine wpAnyH_ready (rs := [21]) (by kernel_rfl) (by simp) ?_
        refine AllReadyH.cons (o := { dst := none, op := Op.store 38 (Operand.tmp 15) (Operand.tmp 89), type := 0, pos := "law.go:70", after := #[{ on := 20, ground := Ground.data }, { on := 19, ground := Ground.data }, { on := 12, ground := Ground.chain }, { on := 0, ground := Ground.phase }, { on := 1, ground := Ground.phase }, { on := 2, ground := Ground.phase }, { on := 3, ground := Ground.phase }, { on := 4, ground := Ground.phase }, { on := 5, ground := Ground.phase }, { on := 6, ground := Ground.phase }, { on := 7, ground := Ground.phase }, { on := 8, ground := Ground.phase }, { on := 9, ground := Ground.phase }, { on := 10, ground := Ground.phase }, { on := 11, ground := Ground.phase }, { on := 12, ground := Ground.phase }, { on := 13, ground := Ground.phase }, { on := 14, ground := Ground.phase }, { on := 15, ground := Ground.phase }, { on := 16, ground := Ground.phase }, { on := 17, ground := Ground.phase }, { on := 18, ground := Ground.phase }, { on := 19, ground := Ground.phase }, { on := 20, ground := Ground.phase }], guard := none }) rfl (fun K hK => ?_) AllReadyH.nil
        go_simp
        try dsimp only
        refine hK.out _ _ ?_ (fun hHeld => ?_)
        · exact HS.out _ BF
        clear hK K
        try simp only [Act.put, List.setIfInBounds_toArray, List.set_cons_zero, List.set_cons_succ]
        refine wpAnyH_done (by kernel_rfl) ?_ _
        go_wp2_with fail
        exact HE.out _ _ _ _ _ _ _ _ _ _ _ _ _ _ _ _ _ _ _ _ x15 A3 A4 c3 c4 _ X15.out KF G7 G12 BF
    · go_simp
      refine hK.out _ _ ?_ (fun hHeld => ?_)
      · exact HS.out _ (BW.alloc (Nat.le_trans HN.out BW.size) _)
      clear hK K hHeld
      try simp only [Act.put, List.setIfInBounds_toArray, List.set_cons_zero, List.set_cons_succ]
      replace F20 := F20.alloc (.cells #[] 9)
      have F8 : (w2.alloc (.cells #[] 9)).ownsRow N0 9 1 (.slice (some ⟨w2.heap.size, 0, none⟩) 0 0) 0 [] := own_base (World.ownsRow_made w2 #[] 0 (Nat.le_refl _) (by decide) rfl) (Nat.le_trans HN.out BW.size)
      replace BW := BW.alloc (Nat.le_trans HN.out BW.size) (.cells #[] 9)
      generalize hv78 : (some ⟨w2.heap.size, 0, none⟩ : Option Addr) = a78 at *
      generalize w2.alloc (.cells #[] 9) = w3 at *
      refine wpAnyH_ready (rs := [3]) (by kernel_rfl) (by simp) ?_
      refine AllReadyH.cons (o := { dst := some 73, op := Op.buildSlice 33 0 #[], type := 33, pos := "law.go:70", after := #[], guard := none }) rfl (fun K hK => ?_) AllReadyH.nil
      go_simp
      refine hK.out _ _ ?_ (fun hHeld => ?_)
      · exact HS.out _ (BW.alloc (Nat.le_trans HN.out BW.size) _)
      clear hK K hHeld
      try simp only [Act.put, List.setIfInBounds_toArray, List.set_cons_zero, List.set_cons_succ]
      replace F8 := F8.alloc (.cells #[] 32)
      replace F20 := F20.alloc (.cells #[] 32)
      have F3 : (w3.alloc (.cells #[] 32)).ownsRow N0 32 3 (.slice (some ⟨w3.heap.size, 0, none⟩) 0 0) 0 [] := own_base (World.ownsRow_made w3 #[] 0 (Nat.le_refl _) (by decide) rfl) (Nat.le_trans HN.out BW.size)
      replace BW := BW.alloc (Nat.le_trans HN.out BW.size) (.cells #[] 32)
      generalize hv73 : (some ⟨w3.heap.size, 0, none⟩ : Option Addr) = a73 at *
      generalize w3.alloc (.cells #[] 32) = w4 at *
      refine wpAnyH_ready (rs := [7]) (by kernel_rfl) (by simp) ?_
      refine AllReadyH.cons (o := { dst := some 77, op := Op.call { callee := Callee.builtin Builtin.append, args := #[Operand.tmp 73, Operand.tmp 76], argTypes := #[33, 33] }, type := 33, pos := "law.go:70", after := #[{ on := 3, ground := Ground.data }, { on := 6, ground := Ground.data }], guard := none }) rfl (fun K hK => ?_) AllReadyH.nil
      refine step_paths (.tmp 73) (.tmp 76) rfl rfl N0 N0 (.slice a73 0 0) rfl F3 At ct C.m.to rfl (Ht.out.below BW) HT.out (Nat.le_trans HN.out BW.size) ?_
      intro v' w5 o g hat
      try dsimp only
      obtain ⟨A3, c3, rfl⟩ := own_any o
      have BW2 := BW.grown g (Nat.le_trans HN.out BW.size) (fun j hj => (F3.lt j hj).1)
      replace F8 := own_only F8 ((Only.refl _ (fun k => (Value.slice a73 0 0).ownBlock = some k)).grown g (fun k hk _ => hk)) (fun k hk e => ne_of_types F8 F3 (by decide) k hk e)
      replace F20 := F20.grown g (fun e => own_ne F3 F20 (by decide) e.symm)
      replace BW := BW2
      clear BW2 g hat
      have F7 := o
      clear o
      refine hK.out _ _ ?_ (fun hHeld => ?_)
      · exact HS.out _ BW
      clear hK K hHeld
      try simp only [Act.put, List.setIfInBounds_toArray, List.set_cons_zero, List.set_cons_succ]
      refine wpAnyH_ready (rs := [12]) (by kernel_rfl) (by simp) ?_
      refine AllReadyH.cons (o := { dst := some 82, op := Op.call { callee := Callee.builtin Builtin.append, args := #[Operand.tmp 78, Operand.tmp 81], argTypes := #[34, 34] }, type := 34, pos := "law.go:70", after := #[{ on := 8, ground := Ground.data }, { on := 11, ground := Ground.data }, { on := 7, ground := Ground.chain }], guard := none }) rfl (fun K hK => ?_) AllReadyH.nil
      refine step_strs (.tmp 78) (.tmp 81) rfl rfl N0 N0 (.slice a78 0 0) rfl F8 Al cl C.m.lines rfl (Hl.out.below BW) HLn.out (Nat.le_trans HN.out BW.size) ?_
      intro v' w6 o g hat
      try dsimp only
      obtain ⟨A4, c4, rfl⟩ := own_any o
      have BW2 := BW.grown g (Nat.le_trans HN.out BW.size) (fun j hj => (F8.lt j hj).1)
      replace F7 := own_only F7 ((Only.refl _ (fun k => (Value.slice a78 0 0).ownBlock = some k)).grown g (fun k hk _ => hk)) (fun k hk e => ne_of_types F7 F8 (by decide) k hk e)
      replace F20 := F20.grown g (fun e => own_ne F8 F20 (by decide) e.symm)
      replace BW := BW2
      clear BW2 g hat
      have F12 := o
      clear o
      refine hK.out _ _ ?_ (fun hHeld => ?_)
      · exact HS.out _ BW
      clear hK K hHeld
      try simp only [Act.put, List.setIfInBounds_toArray, List.set_cons_zero, List.set_cons_succ]
      have hHeld := HS.out _ BW
      refine wpAnyH_take (i := 19) (oi := { dst := some 89, op := Op.build 38 #[(0, Operand.tmp 72), (1, Operand.tmp 77), (2, Operand.tmp 82), (3, Operand.tmp 85), (4, Operand.tmp 88)], type := 38, pos := "law.go:70", after := #[{ on := 2, ground := Ground.data }, { on := 7, ground := Ground.data }, { on := 12, ground := Ground.data }, { on := 15, ground := Ground.data }, { on := 18, ground := Ground.data }], guard := none }) (v := ?_) rfl (by kernel_rfl) (by kernel_rfl) (by kernel_rfl) (fun c a w h => hpan c (Act.put a _ _) a w rfl h) (Or.inl ⟨by rfl, ?_⟩) (by assumption) ?_
      rotate_left
      · intro wS hSw; (try dsimp only at hSw); go_simp; (try with_reducible rfl)
      try simp only [Act.put, List.setIfInBounds_toArray, List.set_cons_zero, List.set_cons_succ]
      clear hHeld
      have z0 := F20.cell 0
      have z1 := F20.cell 1
      have z2 := F20.cell 2
      have z3 := F20.cell 3
      have z4 := F20.cell 4
      have z5 := F20.cell 5
      have z6 := F20.cell 6
      have z7 := F20.cell 7
      have z8 := F20.cell 8
      have z9 := F20.cell 9
      have z10 := F20.cell 10
      simp at z0 z1 z2 z3 z4 z5 z6 z7 z8 z9 z10
      have y0 := F20.frozen 0
      have y1 := F20.frozen 1
      have y2 := F20.frozen 2
      have y3 := F20.frozen 3
      have y4 := F20.frozen 4
      have y5 := F20.frozen 5
      have y6 := F20.frozen 6
      have y7 := F20.frozen 7
      have y8 := F20.frozen 8
      have y9 := F20.frozen 9
      have y10 := F20.frozen 10
      have KF := (((((((((((F20.set_ 0 (.bool C.m.frm.null)).set_ 1 (.string C.m.frm.loc)).set_ 2 (.string C.m.frm.dom)).set_ 3 (.slice A3 C.m.to.length c3)).set_ 4 (.slice A4 C.m.lines.length c4)).set_ 5 (.bool C.m.flags.head)).set_ 6 (.bool C.m.flags.body)).set_ 7 (.bool C.m.flags.bad)).set_ 8 (.int .i64 C.m.flags.lines)).set_ 9 (.int .i64 C.m.flags.hops)).set_ 10 (.int .i64 C.m.bytes))
      simp at KF
      have BF := (((((((((((BW.setCell (p := ⟨x15, 0, none⟩) X15.out (.bool C.m.frm.null)).setCell (p := ⟨x15, 1, none⟩) X15.out (.string C.m.frm.loc)).setCell (p := ⟨x15, 2, none⟩) X15.out (.string C.m.frm.dom)).setCell (p := ⟨x15, 3, none⟩) X15.out (.slice A3 C.m.to.length c3)).setCell (p := ⟨x15, 4, none⟩) X15.out (.slice A4 C.m.lines.length c4)).setCell (p := ⟨x15, 5, none⟩) X15.out (.bool C.m.flags.head)).setCell (p := ⟨x15, 6, none⟩) X15.out (.bool C.m.flags.body)).setCell (p := ⟨x15, 7, none⟩) X15.out (.bool C.m.flags.bad)).setCell (p := ⟨x15, 8, none⟩) X15.out (.int .i64 C.m.flags.lines)).setCell (p := ⟨x15, 9, none⟩) X15.out (.int .i64 C.m.flags.hops)).setCell (p := ⟨x15, 10, none⟩) X15.out (.int .i64 C.m.bytes))
      have G7 := (own_set (own_set (own_set (own_set (own_set (own_set (own_set (own_set (own_set (own_set (own_set F7 (p := ⟨x15, 0, none⟩) (own_ne F7 F20 (by decide)) (.bool C.m.frm.null)) (p := ⟨x15, 1, none⟩) (own_ne F7 F20 (by decide)) (.string C.m.frm.loc)) (p := ⟨x15, 2, none⟩) (own_ne F7 F20 (by decide)) (.string C.m.frm.dom)) (p := ⟨x15, 3, none⟩) (own_ne F7 F20 (by decide)) (.slice A3 C.m.to.length c3)) (p := ⟨x15, 4, none⟩) (own_ne F7 F20 (by decide)) (.slice A4 C.m.lines.length c4)) (p := ⟨x15, 5, none⟩) (own_ne F7 F20 (by decide)) (.bool C.m.flags.head)) (p := ⟨x15, 6, none⟩) (own_ne F7 F20 (by decide)) (.bool C.m.flags.body)) (p := ⟨x15, 7, none⟩) (own_ne F7 F20 (by decide)) (.bool C.m.flags.bad)) (p := ⟨x15, 8, none⟩) (own_ne F7 F20 (by decide)) (.int .i64 C.m.flags.lines)) (p := ⟨x15, 9, none⟩) (own_ne F7 F20 (by decide)) (.int .i64 C.m.flags.hops)) (p := ⟨x15, 10, none⟩) (own_ne F7 F20 (by decide)) (.int .i64 C.m.bytes))
      have G12 := (own_set (own_set (own_set (own_set (own_set (own_set (own_set (own_set (own_set (own_set (own_set F12 (p := ⟨x15, 0, none⟩) (own_ne F12 F20 (by decide)) (.bool C.m.frm.null)) (p := ⟨x15, 1, none⟩) (own_ne F12 F20 (by decide)) (.string C.m.frm.loc)) (p := ⟨x15, 2, none⟩) (own_ne F12 F20 (by decide)) (.string C.m.frm.dom)) (p := ⟨x15, 3, none⟩) (own_ne F12 F20 (by decide)) (.slice A3 C.m.to.length c3)) (p := ⟨x15, 4, none⟩) (own_ne F12 F20 (by decide)) (.slice A4 C.m.lines.length c4)) (p := ⟨x15, 5, none⟩) (own_ne F12 F20 (by decide)) (.bool C.m.flags.head)) (p := ⟨x15, 6, none⟩) (own_ne F12 F20 (by decide)) (.bool C.m.flags.body)) (p := ⟨x15, 7, none⟩) (own_ne F12 F20 (by decide)) (.bool C.m.flags.bad)) (p := ⟨x15, 8, none⟩) (own_ne F12 F20 (by decide)) (.int .i64 C.m.flags.lines)) (p := ⟨x15, 9, none⟩) (own_ne F12 F20 (by decide)) (.int .i64 C.m.flags.hops)) (p := ⟨x15, 10, none⟩) (own_ne F12 F20 (by decide)) (.int .i64 C.m.bytes))
      refine wpAnyH_ready (rs := [21]) (by kernel_rfl) (by simp) ?_
      refine AllReadyH.cons (o := { dst := none, op := Op.store 38 (Operand.tmp 15) (Operand.tmp 89), type := 0, pos := "law.go:70", after := #[{ on := 20, ground := Ground.data }, { on := 19, ground := Ground.data }, { on := 12, ground := Ground.chain }, { on := 0, ground := Ground.phase }, { on := 1, ground := Ground.phase }, { on := 2, ground := Ground.phase }, { on := 3, ground := Ground.phase }, { on := 4, ground := Ground.phase }, { on := 5, ground := Ground.phase }, { on := 6, ground := Ground.phase }, { on := 7, ground := Ground.phase }, { on := 8, ground := Ground.phase }, { on := 9, ground := Ground.phase }, { on := 10, ground := Ground.phase }, { on := 11, ground := Ground.phase }, { on := 12, ground := Ground.phase }, { on := 13, ground := Ground.phase }, { on := 14, ground := Ground.phase }, { on := 15, ground := Ground.phase }, { on := 16, ground := Ground.phase }, { on := 17, ground := Ground.phase }, { on := 18, ground := Ground.phase }, { on := 19, ground := Ground.phase }, { on := 20, ground := Ground.phase }], guard := none }) rfl (fun K hK => ?_) AllReadyH.nil
      go_simp
      try dsimp only
      refine hK.out _ _ ?_ (fun hHeld => ?_)
      · exact HS.out _ BF
      clear hK K
      try simp only [Act.put, List.setIfInBounds_toArray, List.set_cons_zero, List.set_cons_succ]
      refine wpAnyH_done (by kernel_rfl) ?_ _
      go_wp2_with fail
      exact HE.out _ _ _ _ _ _ _ _ _ _ _ _ _ _ _ _ _ _ _ _ x15 A3 A4 c3 c4 _ X15.out KF G7 G12 BF
end Go.Proofs.Ytlbghgmeiajioaa
