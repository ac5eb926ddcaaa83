/- QueueStates: the loop that reads all items. -/
import Derived.Test.YtlbghgmeiajioaaWm
import Derived.Test.YtlbghgmeiajioaaSt
namespace Go.Proofs.Ytlbghgmeiajioaa
open Go.RowKit
set_option linter.unusedVariables false

/-- The loops of a code, the outer ones first. -/
def loopsOf : Code → List Code
  | .loop c => c :: loopsOf c
  | .seq a b => loopsOf a ++ loopsOf b
  | .block _ c => loopsOf c
  | .scope c => loopsOf c
  | .cond _ a b => loopsOf a ++ loopsOf b
  | _ => []
noncomputable def lp4 (i : Nat) : Code := ((loopsOf (Try.f4.body.getD .skip))[i]?).getD .skip

set_option maxRecDepth 1000000 in
set_option maxHeartbeats 4000000 in
theorem was_loop (t0 t1 t2 t3 t4 t5 t6 t7 t8 t9 t10 t12 t13 t14 t17 t18 t19 t20 t21 t22 t23 t24 t25 t26 t27 t28 t29 t30 t31 t32 t33 t34 t35 t36 t37 t38 t39 t40 t41 t42 t43 t44 t45 t46 t47 t48 t49 t50 t51 t52 t53 t54 t55 t56 t57 t58 t59 t60 t61 t62 t63 t64 t65 t66 t67 t68 t69 t70 t71 t72 t73 t74 t75 t76 t77 t78 t79 t80 t81 t82 t83 t84 t85 t86 t87 t88 t89 t90 t91 t92 t93 t94 t95 t96 t97 t98 t99 t100 t101 t102 t103 t104 t105 t106 t107 t108 t109 t110 t111 t112 t113 t114 t115 t116 t117 t118 t119 t120 t121 t122 t123 t124 t125 t126 t127 t128 t129 t130 t131 t132 t133 t134 t135 t136 t137 t138 t139 t140 t141 t142 t143 t144 t145 t146 t147 t148 t149 t150 t151 t152 t153 t154 t155 t156 t157 t158 t159 t160 t161 t162 t163 t164 t165 t166 t167 t168 t169 t170 t171 t172 t173 t174 t175 t176 t177 t178 t179 t180 t181 t182 t183 t184 t185 t186 t187 t188 t189 t190 t191 t192 t193 t194 t195 t196 t197 t198 t199 t200 t201 t202 t203 t204 t205 t206 t207 t208 t209 t210 t211 t212 t213 t214 t215 t216 t217 t218 t219 t220 t221 t222 t223 t224 t225 t226 t227 t228 t229 t230 t231 t232 t233 t234 t235 t236 t237 t238 t239 t240 t241 t242 t243 t244 t245 t246 t247 t248 t249 t250 t251 t252 t253 t254 t255 t256 t257 t258 t259 t260 t261 t262 t263 t264 t265 t266 t267 t268 t269 t270 t271 t272 t273 t274 t275 t276 t277 t278 t279 t280 t281 t282 t283 t284 t285 t286 t287 t288 t289 t290 t291 t292 t293 t294 t295 t296 t297 t298 t299 t300 t301 t302 t303 t304 t305 : Value) (g B : Nat) (P : Nat → Prop) (q : List It) (R T D : Int) (w wr : World) (hq : QS wr P g q R T D) (hs : Small q) (hl : ∀ it ∈ q, it.lines.length ≤ 100000) (h40 : q.length ≤ 40)
    (hB : B ≤ w.heap.size) (hw : Below B w wr) (Q : Exit → Act → World → Prop)
    (hexit : ∀ (u16 u17 u18 u60 u61 u62 u63 u64 u65 u66 u67 u68 u69 u70 u71 u72 u73 u74 u75 v : Value) (rows : List Row) (P' : Nat → Prop) (w' : World), QS w' P' g q R T D → Ws B w' P' v rows → rows.map Row.it = q → (∀ k, P k → P' k) → Below B w w' →
      Q (.exit 2) ⟨List.toArray (t0 :: t1 :: t2 :: t3 :: t4 :: t5 :: t6 :: t7 :: t8 :: t9 :: t10 :: (.pointer (some ⟨g, 0, none⟩)) :: t12 :: t13 :: t14 :: v :: u16 :: u17 :: u18 :: t19 :: t20 :: t21 :: t22 :: t23 :: t24 :: t25 :: t26 :: t27 :: t28 :: t29 :: t30 :: t31 :: t32 :: t33 :: t34 :: t35 :: t36 :: t37 :: t38 :: t39 :: t40 :: t41 :: t42 :: t43 :: t44 :: t45 :: t46 :: t47 :: t48 :: t49 :: t50 :: t51 :: t52 :: t53 :: t54 :: t55 :: t56 :: t57 :: t58 :: t59 :: u60 :: u61 :: u62 :: u63 :: u64 :: u65 :: u66 :: u67 :: u68 :: u69 :: u70 :: u71 :: u72 :: u73 :: u74 :: u75 :: t76 :: t77 :: t78 :: t79 :: t80 :: t81 :: t82 :: t83 :: t84 :: t85 :: t86 :: t87 :: t88 :: t89 :: t90 :: t91 :: t92 :: t93 :: t94 :: t95 :: t96 :: t97 :: t98 :: t99 :: t100 :: t101 :: t102 :: t103 :: t104 :: t105 :: t106 :: t107 :: t108 :: t109 :: t110 :: t111 :: t112 :: t113 :: t114 :: t115 :: t116 :: t117 :: t118 :: t119 :: t120 :: t121 :: t122 :: t123 :: t124 :: t125 :: t126 :: t127 :: t128 :: t129 :: t130 :: t131 :: t132 :: t133 :: t134 :: t135 :: t136 :: t137 :: t138 :: t139 :: t140 :: t141 :: t142 :: t143 :: t144 :: t145 :: t146 :: t147 :: t148 :: t149 :: t150 :: t151 :: t152 :: t153 :: t154 :: t155 :: t156 :: t157 :: t158 :: t159 :: t160 :: t161 :: t162 :: t163 :: t164 :: t165 :: t166 :: t167 :: t168 :: t169 :: t170 :: t171 :: t172 :: t173 :: t174 :: t175 :: t176 :: t177 :: t178 :: t179 :: t180 :: t181 :: t182 :: t183 :: t184 :: t185 :: t186 :: t187 :: t188 :: t189 :: t190 :: t191 :: t192 :: t193 :: t194 :: t195 :: t196 :: t197 :: t198 :: t199 :: t200 :: t201 :: t202 :: t203 :: t204 :: t205 :: t206 :: t207 :: t208 :: t209 :: t210 :: t211 :: t212 :: t213 :: t214 :: t215 :: t216 :: t217 :: t218 :: t219 :: t220 :: t221 :: t222 :: t223 :: t224 :: t225 :: t226 :: t227 :: t228 :: t229 :: t230 :: t231 :: t232 :: t233 :: t234 :: t235 :: t236 :: t237 :: t238 :: t239 :: t240 :: t241 :: t242 :: t243 :: t244 :: t245 :: t246 :: t247 :: t248 :: t249 :: t250 :: t251 :: t252 :: t253 :: t254 :: t255 :: t256 :: t257 :: t258 :: t259 :: t260 :: t261 :: t262 :: t263 :: t264 :: t265 :: t266 :: t267 :: t268 :: t269 :: t270 :: t271 :: t272 :: t273 :: t274 :: t275 :: t276 :: t277 :: t278 :: t279 :: t280 :: t281 :: t282 :: t283 :: t284 :: t285 :: t286 :: t287 :: t288 :: t289 :: t290 :: t291 :: t292 :: t293 :: t294 :: t295 :: t296 :: t297 :: t298 :: t299 :: t300 :: t301 :: t302 :: t303 :: t304 :: t305 :: []), []⟩ w') :
    Code.wp Try.prog (.loop (lp4 1)) Q ⟨List.toArray (t0 :: t1 :: t2 :: t3 :: t4 :: t5 :: t6 :: t7 :: t8 :: t9 :: t10 :: (.pointer (some ⟨g, 0, none⟩)) :: t12 :: t13 :: t14 :: (.slice none 0 0) :: (.int .i64 1) :: t17 :: t18 :: t19 :: t20 :: t21 :: t22 :: t23 :: t24 :: t25 :: t26 :: t27 :: t28 :: t29 :: t30 :: t31 :: t32 :: t33 :: t34 :: t35 :: t36 :: t37 :: t38 :: t39 :: t40 :: t41 :: t42 :: t43 :: t44 :: t45 :: t46 :: t47 :: t48 :: t49 :: t50 :: t51 :: t52 :: t53 :: t54 :: t55 :: t56 :: t57 :: t58 :: t59 :: t60 :: t61 :: t62 :: t63 :: t64 :: t65 :: t66 :: t67 :: t68 :: t69 :: t70 :: t71 :: t72 :: t73 :: t74 :: t75 :: t76 :: t77 :: t78 :: t79 :: t80 :: t81 :: t82 :: t83 :: t84 :: t85 :: t86 :: t87 :: t88 :: t89 :: t90 :: t91 :: t92 :: t93 :: t94 :: t95 :: t96 :: t97 :: t98 :: t99 :: t100 :: t101 :: t102 :: t103 :: t104 :: t105 :: t106 :: t107 :: t108 :: t109 :: t110 :: t111 :: t112 :: t113 :: t114 :: t115 :: t116 :: t117 :: t118 :: t119 :: t120 :: t121 :: t122 :: t123 :: t124 :: t125 :: t126 :: t127 :: t128 :: t129 :: t130 :: t131 :: t132 :: t133 :: t134 :: t135 :: t136 :: t137 :: t138 :: t139 :: t140 :: t141 :: t142 :: t143 :: t144 :: t145 :: t146 :: t147 :: t148 :: t149 :: t150 :: t151 :: t152 :: t153 :: t154 :: t155 :: t156 :: t157 :: t158 :: t159 :: t160 :: t161 :: t162 :: t163 :: t164 :: t165 :: t166 :: t167 :: t168 :: t169 :: t170 :: t171 :: t172 :: t173 :: t174 :: t175 :: t176 :: t177 :: t178 :: t179 :: t180 :: t181 :: t182 :: t183 :: t184 :: t185 :: t186 :: t187 :: t188 :: t189 :: t190 :: t191 :: t192 :: t193 :: t194 :: t195 :: t196 :: t197 :: t198 :: t199 :: t200 :: t201 :: t202 :: t203 :: t204 :: t205 :: t206 :: t207 :: t208 :: t209 :: t210 :: t211 :: t212 :: t213 :: t214 :: t215 :: t216 :: t217 :: t218 :: t219 :: t220 :: t221 :: t222 :: t223 :: t224 :: t225 :: t226 :: t227 :: t228 :: t229 :: t230 :: t231 :: t232 :: t233 :: t234 :: t235 :: t236 :: t237 :: t238 :: t239 :: t240 :: t241 :: t242 :: t243 :: t244 :: t245 :: t246 :: t247 :: t248 :: t249 :: t250 :: t251 :: t252 :: t253 :: t254 :: t255 :: t256 :: t257 :: t258 :: t259 :: t260 :: t261 :: t262 :: t263 :: t264 :: t265 :: t266 :: t267 :: t268 :: t269 :: t270 :: t271 :: t272 :: t273 :: t274 :: t275 :: t276 :: t277 :: t278 :: t279 :: t280 :: t281 :: t282 :: t283 :: t284 :: t285 :: t286 :: t287 :: t288 :: t289 :: t290 :: t291 :: t292 :: t293 :: t294 :: t295 :: t296 :: t297 :: t298 :: t299 :: t300 :: t301 :: t302 :: t303 :: t304 :: t305 :: []), []⟩ wr := by
  have HE := Lib.hid hexit
  have Hs := Lib.hid hs; have HL := Lib.hid hl
  clear hexit hs hl
  conv => arg 2; arg 1; whnf
  go_loopw [15, 16] (fun v i wx => ∃ (j : Nat) (rows : List Row) (P' : Nat → Prop), j ≤ q.length ∧ i = .int .i64 ((j : Int) + 1) ∧ QS wx P' g q R T D ∧ Ws B wx P' v rows ∧ rows.map Row.it = q.take j ∧ (∀ k, P k → P' k) ∧ Below B w wx) (fun _ i _ => 50 - (intOf i).toNat)
  case atStart => exact ⟨0, [], P, by omega, rfl, hq, Ws.nil _ _ _, by simp, fun _ h => h, hw⟩
  case round =>
    obtain ⟨j, rows, P', hj, rfl, hqx, hws, hm, hP, hbx⟩ := hrel
    clear hq hw
    by_cases hlt : j < q.length
    · have hlt' : (j : Int) < q.length := by omega
      go_wp2_with fail
      refine (qs_len hqx).mono ?_
      rintro e w' ⟨rfl, rfl⟩
      go_wp2_with fail
      refine (qs_item hqx Hs.out j hlt (HL.out _ (List.getElem_mem hlt))).mono ?_
      rintro e w5 ⟨tv, lv, rfl, hown, hq5, k5⟩
      obtain ⟨It0, hI⟩ : ∃ It0, q[j] = It0 := ⟨_, rfl⟩
      rw [hI] at hown ⊢
      obtain ⟨ht, hl⟩ := hown
      dsimp only at ht hl
      obtain ⟨A1, c1, rfl⟩ := own_any ht
      obtain ⟨A2, c2, rfl⟩ := own_any hl
      have hws5 := hws.below k5
      have hb5 := hbx.trans (k5.mono (Nat.le_trans hB hbx.size))
      have hrl : rows.length = j := by
        have := congrArg List.length hm
        simp only [List.length_map, List.length_take] at this
        omega
      obtain ⟨xc, hxc⟩ : ∃ xc, Row.cells ⟨It0, .slice A1 It0.to.length c1, .slice A2 It0.lines.length c2⟩ = xc := ⟨_, rfl⟩
      have hf : ∀ (g' cap : Nat) (w7 : World), w7.ownsRow B 51 12 (.slice (some ⟨g', 0, none⟩) (rows.length + 1) cap) (rows.length + 1) (rows.flatMap Row.cells ++ Row.cells ⟨It0, .slice A1 It0.to.length c1, .slice A2 It0.lines.length c2⟩) →
          ((w5.alloc (.cells xc.toArray 51)).alloc (.cells xc.toArray 51)).grownBy w7 u15.ownBlock → (u15.ownBlock = some g' ∨ g' = w5.heap.size + 2) →
          ∃ P7, QS w7 P7 g q R T D ∧ Ws B w7 P7 (.slice (some ⟨g', 0, none⟩) (rows.length + 1) cap) (rows ++ [⟨It0, .slice A1 It0.to.length c1, .slice A2 It0.lines.length c2⟩]) ∧ (rows ++ [(⟨It0, .slice A1 It0.to.length c1, .slice A2 It0.lines.length c2⟩ : Row)]).map Row.it = q.take (j + 1) ∧ (∀ k, P k → P7 k) ∧ Below B w w7 := by
        intro g' cap w7 h1 h2 h3
        obtain ⟨w6, h6⟩ : ∃ w6, (w5.alloc (.cells xc.toArray 51)).alloc (.cells xc.toArray 51) = w6 := ⟨_, rfl⟩
        have b6 : Below w5.heap.size w5 w6 := by rw [← h6]; exact ((Below.refl _ w5).alloc (Nat.le_refl _) _).alloc (by simp) _
        have z6 : w6.heap.size = w5.heap.size + 2 := by rw [← h6]; simp
        rw [h6] at h2
        have bx6 : Below wr.heap.size wr w6 := k5.trans (b6.mono k5.size)
        have hq6 := hqx.grow (S := fun _ => False) (Only.of_below bx6) (fun k hk => hk.elim)
        have hws6 := (hws.below bx6).more (P' := fun k => P' k ∨ (wr.heap.size ≤ k ∧ k < w6.heap.size)) (fun k hk => .inl hk)
        have hoS : Only w6 w7 (fun k => u15.ownBlock = some k) := (Only.refl w6 _).grown h2 (fun k hk _ => hk)
        have ht6 := own_only ht (S := fun _ => False) (Only.of_below b6) (fun _ _ h => h)
        have hl6 := own_only hl (S := fun _ => False) (Only.of_below b6) (fun _ _ h => h)
        have hlt5 := ht.lt
        have hlt6 := hl.lt
        have hBle : B ≤ wr.heap.size := Nat.le_trans hB hbx.size
        have k5s := k5.size
        have hq7 := hq6.grow hoS (fun k hk => .inl (hws.inv k hk))
        have hws7 := hws6.add (w' := w7) (r := ⟨It0, .slice A1 It0.to.length c1, .slice A2 It0.lines.length c2⟩) ⟨own_base ht6 hBle, own_base hl6 hBle⟩
          (fun k hk => .inr (by rcases hk with hk | hk
                                · have := hlt5 k hk; omega
                                · have := hlt6 k hk; omega)) h1 h2
          (fun k hk => by
            simp [Value.ownBlock] at hk
            subst hk
            rcases h3 with h3 | h3
            · exact .inl h3
            · exact .inr (by omega))
        refine ⟨_, hq7, hws7, ?_, fun k hk => .inl (.inl (hP k hk)), (hb5.trans (b6.mono (Nat.le_trans hBle k5.size))).grown h2 ?_ ?_⟩
        · rw [List.map_append, hm, List.take_succ_eq_append_getElem hlt, hI]; rfl
        · omega
        · intro k hk
          have := hws6.row.lt k hk
          omega
      have HF := Lib.hid hf
      have Hrow := Lib.hid (own_only (S := fun _ => False) hws5.row (Only.of_below ((((Below.refl _ w5).alloc (Nat.le_refl _) (.cells xc.toArray 51)).alloc (by simp) (.cells xc.toArray 51)))) (fun _ _ h => h))
      have hbk : Bk ((w5.alloc (.cells xc.toArray 51)).alloc (.cells xc.toArray 51)) (w5.heap.size + 1) 51 xc.toArray := by
        have := Bk.new (w5.alloc (.cells xc.toArray 51)) 51 xc.toArray
        rwa [World.size_alloc] at this
      have Hbk := Lib.hid hbk
      have hbase : B ≤ ((w5.alloc (.cells xc.toArray 51)).alloc (.cells xc.toArray 51)).heap.size := by have := hb5.size; simp; omega
      have Hm := Lib.hid hm
      have h1000 : rows.length ≤ 1000 := by omega
      subst hxc
      clear hf hbk ht hl hqx hws hm hbx k5 hq5 hws5 hb5
      simp only [Row.cells] at HF Hrow Hbk hbase ⊢
      go_wp2_with (at_builtin; refine app_it (.tmp 72) (.tmp 74) rfl rfl B u15 rows.length (rows.flatMap Row.cells) rfl Hrow.out (w5.heap.size + 1) ⟨It0, .slice A1 It0.to.length c1, .slice A2 It0.lines.length c2⟩ rfl Hbk.out rfl rfl h1000 hbase (w5.heap.size + 2) (by simp) ?_; intro g' cap w7 p1 p2 p3 p4)
      obtain ⟨P7, r1, r2, r3, r4, r5⟩ := HF.out g' cap w7 p1 p2 p3
      exact ⟨⟨j + 1, _, P7, by omega, by go_num, r1, by rw [hrl] at r2; exact r2, r3, r4, r5⟩, by simp [intOf]; omega⟩
    · obtain rfl : j = q.length := by omega
      rw [List.take_length] at hm
      have HM := Lib.hid hm
      clear hm
      go_wp2_with fail
      refine (qs_len hqx).mono ?_
      rintro e w' ⟨rfl, rfl⟩
      go_wp2_with fail
      exact HE.out _ _ _ _ _ _ _ _ _ _ _ _ _ _ _ _ _ _ _ _ rows P' _ hqx hws HM.out hP hbx
end Go.Proofs.Ytlbghgmeiajioaa
