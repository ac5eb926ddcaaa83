/- QueueStates: the loop that compares all items. -/
import Derived.Test.YtlbghgmeiajioaaSb
import Derived.Test.YtlbghgmeiajioaaRs
namespace Go.Proofs.Ytlbghgmeiajioaa
open Go.RowKit
set_option linter.unusedVariables false

set_option maxRecDepth 1000000 in
set_option maxHeartbeats 16000000 in
theorem cmp_out (t0 t1 t2 t3 t4 t5 t6 t7 t8 t9 t10 t13 t14 t16 t17 t18 t19 t20 t21 t24 t25 t26 t27 t28 t29 t30 t31 t32 t33 t34 t35 t36 t37 t38 t39 t40 t41 t42 t43 t44 t45 t46 t47 t48 t49 t50 t51 t52 t53 t54 t55 t56 t57 t58 t59 t60 t61 t62 t63 t64 t65 t66 t67 t68 t69 t70 t71 t72 t73 t74 t75 t76 t77 t78 t79 t80 t81 t82 t83 t84 t85 t86 t87 t88 t89 t90 t91 t92 t93 t94 t95 t96 t97 t98 t99 t100 t101 t102 t103 t104 t105 t106 t107 t108 t109 t110 t111 t112 t113 t114 t115 t116 t117 t118 t119 t120 t121 t122 t123 t124 t125 t126 t127 t128 t129 t130 t131 t132 t133 t134 t135 t136 t137 t138 t139 t140 t141 t142 t143 t144 t145 t146 t147 t148 t149 t150 t151 t152 t153 t154 t155 t156 t157 t158 t159 t160 t161 t162 t163 t164 t165 t166 t167 t168 t169 t170 t171 t172 t173 t174 t175 t176 t177 t178 t179 t180 t181 t182 t183 t184 t185 t186 t187 t188 t189 t190 t191 t192 t193 t194 t195 t196 t197 t198 t199 t200 t201 t202 t203 t204 t205 t206 t207 t208 t209 t210 t211 t212 t213 t214 t215 t216 t217 t218 t219 t220 t221 t222 t223 t224 t225 t226 t227 t228 t229 t230 t231 t232 t233 t234 t235 t236 t237 t238 t239 t240 t241 t242 t243 t244 t245 t246 t247 t248 t249 t250 t251 t252 t253 t254 t255 t256 t257 t258 t259 t260 t261 t262 t263 t264 t265 t266 t267 t268 t269 t270 t271 t272 t273 t274 t275 t276 t277 t278 t279 t280 t281 t282 t283 t284 t285 t286 t287 t288 t289 t290 t291 t292 t293 t294 t295 t296 t297 t298 t299 t300 t301 t302 t303 t304 t305 : Value) (g B i j : Nat) (P : Nat → Prop) (A0 : Option Addr) (c0 : Nat) (rows : List Row) (R T D : Int) (l l' : List It) (hR : Rel T l l' i j) (wr : World) (hq : QS wr P g l' R T D) (hs : Small l') (hl : ∀ it ∈ l', it.lines.length ≤ 100000)
    (hws : Ws B wr P (.slice A0 rows.length c0) rows) (hm : rows.map Row.it = l) (h40 : l.length ≤ 40) (Q : Exit → Act → World → Prop) (hpan : ∀ c a a' w, a.defers = a'.defers → Q (.panic c) a w → Q (.panic c) a' w)
    (hexit : ∀ (u8 u23 u24 u25 u26 u27 u28 u140 u141 u142 u143 u144 u145 u146 u147 u148 u149 u150 u151 u152 u153 u154 u155 u156 u157 u158 u159 u160 u161 u162 u163 u164 u165 u166 u167 u168 u169 u170 u171 u172 u173 u174 u175 u176 u177 u178 u179 u180 u181 u182 u183 u184 u185 u186 u187 u188 u189 u190 u191 u192 u193 u194 u195 u196 u197 u198 u199 u200 u201 u202 u203 u204 u205 u206 u207 u208 u209 u210 u211 u212 u213 u214 u215 u216 u217 u218 u219 u220 u221 u222 u223 u224 u225 u226 u227 u228 u229 u230 u231 u232 u233 u234 u235 u236 u237 u238 u239 u240 u241 u242 u243 u244 u245 u246 u247 u248 u249 u250 u251 u252 u253 u254 u255 u256 u257 u258 u259 u260 u261 u262 u263 u264 u265 u266 u267 u268 u269 u270 u271 u272 u273 u274 u275 u276 : Value) (ch : Nat) (w' : World), ch ≤ pas i j l.length 0 → Below wr.heap.size wr w' →
      Q (.exit 5) ⟨List.toArray (t0 :: t1 :: t2 :: t3 :: t4 :: t5 :: t6 :: t7 :: u8 :: t9 :: t10 :: (.pointer (some ⟨g, 0, none⟩)) :: (.int .i64 T) :: t13 :: t14 :: (.slice A0 rows.length c0) :: t16 :: t17 :: t18 :: t19 :: t20 :: t21 :: (.int .i64 (ch : Int)) :: u23 :: u24 :: u25 :: u26 :: u27 :: u28 :: t29 :: t30 :: t31 :: t32 :: t33 :: t34 :: t35 :: t36 :: t37 :: t38 :: t39 :: t40 :: t41 :: t42 :: t43 :: t44 :: t45 :: t46 :: t47 :: t48 :: t49 :: t50 :: t51 :: t52 :: t53 :: t54 :: t55 :: t56 :: t57 :: t58 :: t59 :: t60 :: t61 :: t62 :: t63 :: t64 :: t65 :: t66 :: t67 :: t68 :: t69 :: t70 :: t71 :: t72 :: t73 :: t74 :: t75 :: t76 :: t77 :: t78 :: t79 :: t80 :: t81 :: t82 :: t83 :: t84 :: t85 :: t86 :: t87 :: t88 :: t89 :: t90 :: t91 :: t92 :: t93 :: t94 :: t95 :: t96 :: t97 :: t98 :: t99 :: t100 :: t101 :: t102 :: t103 :: t104 :: t105 :: t106 :: t107 :: t108 :: t109 :: t110 :: t111 :: t112 :: t113 :: t114 :: t115 :: t116 :: t117 :: t118 :: t119 :: t120 :: t121 :: t122 :: t123 :: t124 :: t125 :: t126 :: t127 :: t128 :: t129 :: t130 :: t131 :: t132 :: t133 :: t134 :: t135 :: t136 :: t137 :: t138 :: t139 :: u140 :: u141 :: u142 :: u143 :: u144 :: u145 :: u146 :: u147 :: u148 :: u149 :: u150 :: u151 :: u152 :: u153 :: u154 :: u155 :: u156 :: u157 :: u158 :: u159 :: u160 :: u161 :: u162 :: u163 :: u164 :: u165 :: u166 :: u167 :: u168 :: u169 :: u170 :: u171 :: u172 :: u173 :: u174 :: u175 :: u176 :: u177 :: u178 :: u179 :: u180 :: u181 :: u182 :: u183 :: u184 :: u185 :: u186 :: u187 :: u188 :: u189 :: u190 :: u191 :: u192 :: u193 :: u194 :: u195 :: u196 :: u197 :: u198 :: u199 :: u200 :: u201 :: u202 :: u203 :: u204 :: u205 :: u206 :: u207 :: u208 :: u209 :: u210 :: u211 :: u212 :: u213 :: u214 :: u215 :: u216 :: u217 :: u218 :: u219 :: u220 :: u221 :: u222 :: u223 :: u224 :: u225 :: u226 :: u227 :: u228 :: u229 :: u230 :: u231 :: u232 :: u233 :: u234 :: u235 :: u236 :: u237 :: u238 :: u239 :: u240 :: u241 :: u242 :: u243 :: u244 :: u245 :: u246 :: u247 :: u248 :: u249 :: u250 :: u251 :: u252 :: u253 :: u254 :: u255 :: u256 :: u257 :: u258 :: u259 :: u260 :: u261 :: u262 :: u263 :: u264 :: u265 :: u266 :: u267 :: u268 :: u269 :: u270 :: u271 :: u272 :: u273 :: u274 :: u275 :: u276 :: t277 :: t278 :: t279 :: t280 :: t281 :: t282 :: t283 :: t284 :: t285 :: t286 :: t287 :: t288 :: t289 :: t290 :: t291 :: t292 :: t293 :: t294 :: t295 :: t296 :: t297 :: t298 :: t299 :: t300 :: t301 :: t302 :: t303 :: t304 :: t305 :: []), []⟩ w') :
    Code.wp Try.prog (.loop (lp4 2)) Q ⟨List.toArray (t0 :: t1 :: t2 :: t3 :: t4 :: t5 :: t6 :: t7 :: t8 :: t9 :: t10 :: (.pointer (some ⟨g, 0, none⟩)) :: (.int .i64 T) :: t13 :: t14 :: (.slice A0 rows.length c0) :: t16 :: t17 :: t18 :: t19 :: t20 :: t21 :: (.int .i64 0) :: (.int .i64 0) :: t24 :: t25 :: t26 :: t27 :: t28 :: t29 :: t30 :: t31 :: t32 :: t33 :: t34 :: t35 :: t36 :: t37 :: t38 :: t39 :: t40 :: t41 :: t42 :: t43 :: t44 :: t45 :: t46 :: t47 :: t48 :: t49 :: t50 :: t51 :: t52 :: t53 :: t54 :: t55 :: t56 :: t57 :: t58 :: t59 :: t60 :: t61 :: t62 :: t63 :: t64 :: t65 :: t66 :: t67 :: t68 :: t69 :: t70 :: t71 :: t72 :: t73 :: t74 :: t75 :: t76 :: t77 :: t78 :: t79 :: t80 :: t81 :: t82 :: t83 :: t84 :: t85 :: t86 :: t87 :: t88 :: t89 :: t90 :: t91 :: t92 :: t93 :: t94 :: t95 :: t96 :: t97 :: t98 :: t99 :: t100 :: t101 :: t102 :: t103 :: t104 :: t105 :: t106 :: t107 :: t108 :: t109 :: t110 :: t111 :: t112 :: t113 :: t114 :: t115 :: t116 :: t117 :: t118 :: t119 :: t120 :: t121 :: t122 :: t123 :: t124 :: t125 :: t126 :: t127 :: t128 :: t129 :: t130 :: t131 :: t132 :: t133 :: t134 :: t135 :: t136 :: t137 :: t138 :: t139 :: t140 :: t141 :: t142 :: t143 :: t144 :: t145 :: t146 :: t147 :: t148 :: t149 :: t150 :: t151 :: t152 :: t153 :: t154 :: t155 :: t156 :: t157 :: t158 :: t159 :: t160 :: t161 :: t162 :: t163 :: t164 :: t165 :: t166 :: t167 :: t168 :: t169 :: t170 :: t171 :: t172 :: t173 :: t174 :: t175 :: t176 :: t177 :: t178 :: t179 :: t180 :: t181 :: t182 :: t183 :: t184 :: t185 :: t186 :: t187 :: t188 :: t189 :: t190 :: t191 :: t192 :: t193 :: t194 :: t195 :: t196 :: t197 :: t198 :: t199 :: t200 :: t201 :: t202 :: t203 :: t204 :: t205 :: t206 :: t207 :: t208 :: t209 :: t210 :: t211 :: t212 :: t213 :: t214 :: t215 :: t216 :: t217 :: t218 :: t219 :: t220 :: t221 :: t222 :: t223 :: t224 :: t225 :: t226 :: t227 :: t228 :: t229 :: t230 :: t231 :: t232 :: t233 :: t234 :: t235 :: t236 :: t237 :: t238 :: t239 :: t240 :: t241 :: t242 :: t243 :: t244 :: t245 :: t246 :: t247 :: t248 :: t249 :: t250 :: t251 :: t252 :: t253 :: t254 :: t255 :: t256 :: t257 :: t258 :: t259 :: t260 :: t261 :: t262 :: t263 :: t264 :: t265 :: t266 :: t267 :: t268 :: t269 :: t270 :: t271 :: t272 :: t273 :: t274 :: t275 :: t276 :: t277 :: t278 :: t279 :: t280 :: t281 :: t282 :: t283 :: t284 :: t285 :: t286 :: t287 :: t288 :: t289 :: t290 :: t291 :: t292 :: t293 :: t294 :: t295 :: t296 :: t297 :: t298 :: t299 :: t300 :: t301 :: t302 :: t303 :: t304 :: t305 :: []), []⟩ wr := by
  have HE := Lib.hid hexit
  have HR := Lib.hid hR; have Hs := Lib.hid hs; have HL := Lib.hid hl; have Hws := Lib.hid hws; have Hm := Lib.hid hm; have Hq := Lib.hid hq
  have hrl : rows.length = l.length := by rw [← hm]; simp
  have HRL := Lib.hid hrl
  clear hexit hR hs hl hws hm hq hrl
  conv => arg 2; arg 1; whnf
  go_loopw [22, 23] (fun c m wx => ∃ (k ch : Nat), k ≤ l.length ∧ m = .int .i64 (k : Int) ∧ c = .int .i64 (ch : Int) ∧ ch ≤ pas i j k 0 ∧ Below wr.heap.size wr wx) (fun _ m _ => 50 - (intOf m).toNat)
  case atStart => exact ⟨0, 0, by omega, rfl, rfl, Nat.zero_le _, Below.refl _ _⟩
  case round =>
    obtain ⟨k, ch, hk, rfl, rfl, hch, hb⟩ := hrel
    rename World => wx
    have HCH := Lib.hid hch
    clear hch
    by_cases hlt : k < l.length
    · have hlt1 : k < rows.length := by have := HRL.out; omega
      have hlt2 : k < l'.length := Nat.lt_of_lt_of_le hlt HR.out.ge
      have hz : (k : Int) < rows.length := by omega
      have hqx := Hq.out.below hb
      have hwx := Hws.out.below hb
      have hsz := hb.size
      go_wp2_with fail
      refine (qs_item hqx Hs.out k hlt2 (HL.out _ (List.getElem_mem hlt2))).mono ?_
      rintro e w5 ⟨tv, lv, rfl, hown, hq5, k5⟩
      obtain ⟨r1, r2, r3, r4, r5⟩ := HR.out.at_ k hlt hlt2
      obtain ⟨I, hI⟩ : ∃ I, l[k] = I := ⟨_, rfl⟩
      obtain ⟨I', hI'⟩ : ∃ I', l'[k] = I' := ⟨_, rfl⟩
      rw [hI'] at hown r1 r2 r3 r4 ⊢
      rw [hI] at r2 r3 r4
      obtain ⟨ht, hl⟩ := hown
      dsimp only at ht hl
      obtain ⟨A1, c1, rfl⟩ := own_any ht
      obtain ⟨A2, c2, rfl⟩ := own_any hl
      have hri : rows[k].it = I := by rw [← hI]; simp only [← Hm.out, List.getElem_map]
      have hw5 := hwx.below k5
      obtain ⟨wt, wl⟩ := hw5.own _ (List.getElem_mem hlt1)
      obtain ⟨G, cw, hv, hG, hPG, hcell⟩ := hw5.cells hlt1
      simp only [Value.slice.injEq, true_and] at hv
      obtain ⟨rfl, rfl⟩ := hv
      rw [hri] at wt wl
      obtain ⟨A3, c3, e3⟩ := own_any wt
      obtain ⟨A4, c4, e4⟩ := own_any wl
      rw [e3] at wt
      rw [e4] at wl
      have g1 : w5.cell? ⟨G, k * 12 + 1, none⟩ = _ := hcell 1 (by decide)
      have g2 : w5.cell? ⟨G, k * 12 + 1 + 1, none⟩ = _ := hcell 2 (by decide)
      have g3 : w5.cell? ⟨G, k * 12 + 1 + 2, none⟩ = _ := hcell 3 (by decide)
      have g4 : w5.cell? ⟨G, k * 12 + 4, none⟩ = _ := hcell 4 (by decide)
      have g5 : w5.cell? ⟨G, k * 12 + 5, none⟩ = _ := hcell 5 (by decide)
      simp only [Row.cells, hri, e3, e4, List.getElem?_cons_succ, List.getElem?_cons_zero] at g1 g2 g3 g4 g5
      clear hcell
      have h100 : I.to.length ≤ 100 := by rw [← r4]; have := (Hs.out.2 _ (List.getElem_mem hlt2)).1; rw [hI'] at this; exact this
      have hln : I.lines.length ≤ 100000 := by rw [← r3]; have := HL.out _ (List.getElem_mem hlt2); rw [hI'] at this; exact this
      simp only [r3] at hl
      simp only [Row.cells, r1, r2, r3, r4]
      have bx5 : Below wr.heap.size wr w5 := hb.trans (k5.mono hsz)
      have BX5 := Lib.hid bx5
      have Ht := Lib.hid ht; have Hl := Lib.hid hl; have Wt := Lib.hid wt; have Wl := Lib.hid wl
      clear hqx hwx hq5 k5 hw5 wt wl ht hl bx5
      go_upto_region 37 with fail
      obtain ⟨w6, hw6⟩ : ∃ w6, w5.alloc (.cells #[.int .i64 ((k : Int) + 1), .bool I.frm.null, .string I.frm.loc, .string I.frm.dom, .slice A1 I.to.length c1, .slice A2 I.lines.length c2, .bool I'.flags.head, .bool I'.flags.body, .bool I'.flags.bad, .int .i64 I'.flags.lines, .int .i64 I'.flags.hops, .int .i64 I'.bytes] 51) = w6 := ⟨_, rfl⟩
      have k6 : Bk w6 w5.heap.size 51 #[.int .i64 ((k : Int) + 1), .bool I.frm.null, .string I.frm.loc, .string I.frm.dom, .slice A1 I.to.length c1, .slice A2 I.lines.length c2, .bool I'.flags.head, .bool I'.flags.body, .bool I'.flags.bad, .int .i64 I'.flags.lines, .int .i64 I'.flags.hops, .int .i64 I'.bytes] := by rw [← hw6]; exact Bk.new _ _ _
      have b6 : Below w5.heap.size w5 w6 := by rw [← hw6]; exact (Below.refl _ w5).alloc (Nat.le_refl _) _
      rw [hw6]
      clear hw6
      have B56 := Lib.hid b6
      have hS6 : (fun w' : World => w'.cell? ⟨w5.heap.size, 0, none⟩ = some (.int .i64 ((k : Int) + 1)) ∧ w'.cell? ⟨w5.heap.size, 1, none⟩ = some (.bool I.frm.null) ∧ w'.cell? ⟨w5.heap.size, 2, none⟩ = some (.string I.frm.loc) ∧ w'.cell? ⟨w5.heap.size, 3, none⟩ = some (.string I.frm.dom) ∧ w'.cell? ⟨w5.heap.size, 4, none⟩ = some (.slice A1 I.to.length c1) ∧ w'.cell? ⟨w5.heap.size, 5, none⟩ = some (.slice A2 I.lines.length c2) ∧ w'.cell? ⟨G, k * 12 + 1, none⟩ = some (.bool I.frm.null) ∧ w'.cell? ⟨G, k * 12 + 1 + 1, none⟩ = some (.string I.frm.loc) ∧ w'.cell? ⟨G, k * 12 + 1 + 2, none⟩ = some (.string I.frm.dom) ∧ w'.cell? ⟨G, k * 12 + 4, none⟩ = some (.slice A3 I.to.length c3) ∧ w'.cell? ⟨G, k * 12 + 5, none⟩ = some (.slice A4 I.lines.length c4)) w6 := ⟨k6.cell 0, k6.cell 1, k6.cell 2, k6.cell 3, k6.cell 4, k6.cell 5, (b6.cell (p := ⟨G, k * 12 + 1, none⟩) hG).trans g1, (b6.cell (p := ⟨G, k * 12 + 1 + 1, none⟩) hG).trans g2, (b6.cell (p := ⟨G, k * 12 + 1 + 2, none⟩) hG).trans g3, (b6.cell (p := ⟨G, k * 12 + 4, none⟩) hG).trans g4, (b6.cell (p := ⟨G, k * 12 + 5, none⟩) hG).trans g5⟩
      have hG6 : G < w6.heap.size := Nat.lt_of_lt_of_le hG b6.size
      have hX6 : w5.heap.size < w6.heap.size := k6.lt
      have hS8' : ∀ w8, Below w6.heap.size w6.drew w8 → (fun w' : World => w'.cell? ⟨w5.heap.size, 0, none⟩ = some (.int .i64 ((k : Int) + 1)) ∧ w'.cell? ⟨w5.heap.size, 1, none⟩ = some (.bool I.frm.null) ∧ w'.cell? ⟨w5.heap.size, 2, none⟩ = some (.string I.frm.loc) ∧ w'.cell? ⟨w5.heap.size, 3, none⟩ = some (.string I.frm.dom) ∧ w'.cell? ⟨w5.heap.size, 4, none⟩ = some (.slice A1 I.to.length c1) ∧ w'.cell? ⟨w5.heap.size, 5, none⟩ = some (.slice A2 I.lines.length c2) ∧ w'.cell? ⟨G, k * 12 + 1, none⟩ = some (.bool I.frm.null) ∧ w'.cell? ⟨G, k * 12 + 1 + 1, none⟩ = some (.string I.frm.loc) ∧ w'.cell? ⟨G, k * 12 + 1 + 2, none⟩ = some (.string I.frm.dom) ∧ w'.cell? ⟨G, k * 12 + 4, none⟩ = some (.slice A3 I.to.length c3) ∧ w'.cell? ⟨G, k * 12 + 5, none⟩ = some (.slice A4 I.lines.length c4)) w8 := fun w8 b => ⟨(b.cell (p := ⟨w5.heap.size, 0, none⟩) hX6).trans hS6.1, (b.cell (p := ⟨w5.heap.size, 1, none⟩) hX6).trans hS6.2.1, (b.cell (p := ⟨w5.heap.size, 2, none⟩) hX6).trans hS6.2.2.1, (b.cell (p := ⟨w5.heap.size, 3, none⟩) hX6).trans hS6.2.2.2.1, (b.cell (p := ⟨w5.heap.size, 4, none⟩) hX6).trans hS6.2.2.2.2.1, (b.cell (p := ⟨w5.heap.size, 5, none⟩) hX6).trans hS6.2.2.2.2.2.1, (b.cell (p := ⟨G, k * 12 + 1, none⟩) hG6).trans hS6.2.2.2.2.2.2.1, (b.cell (p := ⟨G, k * 12 + 1 + 1, none⟩) hG6).trans hS6.2.2.2.2.2.2.2.1, (b.cell (p := ⟨G, k * 12 + 1 + 2, none⟩) hG6).trans hS6.2.2.2.2.2.2.2.2.1, (b.cell (p := ⟨G, k * 12 + 4, none⟩) hG6).trans hS6.2.2.2.2.2.2.2.2.2.1, (b.cell (p := ⟨G, k * 12 + 5, none⟩) hG6).trans hS6.2.2.2.2.2.2.2.2.2.2⟩
      have HS8 := Lib.hid hS8'
      have hwr : IntKind.i64.wrap ((k : Int) + 1) = (k : Int) + 1 := by rw [IntKind.wrap_i64]; omega
      have rd2 : Rd w6.drew w6.drew.heap.size A2 (I.lines.map .string) := own_rd (own_drew (own_only (S := fun _ => False) Hl.out (Only.of_below b6) (fun _ _ h => h)))
      have rd4 : Rd w6.drew w6.drew.heap.size A4 (I.lines.map .string) := own_rd (own_drew (own_only (S := fun _ => False) Wl.out (Only.of_below b6) (fun _ _ h => h)))
      have Rd2 := Lib.hid rd2; have Rd4 := Lib.hid rd4
      clear hS8' rd2 rd4 b6 k6 g1 g2 g3 g4 g5 hG
      have R5 := Lib.hid r5; have HI := Lib.hid hI; have HI' := Lib.hid hI'; have Q2 := Lib.hid r2; have Q4 := Lib.hid r4
      clear r1 r2 r3 r4 r5 hI hI' hri e3 e4
      refine wp_region_held_drew (S := fun w' : World => w'.cell? ⟨w5.heap.size, 0, none⟩ = some (.int .i64 ((k : Int) + 1)) ∧ w'.cell? ⟨w5.heap.size, 1, none⟩ = some (.bool I.frm.null) ∧ w'.cell? ⟨w5.heap.size, 2, none⟩ = some (.string I.frm.loc) ∧ w'.cell? ⟨w5.heap.size, 3, none⟩ = some (.string I.frm.dom) ∧ w'.cell? ⟨w5.heap.size, 4, none⟩ = some (.slice A1 I.to.length c1) ∧ w'.cell? ⟨w5.heap.size, 5, none⟩ = some (.slice A2 I.lines.length c2) ∧ w'.cell? ⟨G, k * 12 + 1, none⟩ = some (.bool I.frm.null) ∧ w'.cell? ⟨G, k * 12 + 1 + 1, none⟩ = some (.string I.frm.loc) ∧ w'.cell? ⟨G, k * 12 + 1 + 2, none⟩ = some (.string I.frm.dom) ∧ w'.cell? ⟨G, k * 12 + 4, none⟩ = some (.slice A3 I.to.length c3) ∧ w'.cell? ⟨G, k * 12 + 5, none⟩ = some (.slice A4 I.lines.length c4)) (by kernel_rfl) ?_ (fun hHeld => ?_)
      · exact hS6
      refine wpAnyH_take (i := 0) (oi := { dst := some 153, op := Op.move (Operand.tmp 25), type := 4, pos := "law.go:153", after := #[], guard := none }) (v := ?_) rfl (by kernel_rfl) (by kernel_rfl) (by kernel_rfl) (fun c a w h => hpan c (Act.put a _ _) a w rfl h) (Or.inl ⟨by rfl, ?_⟩) (by assumption) ?_
      rotate_left
      · intro wS hSw; (try dsimp only at hSw); go_simp; (try with_reducible rfl)
      try simp only [Act.put, List.setIfInBounds_toArray, List.set_cons_zero, List.set_cons_succ]
      refine wpAnyH_take (i := 1) (oi := { dst := some 154, op := Op.unOp UnOp.not 4 (Operand.tmp 153), type := 4, pos := "law.go:153", after := #[{ on := 0, ground := Ground.data }], guard := none }) (v := ?_) rfl (by kernel_rfl) (by kernel_rfl) (by kernel_rfl) (fun c a w h => hpan c (Act.put a _ _) a w rfl h) (Or.inl ⟨by rfl, ?_⟩) (by assumption) ?_
      rotate_left
      · intro wS hSw; (try dsimp only at hSw); go_simp; (try with_reducible rfl)
      try simp only [Act.put, List.setIfInBounds_toArray, List.set_cons_zero, List.set_cons_succ]
      refine wpAnyH_take (i := 2) (oi := { dst := some 155, op := Op.move (Operand.tmp 154), type := 4, pos := "law.go:153", after := #[{ on := 1, ground := Ground.data }], guard := none }) (v := ?_) rfl (by kernel_rfl) (by kernel_rfl) (by kernel_rfl) (fun c a w h => hpan c (Act.put a _ _) a w rfl h) (Or.inl ⟨by rfl, ?_⟩) (by assumption) ?_
      rotate_left
      · intro wS hSw; (try dsimp only at hSw); go_simp; (try with_reducible rfl)
      try simp only [Act.put, List.setIfInBounds_toArray, List.set_cons_zero, List.set_cons_succ]
      refine wpAnyH_take (i := 3) (oi := { dst := some 156, op := Op.fieldAddr 51 (Operand.tmp 24) 0, type := 0, pos := "law.go:153", after := #[{ on := 2, ground := Ground.guard }], guard := some (2, false) }) (v := ?_) rfl (by kernel_rfl) (by kernel_rfl) (by kernel_rfl) (fun c a w h => hpan c (Act.put a _ _) a w rfl h) (Or.inl ⟨by rfl, ?_⟩) (by assumption) ?_
      rotate_left
      · intro wS hSw; (try dsimp only at hSw); go_simp; (try with_reducible rfl)
      try simp only [Act.put, List.setIfInBounds_toArray, List.set_cons_zero, List.set_cons_succ]
      refine wpAnyH_take (i := 4) (oi := { dst := some 157, op := Op.load 3 (Operand.tmp 156), type := 3, pos := "law.go:153", after := #[{ on := 3, ground := Ground.data }, { on := 2, ground := Ground.guard }], guard := some (2, false) }) (v := ?_) rfl (by kernel_rfl) (by kernel_rfl) (by kernel_rfl) (fun c a w h => hpan c (Act.put a _ _) a w rfl h) (Or.inl ⟨by rfl, ?_⟩) (by assumption) ?_
      rotate_left
      · intro wS hSw; (try dsimp only at hSw); go_simp; (try with_reducible rfl)
      try simp only [Act.put, List.setIfInBounds_toArray, List.set_cons_zero, List.set_cons_succ]
      refine wpAnyH_take (i := 5) (oi := { dst := some 158, op := Op.move (Operand.tmp 23), type := 3, pos := "law.go:153", after := #[{ on := 2, ground := Ground.guard }], guard := some (2, false) }) (v := ?_) rfl (by kernel_rfl) (by kernel_rfl) (by kernel_rfl) (fun c a w h => hpan c (Act.put a _ _) a w rfl h) (Or.inl ⟨by rfl, ?_⟩) (by assumption) ?_
      rotate_left
      · intro wS hSw; (try dsimp only at hSw); go_simp; (try with_reducible rfl)
      try simp only [Act.put, List.setIfInBounds_toArray, List.set_cons_zero, List.set_cons_succ]
      refine wpAnyH_take (i := 6) (oi := { dst := some 159, op := Op.binOp BinOp.add 3 (Operand.tmp 158) (Operand.const (Value.int IntKind.i64 1)) 3, type := 3, pos := "law.go:153", after := #[{ on := 5, ground := Ground.data }, { on := 2, ground := Ground.guard }], guard := some (2, false) }) (v := ?_) rfl (by kernel_rfl) (by kernel_rfl) (by kernel_rfl) (fun c a w h => hpan c (Act.put a _ _) a w rfl h) (Or.inl ⟨by rfl, ?_⟩) (by assumption) ?_
      rotate_left
      · intro wS hSw; (try dsimp only at hSw); go_simp; (try with_reducible rfl)
      try simp only [Act.put, List.setIfInBounds_toArray, List.set_cons_zero, List.set_cons_succ]
      try rw [hwr]
      refine wpAnyH_take (i := 7) (oi := { dst := some 160, op := Op.binOp BinOp.neq 3 (Operand.tmp 157) (Operand.tmp 159) 3, type := 4, pos := "law.go:153", after := #[{ on := 4, ground := Ground.data }, { on := 6, ground := Ground.data }, { on := 2, ground := Ground.guard }], guard := some (2, false) }) (v := ?_) rfl (by kernel_rfl) (by kernel_rfl) (by kernel_rfl) (fun c a w h => hpan c (Act.put a _ _) a w rfl h) (Or.inl ⟨by rfl, ?_⟩) (by assumption) ?_
      rotate_left
      · intro wS hSw; (try dsimp only at hSw); go_simp; (try with_reducible rfl)
      try simp only [Act.put, List.setIfInBounds_toArray, List.set_cons_zero, List.set_cons_succ]
      refine wpAnyH_take (i := 8) (oi := { dst := some 161, op := Op.pick (Operand.tmp 155) (Operand.const (Value.bool true)) (Operand.tmp 160), type := 4, pos := "law.go:153", after := #[{ on := 2, ground := Ground.data }, { on := 7, ground := Ground.data }], guard := none }) (v := ?_) rfl (by kernel_rfl) (by kernel_rfl) (by kernel_rfl) (fun c a w h => hpan c (Act.put a _ _) a w rfl h) (Or.inl ⟨by rfl, ?_⟩) (by assumption) ?_
      rotate_left
      · intro wS hSw; (try dsimp only at hSw); go_simp; (try with_reducible rfl)
      try simp only [Act.put, List.setIfInBounds_toArray, List.set_cons_zero, List.set_cons_succ]
      refine wpAnyH_take (i := 9) (oi := { dst := some 162, op := Op.move (Operand.tmp 161), type := 4, pos := "law.go:153", after := #[{ on := 8, ground := Ground.data }, { on := 2, ground := Ground.chain }], guard := none }) (v := ?_) rfl (by kernel_rfl) (by kernel_rfl) (by kernel_rfl) (fun c a w h => hpan c (Act.put a _ _) a w rfl h) (Or.inl ⟨by rfl, ?_⟩) (by assumption) ?_
      rotate_left
      · intro wS hSw; (try dsimp only at hSw); go_simp; (try with_reducible rfl)
      try simp only [Act.put, List.setIfInBounds_toArray, List.set_cons_zero, List.set_cons_succ]
      refine wpAnyH_take (i := 10) (oi := { dst := some 163, op := Op.fieldAddr 51 (Operand.tmp 24) 1, type := 0, pos := "law.go:153", after := #[{ on := 9, ground := Ground.guard }], guard := some (9, false) }) (v := ?_) rfl (by kernel_rfl) (by kernel_rfl) (by kernel_rfl) (fun c a w h => hpan c (Act.put a _ _) a w rfl h) (Or.inl ⟨by rfl, ?_⟩) (by assumption) ?_
      rotate_left
      · intro wS hSw; (try dsimp only at hSw); go_simp; (try with_reducible rfl)
      try simp only [Act.put, List.setIfInBounds_toArray, List.set_cons_zero, List.set_cons_succ]
      refine wpAnyH_take (i := 11) (oi := { dst := some 164, op := Op.load 32 (Operand.tmp 163), type := 32, pos := "law.go:153", after := #[{ on := 10, ground := Ground.data }, { on := 9, ground := Ground.guard }], guard := some (9, false) }) (v := ?_) rfl (by kernel_rfl) (by kernel_rfl) (by kernel_rfl) (fun c a w h => hpan c (Act.put a _ _) a w rfl h) (Or.inl ⟨by rfl, ?_⟩) (by assumption) ?_
      rotate_left
      · intro wS hSw; (try dsimp only at hSw); go_simp; (try with_reducible rfl)
      try simp only [Act.put, List.setIfInBounds_toArray, List.set_cons_zero, List.set_cons_succ]
      refine wpAnyH_take (i := 12) (oi := { dst := some 165, op := Op.move (Operand.tmp 15), type := 54, pos := "law.go:153", after := #[{ on := 9, ground := Ground.guard }], guard := some (9, false) }) (v := ?_) rfl (by kernel_rfl) (by kernel_rfl) (by kernel_rfl) (fun c a w h => hpan c (Act.put a _ _) a w rfl h) (Or.inl ⟨by rfl, ?_⟩) (by assumption) ?_
      rotate_left
      · intro wS hSw; (try dsimp only at hSw); go_simp; (try with_reducible rfl)
      try simp only [Act.put, List.setIfInBounds_toArray, List.set_cons_zero, List.set_cons_succ]
      refine wpAnyH_take (i := 13) (oi := { dst := some 166, op := Op.move (Operand.tmp 23), type := 3, pos := "law.go:153", after := #[{ on := 9, ground := Ground.guard }], guard := some (9, false) }) (v := ?_) rfl (by kernel_rfl) (by kernel_rfl) (by kernel_rfl) (fun c a w h => hpan c (Act.put a _ _) a w rfl h) (Or.inl ⟨by rfl, ?_⟩) (by assumption) ?_
      rotate_left
      · intro wS hSw; (try dsimp only at hSw); go_simp; (try with_reducible rfl)
      try simp only [Act.put, List.setIfInBounds_toArray, List.set_cons_zero, List.set_cons_succ]
      refine wpAnyH_take (i := 14) (oi := { dst := some 167, op := Op.indexAddr 54 (Operand.tmp 165) (Operand.tmp 166), type := 0, pos := "law.go:153", after := #[{ on := 12, ground := Ground.data }, { on := 13, ground := Ground.data }, { on := 9, ground := Ground.guard }], guard := some (9, false) }) (v := ?_) rfl (by kernel_rfl) (by kernel_rfl) (by kernel_rfl) (fun c a w h => hpan c (Act.put a _ _) a w rfl h) (Or.inl ⟨by rfl, ?_⟩) (by assumption) ?_
      rotate_left
      · intro wS hSw; (try dsimp only at hSw); go_simp; (try with_reducible rfl)
      try simp only [Act.put, List.setIfInBounds_toArray, List.set_cons_zero, List.set_cons_succ]
      refine wpAnyH_take (i := 15) (oi := { dst := some 168, op := Op.fieldAddr 51 (Operand.tmp 167) 1, type := 0, pos := "law.go:153", after := #[{ on := 14, ground := Ground.data }, { on := 9, ground := Ground.guard }], guard := some (9, false) }) (v := ?_) rfl (by kernel_rfl) (by kernel_rfl) (by kernel_rfl) (fun c a w h => hpan c (Act.put a _ _) a w rfl h) (Or.inl ⟨by rfl, ?_⟩) (by assumption) ?_
      rotate_left
      · intro wS hSw; (try dsimp only at hSw); go_simp; (try with_reducible rfl)
      try simp only [Act.put, List.setIfInBounds_toArray, List.set_cons_zero, List.set_cons_succ]
      refine wpAnyH_take (i := 16) (oi := { dst := some 169, op := Op.load 32 (Operand.tmp 168), type := 32, pos := "law.go:153", after := #[{ on := 15, ground := Ground.data }, { on := 9, ground := Ground.guard }], guard := some (9, false) }) (v := ?_) rfl (by kernel_rfl) (by kernel_rfl) (by kernel_rfl) (fun c a w h => hpan c (Act.put a _ _) a w rfl h) (Or.inl ⟨by rfl, ?_⟩) (by assumption) ?_
      rotate_left
      · intro wS hSw; (try dsimp only at hSw); go_simp; (try with_reducible rfl)
      try simp only [Act.put, List.setIfInBounds_toArray, List.set_cons_zero, List.set_cons_succ]
      refine wpAnyH_take (i := 17) (oi := { dst := some 170, op := Op.binOp BinOp.neq 32 (Operand.tmp 164) (Operand.tmp 169) 32, type := 4, pos := "law.go:153", after := #[{ on := 11, ground := Ground.data }, { on := 16, ground := Ground.data }, { on := 9, ground := Ground.guard }], guard := some (9, false) }) (v := ?_) rfl (by kernel_rfl) (by kernel_rfl) (by kernel_rfl) (fun c a w h => hpan c (Act.put a _ _) a w rfl h) (Or.inl ⟨by rfl, ?_⟩) (by assumption) ?_
      rotate_left
      · intro wS hSw; (try dsimp only at hSw); go_simp; (try with_reducible rfl)
      try simp only [Act.put, List.setIfInBounds_toArray, List.set_cons_zero, List.set_cons_succ]
      refine wpAnyH_take (i := 18) (oi := { dst := some 171, op := Op.pick (Operand.tmp 162) (Operand.const (Value.bool true)) (Operand.tmp 170), type := 4, pos := "law.go:153", after := #[{ on := 9, ground := Ground.data }, { on := 17, ground := Ground.data }], guard := none }) (v := ?_) rfl (by kernel_rfl) (by kernel_rfl) (by kernel_rfl) (fun c a w h => hpan c (Act.put a _ _) a w rfl h) (Or.inl ⟨by rfl, ?_⟩) (by assumption) ?_
      rotate_left
      · intro wS hSw; (try dsimp only at hSw); go_simp; (try with_reducible rfl)
      try simp only [Act.put, List.setIfInBounds_toArray, List.set_cons_zero, List.set_cons_succ]
      refine wpAnyH_take (i := 19) (oi := { dst := some 172, op := Op.move (Operand.tmp 171), type := 4, pos := "law.go:153", after := #[{ on := 18, ground := Ground.data }, { on := 9, ground := Ground.chain }], guard := none }) (v := ?_) rfl (by kernel_rfl) (by kernel_rfl) (by kernel_rfl) (fun c a w h => hpan c (Act.put a _ _) a w rfl h) (Or.inl ⟨by rfl, ?_⟩) (by assumption) ?_
      rotate_left
      · intro wS hSw; (try dsimp only at hSw); go_simp; (try with_reducible rfl)
      try simp only [Act.put, List.setIfInBounds_toArray, List.set_cons_zero, List.set_cons_succ]
      refine wpAnyH_take (i := 20) (oi := { dst := some 173, op := Op.fieldAddr 51 (Operand.tmp 24) 2, type := 0, pos := "law.go:153", after := #[{ on := 19, ground := Ground.guard }], guard := some (19, false) }) (v := ?_) rfl (by kernel_rfl) (by kernel_rfl) (by kernel_rfl) (fun c a w h => hpan c (Act.put a _ _) a w rfl h) (Or.inl ⟨by rfl, ?_⟩) (by assumption) ?_
      rotate_left
      · intro wS hSw; (try dsimp only at hSw); go_simp; (try with_reducible rfl)
      try simp only [Act.put, List.setIfInBounds_toArray, List.set_cons_zero, List.set_cons_succ]
      refine wpAnyH_take (i := 21) (oi := { dst := some 174, op := Op.load 49 (Operand.tmp 173), type := 49, pos := "law.go:153", after := #[{ on := 20, ground := Ground.data }, { on := 19, ground := Ground.guard }], guard := some (19, false) }) (v := ?_) rfl (by kernel_rfl) (by kernel_rfl) (by kernel_rfl) (fun c a w h => hpan c (Act.put a _ _) a w rfl h) (Or.inl ⟨by rfl, ?_⟩) (by assumption) ?_
      rotate_left
      · intro wS hSw; (try dsimp only at hSw); go_simp; (try with_reducible rfl)
      try simp only [Act.put, List.setIfInBounds_toArray, List.set_cons_zero, List.set_cons_succ]
      refine wpAnyH_take (i := 22) (oi := { dst := some 175, op := Op.call { callee := Callee.builtin Builtin.len, args := #[Operand.tmp 174], argTypes := #[49] }, type := 3, pos := "law.go:153", after := #[{ on := 21, ground := Ground.data }, { on := 19, ground := Ground.guard }], guard := some (19, false) }) (v := ?_) rfl (by kernel_rfl) (by kernel_rfl) (by kernel_rfl) (fun c a w h => hpan c (Act.put a _ _) a w rfl h) (Or.inl ⟨by rfl, ?_⟩) (by assumption) ?_
      rotate_left
      · intro wS hSw; (try dsimp only at hSw); go_simp; (try with_reducible rfl)
      try simp only [Act.put, List.setIfInBounds_toArray, List.set_cons_zero, List.set_cons_succ]
      refine wpAnyH_take (i := 23) (oi := { dst := some 176, op := Op.move (Operand.tmp 15), type := 54, pos := "law.go:153", after := #[{ on := 19, ground := Ground.guard }], guard := some (19, false) }) (v := ?_) rfl (by kernel_rfl) (by kernel_rfl) (by kernel_rfl) (fun c a w h => hpan c (Act.put a _ _) a w rfl h) (Or.inl ⟨by rfl, ?_⟩) (by assumption) ?_
      rotate_left
      · intro wS hSw; (try dsimp only at hSw); go_simp; (try with_reducible rfl)
      try simp only [Act.put, List.setIfInBounds_toArray, List.set_cons_zero, List.set_cons_succ]
      refine wpAnyH_take (i := 24) (oi := { dst := some 177, op := Op.move (Operand.tmp 23), type := 3, pos := "law.go:153", after := #[{ on := 19, ground := Ground.guard }], guard := some (19, false) }) (v := ?_) rfl (by kernel_rfl) (by kernel_rfl) (by kernel_rfl) (fun c a w h => hpan c (Act.put a _ _) a w rfl h) (Or.inl ⟨by rfl, ?_⟩) (by assumption) ?_
      rotate_left
      · intro wS hSw; (try dsimp only at hSw); go_simp; (try with_reducible rfl)
      try simp only [Act.put, List.setIfInBounds_toArray, List.set_cons_zero, List.set_cons_succ]
      refine wpAnyH_take (i := 25) (oi := { dst := some 178, op := Op.indexAddr 54 (Operand.tmp 176) (Operand.tmp 177), type := 0, pos := "law.go:153", after := #[{ on := 23, ground := Ground.data }, { on := 24, ground := Ground.data }, { on := 19, ground := Ground.guard }], guard := some (19, false) }) (v := ?_) rfl (by kernel_rfl) (by kernel_rfl) (by kernel_rfl) (fun c a w h => hpan c (Act.put a _ _) a w rfl h) (Or.inl ⟨by rfl, ?_⟩) (by assumption) ?_
      rotate_left
      · intro wS hSw; (try dsimp only at hSw); go_simp; (try with_reducible rfl)
      try simp only [Act.put, List.setIfInBounds_toArray, List.set_cons_zero, List.set_cons_succ]
      refine wpAnyH_take (i := 26) (oi := { dst := some 179, op := Op.fieldAddr 51 (Operand.tmp 178) 2, type := 0, pos := "law.go:153", after := #[{ on := 25, ground := Ground.data }, { on := 19, ground := Ground.guard }], guard := some (19, false) }) (v := ?_) rfl (by kernel_rfl) (by kernel_rfl) (by kernel_rfl) (fun c a w h => hpan c (Act.put a _ _) a w rfl h) (Or.inl ⟨by rfl, ?_⟩) (by assumption) ?_
      rotate_left
      · intro wS hSw; (try dsimp only at hSw); go_simp; (try with_reducible rfl)
      try simp only [Act.put, List.setIfInBounds_toArray, List.set_cons_zero, List.set_cons_succ]
      refine wpAnyH_take (i := 27) (oi := { dst := some 180, op := Op.load 49 (Operand.tmp 179), type := 49, pos := "law.go:153", after := #[{ on := 26, ground := Ground.data }, { on := 19, ground := Ground.guard }], guard := some (19, false) }) (v := ?_) rfl (by kernel_rfl) (by kernel_rfl) (by kernel_rfl) (fun c a w h => hpan c (Act.put a _ _) a w rfl h) (Or.inl ⟨by rfl, ?_⟩) (by assumption) ?_
      rotate_left
      · intro wS hSw; (try dsimp only at hSw); go_simp; (try with_reducible rfl)
      try simp only [Act.put, List.setIfInBounds_toArray, List.set_cons_zero, List.set_cons_succ]
      refine wpAnyH_take (i := 28) (oi := { dst := some 181, op := Op.call { callee := Callee.builtin Builtin.len, args := #[Operand.tmp 180], argTypes := #[49] }, type := 3, pos := "law.go:153", after := #[{ on := 27, ground := Ground.data }, { on := 19, ground := Ground.guard }], guard := some (19, false) }) (v := ?_) rfl (by kernel_rfl) (by kernel_rfl) (by kernel_rfl) (fun c a w h => hpan c (Act.put a _ _) a w rfl h) (Or.inl ⟨by rfl, ?_⟩) (by assumption) ?_
      rotate_left
      · intro wS hSw; (try dsimp only at hSw); go_simp; (try with_reducible rfl)
      try simp only [Act.put, List.setIfInBounds_toArray, List.set_cons_zero, List.set_cons_succ]
      refine wpAnyH_take (i := 29) (oi := { dst := some 182, op := Op.binOp BinOp.neq 3 (Operand.tmp 175) (Operand.tmp 181) 3, type := 4, pos := "law.go:153", after := #[{ on := 22, ground := Ground.data }, { on := 28, ground := Ground.data }, { on := 19, ground := Ground.guard }], guard := some (19, false) }) (v := ?_) rfl (by kernel_rfl) (by kernel_rfl) (by kernel_rfl) (fun c a w h => hpan c (Act.put a _ _) a w rfl h) (Or.inl ⟨by rfl, ?_⟩) (by assumption) ?_
      rotate_left
      · intro wS hSw; (try dsimp only at hSw); go_simp; (try with_reducible rfl)
      try simp only [Act.put, List.setIfInBounds_toArray, List.set_cons_zero, List.set_cons_succ]
      refine wpAnyH_take (i := 30) (oi := { dst := some 183, op := Op.pick (Operand.tmp 172) (Operand.const (Value.bool true)) (Operand.tmp 182), type := 4, pos := "law.go:153", after := #[{ on := 19, ground := Ground.data }, { on := 29, ground := Ground.data }], guard := none }) (v := ?_) rfl (by kernel_rfl) (by kernel_rfl) (by kernel_rfl) (fun c a w h => hpan c (Act.put a _ _) a w rfl h) (Or.inl ⟨by rfl, ?_⟩) (by assumption) ?_
      rotate_left
      · intro wS hSw; (try dsimp only at hSw); go_simp; (try with_reducible rfl)
      try simp only [Act.put, List.setIfInBounds_toArray, List.set_cons_zero, List.set_cons_succ]
      refine wpAnyH_take (i := 31) (oi := { dst := some 184, op := Op.move (Operand.tmp 183), type := 4, pos := "law.go:153", after := #[{ on := 30, ground := Ground.data }, { on := 19, ground := Ground.chain }], guard := none }) (v := ?_) rfl (by kernel_rfl) (by kernel_rfl) (by kernel_rfl) (fun c a w h => hpan c (Act.put a _ _) a w rfl h) (Or.inl ⟨by rfl, ?_⟩) (by assumption) ?_
      rotate_left
      · intro wS hSw; (try dsimp only at hSw); go_simp; (try with_reducible rfl)
      try simp only [Act.put, List.setIfInBounds_toArray, List.set_cons_zero, List.set_cons_succ]
      refine wpAnyH_take (i := 32) (oi := { dst := some 185, op := Op.fieldAddr 51 (Operand.tmp 24) 3, type := 0, pos := "law.go:153", after := #[{ on := 31, ground := Ground.guard }], guard := some (31, false) }) (v := ?_) rfl (by kernel_rfl) (by kernel_rfl) (by kernel_rfl) (fun c a w h => hpan c (Act.put a _ _) a w rfl h) (Or.inl ⟨by rfl, ?_⟩) (by assumption) ?_
      rotate_left
      · intro wS hSw; (try dsimp only at hSw); go_simp; (try with_reducible rfl)
      try simp only [Act.put, List.setIfInBounds_toArray, List.set_cons_zero, List.set_cons_succ]
      refine wpAnyH_take (i := 33) (oi := { dst := some 186, op := Op.load 34 (Operand.tmp 185), type := 34, pos := "law.go:153", after := #[{ on := 32, ground := Ground.data }, { on := 31, ground := Ground.guard }], guard := some (31, false) }) (v := ?_) rfl (by kernel_rfl) (by kernel_rfl) (by kernel_rfl) (fun c a w h => hpan c (Act.put a _ _) a w rfl h) (Or.inl ⟨by rfl, ?_⟩) (by assumption) ?_
      rotate_left
      · intro wS hSw; (try dsimp only at hSw); go_simp; (try with_reducible rfl)
      try simp only [Act.put, List.setIfInBounds_toArray, List.set_cons_zero, List.set_cons_succ]
      refine wpAnyH_take (i := 34) (oi := { dst := some 187, op := Op.move (Operand.tmp 15), type := 54, pos := "law.go:153", after := #[{ on := 31, ground := Ground.guard }], guard := some (31, false) }) (v := ?_) rfl (by kernel_rfl) (by kernel_rfl) (by kernel_rfl) (fun c a w h => hpan c (Act.put a _ _) a w rfl h) (Or.inl ⟨by rfl, ?_⟩) (by assumption) ?_
      rotate_left
      · intro wS hSw; (try dsimp only at hSw); go_simp; (try with_reducible rfl)
      try simp only [Act.put, List.setIfInBounds_toArray, List.set_cons_zero, List.set_cons_succ]
      refine wpAnyH_take (i := 35) (oi := { dst := some 188, op := Op.move (Operand.tmp 23), type := 3, pos := "law.go:153", after := #[{ on := 31, ground := Ground.guard }], guard := some (31, false) }) (v := ?_) rfl (by kernel_rfl) (by kernel_rfl) (by kernel_rfl) (fun c a w h => hpan c (Act.put a _ _) a w rfl h) (Or.inl ⟨by rfl, ?_⟩) (by assumption) ?_
      rotate_left
      · intro wS hSw; (try dsimp only at hSw); go_simp; (try with_reducible rfl)
      try simp only [Act.put, List.setIfInBounds_toArray, List.set_cons_zero, List.set_cons_succ]
      refine wpAnyH_take (i := 36) (oi := { dst := some 189, op := Op.indexAddr 54 (Operand.tmp 187) (Operand.tmp 188), type := 0, pos := "law.go:153", after := #[{ on := 34, ground := Ground.data }, { on := 35, ground := Ground.data }, { on := 31, ground := Ground.guard }], guard := some (31, false) }) (v := ?_) rfl (by kernel_rfl) (by kernel_rfl) (by kernel_rfl) (fun c a w h => hpan c (Act.put a _ _) a w rfl h) (Or.inl ⟨by rfl, ?_⟩) (by assumption) ?_
      rotate_left
      · intro wS hSw; (try dsimp only at hSw); go_simp; (try with_reducible rfl)
      try simp only [Act.put, List.setIfInBounds_toArray, List.set_cons_zero, List.set_cons_succ]
      refine wpAnyH_take (i := 37) (oi := { dst := some 190, op := Op.fieldAddr 51 (Operand.tmp 189) 3, type := 0, pos := "law.go:153", after := #[{ on := 36, ground := Ground.data }, { on := 31, ground := Ground.guard }], guard := some (31, false) }) (v := ?_) rfl (by kernel_rfl) (by kernel_rfl) (by kernel_rfl) (fun c a w h => hpan c (Act.put a _ _) a w rfl h) (Or.inl ⟨by rfl, ?_⟩) (by assumption) ?_
      rotate_left
      · intro wS hSw; (try dsimp only at hSw); go_simp; (try with_reducible rfl)
      try simp only [Act.put, List.setIfInBounds_toArray, List.set_cons_zero, List.set_cons_succ]
      refine wpAnyH_take (i := 38) (oi := { dst := some 191, op := Op.load 34 (Operand.tmp 190), type := 34, pos := "law.go:153", after := #[{ on := 37, ground := Ground.data }, { on := 31, ground := Ground.guard }], guard := some (31, false) }) (v := ?_) rfl (by kernel_rfl) (by kernel_rfl) (by kernel_rfl) (fun c a w h => hpan c (Act.put a _ _) a w rfl h) (Or.inl ⟨by rfl, ?_⟩) (by assumption) ?_
      rotate_left
      · intro wS hSw; (try dsimp only at hSw); go_simp; (try with_reducible rfl)
      try simp only [Act.put, List.setIfInBounds_toArray, List.set_cons_zero, List.set_cons_succ]
      refine wpAnyH_ready (rs := [39]) (by kernel_rfl) (by simp) ?_
      refine AllReadyH.cons (o := { dst := some 192, op := Op.call { callee := Callee.value (Operand.func 14), args := #[Operand.tmp 186, Operand.tmp 191], argTypes := #[34, 34] }, type := 4, pos := "law.go:153", after := #[{ on := 33, ground := Ground.data }, { on := 38, ground := Ground.data }, { on := 31, ground := Ground.chain }, { on := 31, ground := Ground.guard }], guard := some (31, false) }) rfl (fun K hK => ?_) AllReadyH.nil
      go_simp
      refine (rows_any A2 A4 c2 c4 I.lines I.lines _ Rd2.out Rd4.out (by omega) (by omega)).mono ?_
      rintro e w8 ⟨rfl, b8⟩
      rw [rows_refl]
      have hS8 := HS8.out _ b8
      try dsimp only
      refine hK.out _ _ ?_ (fun hHeld => ?_)
      · exact hS8
      clear hK K
      try simp only [Act.put, List.setIfInBounds_toArray, List.set_cons_zero, List.set_cons_succ]
      refine wpAnyH_take (i := 40) (oi := { dst := some 193, op := Op.unOp UnOp.not 4 (Operand.tmp 192), type := 4, pos := "law.go:153", after := #[{ on := 39, ground := Ground.data }, { on := 31, ground := Ground.guard }], guard := some (31, false) }) (v := ?_) rfl (by kernel_rfl) (by kernel_rfl) (by kernel_rfl) (fun c a w h => hpan c (Act.put a _ _) a w rfl h) (Or.inl ⟨by rfl, ?_⟩) (by assumption) ?_
      rotate_left
      · intro wS hSw; (try dsimp only at hSw); go_simp; (try with_reducible rfl)
      try simp only [Act.put, List.setIfInBounds_toArray, List.set_cons_zero, List.set_cons_succ]
      refine wpAnyH_take (i := 41) (oi := { dst := some 194, op := Op.pick (Operand.tmp 184) (Operand.const (Value.bool true)) (Operand.tmp 193), type := 4, pos := "law.go:153", after := #[{ on := 31, ground := Ground.data }, { on := 40, ground := Ground.data }], guard := none }) (v := ?_) rfl (by kernel_rfl) (by kernel_rfl) (by kernel_rfl) (fun c a w h => hpan c (Act.put a _ _) a w rfl h) (Or.inl ⟨by rfl, ?_⟩) (by assumption) ?_
      rotate_left
      · intro wS hSw; (try dsimp only at hSw); go_simp; (try with_reducible rfl)
      try simp only [Act.put, List.setIfInBounds_toArray, List.set_cons_zero, List.set_cons_succ]
      refine wpAnyH_done (by kernel_rfl) ?_ _
      obtain ⟨s0, s1, s2, s3, s4, s5, s6, s7, s8, s9, s10⟩ := hS8
      have b58 : Below w5.heap.size w5 w8 := (B56.out.trans (Below.refl _ w6).drew).trans (b8.mono B56.out.size)
      have hX8 : w5.heap.size < w8.heap.size := Nat.lt_of_lt_of_le hX6 b8.size
      have hG8 : G < w8.heap.size := Nat.lt_of_lt_of_le hG6 b8.size
      have B58 := Lib.hid b58; have HX8 := Lib.hid hX8; have HG8 := Lib.hid hG8
      have S1 := Lib.hid s1; have S4 := Lib.hid s4; have S9 := Lib.hid s9
      clear s0 s1 s2 s3 s4 s5 s6 s7 s8 s9 s10 b58 hX8 hG8 b8 hHeld
      go_wp2_with fail
      refine cmp_in _ _ _ _ _ _ _ _ _ _ _ _ _ _ _ _ _ _ _ _ _ _ _ _ _ _ _ _ _ _ _ _ _ _ _ _ _ _ _ _ _ _ _ _ _ _ _ _ _ _ _ _ _ _ _ _ _ _ _ _ _ _ _ _ _ _ _ _ _ _ _ _ _ _ _ _ _ _ _ _ _ _ _ _ _ _ _ _ _ _ _ _ _ _ _ _ _ _ _ _ _ _ _ _ _ _ _ _ _ _ _ _ _ _ _ _ _ _ _ _ _ _ _ _ _ _ _ _ _ _ _ _ _ _ _ _ _ _ _ _ _ _ _ _ _ _ _ _ _ _ _ _ _ _ _ _ _ _ _ _ _ _ _ _ _ _ _ _ _ _ _ _ _ _ _ _ _ _ _ _ _ _ _ _ _ _ _ _ _ _ _ _ _ _ _ _ _ _ _ _ _ _ _ _ _ _ _ _ _ _ _ _ _ _ _ _ _ _ _ _ _ _ _ _ _ _ _ _ _ _ _ _ _ _ _ _ _ _ _ _ _ _ _ _ _ _ _ _ _ _ _ _ _ _ _ _ _ _ _ _ _ _ _ _ _ _ _ _ _ _ _ _ _ _ _ _ _ _ _ _ _ _ _ _ _ _ _ _ _ _ _ _ _ _ _ _ _ _ _ _ G w5.heap.size rows.length c0 k i j ch T l l' HR.out hlt hlt2 w8 hlt1 (by have := HRL.out; omega) A3 A1 none c3 c1 0 B wx.heap.size ?_ ?_ ?_ HG8.out HX8.out ?_ ?_ ?_ HCH.out _ ?_
      · rw [HI.out]; exact S9.out
      · rw [HI'.out, Q2.out]; exact S1.out
      · rw [HI'.out, Q4.out]; exact S4.out
      · rw [HI.out]; exact own_only (S := fun _ => False) Wt.out (Only.of_below B58.out) (fun _ _ h => h)
      · rw [HI'.out]; exact own_only (S := fun _ => False) Ht.out (Only.of_below B58.out) (fun _ _ h => h)
      · rw [HI.out]; exact h100
      · intro v8 v26 v27 v28 v195 v196 v197 v198 v199 v200 v201 v202 v203 v204 v205 v206 v207 v208 v209 v210 v211 v212 v213 v214 v215 v216 v217 v218 v219 v220 v221 v222 v223 v224 v225 v226 v227 v228 v229 v230 v231 v232 v233 v234 v235 v236 v237 v238 v239 v240 v241 v242 v243 v244 v245 v246 v247 v248 v249 v250 v251 v252 v253 v254 v255 v256 v257 v258 v259 v260 v261 v262 v263 v264 v265 v266 v267 v268 v269 v270 v271 v272 v273 v274 v275 v276 ch2 w9 hch2 b9
        have HC2 := Lib.hid (Nat.le_trans hch2 (pas_next _ _ _ _))
        have B9 := Lib.hid ((BX5.out.trans (B58.out.mono BX5.out.size)).trans (b9.mono (Nat.le_trans BX5.out.size B58.out.size)))
        clear hch2 b9
        go_wp2_with fail
        exact ⟨⟨k + 1, ch2, by omega, by go_num, rfl, HC2.out, B9.out⟩, by simp [intOf]; omega⟩
    · obtain rfl : k = l.length := by omega
      have hz : ¬ ((l.length : Int) < rows.length) := by have := HRL.out; omega
      clear hk hlt
      have HB := Lib.hid hb
      go_wp2_with fail
      exact HE.out _ _ _ _ _ _ _ _ _ _ _ _ _ _ _ _ _ _ _ _ _ _ _ _ _ _ _ _ _ _ _ _ _ _ _ _ _ _ _ _ _ _ _ _ _ _ _ _ _ _ _ _ _ _ _ _ _ _ _ _ _ _ _ _ _ _ _ _ _ _ _ _ _ _ _ _ _ _ _ _ _ _ _ _ _ _ _ _ _ _ _ _ _ _ _ _ _ _ _ _ _ _ _ _ _ _ _ _ _ _ _ _ _ _ _ _ _ _ _ _ _ _ _ _ _ _ _ _ _ _ _ _ _ _ _ _ _ _ _ _ _ _ _ _ ch wx HCH.out HB.out
end Go.Proofs.Ytlbghgmeiajioaa
