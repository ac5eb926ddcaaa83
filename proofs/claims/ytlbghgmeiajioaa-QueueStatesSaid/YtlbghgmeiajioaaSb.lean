/- QueueStates: the loop that compares the recipients of one item. -/
import Derived.Test.YtlbghgmeiajioaaSa
import Derived.Deep.CutRange
namespace Go.Proofs.Ytlbghgmeiajioaa
open Go.RowKit
set_option linter.unusedVariables false

set_option maxRecDepth 1000000 in
set_option maxHeartbeats 8000000 in
theorem cmp_in (t0 t1 t2 t3 t4 t5 t6 t7 t8 t9 t10 t11 t13 t14 t16 t17 t18 t19 t20 t21 t25 t27 t28 t29 t30 t31 t32 t33 t34 t35 t36 t37 t38 t39 t40 t41 t42 t43 t44 t45 t46 t47 t48 t49 t50 t51 t52 t53 t54 t55 t56 t57 t58 t59 t60 t61 t62 t63 t64 t65 t66 t67 t68 t69 t70 t71 t72 t73 t74 t75 t76 t77 t78 t79 t80 t81 t82 t83 t84 t85 t86 t87 t88 t89 t90 t91 t92 t93 t94 t95 t96 t97 t98 t99 t100 t101 t102 t103 t104 t105 t106 t107 t108 t109 t110 t111 t112 t113 t114 t115 t116 t117 t118 t119 t120 t121 t122 t123 t124 t125 t126 t127 t128 t129 t130 t131 t132 t133 t134 t135 t136 t137 t138 t139 t140 t141 t142 t143 t144 t145 t146 t147 t148 t149 t150 t151 t152 t153 t154 t155 t156 t157 t158 t159 t160 t161 t162 t163 t164 t165 t166 t167 t168 t169 t170 t171 t172 t173 t174 t175 t176 t177 t178 t179 t180 t181 t182 t183 t184 t185 t186 t187 t188 t189 t190 t191 t192 t193 t194 t195 t196 t197 t198 t199 t200 t201 t202 t203 t204 t205 t206 t207 t208 t209 t210 t211 t212 t213 t214 t215 t216 t217 t218 t219 t220 t221 t222 t223 t224 t225 t226 t227 t228 t229 t230 t231 t232 t233 t234 t235 t236 t237 t238 t239 t240 t241 t242 t243 t244 t245 t246 t247 t248 t249 t250 t251 t252 t253 t254 t255 t256 t257 t258 t259 t260 t261 t262 t263 t264 t265 t266 t267 t268 t269 t270 t271 t272 t273 t274 t275 t276 t277 t278 t279 t280 t281 t282 t283 t284 t285 t286 t287 t288 t289 t290 t291 t292 t293 t294 t295 t296 t297 t298 t299 t300 t301 t302 t303 t304 t305 : Value) (G X nw cw k i j c0 : Nat) (T : Int) (l l' : List It) (hR : Rel T l l' i j) (hk : k < l.length) (hk' : k < l'.length) (wr : World) (kn : k < nw) (kw : nw ≤ 1000)
    (A1 A2 L2 : Option Addr) (c1 c2 d2 b1 b2 : Nat) (a4 : wr.cell? ⟨G, k * 12 + 4, none⟩ = some (.slice A1 l[k].to.length c1)) (x1 : wr.cell? ⟨X, 1, none⟩ = some (.bool l'[k].frm.null)) (x4 : wr.cell? ⟨X, 4, none⟩ = some (.slice A2 l'[k].to.length c2))
    (hG : G < wr.heap.size) (hX : X < wr.heap.size)
    (h1 : wr.ownsRow b1 60 7 (.slice A1 l[k].to.length c1) l[k].to.length (l[k].to.flatMap Rc.cells)) (h2 : wr.ownsRow b2 60 7 (.slice A2 l'[k].to.length c2) l'[k].to.length (l'[k].to.flatMap Rc.cells)) (h100 : l[k].to.length ≤ 100)
    (hc0 : c0 ≤ pas i j k 0) (Q : Exit → Act → World → Prop)
    (hexit : ∀ (u8 u26 u27 u28 u195 u196 u197 u198 u199 u200 u201 u202 u203 u204 u205 u206 u207 u208 u209 u210 u211 u212 u213 u214 u215 u216 u217 u218 u219 u220 u221 u222 u223 u224 u225 u226 u227 u228 u229 u230 u231 u232 u233 u234 u235 u236 u237 u238 u239 u240 u241 u242 u243 u244 u245 u246 u247 u248 u249 u250 u251 u252 u253 u254 u255 u256 u257 u258 u259 u260 u261 u262 u263 u264 u265 u266 u267 u268 u269 u270 u271 u272 u273 u274 u275 u276 : Value) (ch : Nat) (w' : World), ch ≤ pas i j k l[k].to.length → Below wr.heap.size wr w' →
      Q (.exit 7) ⟨List.toArray (t0 :: t1 :: t2 :: t3 :: t4 :: t5 :: t6 :: t7 :: u8 :: t9 :: t10 :: t11 :: (.int .i64 T) :: t13 :: t14 :: (.slice (some ⟨G, 0, none⟩) nw cw) :: t16 :: t17 :: t18 :: t19 :: t20 :: t21 :: (.int .i64 (ch : Int)) :: (.int .i64 (k : Int)) :: (.pointer (some ⟨X, 0, none⟩)) :: t25 :: u26 :: u27 :: u28 :: t29 :: t30 :: t31 :: t32 :: t33 :: t34 :: t35 :: t36 :: t37 :: t38 :: t39 :: t40 :: t41 :: t42 :: t43 :: t44 :: t45 :: t46 :: t47 :: t48 :: t49 :: t50 :: t51 :: t52 :: t53 :: t54 :: t55 :: t56 :: t57 :: t58 :: t59 :: t60 :: t61 :: t62 :: t63 :: t64 :: t65 :: t66 :: t67 :: t68 :: t69 :: t70 :: t71 :: t72 :: t73 :: t74 :: t75 :: t76 :: t77 :: t78 :: t79 :: t80 :: t81 :: t82 :: t83 :: t84 :: t85 :: t86 :: t87 :: t88 :: t89 :: t90 :: t91 :: t92 :: t93 :: t94 :: t95 :: t96 :: t97 :: t98 :: t99 :: t100 :: t101 :: t102 :: t103 :: t104 :: t105 :: t106 :: t107 :: t108 :: t109 :: t110 :: t111 :: t112 :: t113 :: t114 :: t115 :: t116 :: t117 :: t118 :: t119 :: t120 :: t121 :: t122 :: t123 :: t124 :: t125 :: t126 :: t127 :: t128 :: t129 :: t130 :: t131 :: t132 :: t133 :: t134 :: t135 :: t136 :: t137 :: t138 :: t139 :: t140 :: t141 :: t142 :: t143 :: t144 :: t145 :: t146 :: t147 :: t148 :: t149 :: t150 :: t151 :: t152 :: t153 :: t154 :: t155 :: t156 :: t157 :: t158 :: t159 :: t160 :: t161 :: t162 :: t163 :: t164 :: t165 :: t166 :: t167 :: t168 :: t169 :: t170 :: t171 :: t172 :: t173 :: t174 :: t175 :: t176 :: t177 :: t178 :: t179 :: t180 :: t181 :: t182 :: t183 :: t184 :: t185 :: t186 :: t187 :: t188 :: t189 :: t190 :: t191 :: t192 :: t193 :: t194 :: u195 :: u196 :: u197 :: u198 :: u199 :: u200 :: u201 :: u202 :: u203 :: u204 :: u205 :: u206 :: u207 :: u208 :: u209 :: u210 :: u211 :: u212 :: u213 :: u214 :: u215 :: u216 :: u217 :: u218 :: u219 :: u220 :: u221 :: u222 :: u223 :: u224 :: u225 :: u226 :: u227 :: u228 :: u229 :: u230 :: u231 :: u232 :: u233 :: u234 :: u235 :: u236 :: u237 :: u238 :: u239 :: u240 :: u241 :: u242 :: u243 :: u244 :: u245 :: u246 :: u247 :: u248 :: u249 :: u250 :: u251 :: u252 :: u253 :: u254 :: u255 :: u256 :: u257 :: u258 :: u259 :: u260 :: u261 :: u262 :: u263 :: u264 :: u265 :: u266 :: u267 :: u268 :: u269 :: u270 :: u271 :: u272 :: u273 :: u274 :: u275 :: u276 :: t277 :: t278 :: t279 :: t280 :: t281 :: t282 :: t283 :: t284 :: t285 :: t286 :: t287 :: t288 :: t289 :: t290 :: t291 :: t292 :: t293 :: t294 :: t295 :: t296 :: t297 :: t298 :: t299 :: t300 :: t301 :: t302 :: t303 :: t304 :: t305 :: []), []⟩ w') :
    Code.wp Try.prog (.loop (lp4 3)) Q ⟨List.toArray (t0 :: t1 :: t2 :: t3 :: t4 :: t5 :: t6 :: t7 :: t8 :: t9 :: t10 :: t11 :: (.int .i64 T) :: t13 :: t14 :: (.slice (some ⟨G, 0, none⟩) nw cw) :: t16 :: t17 :: t18 :: t19 :: t20 :: t21 :: (.int .i64 (c0 : Int)) :: (.int .i64 (k : Int)) :: (.pointer (some ⟨X, 0, none⟩)) :: t25 :: (.int .i64 0) :: t27 :: t28 :: t29 :: t30 :: t31 :: t32 :: t33 :: t34 :: t35 :: t36 :: t37 :: t38 :: t39 :: t40 :: t41 :: t42 :: t43 :: t44 :: t45 :: t46 :: t47 :: t48 :: t49 :: t50 :: t51 :: t52 :: t53 :: t54 :: t55 :: t56 :: t57 :: t58 :: t59 :: t60 :: t61 :: t62 :: t63 :: t64 :: t65 :: t66 :: t67 :: t68 :: t69 :: t70 :: t71 :: t72 :: t73 :: t74 :: t75 :: t76 :: t77 :: t78 :: t79 :: t80 :: t81 :: t82 :: t83 :: t84 :: t85 :: t86 :: t87 :: t88 :: t89 :: t90 :: t91 :: t92 :: t93 :: t94 :: t95 :: t96 :: t97 :: t98 :: t99 :: t100 :: t101 :: t102 :: t103 :: t104 :: t105 :: t106 :: t107 :: t108 :: t109 :: t110 :: t111 :: t112 :: t113 :: t114 :: t115 :: t116 :: t117 :: t118 :: t119 :: t120 :: t121 :: t122 :: t123 :: t124 :: t125 :: t126 :: t127 :: t128 :: t129 :: t130 :: t131 :: t132 :: t133 :: t134 :: t135 :: t136 :: t137 :: t138 :: t139 :: t140 :: t141 :: t142 :: t143 :: t144 :: t145 :: t146 :: t147 :: t148 :: t149 :: t150 :: t151 :: t152 :: t153 :: t154 :: t155 :: t156 :: t157 :: t158 :: t159 :: t160 :: t161 :: t162 :: t163 :: t164 :: t165 :: t166 :: t167 :: t168 :: t169 :: t170 :: t171 :: t172 :: t173 :: t174 :: t175 :: t176 :: t177 :: t178 :: t179 :: t180 :: t181 :: t182 :: t183 :: t184 :: t185 :: t186 :: t187 :: t188 :: t189 :: t190 :: t191 :: t192 :: t193 :: t194 :: t195 :: t196 :: t197 :: t198 :: t199 :: t200 :: t201 :: t202 :: t203 :: t204 :: t205 :: t206 :: t207 :: t208 :: t209 :: t210 :: t211 :: t212 :: t213 :: t214 :: t215 :: t216 :: t217 :: t218 :: t219 :: t220 :: t221 :: t222 :: t223 :: t224 :: t225 :: t226 :: t227 :: t228 :: t229 :: t230 :: t231 :: t232 :: t233 :: t234 :: t235 :: t236 :: t237 :: t238 :: t239 :: t240 :: t241 :: t242 :: t243 :: t244 :: t245 :: t246 :: t247 :: t248 :: t249 :: t250 :: t251 :: t252 :: t253 :: t254 :: t255 :: t256 :: t257 :: t258 :: t259 :: t260 :: t261 :: t262 :: t263 :: t264 :: t265 :: t266 :: t267 :: t268 :: t269 :: t270 :: t271 :: t272 :: t273 :: t274 :: t275 :: t276 :: t277 :: t278 :: t279 :: t280 :: t281 :: t282 :: t283 :: t284 :: t285 :: t286 :: t287 :: t288 :: t289 :: t290 :: t291 :: t292 :: t293 :: t294 :: t295 :: t296 :: t297 :: t298 :: t299 :: t300 :: t301 :: t302 :: t303 :: t304 :: t305 :: []), []⟩ wr := by
  have HE := Lib.hid hexit
  have HR := Lib.hid hR; have H1 := Lib.hid h1; have H2 := Lib.hid h2
  obtain ⟨r1, r2, r3, r4, r5⟩ := hR.at_ k hk hk'
  have R5 := Lib.hid r5
  clear hexit hR h1 h2 r1 r3 r5
  conv => arg 2; arg 1; whnf
  obtain ⟨I, hI⟩ : ∃ I, l[k] = I := ⟨_, rfl⟩
  obtain ⟨I', hI'⟩ : ∃ I', l'[k] = I' := ⟨_, rfl⟩
  simp only [hI, hI'] at *
  clear hI hI'
  go_loopw [22, 26] (fun c m wx => ∃ (m0 ch : Nat), m0 ≤ I.to.length ∧ m = .int .i64 (m0 : Int) ∧ c = .int .i64 (ch : Int) ∧ ch ≤ pas i j k m0 ∧ Below wr.heap.size wr wx) (fun _ m _ => 200 - (intOf m).toNat)
  case atStart => exact ⟨0, c0, by omega, rfl, rfl, hc0, Below.refl _ _⟩
  case round =>
    obtain ⟨m0, ch, hm, rfl, rfl, hch, hb⟩ := hrel
    rename World => wx
    have a4x := (hb.cell (p := ⟨G, k * 12 + 4, none⟩) hG).trans a4
    have x1x := (hb.cell (p := ⟨X, 1, none⟩) hX).trans x1
    have x4x := (hb.cell (p := ⟨X, 4, none⟩) hX).trans x4
    by_cases hlt : m0 < I.to.length
    · have hlt' : m0 < I'.to.length := by omega
      have hz : (m0 : Int) < I.to.length := by omega
      have hz' : (m0 : Int) < I'.to.length := by omega
      obtain ⟨g1, e1, f1, _, l1⟩ := own_some H1.out (by omega)
      obtain ⟨g2, e2, f2, _, l2⟩ := own_some H2.out (by omega)
      simp only [Value.slice.injEq, true_and] at f1 f2
      obtain ⟨rfl, rfl⟩ := f1
      obtain ⟨rfl, rfl⟩ := f2
      obtain ⟨p0, p1, p2, p3, p4, p5, p6⟩ := rc_cells H1.out hlt
      obtain ⟨q0, q1, q2, q3, q4, q5, q6⟩ := rc_cells H2.out hlt'
      replace p0 := (hb.cell (p := ⟨g1, m0 * 7, none⟩) l1).trans p0
      replace p1 := (hb.cell (p := ⟨g1, m0 * 7 + 1, none⟩) l1).trans p1
      replace p2 := (hb.cell (p := ⟨g1, m0 * 7 + 2, none⟩) l1).trans p2
      replace p3 := (hb.cell (p := ⟨g1, m0 * 7 + 3, none⟩) l1).trans p3
      replace p4 := (hb.cell (p := ⟨g1, m0 * 7 + 4, none⟩) l1).trans p4
      replace p5 := (hb.cell (p := ⟨g1, m0 * 7 + 5, none⟩) l1).trans p5
      replace p6 := (hb.cell (p := ⟨g1, m0 * 7 + 6, none⟩) l1).trans p6
      replace q0 := (hb.cell (p := ⟨g2, m0 * 7, none⟩) l2).trans q0
      replace q1 := (hb.cell (p := ⟨g2, m0 * 7 + 1, none⟩) l2).trans q1
      replace q2 := (hb.cell (p := ⟨g2, m0 * 7 + 2, none⟩) l2).trans q2
      replace q3 := (hb.cell (p := ⟨g2, m0 * 7 + 3, none⟩) l2).trans q3
      replace q4 := (hb.cell (p := ⟨g2, m0 * 7 + 4, none⟩) l2).trans q4
      replace q5 := (hb.cell (p := ⟨g2, m0 * 7 + 5, none⟩) l2).trans q5
      replace q6 := (hb.cell (p := ⟨g2, m0 * 7 + 6, none⟩) l2).trans q6
      have hz3 := R5.out m0 hlt hlt'
      obtain ⟨ra, hra⟩ : ∃ ra, I.to[m0] = ra := ⟨_, rfl⟩
      obtain ⟨rb, hrb⟩ : ∃ rb, I'.to[m0] = rb := ⟨_, rfl⟩
      rw [hra, hrb] at hz3
      rw [hra] at p0 p1 p2 p3 p4 p5 p6
      rw [hrb] at q0 q1 q2 q3 q4 q5 q6
      have HZ := Lib.hid hz3
      have zx : X < wx.heap.size := Nat.lt_of_lt_of_le hX hb.size
      have z1 : g1 < wx.heap.size := Nat.lt_of_lt_of_le l1 hb.size
      have z2 : g2 < wx.heap.size := Nat.lt_of_lt_of_le l2 hb.size
      clear hz3 a4 x1 x4
      have bfin : ∀ o o', Below wr.heap.size wr ((wx.alloc o).alloc o') := fun o o' => (hb.alloc hb.size o).alloc (by have := hb.size; simp; omega) o'
      have BF := Lib.hid bfin
      have HP := Lib.hid hch
      clear bfin hb hch
      go_upto_region 44 with fail
      by_cases hne : ra = rb
      · subst hne
        go_wp2_with fail
        exact ⟨⟨m0 + 1, ch, by omega, by go_num, rfl, Nat.le_trans HP.out (pas_mono _ _ _ _), BF.out _ _⟩, by simp [intOf]; omega⟩
      · obtain ⟨ki, mj, hchk⟩ := HZ.out.resolve_left (fun e => hne e.symm)
        obtain ⟨pa, sa, ta, na, ua⟩ := ra
        obtain ⟨pb, sb, tb, nb, ub⟩ := rb
        obtain ⟨ck1, ck2, ck3, ck4, ck5, ck6, ck7, ck8⟩ := hchk
        dsimp only at ck1 ck2 ck3 ck4 ck5 ck6 ck7 ck8
        subst ck2
        have HNE := Lib.hid hne
        have ch0 : ch = 0 := by have := HP.out; rw [ki, mj, pas_here] at this; omega
        have CH := Lib.hid ch0
        subst ki mj
        clear hne HZ HP ch0
        dsimp only
        go_cut [217] from 202 to 217 (fun c wx' => c = .bool false ∧ wx' = (wx.alloc (.cells #[.bool pb.null, .string pb.loc, .string pb.dom, .int .i64 sa, .int .i64 ta, .int .i64 na, .int .i64 ua] 60)).alloc (.cells #[.bool pb.null, .string pb.loc, .string pb.dom, .int .i64 sb, .int .i64 tb, .int .i64 nb, .int .i64 ub] 60))
        case first =>
          go_wp2_with fail
          all_goals
            go_meet
            first
              | exact ⟨rfl, rfl⟩
              | exact ⟨rfl, by simp only [*]⟩
              | exact absurd (by simp only [*]) HNE.out
        case rest =>
          obtain ⟨rfl, rfl⟩ := hcut
          have d1 : decide (1 < sa) = false := decide_eq_false (by omega)
          have d2 : decide (T < tb) = false := decide_eq_false (by omega)
          have d3 : decide (tb < ta) = false := decide_eq_false (by omega)
          have hfin : ch + 1 ≤ pas k m0 k (m0 + 1) := by rw [CH.out, pas_past]; exact Nat.le_refl 1
          have HF := Lib.hid hfin
          have ch1 : ch ≤ 1 := by have := CH.out; omega
          rw [show I'.frm.null = I.frm.null by rw [r2]] at x1x
          clear ck3 ck4 hfin r2
          have h5 : sb = 0 ∨ sb = 1 ∨ sb = 2 ∨ sb = 3 ∨ sb = 4 := by omega
          rcases h5 with rfl | rfl | rfl | rfl | rfl
          · clear ck1 ck5 ck6 ck7 ck8
            go_wp2_with fail
            exact ⟨⟨m0 + 1, ch + 1, by omega, by go_num, by go_num, HF.out, BF.out _ _⟩, by simp [intOf]; omega⟩
          · clear ck1 ck5 ck6 ck7 ck8
            go_wp2_with fail
            exact ⟨⟨m0 + 1, ch + 1, by omega, by go_num, by go_num, HF.out, BF.out _ _⟩, by simp [intOf]; omega⟩
          · obtain rfl := ck7 (by decide)
            clear ck1 ck5 ck6 ck7 ck8 d1
            go_wp2_with fail
            exact ⟨⟨m0 + 1, ch + 1, by omega, by go_num, by go_num, HF.out, BF.out _ _⟩, by simp [intOf]; omega⟩
          · obtain rfl := ck7 (by decide)
            have hnl : I.frm.null = false := by simpa using ck8
            rw [hnl] at x1x
            clear ck1 ck5 ck6 ck7 ck8 d1 hnl
            go_wp2_with fail
            exact ⟨⟨m0 + 1, ch + 1, by omega, by go_num, by go_num, HF.out, BF.out _ _⟩, by simp [intOf]; omega⟩
          · obtain rfl := ck7 (by decide)
            have hnl : I.frm.null = true := by simpa using ck8
            rw [hnl] at x1x
            clear ck1 ck5 ck6 ck7 ck8 d1 hnl
            go_wp2_with fail
            exact ⟨⟨m0 + 1, ch + 1, by omega, by go_num, by go_num, HF.out, BF.out _ _⟩, by simp [intOf]; omega⟩
    · obtain rfl : m0 = I.to.length := by omega
      clear a4 x1 x4
      have HP := Lib.hid hch; have HB := Lib.hid hb
      go_wp2_with fail
      exact HE.out _ _ _ _ _ _ _ _ _ _ _ _ _ _ _ _ _ _ _ _ _ _ _ _ _ _ _ _ _ _ _ _ _ _ _ _ _ _ _ _ _ _ _ _ _ _ _ _ _ _ _ _ _ _ _ _ _ _ _ _ _ _ _ _ _ _ _ _ _ _ _ _ _ _ _ _ _ _ _ _ _ _ _ _ _ _ ch wx HP.out HB.out
end Go.Proofs.Ytlbghgmeiajioaa
