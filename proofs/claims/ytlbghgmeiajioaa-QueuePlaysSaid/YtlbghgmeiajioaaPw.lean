/- The law QueuePlays, walked. -/
import Derived.Test.YtlbghgmeiajioaaDw
import Derived.Test.YtlbghgmeiajioaaPg
import Derived.Deep.CutBlock
import Derived.Deep.CutRange
namespace Go.Proofs.Ytlbghgmeiajioaa
open Go.RowKit
set_option linter.unusedVariables false

set_option maxRecDepth 100000 in
set_option maxHeartbeats 16000000 in
theorem plays_walk (room tries wait : Int) (A : Option Addr) (c : Nat) (l : List CRow) (w : World) (hl : Rd w w.heap.size A (l.flatMap CRow.cells)) (hn : l.length ≤ 9223372036854775807) (hr : ∀ x ∈ l, CRd w w.heap.size x) :
    Calls Try.prog 3 #[.int .i64 room, .int .i64 tries, .int .i64 wait, .slice A l.length c] w fun e w' => e = .returned (.bool true) ∧ Below w.heap.size w w' := by
  have Hl := Lib.hid hl; have Hr := Lib.hid hr
  clear hl hr
  go_enter Try.func3, Try.ntmps3
  go_wp2_with fail
  refine (small_any w).mono ?_
  rintro e w1 ⟨rfl, b1⟩
  go_wp2_with fail
  refine (few_any A c l w1 ((Hl.out.below b1).more b1.size) hn (fun x hx => crd_below (Hr.out x hx) b1)).mono ?_
  rintro e w' ⟨rfl, rfl⟩
  go_wp2_with fail
  refine (qs_new room tries wait w1).mono ?_
  rintro e w2 ⟨rfl, hq, b2⟩
  go_wp2_with fail
  refine (rs_new room tries wait w2).mono ?_
  rintro e w3 ⟨rfl, hr3, b3⟩
  obtain ⟨R, hR⟩ : ∃ R, max 0 (min room 64) = R := ⟨_, rfl⟩
  obtain ⟨T, hT⟩ : ∃ T, max 1 (min tries 16) = T := ⟨_, rfl⟩
  obtain ⟨D, hD⟩ : ∃ D, max 1 (min wait 1000) = D := ⟨_, rfl⟩
  rw [hR, hT, hD] at hq hr3
  have T0 : 1 ≤ T := by omega
  have T1 : T ≤ 16 := by omega
  have D0 : 0 ≤ D := by omega
  have D1 : D ≤ 1000 := by omega
  clear hR hT hD
  have B2 := b1.trans (b2.mono b1.size)
  have B3 := B2.trans (b3.mono B2.size)
  have du := (duo_new hq hr3 b3).less (P' := fun k => k < w.heap.size) (fun k hk => by have := b1.size; omega)
  clear hq hr3 b1 b2 b3 B2
  cases hf : fewS l with
  | false =>
    go_wp2_with fail
    go_ret
    exact ⟨rfl, B3⟩
  | true =>
    obtain ⟨l40, lm⟩ := few_yes hf
    have Lm := Lib.hid lm
    clear hf lm
    go_wp2_with fail
    go_loopw [13] (fun i wr => ∃ (k : Nat) (q : List It), k ≤ l.length ∧ i = .int .i64 k ∧ Duo wr (fun k => k < w.heap.size) w1.heap.size w2.heap.size q q R T D ∧ Inv T k q ∧ Below w.heap.size w wr) (fun i _ => l.length - (intOf i).toNat)
    case atStart => exact ⟨0, [], by omega, rfl, du, Inv.nil _ T0 T1, B3⟩
    case round =>
      obtain ⟨k, q, hk, rfl, hql, hi, Bw⟩ := hrel
      by_cases hlt : k < l.length
      · obtain ⟨b, o, rfl, hb, hc⟩ := call_cells Hl.out hlt
        obtain ⟨⟨⟨At, ct, e1, rt, n1⟩, ⟨Al, cl, e2, rl, n2⟩⟩, i0, i1, i2, i3⟩ := Hr.out _ (List.getElem_mem hlt)
        obtain ⟨C, hC⟩ : ∃ C, l[k] = C := ⟨_, rfl⟩
        rw [hC] at hc e1 e2 rt rl n1 n2 i0 i1 i2 i3
        have cb := fun j hj => (Bw.cell (p := ⟨b, o + k * 15 + j, none⟩) hb).trans (hc j hj)
        have lk := (Lm.out k hlt).2
        have lt := (Lm.out k hlt).1
        rw [hC] at lk lt
        refine plays_round _ _ _ _ _ _ _ _ _ _ _ _ _ _ _ _ _ _ _ _ _ _ _ _ _ _ _ _ _ _ _ _ _ _ _ _ _ _ _ _ _ _ _ _ _ _ _ _ _ _ _ _ _ _ _ _ _ _ _ _ _ _ _ _ _ _ _ _ _ _ _ _ _ _ _ _ _ _ _ _ _ _ _ _ _ _ _ _ _ _ _ _ _ _ _ _ _ _ _ _ _ _ _ _ _ _ _ _ _ _ _ _ _ _ _ _ _ _ _ _ _ _ _ _ _ _ _ _ _ _ _ _ _ _ _ _ _ _ _ _ _ _ _ _ _ _ _ _ _ _ _ _ _ _ _ _ _ _ _ _ _ _ _ _ _ _ _ _ _ _ _ _ _ _ _ _ _ _ _ _ _ _ _ _ _ _ _ _ _ _ _ _ _ _ _ _ _ _ _ _ _ _ _ _ _ _ _ _ _ _ _ _ _ _ _ _ _ _ _ _ _ _ _ _ _ _ _ _ _ _ _ _ _ _ _ _ _ _ _ _ _ _ _ _ _ _ _ _ _ _ _ _ _ _ _ _ _ _ _ _ _ _ _ _ _ _ _ _ _ _ _ _ _ _ _ _ _ _ _ _ _ _ _ _ _ _ _ _ _ _ _ _ _ _ _ _ _ _ _ _ _ _ _ _ _ _ _ _ _ _ _ _ _ _ _ _ _ _ _ _ _ _ _ _ _ _ _ _ _ _ _ _ _ _ _ _ _ _ _ _ _ _ _ _ _ _ _ _ _ w1.heap.size w2.heap.size b o k l.length c C At Al ct cl (by omega) lk hlt l40 q R T D D0 D1 w wr cb e1 e2 hql Bw (Lib.hid hi) (Lib.hid rt) (Lib.hid rl) _ (fun _ _ _ _ hd h => ⟨hd.symm.trans h.1, h.2⟩) (Lib.hid ?_)
        intro x14 x15 x16 x17 x18 x19 x20 x21 x22 x23 x24 x25 x26 x27 x28 x29 x30 x31 x54 x55 x56 x57 x58 x59 x60 x61 x62 x63 x64 x65 x66 x67 x68 x69 x70 x71 x72 x73 x74 x75 x76 x77 x78 x79 x80 x81 x82 x83 x84 x85 x86 x87 x88 x89 x90 x91 x92 x93 x94 x95 x96 x97 x98 x99 x100 x101 x102 x103 x104 x105 x106 x107 x108 x109 x110 x111 x112 x113 x114 x115 x116 x117 x118 x119 x120 x121 x122 x123 x124 x125 x126 x127 x128 x129 x130 x131 x132 x133 x134 x135 x136 x137 x138 x139 x140 x141 x142 x143 x144 x145 x146 x147 x148 x149 x150 x151 x152 x153 x154 x155 x156 x157 x158 x159 x160 x161 x162 x163 x164 x165 x166 x167 x168 x169 x170 x171 x172 x173 x174 x175 x176 x177 x178 x179 x180 x181 x182 x183 x184 x185 x186 x187 x188 x189 x190 x191 x192 x193 x194 x195 x196 x197 x198 x199 x200 x201 x202 x203 x204 x205 x206 x207 x208 x209 x210 x211 x212 x213 x214 x215 x216 x217 x218 x219 x220 x221 x222 x223 x224 x225 x226 x227 x228 x229 x230 x231 x232 x233 x234 x235 x236 x237 x238 x239 x240 x241 x242 x243 x244 x245 x246 x247 x248 x249 x250 x251 x252 x253 x254 x255 x256 x257 x258 x259 x260 x261 x262 x263 x264 x265 x266 x267 x268 x269 x270 x271 x272 x273 x274 x275 x276 x277 x278 x279 x280 x281 x282 x283 x284 x285 x286 x287 x288 x289 x290 x291 x292 x293 x294 x295 x296 x297 x298 x299 x300 x301 x302 x303 x304 x305 x306 x307 x308 x309 x310 x311 x312 x313 x314 x315 x316 x317 x318 x319 x320 x321 x322 x323 x324 x325 x326 x327 x328 x329 x330 x331 x332 x333 x334 x335 x336 x337 x338 x339 x340 x341 x342 x343 x344 x345 x346 x347 x348 x349 x350 x351 q' w' hq' hi' hb'
        clear du B3 hql hi Bw cb hc rt rl e1 e2 i0 i1 i2 i3
        go_wp2_with fail
        exact ⟨⟨k + 1, q', by omega, rfl, hq', hi', hb'⟩, by simp [intOf]; omega⟩
      · obtain rfl : k = l.length := by omega
        clear du B3 hql hi
        go_wp2_with fail
        go_ret
        exact ⟨rfl, Bw⟩
end Go.Proofs.Ytlbghgmeiajioaa
