/- Parts of the proof of LawGuardLeft: words, contracts of the functions, plain laws. -/
import Derived.Test.YtikbgoppmailjaaDoorLA03
import Derived.Test.YtikbgoppmailjaaDoorLA04
import Derived.Test.YtikbgoppmailjaaDoorLA02
import Derived.Test.YtikbgoppmailjaaDoorLA06
/- GuardLeft: one round of its second loop, at each index. -/
namespace Go.Proofs.YtikbgoppmailjaaDoor.H
open Go.RowKit Go.HK Go.Proofs.YtikbgoppmailjaaDoorW.PrintWords Go.Proofs.YtikbgoppmailjaaDoorW.PrintLast Go.Proofs.YtikbgoppmailjaaDoorW.PrintMore
set_option linter.unusedVariables false
set_option linter.unusedSimpArgs false
theorem exec_indexAddr {P : Program} {ρ : Operand → Value} {o : Oper} {t : TypeId} {a x : Operand} (ho : o.op = .indexAddr t a x) {w w' : World} {v : Value} (h : (Instr.indexAt t (ρ a) (ρ x)).run P w = .ok v w') : (execOp ρ o).run P w = .ok (.value v) w' := by
  unfold execOp
  rw [ho]
  simp only [Sem.run_bind, h, Result.andThen]
  rfl
theorem left_body {r0 r1 l1 r6 c7 c9 r11 body rest r0' r1' l1' r6' c7' c9' r11' body' rest' : Code} {n2 n2' : Nat} (h : Tryd.f5.body = some (.seq r0 (.seq r1 (.seq l1 (.seq r6 (.seq c7 (.seq c9 (.seq (.seq r11 (.block n2 (.loop body))) rest)))))))) (h' : Tryd.f5.body = some (.seq r0' (.seq r1' (.seq l1' (.seq r6' (.seq c7' (.seq c9' (.seq (.seq r11' (.block n2' (.loop body'))) rest')))))))) : body' = body := by
  rw [h] at h'
  injection h' with h'
  injection h' with _ h'
  injection h' with _ h'
  injection h' with _ h'
  injection h' with _ h'
  injection h' with _ h'
  injection h' with _ h'
  injection h' with h1 h2
  injection h1 with _ h3
  injection h3 with _ h4
  injection h4 with h5
  exact h5.symm
set_option maxRecDepth 100000 in
set_option maxHeartbeats 8000000 in
theorem left_round {i : Int} {off : Nat} {k : Nat} {a b : ByteArray} {o1 : List S33} {w y0 : World} {g n n2 : Nat} {TX XC : Array Value} {Q : Exit → Act → World → Prop} {r0 r1 l1 r6 c7 c9 r11 body rest : Code}
    {x0 x1 x2 x3 x4 x5 x6 x7 x8 x9 x10 x11 x12 x13 x14 x15 x16 x17 x18 x19 x20 x21 x22 x23 x24 x25 x26 x27 x28 x29 x30 x31 x32 x33 x34 x35 x36 x37 x38 x39 x40 x41 x42 x43 x44 x45 x46 x47 x48 x49 x50 x51 x52 x53 x54 x55 x56 x57 x58 x59 x60 x61 x62 x63 x64 x65 x66 x67 x68 x69 x70 x71 x72 x73 x74 x75 x76 x77 x78 x79 x80 x81 x82 x83 x84 x85 x86 x87 x88 x89 x90 x91 x92 x93 x94 x95 x96 x97 x98 x99 x100 x101 x102 x103 x104 x105 x106 x107 x108 x109 x110 x111 x112 x113 x114 x115 x116 x117 x118 x119 x120 x121 x122 x123 x124 x125 x126 x127 x128 x129 x130 x131 x132 x133 x134 x135 x136 x137 x138 x139 x140 x141 x142 x143 x144 x145 x146 x147 x148 x149 x150 x151 x152 x153 x154 x155 x156 x157 x158 x159 x160 x161 x162 x163 x164 x165 x166 x167 x168 x169 x170 x171 x172 x173 x174 x175 x176 x177 x178 x179 x180 x181 x182 x183 x184 x185 x186 x187 x188 x189 x190 x191 x195 x196 x197 x198 x199 x200 x201 x202 x203 x204 x205 x206 x207 x208 x209 x210 x211 x212 x213 x214 x215 x216 x217 x218 x219 x220 x221 x222 x223 x224 x225 x226 x227 x228 x229 x230 x231 x232 x233 x234 x235 x236 x237 x238 x239 x240 x241 x242 x243 x244 x245 x246 x247 x248 x249 x250 x251 x252 x253 x254 x255 x256 x257 x258 x259 x260 x261 x262 x263 x264 x265 x266 x267 x268 x269 x270 x271 x272 x273 x274 x275 x276 : Value}
    (HTB : Aside0 (Tabs2 w)) (U1 : Aside0 (guard_Parse.f k a = some (o1, 0))) (V1 : Aside0 (guard_Parse.f k b = some (o1, 0))) (E1 : Aside0 (remontoirkeep_Signs.f k o1 o1 = some true)) (i0 : 0 ≤ i) (i6 : i < 6) (ta : TX[off]? = some (.string a)) (tb : TX[off + 1]? = some (.string b))
    (IX : ∀ v, (Instr.indexAt 41 (.slice (some ⟨g, 0, none⟩) 6 6) (.int .i64 i)).run Tryd.prog v = .ok (.pointer (some ⟨g, off, none⟩)) v)
    (XS0 : Aside0 (y0.heap[g]? = some (.cells TX 40 (0, 0)))) (XA0 : Aside0 (y0.heap[w.heap.size + 1]? = some (.cells XC 37 (0, 0)))) (BB0 : Aside0 (Below w.heap.size w y0))
    (h' : Tryd.f5.body = some (.seq r0 (.seq r1 (.seq l1 (.seq r6 (.seq c7 (.seq c9 (.seq (.seq r11 (.block n2 (.loop body))) rest))))))))
    (cont : ∀ (z1 : World) (y12 y13 y14 y15 y16 y195 y196 y197 y198 y199 y200 y201 y202 y203 y204 y205 y206 y207 y208 y209 y210 y211 y212 y213 y214 y215 y216 y217 y218 y219 y220 y221 y222 : Value), Aside0 (z1.heap[g]? = some (.cells TX 40 (0, 0))) → Aside0 (z1.heap[w.heap.size + 1]? = some (.cells XC 37 (0, 0))) → Aside0 (Below w.heap.size w z1) → Code.rounds Tryd.prog body Q n ⟨#[x0, x1, x2, x3, x4, x5, x6, x7, x8, x9, x10, x11, y12, y13, y14, y15, y16, x17, x18, x19, x20, x21, x22, x23, x24, x25, x26, x27, x28, x29, x30, x31, x32, x33, x34, x35, x36, x37, x38, x39, x40, x41, x42, x43, x44, x45, x46, x47, x48, x49, x50, x51, x52, x53, x54, x55, x56, x57, x58, x59, x60, x61, x62, x63, x64, x65, x66, x67, x68, x69, x70, x71, x72, x73, x74, x75, x76, x77, x78, x79, x80, x81, x82, x83, x84, x85, x86, x87, x88, x89, x90, x91, x92, x93, x94, x95, x96, x97, x98, x99, x100, x101, x102, x103, x104, x105, x106, x107, x108, x109, x110, x111, x112, x113, x114, x115, x116, x117, x118, x119, x120, x121, x122, x123, x124, x125, x126, x127, x128, x129, x130, x131, x132, x133, x134, x135, x136, x137, x138, x139, x140, x141, x142, x143, x144, x145, x146, x147, x148, x149, x150, x151, x152, x153, x154, x155, x156, x157, x158, x159, x160, x161, x162, x163, x164, x165, x166, x167, x168, x169, x170, x171, x172, x173, x174, x175, x176, x177, x178, x179, x180, x181, x182, x183, x184, x185, x186, x187, x188, x189, x190, x191, .slice (some ⟨g, 0, none⟩) 6 6, .int .i64 6, .int .i64 (i + 1), y195, y196, y197, y198, y199, y200, y201, y202, y203, y204, y205, y206, y207, y208, y209, y210, y211, y212, y213, y214, y215, y216, y217, y218, y219, y220, y221, y222, x223, x224, x225, x226, x227, x228, x229, x230, x231, x232, x233, x234, x235, x236, x237, x238, x239, x240, x241, x242, x243, x244, x245, x246, x247, x248, x249, x250, x251, x252, x253, x254, x255, x256, x257, x258, x259, x260, x261, x262, x263, x264, x265, x266, x267, x268, x269, x270, x271, x272, x273, x274, x275, x276], []⟩ z1) :
    Code.rounds Tryd.prog body Q (n + 1) ⟨#[x0, x1, x2, x3, x4, x5, x6, x7, x8, x9, x10, x11, x12, x13, x14, x15, x16, x17, x18, x19, x20, x21, x22, x23, x24, x25, x26, x27, x28, x29, x30, x31, x32, x33, x34, x35, x36, x37, x38, x39, x40, x41, x42, x43, x44, x45, x46, x47, x48, x49, x50, x51, x52, x53, x54, x55, x56, x57, x58, x59, x60, x61, x62, x63, x64, x65, x66, x67, x68, x69, x70, x71, x72, x73, x74, x75, x76, x77, x78, x79, x80, x81, x82, x83, x84, x85, x86, x87, x88, x89, x90, x91, x92, x93, x94, x95, x96, x97, x98, x99, x100, x101, x102, x103, x104, x105, x106, x107, x108, x109, x110, x111, x112, x113, x114, x115, x116, x117, x118, x119, x120, x121, x122, x123, x124, x125, x126, x127, x128, x129, x130, x131, x132, x133, x134, x135, x136, x137, x138, x139, x140, x141, x142, x143, x144, x145, x146, x147, x148, x149, x150, x151, x152, x153, x154, x155, x156, x157, x158, x159, x160, x161, x162, x163, x164, x165, x166, x167, x168, x169, x170, x171, x172, x173, x174, x175, x176, x177, x178, x179, x180, x181, x182, x183, x184, x185, x186, x187, x188, x189, x190, x191, .slice (some ⟨g, 0, none⟩) 6 6, .int .i64 6, .int .i64 i, x195, x196, x197, x198, x199, x200, x201, x202, x203, x204, x205, x206, x207, x208, x209, x210, x211, x212, x213, x214, x215, x216, x217, x218, x219, x220, x221, x222, x223, x224, x225, x226, x227, x228, x229, x230, x231, x232, x233, x234, x235, x236, x237, x238, x239, x240, x241, x242, x243, x244, x245, x246, x247, x248, x249, x250, x251, x252, x253, x254, x255, x256, x257, x258, x259, x260, x261, x262, x263, x264, x265, x266, x267, x268, x269, x270, x271, x272, x273, x274, x275, x276], []⟩ y0 := by
  have hbody := left_body rfl h'
  clear h'
  subst hbody
  have LD1 := Aside0.mk (pair_load (a := a) (b := b) XS0.out off ta tb)
  rw [rounds_succ]
  go_upto_region 13 with fail
  go_upto_region 99 with (first
    | (go_at_call 10; refine (remontoirkeep_Signs.calls k _ _ o1 _ _ o1 true _ (Kd.C_below CA1.out BX1b.out) LA1.out CB1.out LB1.out E1.out).mono ?_; rintro e y1 ⟨rfl, hd⟩; have hb := hd.below; clear hd; have XS1 := Aside0.mk ((hb.block _ (blk_lt XS1b.out)).trans XS1b.out); have XA1 := Aside0.mk ((hb.block _ (blk_lt XA1b.out)).trans XA1b.out); have BB1 := Aside0.mk (BB1b.out.trans (hb.mono BB1b.out.size)); clear hb)
    | (go_at_call 9; refine (guard_Parse.calls k _ o1 0 _ (HTB.out.below BB1a.out) V1.out).mono ?_; rintro e y1b ⟨v, rfl, hr, hb⟩; have BX1b := Aside0.mk hb; obtain ⟨A, z, rfl, hlc, hC⟩ := Kd.R_reads hr; have CB1 := Aside0.mk hC; have LB1 := Aside0.mk hlc; have XS1b := Aside0.mk ((hb.block _ (blk_lt XS1a.out)).trans XS1a.out); have XA1b := Aside0.mk ((hb.block _ (blk_lt XA1a.out)).trans XA1a.out); have BB1b := Aside0.mk (BB1a.out.trans (hb.mono BB1a.out.size)); clear hb hr hlc hC)
    | (go_at_call 9; refine (guard_Parse.calls k _ o1 0 _ (HTB.out.below BB1c.out) U1.out).mono ?_; rintro e y1a ⟨v, rfl, hr, hb⟩; obtain ⟨A, z, rfl, hlc, hC⟩ := Kd.R_reads hr; have CA1 := Aside0.mk hC; have LA1 := Aside0.mk hlc; have XD1a := Aside0.mk ((hb.block _ (blk_lt XD1c.out)).trans XD1c.out); have D1 := blk_cell XD1a.out 1; have XS1a := Aside0.mk ((hb.block _ (blk_lt XS1c.out)).trans XS1c.out); have XA1a := Aside0.mk ((hb.block _ (blk_lt XA1c.out)).trans XA1c.out); have BB1a := Aside0.mk (BB1c.out.trans (hb.mono BB1c.out.size)); clear hb hr hlc hC)
    | (refine wpList_doTo rfl _ (exec_store rfl (pair_store _ _ _)) ?_; have hb := (Below.refl y0.heap.size y0).alloc (Nat.le_refl _) (.cells #[.string a, .string b] 40); have XD1c := Aside0.mk (heap_alloc_last y0 (.cells #[.string a, .string b] 40)); have D0 := blk_cell XD1c.out 0; have XS1c := Aside0.mk ((hb.block _ (blk_lt XS0.out)).trans XS0.out); have XA1c := Aside0.mk ((hb.block _ (blk_lt XA0.out)).trans XA0.out); have BB1c := Aside0.mk (BB0.out.trans (hb.mono BB0.out.size)); clear hb)
    | (refine Great.wpList_readTo rfl (some 197) rfl (.agg #[.string a, .string b]) (exec_load rfl LD1.out) ?_)
    | (refine Great.wpList_readTo rfl (some 196) rfl (.pointer (some ⟨g, off, none⟩)) (exec_indexAddr rfl (IX _)) ?_))
  exact cont _ _ _ _ _ _ _ _ _ _ _ _ _ _ _ _ _ _ _ _ _ _ _ _ _ _ _ _ _ _ _ _ _ _ XS1 XA1 BB1
end Go.Proofs.YtikbgoppmailjaaDoor.H
/- GuardLeft's second loop and what follows it. -/
namespace Go.Proofs.YtikbgoppmailjaaDoor.H
open Go.RowKit Go.HK Go.Proofs.YtikbgoppmailjaaDoorW.PrintWords Go.Proofs.YtikbgoppmailjaaDoorW.PrintLast Go.Proofs.YtikbgoppmailjaaDoorW.PrintMore
set_option linter.unusedVariables false
set_option linter.unusedSimpArgs false
theorem left_open {r0 r1 l1 r6 c7 c9 r11 l2 rest r0' r1' l1' r6' c7' c9' r11' l2' rest' : Code} (h : Tryd.f5.body = some (.seq r0 (.seq r1 (.seq l1 (.seq r6 (.seq c7 (.seq c9 (.seq (.seq r11 l2) rest)))))))) (h' : Tryd.f5.body = some (.seq r0' (.seq r1' (.seq l1' (.seq r6' (.seq c7' (.seq c9' (.seq (.seq r11' l2') rest')))))))) {K : Act → World → Prop} {Q : Exit → Act → World → Prop} {a : Act} {w : World} (hw : (∀ a w', Code.wp Tryd.prog rest Q a w' → K a w') → Code.wp Tryd.prog l2 (Exit.then K Q) a w) (hK : ∀ a w', Code.wp Tryd.prog rest' Q a w' → K a w') : Code.wp Tryd.prog l2' (Exit.then K Q) a w := by
  rw [h] at h'
  injection h' with h'
  injection h' with _ h'
  injection h' with _ h'
  injection h' with _ h'
  injection h' with _ h'
  injection h' with _ h'
  injection h' with _ h'
  injection h' with h1 h2
  injection h1 with _ h3
  subst h2 h3
  exact hw hK
set_option maxRecDepth 100000 in
set_option maxHeartbeats 8000000 in
theorem left_second (k : Nat) (p q : Int) (s0 s1 s2 tp tq : ByteArray) (o1 o2 o3 o4 o5 o6 o7 : List S33) (w y0 : World) (g : Nat) {K : Act → World → Prop}
    {r0 r1 l1 r6 c7 c9 r11 l2 rest : Code} {x0 x1 x2 x3 x4 x5 x8 x11 x12 x13 x14 x15 x16 x17 x18 x19 x20 x21 x22 x23 x24 x25 x26 x27 x28 x29 x30 x31 x32 x33 x34 x35 x36 x37 x38 x39 x40 x41 x42 x43 x44 x45 x46 x47 x48 x49 x50 x51 x52 x53 x54 x55 x56 x57 x58 x59 x60 x61 x62 x63 x64 x65 x66 x67 x68 x69 x70 x71 x72 x73 x74 x75 x76 x77 x78 x79 x80 x81 x82 x83 x84 x85 x86 x87 x88 x89 x90 x91 x92 x93 x94 x95 x96 x97 x98 x99 x100 x101 x102 x103 x104 x105 x106 x107 x108 x109 x110 x111 x112 x113 x114 x115 x116 x117 x118 x119 x120 x121 x122 x123 x124 x125 x126 x127 x128 x129 x130 x131 x132 x133 x134 x135 x136 x137 x138 x139 x140 x141 x142 x143 x144 x145 x146 x147 x148 x149 x150 x151 x152 x153 x154 x155 x156 x157 x158 x159 x160 x161 x162 x163 x164 x165 x166 x167 x168 x169 x170 x171 x172 x173 x174 x175 x176 x177 x178 x179 x180 x181 x182 x183 x184 x185 x186 x187 x188 x189 x190 x191 : Value}
    (z0 : s0.size = 1) (z1 : s1.size = 1) (z2 : s2.size = 1) (zp : tp.size = 1) (zq : tq.size = 1) (HTB : Aside0 (Tabs2 w)) (HP : Aside0 (remontoirlaw14_text.f 60 p = some tp)) (HQ : Aside0 (remontoirlaw14_text.f 60 q = some tq)) (HW : Aside0 (remontoirlaw14_wakes.f k = some true))
    (U1 : Aside0 (guard_Parse.f k (((((s0 ++ tp) ++ s1) ++ tq) ++ s2) ++ (⟨#[60, 49]⟩ : ByteArray)) = some (o1, 0))) (V1 : Aside0 (guard_Parse.f k ((((((((⟨#[91]⟩ : ByteArray) ++ s0) ++ tp) ++ s1) ++ (⟨#[93]⟩ : ByteArray)) ++ tq) ++ s2) ++ (⟨#[60, 49]⟩ : ByteArray)) = some (o1, 0))) (E1 : Aside0 (remontoirkeep_Signs.f k o1 o1 = some true))
    (U2 : Aside0 (guard_Parse.f k (((((s0 ++ tp) ++ s1) ++ (⟨#[42]⟩ : ByteArray)) ++ s2) ++ (⟨#[60, 49]⟩ : ByteArray)) = some (o2, 0))) (V2 : Aside0 (guard_Parse.f k ((((((s0 ++ tp) ++ (⟨#[91]⟩ : ByteArray)) ++ s1) ++ (⟨#[42]⟩ : ByteArray)) ++ s2) ++ (⟨#[93, 60, 49]⟩ : ByteArray)) = some (o2, 0))) (E2 : Aside0 (remontoirkeep_Signs.f k o2 o2 = some true))
    (U3 : Aside0 (guard_Parse.f k (((((s0 ++ (⟨#[42]⟩ : ByteArray)) ++ s1) ++ (⟨#[42]⟩ : ByteArray)) ++ s2) ++ (⟨#[33, 61, 49]⟩ : ByteArray)) = some (o3, 0))) (V3 : Aside0 (guard_Parse.f k (((((((⟨#[91]⟩ : ByteArray) ++ s0) ++ (⟨#[42]⟩ : ByteArray)) ++ s1) ++ (⟨#[93, 42]⟩ : ByteArray)) ++ s2) ++ (⟨#[33, 61, 49]⟩ : ByteArray)) = some (o3, 0))) (E3 : Aside0 (remontoirkeep_Signs.f k o3 o3 = some true))
    (U4 : Aside0 (guard_Parse.f k (((((((⟨#[45]⟩ : ByteArray) ++ s0) ++ (⟨#[42]⟩ : ByteArray)) ++ s1) ++ tp) ++ s2) ++ (⟨#[62, 61, 49]⟩ : ByteArray)) = some (o4, 0))) (V4 : Aside0 (guard_Parse.f k ((((((((⟨#[91, 91, 45]⟩ : ByteArray) ++ s0) ++ (⟨#[93, 42]⟩ : ByteArray)) ++ s1) ++ (⟨#[93]⟩ : ByteArray)) ++ tp) ++ s2) ++ (⟨#[62, 61, 49]⟩ : ByteArray)) = some (o4, 0))) (E4 : Aside0 (remontoirkeep_Signs.f k o4 o4 = some true))
    (U5 : Aside0 (guard_Parse.f k (((((s0 ++ (⟨#[60, 49, 124]⟩ : ByteArray)) ++ s1) ++ (⟨#[60, 49, 38]⟩ : ByteArray)) ++ s2) ++ (⟨#[60, 49]⟩ : ByteArray)) = some (o5, 0))) (V5 : Aside0 (guard_Parse.f k (((((s0 ++ (⟨#[60, 49, 124, 40]⟩ : ByteArray)) ++ s1) ++ (⟨#[60, 49, 38]⟩ : ByteArray)) ++ s2) ++ (⟨#[60, 49, 41]⟩ : ByteArray)) = some (o5, 0))) (E5 : Aside0 (remontoirkeep_Signs.f k o5 o5 = some true))
    (U6 : Aside0 (guard_Parse.f k (((((⟨#[33]⟩ : ByteArray) ++ s0) ++ (⟨#[60, 49, 38]⟩ : ByteArray)) ++ s1) ++ (⟨#[60, 49]⟩ : ByteArray)) = some (o6, 0))) (V6 : Aside0 (guard_Parse.f k (((((⟨#[40, 33, 40]⟩ : ByteArray) ++ s0) ++ (⟨#[60, 49, 41, 41, 38]⟩ : ByteArray)) ++ s1) ++ (⟨#[60, 49]⟩ : ByteArray)) = some (o6, 0))) (E6 : Aside0 (remontoirkeep_Signs.f k o6 o6 = some true))
    (V7 : Aside0 (guard_Parse.f k ((((((s0 ++ tp) ++ (⟨#[91]⟩ : ByteArray)) ++ s1) ++ tq) ++ s2) ++ (⟨#[93, 60, 49]⟩ : ByteArray)) = some (o7, 0))) (E7 : Aside0 (remontoirkeep_Signs.f k o1 o7 = some false))
    (XS0 : Aside0 (y0.heap[g]? = some (.cells #[.string (((((s0 ++ tp) ++ s1) ++ tq) ++ s2) ++ (⟨#[60, 49]⟩ : ByteArray)), .string ((((((((⟨#[91]⟩ : ByteArray) ++ s0) ++ tp) ++ s1) ++ (⟨#[93]⟩ : ByteArray)) ++ tq) ++ s2) ++ (⟨#[60, 49]⟩ : ByteArray)), .string (((((s0 ++ tp) ++ s1) ++ (⟨#[42]⟩ : ByteArray)) ++ s2) ++ (⟨#[60, 49]⟩ : ByteArray)), .string ((((((s0 ++ tp) ++ (⟨#[91]⟩ : ByteArray)) ++ s1) ++ (⟨#[42]⟩ : ByteArray)) ++ s2) ++ (⟨#[93, 60, 49]⟩ : ByteArray)), .string (((((s0 ++ (⟨#[42]⟩ : ByteArray)) ++ s1) ++ (⟨#[42]⟩ : ByteArray)) ++ s2) ++ (⟨#[33, 61, 49]⟩ : ByteArray)), .string (((((((⟨#[91]⟩ : ByteArray) ++ s0) ++ (⟨#[42]⟩ : ByteArray)) ++ s1) ++ (⟨#[93, 42]⟩ : ByteArray)) ++ s2) ++ (⟨#[33, 61, 49]⟩ : ByteArray)), .string (((((((⟨#[45]⟩ : ByteArray) ++ s0) ++ (⟨#[42]⟩ : ByteArray)) ++ s1) ++ tp) ++ s2) ++ (⟨#[62, 61, 49]⟩ : ByteArray)), .string ((((((((⟨#[91, 91, 45]⟩ : ByteArray) ++ s0) ++ (⟨#[93, 42]⟩ : ByteArray)) ++ s1) ++ (⟨#[93]⟩ : ByteArray)) ++ tp) ++ s2) ++ (⟨#[62, 61, 49]⟩ : ByteArray)), .string (((((s0 ++ (⟨#[60, 49, 124]⟩ : ByteArray)) ++ s1) ++ (⟨#[60, 49, 38]⟩ : ByteArray)) ++ s2) ++ (⟨#[60, 49]⟩ : ByteArray)), .string (((((s0 ++ (⟨#[60, 49, 124, 40]⟩ : ByteArray)) ++ s1) ++ (⟨#[60, 49, 38]⟩ : ByteArray)) ++ s2) ++ (⟨#[60, 49, 41]⟩ : ByteArray)), .string (((((⟨#[33]⟩ : ByteArray) ++ s0) ++ (⟨#[60, 49, 38]⟩ : ByteArray)) ++ s1) ++ (⟨#[60, 49]⟩ : ByteArray)), .string (((((⟨#[40, 33, 40]⟩ : ByteArray) ++ s0) ++ (⟨#[60, 49, 41, 41, 38]⟩ : ByteArray)) ++ s1) ++ (⟨#[60, 49]⟩ : ByteArray))] 40 (0, 0)))) (XA0 : Aside0 (y0.heap[w.heap.size + 1]? = some (.cells #[.string s0, .string s1, .string s2] 37 (0, 0)))) (BB0 : Aside0 (Below w.heap.size w y0))
    (hb : Tryd.f5.body = some (.seq r0 (.seq r1 (.seq l1 (.seq r6 (.seq c7 (.seq c9 (.seq (.seq r11 l2) rest))))))))
    (hK : ∀ a w', Code.wp Tryd.prog rest (bodyPost Tryd.prog Tryd.f5 (fun e w' => e = .returned (.bool true) ∧ Below w.heap.size w w')) a w' → K a w') :
    Code.wp Tryd.prog l2 (Exit.then K (bodyPost Tryd.prog Tryd.f5 (fun e w' => e = .returned (.bool true) ∧ Below w.heap.size w w'))) ⟨#[x0, x1, x2, x3, x4, x5, .bool false, .pointer (some ⟨w.heap.size + 1, 0, none⟩), x8, .int .i64 p, .int .i64 q, x11, x12, x13, x14, x15, x16, x17, x18, x19, x20, x21, x22, x23, x24, x25, x26, x27, x28, x29, x30, x31, x32, x33, x34, x35, x36, x37, x38, x39, x40, x41, x42, x43, x44, x45, x46, x47, x48, x49, x50, x51, x52, x53, x54, x55, x56, x57, x58, x59, x60, x61, x62, x63, x64, x65, x66, x67, x68, x69, x70, x71, x72, x73, x74, x75, x76, x77, x78, x79, x80, x81, x82, x83, x84, x85, x86, x87, x88, x89, x90, x91, x92, x93, x94, x95, x96, x97, x98, x99, x100, x101, x102, x103, x104, x105, x106, x107, x108, x109, x110, x111, x112, x113, x114, x115, x116, x117, x118, x119, x120, x121, x122, x123, x124, x125, x126, x127, x128, x129, x130, x131, x132, x133, x134, x135, x136, x137, x138, x139, x140, x141, x142, x143, x144, x145, x146, x147, x148, x149, x150, x151, x152, x153, x154, x155, x156, x157, x158, x159, x160, x161, x162, x163, x164, x165, x166, x167, x168, x169, x170, x171, x172, x173, x174, x175, x176, x177, x178, x179, x180, x181, x182, x183, x184, x185, x186, x187, x188, x189, x190, x191, .slice (some ⟨g, 0, none⟩) 6 6, .int .i64 6, .int .i64 0, undef, undef, undef, undef, undef, undef, undef, undef, undef, undef, undef, undef, undef, undef, undef, undef, undef, undef, undef, undef, undef, undef, undef, undef, undef, undef, undef, undef, undef, undef, undef, undef, undef, undef, undef, undef, undef, undef, undef, undef, undef, undef, undef, undef, undef, undef, undef, undef, undef, undef, undef, undef, undef, undef, undef, undef, undef, undef, undef, undef, undef, undef, undef, undef, undef, undef, undef, undef, undef, undef, undef, undef, undef, undef, undef, undef, undef, undef, undef, undef, undef, undef], []⟩ y0 := by
  have zl0 : (⟨#[33, 61, 49]⟩ : ByteArray).size = 3 := rfl
  have zl1 : (⟨#[33]⟩ : ByteArray).size = 1 := rfl
  have zl2 : (⟨#[40, 33, 40]⟩ : ByteArray).size = 3 := rfl
  have zl3 : (⟨#[42]⟩ : ByteArray).size = 1 := rfl
  have zl4 : (⟨#[45]⟩ : ByteArray).size = 1 := rfl
  have zl5 : (⟨#[60, 49, 124, 40]⟩ : ByteArray).size = 4 := rfl
  have zl6 : (⟨#[60, 49, 124]⟩ : ByteArray).size = 3 := rfl
  have zl7 : (⟨#[60, 49, 38]⟩ : ByteArray).size = 3 := rfl
  have zl8 : (⟨#[60, 49, 41, 41, 38]⟩ : ByteArray).size = 5 := rfl
  have zl9 : (⟨#[60, 49, 41]⟩ : ByteArray).size = 3 := rfl
  have zl10 : (⟨#[60, 49]⟩ : ByteArray).size = 2 := rfl
  have zl11 : (⟨#[62, 61, 49]⟩ : ByteArray).size = 3 := rfl
  have zl12 : (⟨#[91, 91, 45]⟩ : ByteArray).size = 3 := rfl
  have zl13 : (⟨#[91]⟩ : ByteArray).size = 1 := rfl
  have zl14 : (⟨#[93, 42]⟩ : ByteArray).size = 2 := rfl
  have zl15 : (⟨#[93, 60, 49]⟩ : ByteArray).size = 3 := rfl
  have zl16 : (⟨#[93]⟩ : ByteArray).size = 1 := rfl
  refine left_open rfl hb ?_ hK
  clear hK hb
  intro hK
  go_wp2
  refine wp_loop_rounds 7 ?_
  refine left_round (i := 0) (off := 0) (k := k) (HTB := HTB) (U1 := U1) (V1 := V1) (E1 := E1) (i0 := by omega) (i6 := by omega) (ta := rfl) (tb := rfl) (IX := fun _ => rfl) (XS0 := XS0) (XA0 := XA0) (BB0 := BB0) (h' := rfl) ?_
  intro y1 _ _ _ _ _ _ _ _ _ _ _ _ _ _ _ _ _ _ _ _ _ _ _ _ _ _ _ _ _ _ _ _ _ XS1 XA1 BB1
  refine left_round (i := 1) (off := 2) (k := k) (HTB := HTB) (U1 := U2) (V1 := V2) (E1 := E2) (i0 := by omega) (i6 := by omega) (ta := rfl) (tb := rfl) (IX := fun _ => rfl) (XS0 := XS1) (XA0 := XA1) (BB0 := BB1) (h' := rfl) ?_
  intro y2 _ _ _ _ _ _ _ _ _ _ _ _ _ _ _ _ _ _ _ _ _ _ _ _ _ _ _ _ _ _ _ _ _ XS2 XA2 BB2
  refine left_round (i := 2) (off := 4) (k := k) (HTB := HTB) (U1 := U3) (V1 := V3) (E1 := E3) (i0 := by omega) (i6 := by omega) (ta := rfl) (tb := rfl) (IX := fun _ => rfl) (XS0 := XS2) (XA0 := XA2) (BB0 := BB2) (h' := rfl) ?_
  intro y3 _ _ _ _ _ _ _ _ _ _ _ _ _ _ _ _ _ _ _ _ _ _ _ _ _ _ _ _ _ _ _ _ _ XS3 XA3 BB3
  refine left_round (i := 3) (off := 6) (k := k) (HTB := HTB) (U1 := U4) (V1 := V4) (E1 := E4) (i0 := by omega) (i6 := by omega) (ta := rfl) (tb := rfl) (IX := fun _ => rfl) (XS0 := XS3) (XA0 := XA3) (BB0 := BB3) (h' := rfl) ?_
  intro y4 _ _ _ _ _ _ _ _ _ _ _ _ _ _ _ _ _ _ _ _ _ _ _ _ _ _ _ _ _ _ _ _ _ XS4 XA4 BB4
  refine left_round (i := 4) (off := 8) (k := k) (HTB := HTB) (U1 := U5) (V1 := V5) (E1 := E5) (i0 := by omega) (i6 := by omega) (ta := rfl) (tb := rfl) (IX := fun _ => rfl) (XS0 := XS4) (XA0 := XA4) (BB0 := BB4) (h' := rfl) ?_
  intro y5 _ _ _ _ _ _ _ _ _ _ _ _ _ _ _ _ _ _ _ _ _ _ _ _ _ _ _ _ _ _ _ _ _ XS5 XA5 BB5
  refine left_round (i := 5) (off := 10) (k := k) (HTB := HTB) (U1 := U6) (V1 := V6) (E1 := E6) (i0 := by omega) (i6 := by omega) (ta := rfl) (tb := rfl) (IX := fun _ => rfl) (XS0 := XS5) (XA0 := XA5) (BB0 := BB5) (h' := rfl) ?_
  intro y6 _ _ _ _ _ _ _ _ _ _ _ _ _ _ _ _ _ _ _ _ _ _ _ _ _ _ _ _ _ _ _ _ _ XS6 XA6 BB6
  rw [rounds_succ]
  have f0 := blk_cell XA6.out 0
  have f1 := blk_cell XA6.out 1
  have f2 := blk_cell XA6.out 2
  have BB6d := Aside0.mk (BB6.out.trans ((Below.refl _ _).drew.mono BB6.out.size))
  go_wp2
  refine start_ (n := 21) (S := fun w' => w'.cell? ⟨w.heap.size + 1, 0, none⟩ = some (.string s0) ∧ w'.cell? ⟨w.heap.size + 1, 1, none⟩ = some (.string s1) ∧ w'.cell? ⟨w.heap.size + 1, 2, none⟩ = some (.string s2)) (ds := []) #[false, false, false, false, false, false, false, false, false, false, false, false, false, false, false, false, false, false, false, false, false] (by kernel_rfl) rfl rfl ⟨f0, f1, f2⟩ (fun hHeld => ?_)
  refine with_tabW left.tab19 left.bits19 (fun HT_ HW_ => ?_)
  refine pure_ (i := 0) (N := some 224) (v := ?_) (a' := ?_) #[true, false, false, false, false, false, false, false, false, false, false, false, false, false, false, false, false, false, false, false, false] rfl rfl (any_of HT_.out (by kernel_rfl)) (fun _ _ _ h => h) (Or.inl ⟨by rfl, ?_⟩) ?_ ?_
  rotate_left
  · intro w'
    go_simp
    with_reducible rfl
  rotate_left
  · simp only [Act.put, List.setIfInBounds_toArray, List.set_cons_zero, List.set_cons_succ, i64_w, i32_w]
    rfl
  refine pure_ (i := 2) (N := some 226) (v := ?_) (a' := ?_) #[true, false, true, false, false, false, false, false, false, false, false, false, false, false, false, false, false, false, false, false, false] rfl rfl (any_of HT_.out (by kernel_rfl)) (fun _ _ _ h => h) (Or.inl ⟨by rfl, ?_⟩) ?_ ?_
  rotate_left
  · intro w'
    go_simp
    with_reducible rfl
  rotate_left
  · simp only [Act.put, List.setIfInBounds_toArray, List.set_cons_zero, List.set_cons_succ, i64_w, i32_w]
    rfl
  refine pure_ (i := 5) (N := some 229) (v := ?_) (a' := ?_) #[true, false, true, false, false, true, false, false, false, false, false, false, false, false, false, false, false, false, false, false, false] rfl rfl (any_of HT_.out (by kernel_rfl)) (fun _ _ _ h => h) (Or.inl ⟨by rfl, ?_⟩) ?_ ?_
  rotate_left
  · intro w'
    go_simp
    with_reducible rfl
  rotate_left
  · simp only [Act.put, List.setIfInBounds_toArray, List.set_cons_zero, List.set_cons_succ, i64_w, i32_w]
    rfl
  refine pure_ (i := 8) (N := some 232) (v := ?_) (a' := ?_) #[true, false, true, false, false, true, false, false, true, false, false, false, false, false, false, false, false, false, false, false, false] rfl rfl (any_of HT_.out (by kernel_rfl)) (fun _ _ _ h => h) (Or.inl ⟨by rfl, ?_⟩) ?_ ?_
  rotate_left
  · intro w'
    go_simp
    with_reducible rfl
  rotate_left
  · simp only [Act.put, List.setIfInBounds_toArray, List.set_cons_zero, List.set_cons_succ, i64_w, i32_w]
    rfl
  refine pure_ (i := 11) (N := some 235) (v := ?_) (a' := ?_) #[true, false, true, false, false, true, false, false, true, false, false, true, false, false, false, false, false, false, false, false, false] rfl rfl (any_of HT_.out (by kernel_rfl)) (fun _ _ _ h => h) (Or.inl ⟨by rfl, ?_⟩) ?_ ?_
  rotate_left
  · intro w'
    go_simp
    with_reducible rfl
  rotate_left
  · simp only [Act.put, List.setIfInBounds_toArray, List.set_cons_zero, List.set_cons_succ, i64_w, i32_w]
    rfl
  refine take_ (i := 1) (N := some 225) (v := ?_) (a' := ?_) #[true, true, true, false, false, true, false, false, true, false, false, true, false, false, false, false, false, false, false, false, false] rfl rfl (take_ofW HT_.out HW_.out (by kernel_rfl)) (fun _ _ _ h => h) (Or.inl ⟨by rfl, ?_⟩) hHeld ?_ ?_
  rotate_left
  · rintro w' ⟨s0, s1, s2⟩
    go_simp
    with_reducible rfl
  rotate_left
  · simp only [Act.put, List.setIfInBounds_toArray, List.set_cons_zero, List.set_cons_succ, i64_w, i32_w]
    rfl
  refine take_ (i := 6) (N := some 230) (v := ?_) (a' := ?_) #[true, true, true, false, false, true, true, false, true, false, false, true, false, false, false, false, false, false, false, false, false] rfl rfl (take_ofW HT_.out HW_.out (by kernel_rfl)) (fun _ _ _ h => h) (Or.inl ⟨by rfl, ?_⟩) hHeld ?_ ?_
  rotate_left
  · rintro w' ⟨s0, s1, s2⟩
    go_simp
    with_reducible rfl
  rotate_left
  · simp only [Act.put, List.setIfInBounds_toArray, List.set_cons_zero, List.set_cons_succ, i64_w, i32_w]
    rfl
  refine take_ (i := 12) (N := some 236) (v := ?_) (a' := ?_) #[true, true, true, false, false, true, true, false, true, false, false, true, true, false, false, false, false, false, false, false, false] rfl rfl (take_ofW HT_.out HW_.out (by kernel_rfl)) (fun _ _ _ h => h) (Or.inl ⟨by rfl, ?_⟩) hHeld ?_ ?_
  rotate_left
  · rintro w' ⟨s0, s1, s2⟩
    go_simp
    with_reducible rfl
  rotate_left
  · simp only [Act.put, List.setIfInBounds_toArray, List.set_cons_zero, List.set_cons_succ, i64_w, i32_w]
    rfl
  refine one_ (i := 3) (N := some 227) #[true, true, true, true, false, true, true, false, true, false, false, true, true, false, false, false, false, false, false, false, false] rfl rfl (one_of HT_.out (by kernel_rfl)) (by decide) (fun K hK => ?_)
  refine goes_ Tryd.func14 (by kernel_rfl) rfl #[.int .i64 p] (by rfl) rfl rfl (by simp only [List.map_toArray, List.map_cons, List.map_nil]; rfl) ?_
  with_reducible refine (remontoirlaw14_text.calls 60 p tp _ HP.out).mono ?_
  rintro e9 x9 ⟨rfl, hb⟩
  refine ⟨_, rfl, ?_⟩
  have c0 := (hb.cell (World.block_lt_of_cell? _ _ hHeld.1)).trans hHeld.1
  have c1 := (hb.cell (World.block_lt_of_cell? _ _ hHeld.2.1)).trans hHeld.2.1
  have c2 := (hb.cell (World.block_lt_of_cell? _ _ hHeld.2.2)).trans hHeld.2.2
  have B9 := Aside0.mk (BB6d.out.trans (hb.mono BB6d.out.size))
  have X9 := Aside0.mk ((hb.block _ (blk_lt XA6.out)).trans XA6.out)
  clear hb
  refine hK.out _ _ ⟨c0, c1, c2⟩ (fun hHeld => ?_)
  clear hK K
  refine norm_ (a' := ?_) ?_ ?_
  rotate_left
  · show Act.put _ (some 227) _ = _
    simp only [Act.put, List.setIfInBounds_toArray, List.set_cons_zero, List.set_cons_succ, i64_w, i32_w]
    rfl
  refine pure_ (i := 4) (N := some 228) (v := ?_) (a' := ?_) #[true, true, true, true, true, true, true, false, true, false, false, true, true, false, false, false, false, false, false, false, false] rfl rfl (any_of HT_.out (by kernel_rfl)) (fun _ _ _ h => h) (Or.inl ⟨by rfl, ?_⟩) ?_ ?_
  rotate_left
  · intro w'
    go_simp
    with_reducible rfl
  rotate_left
  · simp only [Act.put, List.setIfInBounds_toArray, List.set_cons_zero, List.set_cons_succ, i64_w, i32_w]
    rfl
  refine pure_ (i := 7) (N := some 231) (v := ?_) (a' := ?_) #[true, true, true, true, true, true, true, true, true, false, false, true, true, false, false, false, false, false, false, false, false] rfl rfl (any_of HT_.out (by kernel_rfl)) (fun _ _ _ h => h) (Or.inl ⟨by rfl, ?_⟩) ?_ ?_
  rotate_left
  · intro w'
    go_simp
    with_reducible rfl
  rotate_left
  · simp only [Act.put, List.setIfInBounds_toArray, List.set_cons_zero, List.set_cons_succ, i64_w, i32_w]
    rfl
  refine one_ (i := 9) (N := some 233) #[true, true, true, true, true, true, true, true, true, true, false, true, true, false, false, false, false, false, false, false, false] rfl rfl (one_of HT_.out (by kernel_rfl)) (by decide) (fun K hK => ?_)
  refine goes_ Tryd.func14 (by kernel_rfl) rfl #[.int .i64 q] (by rfl) rfl rfl (by simp only [List.map_toArray, List.map_cons, List.map_nil]; rfl) ?_
  with_reducible refine (remontoirlaw14_text.calls 60 q tq _ HQ.out).mono ?_
  rintro e10 x10 ⟨rfl, hb⟩
  refine ⟨_, rfl, ?_⟩
  have c0 := (hb.cell (World.block_lt_of_cell? _ _ hHeld.1)).trans hHeld.1
  have c1 := (hb.cell (World.block_lt_of_cell? _ _ hHeld.2.1)).trans hHeld.2.1
  have c2 := (hb.cell (World.block_lt_of_cell? _ _ hHeld.2.2)).trans hHeld.2.2
  have B10 := Aside0.mk (B9.out.trans (hb.mono B9.out.size))
  have X10 := Aside0.mk ((hb.block _ (blk_lt X9.out)).trans X9.out)
  clear hb
  refine hK.out _ _ ⟨c0, c1, c2⟩ (fun hHeld => ?_)
  clear hK K
  refine norm_ (a' := ?_) ?_ ?_
  rotate_left
  · show Act.put _ (some 233) _ = _
    simp only [Act.put, List.setIfInBounds_toArray, List.set_cons_zero, List.set_cons_succ, i64_w, i32_w]
    rfl
  refine pure_ (i := 10) (N := some 234) (v := ?_) (a' := ?_) #[true, true, true, true, true, true, true, true, true, true, true, true, true, false, false, false, false, false, false, false, false] rfl rfl (any_of HT_.out (by kernel_rfl)) (fun _ _ _ h => h) (Or.inl ⟨by rfl, ?_⟩) ?_ ?_
  rotate_left
  · intro w'
    go_simp
    with_reducible rfl
  rotate_left
  · simp only [Act.put, List.setIfInBounds_toArray, List.set_cons_zero, List.set_cons_succ, i64_w, i32_w]
    rfl
  refine pure_ (i := 13) (N := some 237) (v := ?_) (a' := ?_) #[true, true, true, true, true, true, true, true, true, true, true, true, true, true, false, false, false, false, false, false, false] rfl rfl (any_of HT_.out (by kernel_rfl)) (fun _ _ _ h => h) (Or.inl ⟨by rfl, ?_⟩) ?_ ?_
  rotate_left
  · intro w'
    go_simp
    with_reducible rfl
  rotate_left
  · simp only [Act.put, List.setIfInBounds_toArray, List.set_cons_zero, List.set_cons_succ, i64_w, i32_w]
    rfl
  refine pure_ (i := 14) (N := some 238) (v := ?_) (a' := ?_) #[true, true, true, true, true, true, true, true, true, true, true, true, true, true, true, false, false, false, false, false, false] rfl rfl (any_of HT_.out (by kernel_rfl)) (fun _ _ _ h => h) (Or.inl ⟨by rfl, ?_⟩) ?_ ?_
  rotate_left
  · intro w'
    go_simp
    with_reducible rfl
  rotate_left
  · simp only [Act.put, List.setIfInBounds_toArray, List.set_cons_zero, List.set_cons_succ, i64_w, i32_w]
    rfl
  refine one_ (i := 15) (N := some 239) #[true, true, true, true, true, true, true, true, true, true, true, true, true, true, true, true, false, false, false, false, false] rfl rfl (one_of HT_.out (by kernel_rfl)) (by decide) (fun K hK => ?_)
  refine goes_ Tryd.func9 (by kernel_rfl) rfl #[.string (((((s0 ++ tp) ++ s1) ++ tq) ++ s2) ++ (⟨#[60, 49]⟩ : ByteArray))] (by rfl) rfl rfl (by simp only [List.map_toArray, List.map_cons, List.map_nil]; rfl) ?_
  with_reducible refine (guard_Parse.calls k (((((s0 ++ tp) ++ s1) ++ tq) ++ s2) ++ (⟨#[60, 49]⟩ : ByteArray)) o1 0 _ (HTB.out.below B10.out) U1.out).mono ?_
  rintro e11 x11 ⟨v11, rfl, hr, hb⟩
  refine ⟨_, rfl, ?_⟩
  have c0 := (hb.cell (World.block_lt_of_cell? _ _ hHeld.1)).trans hHeld.1
  have c1 := (hb.cell (World.block_lt_of_cell? _ _ hHeld.2.1)).trans hHeld.2.1
  have c2 := (hb.cell (World.block_lt_of_cell? _ _ hHeld.2.2)).trans hHeld.2.2
  have B11 := Aside0.mk (B10.out.trans (hb.mono B10.out.size))
  obtain ⟨A11, z11, rfl, hlc, hC⟩ := Kd.R_reads hr
  have C11 := Aside0.mk hC
  have L11 := Aside0.mk hlc
  have X11 := Aside0.mk ((hb.block _ (blk_lt X10.out)).trans X10.out)
  clear hb hr hlc hC
  refine hK.out _ _ ⟨c0, c1, c2⟩ (fun hHeld => ?_)
  clear hK K
  refine norm_ (a' := ?_) ?_ ?_
  rotate_left
  · show Act.put _ (some 239) _ = _
    simp only [Act.put, List.setIfInBounds_toArray, List.set_cons_zero, List.set_cons_succ, i64_w, i32_w]
    rfl
  refine pure_ (i := 16) (N := some 223) (v := ?_) (a' := ?_) #[true, true, true, true, true, true, true, true, true, true, true, true, true, true, true, true, true, false, false, false, false] rfl rfl (any_of HT_.out (by kernel_rfl)) (fun _ _ _ h => h) (Or.inl ⟨by rfl, ?_⟩) ?_ ?_
  rotate_left
  · intro w'
    go_simp
    with_reducible rfl
  rotate_left
  · simp only [Act.put, List.setIfInBounds_toArray, List.set_cons_zero, List.set_cons_succ, i64_w, i32_w]
    rfl
  refine pure_ (i := 17) (N := some 240) (v := ?_) (a' := ?_) #[true, true, true, true, true, true, true, true, true, true, true, true, true, true, true, true, true, true, false, false, false] rfl rfl (any_of HT_.out (by kernel_rfl)) (fun _ _ _ h => h) (Or.inl ⟨by rfl, ?_⟩) ?_ ?_
  rotate_left
  · intro w'
    go_simp
    with_reducible rfl
  rotate_left
  · simp only [Act.put, List.setIfInBounds_toArray, List.set_cons_zero, List.set_cons_succ, i64_w, i32_w]
    rfl
  refine pure_ (i := 18) (N := some 241) (v := ?_) (a' := ?_) #[true, true, true, true, true, true, true, true, true, true, true, true, true, true, true, true, true, true, true, false, false] rfl rfl (any_of HT_.out (by kernel_rfl)) (fun _ _ _ h => h) (Or.inl ⟨by rfl, ?_⟩) ?_ ?_
  rotate_left
  · intro w'
    go_simp
    with_reducible rfl
  rotate_left
  · simp only [Act.put, List.setIfInBounds_toArray, List.set_cons_zero, List.set_cons_succ, i64_w, i32_w]
    rfl
  refine pure_ (i := 19) (N := some 17) (v := ?_) (a' := ?_) #[true, true, true, true, true, true, true, true, true, true, true, true, true, true, true, true, true, true, true, true, false] rfl rfl (any_of HT_.out (by kernel_rfl)) (fun _ _ _ h => h) (Or.inl ⟨by rfl, ?_⟩) ?_ ?_
  rotate_left
  · intro w'
    go_simp
    with_reducible rfl
  rotate_left
  · simp only [Act.put, List.setIfInBounds_toArray, List.set_cons_zero, List.set_cons_succ, i64_w, i32_w]
    rfl
  refine pure_ (i := 20) (N := some 18) (v := ?_) (a' := ?_) #[true, true, true, true, true, true, true, true, true, true, true, true, true, true, true, true, true, true, true, true, true] rfl rfl (any_of HT_.out (by kernel_rfl)) (fun _ _ _ h => h) (Or.inl ⟨by rfl, ?_⟩) ?_ ?_
  rotate_left
  · intro w'
    go_simp
    with_reducible rfl
  rotate_left
  · simp only [Act.put, List.setIfInBounds_toArray, List.set_cons_zero, List.set_cons_succ, i64_w, i32_w]
    rfl
  refine done_ (done_of HT_.out (by kernel_rfl)) ?_
  have g0 := blk_cell X11.out 0
  have g1 := blk_cell X11.out 1
  have g2 := blk_cell X11.out 2
  have CCd := Aside0.mk (Kd.C_below C11.out (Below.refl _ _).drew)
  have BBd := Aside0.mk (B11.out.trans ((Below.refl _ _).drew.mono B11.out.size))
  go_wp2
  refine start_ (n := 22) (S := fun w' => w'.cell? ⟨w.heap.size + 1, 0, none⟩ = some (.string s0) ∧ w'.cell? ⟨w.heap.size + 1, 1, none⟩ = some (.string s1) ∧ w'.cell? ⟨w.heap.size + 1, 2, none⟩ = some (.string s2)) (ds := []) #[false, false, false, false, false, false, false, false, false, false, false, false, false, false, false, false, false, false, false, false, false, false] (by kernel_rfl) rfl rfl ⟨g0, g1, g2⟩ (fun hHeld => ?_)
  refine with_tabW left.tab20 left.bits20 (fun HT_ HW_ => ?_)
  refine pure_ (i := 0) (N := some 243) (v := ?_) (a' := ?_) #[true, false, false, false, false, false, false, false, false, false, false, false, false, false, false, false, false, false, false, false, false, false] rfl rfl (any_of HT_.out (by kernel_rfl)) (fun _ _ _ h => h) (Or.inl ⟨by rfl, ?_⟩) ?_ ?_
  rotate_left
  · intro w'
    go_simp
    with_reducible rfl
  rotate_left
  · simp only [Act.put, List.setIfInBounds_toArray, List.set_cons_zero, List.set_cons_succ, i64_w, i32_w]
    rfl
  refine pure_ (i := 2) (N := some 245) (v := ?_) (a' := ?_) #[true, false, true, false, false, false, false, false, false, false, false, false, false, false, false, false, false, false, false, false, false, false] rfl rfl (any_of HT_.out (by kernel_rfl)) (fun _ _ _ h => h) (Or.inl ⟨by rfl, ?_⟩) ?_ ?_
  rotate_left
  · intro w'
    go_simp
    with_reducible rfl
  rotate_left
  · simp only [Act.put, List.setIfInBounds_toArray, List.set_cons_zero, List.set_cons_succ, i64_w, i32_w]
    rfl
  refine pure_ (i := 6) (N := some 249) (v := ?_) (a' := ?_) #[true, false, true, false, false, false, true, false, false, false, false, false, false, false, false, false, false, false, false, false, false, false] rfl rfl (any_of HT_.out (by kernel_rfl)) (fun _ _ _ h => h) (Or.inl ⟨by rfl, ?_⟩) ?_ ?_
  rotate_left
  · intro w'
    go_simp
    with_reducible rfl
  rotate_left
  · simp only [Act.put, List.setIfInBounds_toArray, List.set_cons_zero, List.set_cons_succ, i64_w, i32_w]
    rfl
  refine pure_ (i := 9) (N := some 252) (v := ?_) (a' := ?_) #[true, false, true, false, false, false, true, false, false, true, false, false, false, false, false, false, false, false, false, false, false, false] rfl rfl (any_of HT_.out (by kernel_rfl)) (fun _ _ _ h => h) (Or.inl ⟨by rfl, ?_⟩) ?_ ?_
  rotate_left
  · intro w'
    go_simp
    with_reducible rfl
  rotate_left
  · simp only [Act.put, List.setIfInBounds_toArray, List.set_cons_zero, List.set_cons_succ, i64_w, i32_w]
    rfl
  refine pure_ (i := 12) (N := some 255) (v := ?_) (a' := ?_) #[true, false, true, false, false, false, true, false, false, true, false, false, true, false, false, false, false, false, false, false, false, false] rfl rfl (any_of HT_.out (by kernel_rfl)) (fun _ _ _ h => h) (Or.inl ⟨by rfl, ?_⟩) ?_ ?_
  rotate_left
  · intro w'
    go_simp
    with_reducible rfl
  rotate_left
  · simp only [Act.put, List.setIfInBounds_toArray, List.set_cons_zero, List.set_cons_succ, i64_w, i32_w]
    rfl
  refine take_ (i := 1) (N := some 244) (v := ?_) (a' := ?_) #[true, true, true, false, false, false, true, false, false, true, false, false, true, false, false, false, false, false, false, false, false, false] rfl rfl (take_ofW HT_.out HW_.out (by kernel_rfl)) (fun _ _ _ h => h) (Or.inl ⟨by rfl, ?_⟩) hHeld ?_ ?_
  rotate_left
  · rintro w' ⟨s0, s1, s2⟩
    go_simp
    with_reducible rfl
  rotate_left
  · simp only [Act.put, List.setIfInBounds_toArray, List.set_cons_zero, List.set_cons_succ, i64_w, i32_w]
    rfl
  refine take_ (i := 7) (N := some 250) (v := ?_) (a' := ?_) #[true, true, true, false, false, false, true, true, false, true, false, false, true, false, false, false, false, false, false, false, false, false] rfl rfl (take_ofW HT_.out HW_.out (by kernel_rfl)) (fun _ _ _ h => h) (Or.inl ⟨by rfl, ?_⟩) hHeld ?_ ?_
  rotate_left
  · rintro w' ⟨s0, s1, s2⟩
    go_simp
    with_reducible rfl
  rotate_left
  · simp only [Act.put, List.setIfInBounds_toArray, List.set_cons_zero, List.set_cons_succ, i64_w, i32_w]
    rfl
  refine take_ (i := 13) (N := some 256) (v := ?_) (a' := ?_) #[true, true, true, false, false, false, true, true, false, true, false, false, true, true, false, false, false, false, false, false, false, false] rfl rfl (take_ofW HT_.out HW_.out (by kernel_rfl)) (fun _ _ _ h => h) (Or.inl ⟨by rfl, ?_⟩) hHeld ?_ ?_
  rotate_left
  · rintro w' ⟨s0, s1, s2⟩
    go_simp
    with_reducible rfl
  rotate_left
  · simp only [Act.put, List.setIfInBounds_toArray, List.set_cons_zero, List.set_cons_succ, i64_w, i32_w]
    rfl
  refine one_ (i := 3) (N := some 246) #[true, true, true, true, false, false, true, true, false, true, false, false, true, true, false, false, false, false, false, false, false, false] rfl rfl (one_of HT_.out (by kernel_rfl)) (by decide) (fun K hK => ?_)
  refine goes_ Tryd.func14 (by kernel_rfl) rfl #[.int .i64 p] (by rfl) rfl rfl (by simp only [List.map_toArray, List.map_cons, List.map_nil]; rfl) ?_
  with_reducible refine (remontoirlaw14_text.calls 60 p tp _ HP.out).mono ?_
  rintro e12 x12 ⟨rfl, hb⟩
  refine ⟨_, rfl, ?_⟩
  have c0 := (hb.cell (World.block_lt_of_cell? _ _ hHeld.1)).trans hHeld.1
  have c1 := (hb.cell (World.block_lt_of_cell? _ _ hHeld.2.1)).trans hHeld.2.1
  have c2 := (hb.cell (World.block_lt_of_cell? _ _ hHeld.2.2)).trans hHeld.2.2
  have B12 := Aside0.mk (BBd.out.trans (hb.mono BBd.out.size))
  have X12 := Aside0.mk ((hb.block _ (blk_lt X11.out)).trans X11.out)
  have CC12 := Aside0.mk (Kd.C_below CCd.out hb)
  clear hb
  refine hK.out _ _ ⟨c0, c1, c2⟩ (fun hHeld => ?_)
  clear hK K
  refine norm_ (a' := ?_) ?_ ?_
  rotate_left
  · show Act.put _ (some 246) _ = _
    simp only [Act.put, List.setIfInBounds_toArray, List.set_cons_zero, List.set_cons_succ, i64_w, i32_w]
    rfl
  refine pure_ (i := 4) (N := some 247) (v := ?_) (a' := ?_) #[true, true, true, true, true, false, true, true, false, true, false, false, true, true, false, false, false, false, false, false, false, false] rfl rfl (any_of HT_.out (by kernel_rfl)) (fun _ _ _ h => h) (Or.inl ⟨by rfl, ?_⟩) ?_ ?_
  rotate_left
  · intro w'
    go_simp
    with_reducible rfl
  rotate_left
  · simp only [Act.put, List.setIfInBounds_toArray, List.set_cons_zero, List.set_cons_succ, i64_w, i32_w]
    rfl
  refine pure_ (i := 5) (N := some 248) (v := ?_) (a' := ?_) #[true, true, true, true, true, true, true, true, false, true, false, false, true, true, false, false, false, false, false, false, false, false] rfl rfl (any_of HT_.out (by kernel_rfl)) (fun _ _ _ h => h) (Or.inl ⟨by rfl, ?_⟩) ?_ ?_
  rotate_left
  · intro w'
    go_simp
    with_reducible rfl
  rotate_left
  · simp only [Act.put, List.setIfInBounds_toArray, List.set_cons_zero, List.set_cons_succ, i64_w, i32_w]
    rfl
  refine pure_ (i := 8) (N := some 251) (v := ?_) (a' := ?_) #[true, true, true, true, true, true, true, true, true, true, false, false, true, true, false, false, false, false, false, false, false, false] rfl rfl (any_of HT_.out (by kernel_rfl)) (fun _ _ _ h => h) (Or.inl ⟨by rfl, ?_⟩) ?_ ?_
  rotate_left
  · intro w'
    go_simp
    with_reducible rfl
  rotate_left
  · simp only [Act.put, List.setIfInBounds_toArray, List.set_cons_zero, List.set_cons_succ, i64_w, i32_w]
    rfl
  refine one_ (i := 10) (N := some 253) #[true, true, true, true, true, true, true, true, true, true, true, false, true, true, false, false, false, false, false, false, false, false] rfl rfl (one_of HT_.out (by kernel_rfl)) (by decide) (fun K hK => ?_)
  refine goes_ Tryd.func14 (by kernel_rfl) rfl #[.int .i64 q] (by rfl) rfl rfl (by simp only [List.map_toArray, List.map_cons, List.map_nil]; rfl) ?_
  with_reducible refine (remontoirlaw14_text.calls 60 q tq _ HQ.out).mono ?_
  rintro e13 x13 ⟨rfl, hb⟩
  refine ⟨_, rfl, ?_⟩
  have c0 := (hb.cell (World.block_lt_of_cell? _ _ hHeld.1)).trans hHeld.1
  have c1 := (hb.cell (World.block_lt_of_cell? _ _ hHeld.2.1)).trans hHeld.2.1
  have c2 := (hb.cell (World.block_lt_of_cell? _ _ hHeld.2.2)).trans hHeld.2.2
  have B13 := Aside0.mk (B12.out.trans (hb.mono B12.out.size))
  have X13 := Aside0.mk ((hb.block _ (blk_lt X12.out)).trans X12.out)
  have CC13 := Aside0.mk (Kd.C_below CC12.out hb)
  clear hb
  refine hK.out _ _ ⟨c0, c1, c2⟩ (fun hHeld => ?_)
  clear hK K
  refine norm_ (a' := ?_) ?_ ?_
  rotate_left
  · show Act.put _ (some 253) _ = _
    simp only [Act.put, List.setIfInBounds_toArray, List.set_cons_zero, List.set_cons_succ, i64_w, i32_w]
    rfl
  refine pure_ (i := 11) (N := some 254) (v := ?_) (a' := ?_) #[true, true, true, true, true, true, true, true, true, true, true, true, true, true, false, false, false, false, false, false, false, false] rfl rfl (any_of HT_.out (by kernel_rfl)) (fun _ _ _ h => h) (Or.inl ⟨by rfl, ?_⟩) ?_ ?_
  rotate_left
  · intro w'
    go_simp
    with_reducible rfl
  rotate_left
  · simp only [Act.put, List.setIfInBounds_toArray, List.set_cons_zero, List.set_cons_succ, i64_w, i32_w]
    rfl
  refine pure_ (i := 14) (N := some 257) (v := ?_) (a' := ?_) #[true, true, true, true, true, true, true, true, true, true, true, true, true, true, true, false, false, false, false, false, false, false] rfl rfl (any_of HT_.out (by kernel_rfl)) (fun _ _ _ h => h) (Or.inl ⟨by rfl, ?_⟩) ?_ ?_
  rotate_left
  · intro w'
    go_simp
    with_reducible rfl
  rotate_left
  · simp only [Act.put, List.setIfInBounds_toArray, List.set_cons_zero, List.set_cons_succ, i64_w, i32_w]
    rfl
  refine pure_ (i := 15) (N := some 258) (v := ?_) (a' := ?_) #[true, true, true, true, true, true, true, true, true, true, true, true, true, true, true, true, false, false, false, false, false, false] rfl rfl (any_of HT_.out (by kernel_rfl)) (fun _ _ _ h => h) (Or.inl ⟨by rfl, ?_⟩) ?_ ?_
  rotate_left
  · intro w'
    go_simp
    with_reducible rfl
  rotate_left
  · simp only [Act.put, List.setIfInBounds_toArray, List.set_cons_zero, List.set_cons_succ, i64_w, i32_w]
    rfl
  refine one_ (i := 16) (N := some 259) #[true, true, true, true, true, true, true, true, true, true, true, true, true, true, true, true, true, false, false, false, false, false] rfl rfl (one_of HT_.out (by kernel_rfl)) (by decide) (fun K hK => ?_)
  refine goes_ Tryd.func9 (by kernel_rfl) rfl #[.string ((((((s0 ++ tp) ++ (⟨#[91]⟩ : ByteArray)) ++ s1) ++ tq) ++ s2) ++ (⟨#[93, 60, 49]⟩ : ByteArray))] (by rfl) rfl rfl (by simp only [List.map_toArray, List.map_cons, List.map_nil]; rfl) ?_
  with_reducible refine (guard_Parse.calls k ((((((s0 ++ tp) ++ (⟨#[91]⟩ : ByteArray)) ++ s1) ++ tq) ++ s2) ++ (⟨#[93, 60, 49]⟩ : ByteArray)) o7 0 _ (HTB.out.below B13.out) V7.out).mono ?_
  rintro e14 x14 ⟨v14, rfl, hr, hb⟩
  refine ⟨_, rfl, ?_⟩
  have c0 := (hb.cell (World.block_lt_of_cell? _ _ hHeld.1)).trans hHeld.1
  have c1 := (hb.cell (World.block_lt_of_cell? _ _ hHeld.2.1)).trans hHeld.2.1
  have c2 := (hb.cell (World.block_lt_of_cell? _ _ hHeld.2.2)).trans hHeld.2.2
  have B14 := Aside0.mk (B13.out.trans (hb.mono B13.out.size))
  obtain ⟨A14, z14, rfl, hlc, hC⟩ := Kd.R_reads hr
  have C14 := Aside0.mk hC
  have L14 := Aside0.mk hlc
  have X14 := Aside0.mk ((hb.block _ (blk_lt X13.out)).trans X13.out)
  have CC14 := Aside0.mk (Kd.C_below CC13.out hb)
  clear hb hr hlc hC
  refine hK.out _ _ ⟨c0, c1, c2⟩ (fun hHeld => ?_)
  clear hK K
  refine norm_ (a' := ?_) ?_ ?_
  rotate_left
  · show Act.put _ (some 259) _ = _
    simp only [Act.put, List.setIfInBounds_toArray, List.set_cons_zero, List.set_cons_succ, i64_w, i32_w]
    rfl
  refine pure_ (i := 17) (N := some 242) (v := ?_) (a' := ?_) #[true, true, true, true, true, true, true, true, true, true, true, true, true, true, true, true, true, true, false, false, false, false] rfl rfl (any_of HT_.out (by kernel_rfl)) (fun _ _ _ h => h) (Or.inl ⟨by rfl, ?_⟩) ?_ ?_
  rotate_left
  · intro w'
    go_simp
    with_reducible rfl
  rotate_left
  · simp only [Act.put, List.setIfInBounds_toArray, List.set_cons_zero, List.set_cons_succ, i64_w, i32_w]
    rfl
  refine pure_ (i := 18) (N := some 260) (v := ?_) (a' := ?_) #[true, true, true, true, true, true, true, true, true, true, true, true, true, true, true, true, true, true, true, false, false, false] rfl rfl (any_of HT_.out (by kernel_rfl)) (fun _ _ _ h => h) (Or.inl ⟨by rfl, ?_⟩) ?_ ?_
  rotate_left
  · intro w'
    go_simp
    with_reducible rfl
  rotate_left
  · simp only [Act.put, List.setIfInBounds_toArray, List.set_cons_zero, List.set_cons_succ, i64_w, i32_w]
    rfl
  refine pure_ (i := 19) (N := some 261) (v := ?_) (a' := ?_) #[true, true, true, true, true, true, true, true, true, true, true, true, true, true, true, true, true, true, true, true, false, false] rfl rfl (any_of HT_.out (by kernel_rfl)) (fun _ _ _ h => h) (Or.inl ⟨by rfl, ?_⟩) ?_ ?_
  rotate_left
  · intro w'
    go_simp
    with_reducible rfl
  rotate_left
  · simp only [Act.put, List.setIfInBounds_toArray, List.set_cons_zero, List.set_cons_succ, i64_w, i32_w]
    rfl
  refine pure_ (i := 20) (N := some 19) (v := ?_) (a' := ?_) #[true, true, true, true, true, true, true, true, true, true, true, true, true, true, true, true, true, true, true, true, true, false] rfl rfl (any_of HT_.out (by kernel_rfl)) (fun _ _ _ h => h) (Or.inl ⟨by rfl, ?_⟩) ?_ ?_
  rotate_left
  · intro w'
    go_simp
    with_reducible rfl
  rotate_left
  · simp only [Act.put, List.setIfInBounds_toArray, List.set_cons_zero, List.set_cons_succ, i64_w, i32_w]
    rfl
  refine pure_ (i := 21) (N := some 20) (v := ?_) (a' := ?_) #[true, true, true, true, true, true, true, true, true, true, true, true, true, true, true, true, true, true, true, true, true, true] rfl rfl (any_of HT_.out (by kernel_rfl)) (fun _ _ _ h => h) (Or.inl ⟨by rfl, ?_⟩) ?_ ?_
  rotate_left
  · intro w'
    go_simp
    with_reducible rfl
  rotate_left
  · simp only [Act.put, List.setIfInBounds_toArray, List.set_cons_zero, List.set_cons_succ, i64_w, i32_w]
    rfl
  refine done_ (done_of HT_.out (by kernel_rfl)) ?_
  go_wp2_with (first
    | (go_at_call 10; refine (remontoirkeep_Signs.calls k _ _ o1 _ _ o7 false _ CC14.out L11.out C14.out L14.out E7.out).mono ?_; rintro e yz ⟨rfl, hd⟩; have BZ := Aside0.mk (B14.out.trans (hd.below.mono B14.out.size)); clear hd)
    | (go_at_call 7; refine (remontoirlaw14_wakes.calls k true _ (HTB.out.below BZ.out) HW.out).mono ?_; rintro e yw ⟨rfl, hb⟩; have BW := Aside0.mk (BZ.out.trans (hb.mono BZ.out.size)); clear hb))
  go_ret
  exact ⟨rfl, BW.out⟩
end Go.Proofs.YtikbgoppmailjaaDoor.H
