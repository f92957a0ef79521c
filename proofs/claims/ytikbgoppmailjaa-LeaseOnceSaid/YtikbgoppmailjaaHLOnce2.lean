import Derived.Test.YtikbgoppmailjaaHLOnce
import Derived.LoopN
/- LeaseOnce: a job has one lease at most; its number finds it, and it the number; dropped, neither does, and the next one has another number. -/
namespace Go.Proofs.Ytikbgoppmailjaa.H
open Go.RowKit Go.HK Go.Maps Go.WideShapes Go.ChangeShapes Go.Proofs.YtikbgoppmailjaaW.PrintWords Go.Proofs.YtikbgoppmailjaaW.PrintLast Go.Proofs.YtikbgoppmailjaaW.PrintMore
set_option linter.unusedVariables false
set_option linter.unusedSimpArgs false
def OnceInv (n u : Int) (D1 D2 : DataW Unit) : Prop := ∀ j : Int, (Lit.int .i64 j).wf = true → has D2 (kk j) = true → ∃ c : Int, 1 ≤ c ∧ c ≤ n ∧ D2.atKey (kk j) (.lit (.int .i64 0)) = .lit (.int .i64 c) ∧ has D1 (kk c) = true ∧ D1.atKey (kk c) (gd 0 0 0) = gd c j u
theorem kk_ne {a b : Int} (h : a ≠ b) : kk a ≠ kk b := fun e => by injection e with _ e; exact h e
theorem inv_del {n u j c : Int} {D1 D2 : DataW Unit} (I : OnceInv n u D1 D2) (h1 : D1.atKey (kk c) (gd 0 0 0) = gd c j u) : OnceInv n u (D1.del (kk c)) (D2.del (kk j)) := by
  intro j' hj' hh
  by_cases e : j' = j
  · subst e; rw [has_del_same] at hh; cases hh
  · rw [has_del_other (kk_ne e)] at hh
    obtain ⟨c', a1, a2, a3, a4, a5⟩ := I j' hj' hh
    have hc : c' ≠ c := by
      rintro rfl
      exact e (gd_inj (a5.symm.trans h1)).2.1
    exact ⟨c', a1, a2, by rw [atKey_del_other (kk_ne e)]; exact a3, by rw [has_del_other (kk_ne hc)]; exact a4, by rw [atKey_del_other (kk_ne hc)]; exact a5⟩
theorem inv_put {n u j : Int} {D1 D2 : DataW Unit} (I : OnceInv n u D1 D2) (h0 : 0 ≤ n) (m1 : IsMap D1) (m2 : IsMap D2) (k1 : WideAt.IsKeyLit (kk (n + 1))) (k2 : WideAt.IsKeyLit (kk j)) : OnceInv (n + 1) u (D1.put (kk (n + 1)) (gd (n + 1) j u)) (D2.put (kk j) (.lit (.int .i64 (n + 1)))) := by
  intro j' hj' hh
  by_cases e : j' = j
  · subst e
    exact ⟨n + 1, by omega, by omega, atKey_put_same m2 k2 _ _, has_put_same m1 k1 _, atKey_put_same m1 k1 _ _⟩
  · rw [has_put_other (kk_ne e)] at hh
    obtain ⟨c', a1, a2, a3, a4, a5⟩ := I j' hj' hh
    have hc : c' ≠ n + 1 := by omega
    exact ⟨c', a1, by omega, by rw [atKey_put_other (kk_ne e)]; exact a3, by rw [has_put_other (kk_ne hc)]; exact a4, by rw [atKey_put_other (kk_ne hc)]; exact a5⟩
theorem inv_none (u : Int) : OnceInv 0 u (DataW.map []) (DataW.map []) := fun j _ h => by rw [has_empty] at h; cases h
set_option maxRecDepth 100000 in
set_option maxHeartbeats 8000000 in
theorem once_exit {w : World} {a : Addr} {len cap p : Nat} {n u : Int} {K : Act → World → Prop} {R : Ending → World → Prop} {N q : Nat} {r0 c1 r3 c4 r6 r7 body rt : Code} {x2 x3 x8 x9 x10 x11 x12 x13 x14 x15 x16 x17 x18 x19 x20 x21 x22 x23 x24 x25 x26 x27 x28 x29 x30 x31 x32 x33 x34 x35 x36 x37 x38 x39 x40 x41 x42 x43 x44 x45 x46 x47 x48 x49 x50 x51 x52 x53 x54 x55 x56 x57 x58 x59 x60 x61 x62 x63 x64 x65 x66 x67 x68 x69 x70 x71 x72 x73 x74 x75 x76 x77 x78 x79 x80 x81 x82 x83 x84 x85 x86 x87 x88 x89 x90 x91 x92 x93 x94 x95 x96 x97 x98 x99 x100 x101 x102 x103 x104 x105 x106 x107 x108 x109 x110 x111 x112 x113 x114 x115 x116 x117 x118 x119 x120 x121 x122 x123 x124 x125 x126 x127 x128 x129 x130 x131 x132 x133 x134 x135 x136 x137 x138 x139 x140 x141 x142 : Value} (hB : Try.f5.body = some (.seq r0 (.seq c1 (.seq r3 (.seq c4 (.seq r6 (.seq (.seq r7 (.block q (.loop body))) rt))))))) (hl : len ≤ 40)
    (cont : ∀ (y8 y9 y10 y11 y12 y13 y14 y15 y16 y17 y18 y19 y20 y21 y22 y23 y24 y25 y26 y27 y28 y29 y30 y31 y32 y33 y34 y35 y36 y37 y38 y39 y40 y41 y42 y43 y44 y45 y46 y47 y48 y49 y50 y51 y52 y53 y54 y55 y56 y57 y58 y59 y60 y61 y62 y63 y64 y65 y66 y67 y68 y69 y70 y71 y72 y73 y74 y75 y76 y77 y78 y79 y80 y81 y82 y83 y84 y85 y86 y87 y88 y89 y90 y91 y92 y93 y94 y95 y96 y97 y98 y99 y100 y101 y102 y103 y104 y105 y106 y107 y108 y109 y110 y111 y112 y113 y114 y115 y116 y117 y118 y119 y120 y121 y122 y123 y124 y125 y126 y127 y128 y129 y130 y131 y132 y133 y134 y135 y136 y137 y138 y139 y140 y141 y142 : Value), K ⟨#[.slice (some a) len cap, .int .u64 u, x2, x3, .bool false, .pointer (some ⟨p, 0, none⟩), .int .i64 n, .int .i64 len, y8, y9, y10, y11, y12, y13, y14, y15, y16, y17, y18, y19, y20, y21, y22, y23, y24, y25, y26, y27, y28, y29, y30, y31, y32, y33, y34, y35, y36, y37, y38, y39, y40, y41, y42, y43, y44, y45, y46, y47, y48, y49, y50, y51, y52, y53, y54, y55, y56, y57, y58, y59, y60, y61, y62, y63, y64, y65, y66, y67, y68, y69, y70, y71, y72, y73, y74, y75, y76, y77, y78, y79, y80, y81, y82, y83, y84, y85, y86, y87, y88, y89, y90, y91, y92, y93, y94, y95, y96, y97, y98, y99, y100, y101, y102, y103, y104, y105, y106, y107, y108, y109, y110, y111, y112, y113, y114, y115, y116, y117, y118, y119, y120, y121, y122, y123, y124, y125, y126, y127, y128, y129, y130, y131, y132, y133, y134, y135, y136, y137, y138, y139, y140, y141, y142], []⟩ w) : Code.rounds Try.prog body (Exit.inBlock 0 (Exit.then K (bodyPost Try.prog Try.f5 R))) (N + 1) ⟨#[.slice (some a) len cap, .int .u64 u, x2, x3, .bool false, .pointer (some ⟨p, 0, none⟩), .int .i64 n, .int .i64 len, x8, x9, x10, x11, x12, x13, x14, x15, x16, x17, x18, x19, x20, x21, x22, x23, x24, x25, x26, x27, x28, x29, x30, x31, x32, x33, x34, x35, x36, x37, x38, x39, x40, x41, x42, x43, x44, x45, x46, x47, x48, x49, x50, x51, x52, x53, x54, x55, x56, x57, x58, x59, x60, x61, x62, x63, x64, x65, x66, x67, x68, x69, x70, x71, x72, x73, x74, x75, x76, x77, x78, x79, x80, x81, x82, x83, x84, x85, x86, x87, x88, x89, x90, x91, x92, x93, x94, x95, x96, x97, x98, x99, x100, x101, x102, x103, x104, x105, x106, x107, x108, x109, x110, x111, x112, x113, x114, x115, x116, x117, x118, x119, x120, x121, x122, x123, x124, x125, x126, x127, x128, x129, x130, x131, x132, x133, x134, x135, x136, x137, x138, x139, x140, x141, x142], []⟩ w := by
  have hbody := once_body rfl hB
  clear hB
  subst hbody
  have hcont := Aside0.mk cont
  clear cont
  rw [rounds_succ]
  go_wp2
  exact hcont.out _ _ _ _ _ _ _ _ _ _ _ _ _ _ _ _ _ _ _ _ _ _ _ _ _ _ _ _ _ _ _ _ _ _ _ _ _ _ _ _ _ _ _ _ _ _ _ _ _ _ _ _ _ _ _ _ _ _ _ _ _ _ _ _ _ _ _ _ _ _ _ _ _ _ _ _ _ _ _ _ _ _ _ _ _ _ _ _ _ _ _ _ _ _ _ _ _ _ _ _ _ _ _ _ _ _ _ _ _ _ _ _ _ _ _ _ _ _ _ _ _ _ _ _ _ _ _ _ _ _ _ _ _ _ _
set_option maxRecDepth 100000 in
set_option maxHeartbeats 8000000 in
theorem once_loop {w0 : World} {a : Addr} {len cap p b1 b2 : Nat} {u : Int} {K : Act → World → Prop} {R : Ending → World → Prop} {q : Nat} {r0 c1 r3 c4 r6 r7 body rt : Code} {x2 x3 : Value} (hB : Try.f5.body = some (.seq r0 (.seq c1 (.seq r3 (.seq c4 (.seq r6 (.seq (.seq r7 (.block q (.loop body))) rt))))))) (HP : w0.heap.size ≤ p ∧ w0.heap.size ≤ b1 ∧ w0.heap.size ≤ b2) (hl : len ≤ 40) (hz : ∀ i, i < len → ∃ j, w0.cell? (a.add i) = some (.int .i64 j) ∧ (Lit.int .i64 j).wf = true)
    (hK : ∀ (w' : World) (n : Int) (y8 y9 y10 y11 y12 y13 y14 y15 y16 y17 y18 y19 y20 y21 y22 y23 y24 y25 y26 y27 y28 y29 y30 y31 y32 y33 y34 y35 y36 y37 y38 y39 y40 y41 y42 y43 y44 y45 y46 y47 y48 y49 y50 y51 y52 y53 y54 y55 y56 y57 y58 y59 y60 y61 y62 y63 y64 y65 y66 y67 y68 y69 y70 y71 y72 y73 y74 y75 y76 y77 y78 y79 y80 y81 y82 y83 y84 y85 y86 y87 y88 y89 y90 y91 y92 y93 y94 y95 y96 y97 y98 y99 y100 y101 y102 y103 y104 y105 y106 y107 y108 y109 y110 y111 y112 y113 y114 y115 y116 y117 y118 y119 y120 y121 y122 y123 y124 y125 y126 y127 y128 y129 y130 y131 y132 y133 y134 y135 y136 y137 y138 y139 y140 y141 y142 : Value), Below w0.heap.size w0 w' → K ⟨#[.slice (some a) len cap, .int .u64 u, x2, x3, .bool false, .pointer (some ⟨p, 0, none⟩), .int .i64 n, .int .i64 len, y8, y9, y10, y11, y12, y13, y14, y15, y16, y17, y18, y19, y20, y21, y22, y23, y24, y25, y26, y27, y28, y29, y30, y31, y32, y33, y34, y35, y36, y37, y38, y39, y40, y41, y42, y43, y44, y45, y46, y47, y48, y49, y50, y51, y52, y53, y54, y55, y56, y57, y58, y59, y60, y61, y62, y63, y64, y65, y66, y67, y68, y69, y70, y71, y72, y73, y74, y75, y76, y77, y78, y79, y80, y81, y82, y83, y84, y85, y86, y87, y88, y89, y90, y91, y92, y93, y94, y95, y96, y97, y98, y99, y100, y101, y102, y103, y104, y105, y106, y107, y108, y109, y110, y111, y112, y113, y114, y115, y116, y117, y118, y119, y120, y121, y122, y123, y124, y125, y126, y127, y128, y129, y130, y131, y132, y133, y134, y135, y136, y137, y138, y139, y140, y141, y142], []⟩ w') :
    ∀ (d i m : Nat) (n : Int) (w : World) (D1 D2 : DataW Unit) {y8 y9 y10 y11 y12 y13 y14 y15 y16 y17 y18 y19 y20 y21 y22 y23 y24 y25 y26 y27 y28 y29 y30 y31 y32 y33 y34 y35 y36 y37 y38 y39 y40 y41 y42 y43 y44 y45 y46 y47 y48 y49 y50 y51 y52 y53 y54 y55 y56 y57 y58 y59 y60 y61 y62 y63 y64 y65 y66 y67 y68 y69 y70 y71 y72 y73 y74 y75 y76 y77 y78 y79 y80 y81 y82 y83 y84 y85 y86 y87 y88 y89 y90 y91 y92 y93 y94 y95 y96 y97 y98 y99 y100 y101 y102 y103 y104 y105 y106 y107 y108 y109 y110 y111 y112 y113 y114 y115 y116 y117 y118 y119 y120 y121 y122 y123 y124 y125 y126 y127 y128 y129 y130 y131 y132 y133 y134 y135 y136 y137 y138 y139 y140 y141 y142 : Value}, i + d = len → TabAt w p n b1 b2 m D1 D2 → Below w0.heap.size w0 w → m ≤ 2 * i → 0 ≤ n → n ≤ i → OnceInv n u D1 D2 → Code.rounds Try.prog body (Exit.inBlock 0 (Exit.then K (bodyPost Try.prog Try.f5 R))) (d + 1) ⟨#[.slice (some a) len cap, .int .u64 u, x2, x3, .bool false, .pointer (some ⟨p, 0, none⟩), .int .i64 n, .int .i64 i, y8, y9, y10, y11, y12, y13, y14, y15, y16, y17, y18, y19, y20, y21, y22, y23, y24, y25, y26, y27, y28, y29, y30, y31, y32, y33, y34, y35, y36, y37, y38, y39, y40, y41, y42, y43, y44, y45, y46, y47, y48, y49, y50, y51, y52, y53, y54, y55, y56, y57, y58, y59, y60, y61, y62, y63, y64, y65, y66, y67, y68, y69, y70, y71, y72, y73, y74, y75, y76, y77, y78, y79, y80, y81, y82, y83, y84, y85, y86, y87, y88, y89, y90, y91, y92, y93, y94, y95, y96, y97, y98, y99, y100, y101, y102, y103, y104, y105, y106, y107, y108, y109, y110, y111, y112, y113, y114, y115, y116, y117, y118, y119, y120, y121, y122, y123, y124, y125, y126, y127, y128, y129, y130, y131, y132, y133, y134, y135, y136, y137, y138, y139, y140, y141, y142], []⟩ w := by
  intro d
  induction d with
  | zero =>
    intro i m n w D1 D2 y8 y9 y10 y11 y12 y13 y14 y15 y16 y17 y18 y19 y20 y21 y22 y23 y24 y25 y26 y27 y28 y29 y30 y31 y32 y33 y34 y35 y36 y37 y38 y39 y40 y41 y42 y43 y44 y45 y46 y47 y48 y49 y50 y51 y52 y53 y54 y55 y56 y57 y58 y59 y60 y61 y62 y63 y64 y65 y66 y67 y68 y69 y70 y71 y72 y73 y74 y75 y76 y77 y78 y79 y80 y81 y82 y83 y84 y85 y86 y87 y88 y89 y90 y91 y92 y93 y94 y95 y96 y97 y98 y99 y100 y101 y102 y103 y104 y105 y106 y107 y108 y109 y110 y111 y112 y113 y114 y115 y116 y117 y118 y119 y120 y121 y122 y123 y124 y125 y126 y127 y128 y129 y130 y131 y132 y133 y134 y135 y136 y137 y138 y139 y140 y141 y142 hd HT HB hm h0 h1 I
    obtain rfl : i = len := by omega
    exact once_exit hB hl (fun y8 y9 y10 y11 y12 y13 y14 y15 y16 y17 y18 y19 y20 y21 y22 y23 y24 y25 y26 y27 y28 y29 y30 y31 y32 y33 y34 y35 y36 y37 y38 y39 y40 y41 y42 y43 y44 y45 y46 y47 y48 y49 y50 y51 y52 y53 y54 y55 y56 y57 y58 y59 y60 y61 y62 y63 y64 y65 y66 y67 y68 y69 y70 y71 y72 y73 y74 y75 y76 y77 y78 y79 y80 y81 y82 y83 y84 y85 y86 y87 y88 y89 y90 y91 y92 y93 y94 y95 y96 y97 y98 y99 y100 y101 y102 y103 y104 y105 y106 y107 y108 y109 y110 y111 y112 y113 y114 y115 y116 y117 y118 y119 y120 y121 y122 y123 y124 y125 y126 y127 y128 y129 y130 y131 y132 y133 y134 y135 y136 y137 y138 y139 y140 y141 y142 => hK w n y8 y9 y10 y11 y12 y13 y14 y15 y16 y17 y18 y19 y20 y21 y22 y23 y24 y25 y26 y27 y28 y29 y30 y31 y32 y33 y34 y35 y36 y37 y38 y39 y40 y41 y42 y43 y44 y45 y46 y47 y48 y49 y50 y51 y52 y53 y54 y55 y56 y57 y58 y59 y60 y61 y62 y63 y64 y65 y66 y67 y68 y69 y70 y71 y72 y73 y74 y75 y76 y77 y78 y79 y80 y81 y82 y83 y84 y85 y86 y87 y88 y89 y90 y91 y92 y93 y94 y95 y96 y97 y98 y99 y100 y101 y102 y103 y104 y105 y106 y107 y108 y109 y110 y111 y112 y113 y114 y115 y116 y117 y118 y119 y120 y121 y122 y123 y124 y125 y126 y127 y128 y129 y130 y131 y132 y133 y134 y135 y136 y137 y138 y139 y140 y141 y142 HB)
  | succ d ih =>
    intro i m n w D1 D2 y8 y9 y10 y11 y12 y13 y14 y15 y16 y17 y18 y19 y20 y21 y22 y23 y24 y25 y26 y27 y28 y29 y30 y31 y32 y33 y34 y35 y36 y37 y38 y39 y40 y41 y42 y43 y44 y45 y46 y47 y48 y49 y50 y51 y52 y53 y54 y55 y56 y57 y58 y59 y60 y61 y62 y63 y64 y65 y66 y67 y68 y69 y70 y71 y72 y73 y74 y75 y76 y77 y78 y79 y80 y81 y82 y83 y84 y85 y86 y87 y88 y89 y90 y91 y92 y93 y94 y95 y96 y97 y98 y99 y100 y101 y102 y103 y104 y105 y106 y107 y108 y109 y110 y111 y112 y113 y114 y115 y116 y117 y118 y119 y120 y121 y122 y123 y124 y125 y126 y127 y128 y129 y130 y131 y132 y133 y134 y135 y136 y137 y138 y139 y140 y141 y142 hd HT HB hm h0 h1 I
    have hi : i < len := by omega
    obtain ⟨j, hj, hw⟩ := hz i hi
    have HA : a.block < w0.heap.size := by
      have := World.block_lt_of_cell? w0 _ hj
      rwa [addr_block] at this
    cases hh : has D2 (kk j) with
    | true =>
      obtain ⟨c, a1, a2, a3, a4, a5⟩ := I j hw hh
      exact once_had hB ⟨HT⟩ ⟨HB⟩ ⟨HP⟩ ⟨HA⟩ hj ⟨hw⟩ hi hl hm h0 h1 ⟨hh⟩ ⟨a3⟩ ⟨a4⟩ ⟨a5⟩ (fun w' y8 y9 y10 y11 y12 y13 y14 y15 y16 y17 y18 y19 y20 y21 y22 y23 y24 y25 y26 y27 y28 y29 y30 y31 y32 y33 y34 y35 y36 y37 y38 y39 y40 y41 y42 y43 y44 y45 y46 y47 y48 y49 y50 y51 y52 y53 y54 y55 y56 y57 y58 y59 y60 y61 y62 y63 y64 y65 y66 y67 y68 y69 y70 y71 y72 y73 y74 y75 y76 y77 y78 y79 y80 y81 y82 y83 y84 y85 y86 y87 y88 y89 y90 y91 y92 y93 y94 y95 y96 y97 y98 y99 y100 y101 y102 y103 y104 y105 y106 y107 y108 y109 y110 y111 y112 y113 y114 y115 y116 y117 y118 y119 y120 y121 y122 y123 y124 y125 y126 y127 y128 y129 y130 y131 y132 y133 y134 y135 y136 y137 y138 y139 y140 y141 y142 T' B' => ih (i + 1) m n w' _ _ (by omega) T' B' (by omega) h0 (by omega) (inv_del I a5))
    | false =>
      have hn : (Lit.int .i64 (n + 1)).wf = true := WalkArith.wf_i64 (by omega)
      exact once_new hB ⟨HT⟩ ⟨HB⟩ ⟨HP⟩ ⟨HA⟩ hj ⟨hw⟩ hi hl hm h0 h1 ⟨hh⟩ (fun w' y8 y9 y10 y11 y12 y13 y14 y15 y16 y17 y18 y19 y20 y21 y22 y23 y24 y25 y26 y27 y28 y29 y30 y31 y32 y33 y34 y35 y36 y37 y38 y39 y40 y41 y42 y43 y44 y45 y46 y47 y48 y49 y50 y51 y52 y53 y54 y55 y56 y57 y58 y59 y60 y61 y62 y63 y64 y65 y66 y67 y68 y69 y70 y71 y72 y73 y74 y75 y76 y77 y78 y79 y80 y81 y82 y83 y84 y85 y86 y87 y88 y89 y90 y91 y92 y93 y94 y95 y96 y97 y98 y99 y100 y101 y102 y103 y104 y105 y106 y107 y108 y109 y110 y111 y112 y113 y114 y115 y116 y117 y118 y119 y120 y121 y122 y123 y124 y125 y126 y127 y128 y129 y130 y131 y132 y133 y134 y135 y136 y137 y138 y139 y140 y141 y142 T' B' => ih (i + 1) (m + 2) (n + 1) w' _ _ (by omega) T' B' (by omega) (by omega) (by omega) (inv_put I h0 HT.all.isMap HT.of.isMap (keyI.1 (keyOf_i hn)) (keyI.1 (keyOf_i hw))))
set_option maxRecDepth 100000 in
set_option maxHeartbeats 8000000 in
theorem once_some {w : World} {a : Addr} {len cap : Nat} {u : Int} (hz : ∀ i, i < len → ∃ j, w.cell? (a.add i) = some (.int .i64 j) ∧ (Lit.int .i64 j).wf = true) (hlen : len ≤ maxLen) : Calls Try.prog 5 #[.slice (some a) len cap, .int .u64 u] w fun e w' => e = .returned (.bool true) ∧ Below w.heap.size w w' := by
  have HZ := Aside0.mk hz
  clear hz
  unfold maxLen at hlen
  go_enter Try.func5, Try.ntmps5
  by_cases hl : len ≤ 40
  · go_wp2_with (go_at_call 8; refine (new_calls w).mono ?_; rintro e w1 ⟨rfl, hT, hb, hs⟩; have TT := Aside0.mk hT; have WW := Aside0.mk hb; clear hT hb hs)
    refine wp_loop_rounds (len + 1) ?_
    refine once_loop (u := u) (p := w.heap.size + 2) (b1 := w.heap.size) (b2 := w.heap.size + 1) (cap := cap) rfl ⟨by omega, by omega, by omega⟩ hl HZ.out ?_ len 0 0 0 w1 _ _ (by omega) TT.out WW.out (by omega) (by omega) (by omega) (inv_none u)
    intro w2 n y8 y9 y10 y11 y12 y13 y14 y15 y16 y17 y18 y19 y20 y21 y22 y23 y24 y25 y26 y27 y28 y29 y30 y31 y32 y33 y34 y35 y36 y37 y38 y39 y40 y41 y42 y43 y44 y45 y46 y47 y48 y49 y50 y51 y52 y53 y54 y55 y56 y57 y58 y59 y60 y61 y62 y63 y64 y65 y66 y67 y68 y69 y70 y71 y72 y73 y74 y75 y76 y77 y78 y79 y80 y81 y82 y83 y84 y85 y86 y87 y88 y89 y90 y91 y92 y93 y94 y95 y96 y97 y98 y99 y100 y101 y102 y103 y104 y105 y106 y107 y108 y109 y110 y111 y112 y113 y114 y115 y116 y117 y118 y119 y120 y121 y122 y123 y124 y125 y126 y127 y128 y129 y130 y131 y132 y133 y134 y135 y136 y137 y138 y139 y140 y141 y142 hb
    have WB := Aside0.mk hb
    clear hb
    go_wp2_with (go_at_call 13; refine (wakes_calls).mono ?_; rintro e z ⟨rfl, hb⟩; have WZ := Aside0.mk (WB.out.trans (hb.mono WB.out.size)); clear hb)
    go_ret
    exact ⟨rfl, WZ.out⟩
  · go_wp2_with (go_at_call 13; refine (wakes_calls).mono ?_; rintro e z ⟨rfl, hb⟩; have WZ := Aside0.mk hb; clear hb)
    go_ret
    exact ⟨rfl, WZ.out⟩
set_option maxRecDepth 100000 in
set_option maxHeartbeats 8000000 in
theorem once_none {w : World} {u : Int} : Calls Try.prog 5 #[.slice none 0 0, .int .u64 u] w fun e w' => e = .returned (.bool true) ∧ Below w.heap.size w w' := by
  go_enter Try.func5, Try.ntmps5
  go_wp2_with (go_at_call 8; refine (new_calls w).mono ?_; rintro e w1 ⟨rfl, hT, hb, hs⟩; have WW := Aside0.mk hb; clear hT hb hs)
  refine wp_loop_rounds 1 ?_
  rw [rounds_succ]
  go_wp2_with (go_at_call 13; refine (wakes_calls).mono ?_; rintro e z ⟨rfl, hb⟩; have WZ := Aside0.mk (WW.out.trans (hb.mono WW.out.size)); clear hb)
  go_ret
  exact ⟨rfl, WZ.out⟩
theorem leaseOnce_calls {w : World} {ao : Option Addr} {len cap : Nat} {zs : List Int} {u : Int} (h : (ao = none ∧ len = 0 ∧ cap = 0 ∧ zs = []) ∨ ∃ x, ao = some x ∧ len ≤ cap ∧ cap ≤ maxLen ∧ zs.length = cap ∧ (∀ i, i < zs.length → w.cell? (x.add i) = some (.int .i64 (zs.getD i 0))) ∧ ∀ n ∈ zs, (Lit.int .i64 n).wf = true) (hu : (Lit.int .u64 u).wf = true) :
    Calls Try.prog 5 #[.slice ao len cap, .int .u64 u] w fun e w' => e = .returned (.bool true) ∧ Below w.heap.size w w' := by
  rcases h with ⟨rfl, rfl, rfl, rfl⟩ | ⟨x, rfl, h1, h2, h3, h4, h5⟩
  · exact once_none
  · refine once_some (fun i hi => ?_) (by omega)
    have hi' : i < zs.length := by omega
    refine ⟨_, h4 i hi', h5 _ ?_⟩
    simp only [List.getD_eq_getElem?_getD, List.getElem?_eq_getElem hi', Option.getD_some]
    exact List.getElem_mem hi'
end Go.Proofs.Ytikbgoppmailjaa.H
