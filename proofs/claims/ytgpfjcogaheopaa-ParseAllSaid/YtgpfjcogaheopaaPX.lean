/- shown. -/
import Derived.Test.YtgpfjcogaheopaaMW
import Derived.Test.YtgpfjcogaheopaaXL
set_option linter.all false
namespace Go.Proofs.Ytgpfjcogaheopaa
open Go.RowKit Lx
set_option maxRecDepth 100000
/-- The plain parser, for the kernel to reckon. -/
def parseN (s : List UInt8) : Ps := match allN s with
 | .err a e => ⟨[], a, e⟩
 | .ok ts => parseT ts
theorem parseN_eq (s : List UInt8) (h : ¬ 4096 < s.length) : parseF s = parseN s := by
 unfold parseF parseN
 rw [allN_eq s h]
 cases allN s <;> rfl
def t1 : List UInt8 := [97, 32, 124, 32, 98, 32, 38, 38, 32, 99, 32, 38]
def t2 : List UInt8 := [102, 40, 41, 32, 123, 32, 103, 59, 32, 125]
def t3 : List UInt8 := [97, 32, 124]
def t4 : List UInt8 := [97, 32, 41]
theorem sh1 : (parseN t1).e = 0 ∧ (parseN t1).ns.length = 7 ∧ ((parseN t1).ns.map Nd.kind)[2]? = some 3 ∧ ((parseN t1).ns.map Nd.kind)[6]? = some 6 := ⟨by kernel_rfl, by kernel_rfl, by kernel_rfl, by kernel_rfl⟩
theorem sh2 : (parseN t2).e = 0 ∧ (parseN t2).ns.length = 3 ∧ ((parseN t2).ns.map Nd.name)[2]? = some [102] := ⟨by kernel_rfl, by kernel_rfl, by kernel_rfl⟩
theorem sh3 : (parseN t3).e = 23 ∧ (parseN t3).a = 3 := ⟨by kernel_rfl, by kernel_rfl⟩
theorem sh4 : (parseN t4).e = 17 ∧ (parseN t4).a = 2 := ⟨by kernel_rfl, by kernel_rfl⟩
/-- A script's nodes in memory. -/
theorem NdS.cells {av : Nat → Prop} {w : World} {v : Value} {ns : List Nd} (h : NdS av w v ns) (hp : 0 < ns.length) : ∃ g off cap, v = .slice (some ⟨g, off, none⟩) ns.length cap ∧ ns.length ≤ cap ∧ g < w.heap.size ∧
  ∀ i (hi : i < ns.length), ∃ a b r p k, NdAt av w a b r p k ns[i] ∧ ∀ j, j < 8 → w.cell? ⟨g, off + (i * 8 + j), none⟩ = (ndCells ns[i] a b r p k)[j]? := by
 obtain ⟨cs, h1, h2⟩ := h
 obtain ⟨g, off, cap, rfl, hc, _, hg, hcs⟩ := h1.some_ hp
 refine ⟨g, off, cap, rfl, hc, hg, fun i hi => ?_⟩
 obtain ⟨a, b, r, p, k, e, hn⟩ := h2 i hi
 refine ⟨a, b, r, p, k, hn, fun j hj => ?_⟩
 rw [hcs _ (by omega), ← e, List.getElem?_take, if_pos hj, List.getElem?_drop]
set_option maxHeartbeats 4000000 in
theorem shown_any (w : World) : Calls Try.prog 9 #[] w fun e w' => e = .returned (.bool true) ∧ w.grownBy w' none := by
 have H1 := hide (fun W => (by have := parse_any t1 W (by decide); rw [parseN_eq t1 (by decide)] at this; exact this))
 have H2 := hide (fun W => (by have := parse_any t2 W (by decide); rw [parseN_eq t2 (by decide)] at this; exact this))
 have H3 := hide (fun W => (by have := parse_any t3 W (by decide); rw [parseN_eq t3 (by decide)] at this; exact this))
 have H4 := hide (fun W => (by have := parse_any t4 W (by decide); rw [parseN_eq t4 (by decide)] at this; exact this))
 have S1 := hide sh1
 have S2 := hide sh2
 have S3 := hide sh3
 have S4 := hide sh4
 obtain ⟨R1, e1⟩ : ∃ R, parseN t1 = R := ⟨_, rfl⟩
 obtain ⟨R2, e2⟩ : ∃ R, parseN t2 = R := ⟨_, rfl⟩
 obtain ⟨R3, e3⟩ : ∃ R, parseN t3 = R := ⟨_, rfl⟩
 obtain ⟨R4, e4⟩ : ∃ R, parseN t4 = R := ⟨_, rfl⟩
 rw [e1] at H1 S1
 rw [e2] at H2 S2
 rw [e3] at H3 S3
 rw [e4] at H4 S4
 clear e1 e2 e3 e4
 unfold ParsePost sv t1 at H1
 unfold ParsePost sv t2 at H2
 unfold ParsePost sv t3 at H3
 unfold ParsePost sv t4 at H4
 go_enter Try.func9, Try.ntmps9
 go_wp2_with fail
 refine (H1.out _).mono ?_
 rintro e w1 ⟨v1, rfl, n1, m1, g1⟩
 have N1 := hide n1
 have G1 := hide g1
 clear n1 m1 g1
 go_wp2_with fail
 refine (H2.out _).mono ?_
 rintro e w2 ⟨v2, rfl, n2, m2, g2⟩
 have N12 := hide (N1.out.grown g2)
 have N2 := hide n2
 have G2 := hide (none_trans G1.out g2)
 clear n2 m2 g2
 go_wp2_with fail
 refine (H3.out _).mono ?_
 rintro e w3 ⟨v3, rfl, n3, m3, g3⟩
 have N13 := hide (N12.out.grown g3)
 have N23 := hide (N2.out.grown g3)
 have G3 := hide (none_trans G2.out g3)
 clear n3 m3 g3
 go_wp2_with fail
 refine (H4.out _).mono ?_
 rintro e w4 ⟨v4, rfl, n4, m4, g4⟩
 have N14 := hide (N13.out.grown g4)
 have N24 := hide (N23.out.grown g4)
 have G4 := hide (none_trans G3.out g4)
 clear n4 m4 g4
 obtain ⟨R1e, R1l, R12, R16⟩ := S1.out
 obtain ⟨R2e, R2l, R22⟩ := S2.out
 obtain ⟨R3e, R3a⟩ := S3.out
 obtain ⟨R4e, R4a⟩ := S4.out
 obtain ⟨g1, o1, k1, rfl, hk1, hg1, c1⟩ := N14.out.cells (by omega)
 obtain ⟨g2, o2, k2, rfl, hk2, hg2, c2⟩ := N24.out.cells (by omega)
 obtain ⟨a1, a2, a3, a4, a5, _, q1⟩ := c1 2 (by omega)
 obtain ⟨b1, b2, b3, b4, b5, _, q2⟩ := c1 6 (by omega)
 obtain ⟨d1, d2, d3, d4, d5, _, q3⟩ := c2 2 (by omega)
 have x1 : w4.cell? ⟨g1, o1 + 16, none⟩ = some (.int .i64 3) := by
  have h := q1 0 (by omega)
  rw [h]
  show some (Value.int .i64 R1.ns[2].kind) = _
  rw [List.getElem?_map, List.getElem?_eq_getElem (by omega)] at R12
  simp only [Option.map_some, Option.some.injEq] at R12
  rw [R12]
 have x2 : w4.cell? ⟨g1, o1 + 48, none⟩ = some (.int .i64 6) := by
  have h := q2 0 (by omega)
  rw [h]
  show some (Value.int .i64 R1.ns[6].kind) = _
  rw [List.getElem?_map, List.getElem?_eq_getElem (by omega)] at R16
  simp only [Option.map_some, Option.some.injEq] at R16
  rw [R16]
 have x3 : w4.cell? ⟨g2, o2 + 17, none⟩ = some (.string ⟨#[102]⟩) := by
  have h := q3 1 (by omega)
  rw [h]
  show some (sv R2.ns[2].name) = _
  rw [List.getElem?_map, List.getElem?_eq_getElem (by omega)] at R22
  simp only [Option.map_some, Option.some.injEq] at R22
  rw [R22]
  rfl
 simp only [R1e, R1l, R2e, R2l, R3e, R3a, R4e, R4a] at hk1 hk2 ⊢
 clear c1 c2 q1 q2 q3 R12 R16 R22 R1e R2e R3e R3a R4e R4a
 go_wp2_with fail
 go_ret
 exact ⟨rfl, G4.out⟩
end Go.Proofs.Ytgpfjcogaheopaa
