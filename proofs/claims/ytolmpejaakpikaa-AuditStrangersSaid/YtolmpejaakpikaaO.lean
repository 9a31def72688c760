/- Opening a slice of events. -/
import Derived.Test.YtolmpejaakpikaaM
import Derived.Test.YtolmpejaakpikaaOpen
import Derived.Test.YtolmpejaakpikaaArgs
set_option linter.all false
namespace Go.Proofs.Ytolmpejaakpikaa
open Go.RowKit Go.Maps Go.ChangeShapes Go.WideShapes Go.Deep
set_option maxRecDepth 100000

theorem slice_shape {H : Type} {enc : TypeId × Value → H} {W : World} {n : Nat} {cs : List Value} {x : DataW H × List MemPlace} (h : DataW.trod enc Try.prog W 0 (fun _ => true) true n 31 cs = some x) : ∃ a l c, cs = [.slice a l c] := by
  rcases open_slice Try.underlying31 h with ⟨hcs, _⟩ | ⟨a, len, cap, m, n, D, Pl, hcs, _⟩
  · exact ⟨none, 0, 0, hcs⟩
  · exact ⟨some a, len, cap, hcs⟩
theorem getD_at {cs : List Value} {j : Nat} {v : Value} (h : cs[j]? = some v) : cs.getD j undef = v := by rw [List.getD_eq_getElem?_getD, h]; rfl
set_option maxHeartbeats 2000000 in
theorem ev_of_trod {H : Type} {enc : TypeId × Value → H} {W : World} {m : Nat} {cs : List Value} {y : DataW H × List MemPlace} (hlc : cs.length = 45) (htr : DataW.trod enc Try.prog W 0 (fun _ => true) true m 40 cs = some y) : ∃ e : Ev, e.cells = cs.toArray ∧ GoodE e := by
  obtain ⟨ys0, n0, _, _, _, yl0, hf0⟩ := DataW.trod_struct Try.underlying40 htr
  have t0_0 := hf0 0 _ rfl
  rw [List.getElem?_eq_getElem (show 0 < ys0.length by rw [yl0]; decide)] at t0_0
  obtain ⟨x0, q0, _, w0⟩ := DataW.trod_int Try.underlying3 t0_0
  have k0 : cs[0]? = some (.int .i64 x0) := list_at1 q0
  clear t0_0
  have t0_1 := hf0 1 _ rfl
  rw [List.getElem?_eq_getElem (show 1 < ys0.length by rw [yl0]; decide)] at t0_1
  obtain ⟨ys1, n1, _, _, _, yl1, hf1⟩ := DataW.trod_struct Try.underlying28 t0_1
  have t1_0 := hf1 0 _ rfl
  rw [List.getElem?_eq_getElem (show 0 < ys1.length by rw [yl1]; decide)] at t1_0
  obtain ⟨x1, q1, _, w1⟩ := DataW.trod_int Try.underlying3 t1_0
  have k1 : cs[1]? = some (.int .i64 x1) := list_at2 (list_at1 q1)
  clear t1_0
  have t1_1 := hf1 1 _ rfl
  rw [List.getElem?_eq_getElem (show 1 < ys1.length by rw [yl1]; decide)] at t1_1
  obtain ⟨x2, q2, _, w2⟩ := DataW.trod_int Try.underlying3 t1_1
  have k2 : cs[2]? = some (.int .i64 x2) := list_at2 (list_at1 q2)
  clear t1_1
  have t1_2 := hf1 2 _ rfl
  rw [List.getElem?_eq_getElem (show 2 < ys1.length by rw [yl1]; decide)] at t1_2
  obtain ⟨x3, q3, _, w3⟩ := DataW.trod_int Try.underlying3 t1_2
  have k3 : cs[3]? = some (.int .i64 x3) := list_at2 (list_at1 q3)
  clear t1_2
  have t1_3 := hf1 3 _ rfl
  rw [List.getElem?_eq_getElem (show 3 < ys1.length by rw [yl1]; decide)] at t1_3
  obtain ⟨x4, q4, _, w4⟩ := DataW.trod_int Try.underlying3 t1_3
  have k4 : cs[4]? = some (.int .i64 x4) := list_at2 (list_at1 q4)
  clear t1_3
  have t1_4 := hf1 4 _ rfl
  rw [List.getElem?_eq_getElem (show 4 < ys1.length by rw [yl1]; decide)] at t1_4
  obtain ⟨x5, q5, _, w5⟩ := DataW.trod_int Try.underlying3 t1_4
  have k5 : cs[5]? = some (.int .i64 x5) := list_at2 (list_at1 q5)
  clear t1_4
  have t0_2 := hf0 2 _ rfl
  rw [List.getElem?_eq_getElem (show 2 < ys0.length by rw [yl0]; decide)] at t0_2
  obtain ⟨ys2, n2, _, _, _, yl2, hf2⟩ := DataW.trod_struct Try.underlying33 t0_2
  have t2_0 := hf2 0 _ rfl
  rw [List.getElem?_eq_getElem (show 0 < ys2.length by rw [yl2]; decide)] at t2_0
  obtain ⟨x6, q6, _, w6⟩ := DataW.trod_int Try.underlying3 t2_0
  have k6 : cs[6]? = some (.int .i64 x6) := list_at2 (list_at1 q6)
  clear t2_0
  have t2_1 := hf2 1 _ rfl
  rw [List.getElem?_eq_getElem (show 1 < ys2.length by rw [yl2]; decide)] at t2_1
  obtain ⟨x7, q7, _, w7⟩ := DataW.trod_string Try.underlying9 t2_1
  have k7 : cs[7]? = some (.string x7) := list_at2 (list_at1 q7)
  clear t2_1
  have t2_2 := hf2 2 _ rfl
  rw [List.getElem?_eq_getElem (show 2 < ys2.length by rw [yl2]; decide)] at t2_2
  obtain ⟨x8, q8, _, w8⟩ := DataW.trod_string Try.underlying9 t2_2
  have k8 : cs[8]? = some (.string x8) := list_at2 (list_at1 q8)
  clear t2_2
  have t2_3 := hf2 3 _ rfl
  rw [List.getElem?_eq_getElem (show 3 < ys2.length by rw [yl2]; decide)] at t2_3
  obtain ⟨x9, q9, _, w9⟩ := DataW.trod_string Try.underlying9 t2_3
  have k9 : cs[9]? = some (.string x9) := list_at2 (list_at1 q9)
  clear t2_3
  have t2_4 := hf2 4 _ rfl
  rw [List.getElem?_eq_getElem (show 4 < ys2.length by rw [yl2]; decide)] at t2_4
  obtain ⟨x10, q10, _, w10⟩ := DataW.trod_int Try.underlying3 t2_4
  have k10 : cs[10]? = some (.int .i64 x10) := list_at2 (list_at1 q10)
  clear t2_4
  have t2_5 := hf2 5 _ rfl
  rw [List.getElem?_eq_getElem (show 5 < ys2.length by rw [yl2]; decide)] at t2_5
  obtain ⟨x11, q11, _, w11⟩ := DataW.trod_int Try.underlying3 t2_5
  have k11 : cs[11]? = some (.int .i64 x11) := list_at2 (list_at1 q11)
  clear t2_5
  have t2_6 := hf2 6 _ rfl
  rw [List.getElem?_eq_getElem (show 6 < ys2.length by rw [yl2]; decide)] at t2_6
  obtain ⟨x12, q12, _, w12⟩ := DataW.trod_int Try.underlying3 t2_6
  have k12 : cs[12]? = some (.int .i64 x12) := list_at2 (list_at1 q12)
  clear t2_6
  have t2_7 := hf2 7 _ rfl
  rw [List.getElem?_eq_getElem (show 7 < ys2.length by rw [yl2]; decide)] at t2_7
  obtain ⟨x13, q13, _, w13⟩ := DataW.trod_int Try.underlying3 t2_7
  have k13 : cs[13]? = some (.int .i64 x13) := list_at2 (list_at1 q13)
  clear t2_7
  have t2_8 := hf2 8 _ rfl
  rw [List.getElem?_eq_getElem (show 8 < ys2.length by rw [yl2]; decide)] at t2_8
  obtain ⟨x14, q14, _, w14⟩ := DataW.trod_int Try.underlying3 t2_8
  have k14 : cs[14]? = some (.int .i64 x14) := list_at2 (list_at1 q14)
  clear t2_8
  have t2_9 := hf2 9 _ rfl
  rw [List.getElem?_eq_getElem (show 9 < ys2.length by rw [yl2]; decide)] at t2_9
  obtain ⟨x15, q15, _, w15⟩ := DataW.trod_int Try.underlying3 t2_9
  have k15 : cs[15]? = some (.int .i64 x15) := list_at2 (list_at1 q15)
  clear t2_9
  have t2_10 := hf2 10 _ rfl
  rw [List.getElem?_eq_getElem (show 10 < ys2.length by rw [yl2]; decide)] at t2_10
  obtain ⟨ys3, n3, _, _, _, yl3, hf3⟩ := DataW.trod_struct Try.underlying30 t2_10
  have t3_0 := hf3 0 _ rfl
  rw [List.getElem?_eq_getElem (show 0 < ys3.length by rw [yl3]; decide)] at t3_0
  obtain ⟨x16, q16, _, w16⟩ := DataW.trod_int Try.underlying3 t3_0
  have k16 : cs[16]? = some (.int .i64 x16) := list_at2 (list_at2 (list_at1 q16))
  clear t3_0
  have t3_1 := hf3 1 _ rfl
  rw [List.getElem?_eq_getElem (show 1 < ys3.length by rw [yl3]; decide)] at t3_1
  obtain ⟨x17, q17, _⟩ := DataW.trod_bool Try.underlying4 t3_1
  have k17 : cs[17]? = some (.bool x17) := list_at2 (list_at2 (list_at1 q17))
  clear t3_1
  have t3_2 := hf3 2 _ rfl
  rw [List.getElem?_eq_getElem (show 2 < ys3.length by rw [yl3]; decide)] at t3_2
  obtain ⟨x18, q18, _⟩ := DataW.trod_bool Try.underlying4 t3_2
  have k18 : cs[18]? = some (.bool x18) := list_at2 (list_at2 (list_at1 q18))
  clear t3_2
  have t3_3 := hf3 3 _ rfl
  rw [List.getElem?_eq_getElem (show 3 < ys3.length by rw [yl3]; decide)] at t3_3
  obtain ⟨x19, q19, _⟩ := DataW.trod_bool Try.underlying4 t3_3
  have k19 : cs[19]? = some (.bool x19) := list_at2 (list_at2 (list_at1 q19))
  clear t3_3
  have t3_4 := hf3 4 _ rfl
  rw [List.getElem?_eq_getElem (show 4 < ys3.length by rw [yl3]; decide)] at t3_4
  obtain ⟨x20, q20, _⟩ := DataW.trod_bool Try.underlying4 t3_4
  have k20 : cs[20]? = some (.bool x20) := list_at2 (list_at2 (list_at1 q20))
  clear t3_4
  have t3_5 := hf3 5 _ rfl
  rw [List.getElem?_eq_getElem (show 5 < ys3.length by rw [yl3]; decide)] at t3_5
  obtain ⟨x21, q21, _, w21⟩ := DataW.trod_int Try.underlying3 t3_5
  have k21 : cs[21]? = some (.int .i64 x21) := list_at2 (list_at2 (list_at1 q21))
  clear t3_5
  have t2_11 := hf2 11 _ rfl
  rw [List.getElem?_eq_getElem (show 11 < ys2.length by rw [yl2]; decide)] at t2_11
  obtain ⟨x22, q22, _⟩ := DataW.trod_bool Try.underlying4 t2_11
  have k22 : cs[22]? = some (.bool x22) := list_at2 (list_at1 q22)
  clear t2_11
  have t2_12 := hf2 12 _ rfl
  rw [List.getElem?_eq_getElem (show 12 < ys2.length by rw [yl2]; decide)] at t2_12
  obtain ⟨x23, q23, _⟩ := DataW.trod_bool Try.underlying4 t2_12
  have k23 : cs[23]? = some (.bool x23) := list_at2 (list_at1 q23)
  clear t2_12
  have t2_13 := hf2 13 _ rfl
  rw [List.getElem?_eq_getElem (show 13 < ys2.length by rw [yl2]; decide)] at t2_13
  obtain ⟨xa24, xl24, xc24, q24⟩ := slice_shape t2_13
  have k24 : cs[24]? = some (.slice xa24 xl24 xc24) := list_at2 (list_at1 q24)
  clear t2_13
  have t2_14 := hf2 14 _ rfl
  rw [List.getElem?_eq_getElem (show 14 < ys2.length by rw [yl2]; decide)] at t2_14
  obtain ⟨xa25, xl25, xc25, q25⟩ := slice_shape t2_14
  have k25 : cs[25]? = some (.slice xa25 xl25 xc25) := list_at2 (list_at1 q25)
  clear t2_14
  have t0_3 := hf0 3 _ rfl
  rw [List.getElem?_eq_getElem (show 3 < ys0.length by rw [yl0]; decide)] at t0_3
  obtain ⟨ys4, n4, _, _, _, yl4, hf4⟩ := DataW.trod_struct Try.underlying38 t0_3
  have t4_0 := hf4 0 _ rfl
  rw [List.getElem?_eq_getElem (show 0 < ys4.length by rw [yl4]; decide)] at t4_0
  obtain ⟨x26, q26, _, w26⟩ := DataW.trod_int Try.underlying34 t4_0
  have k26 : cs[26]? = some (.int .i64 x26) := list_at2 (list_at1 q26)
  clear t4_0
  have t4_1 := hf4 1 _ rfl
  rw [List.getElem?_eq_getElem (show 1 < ys4.length by rw [yl4]; decide)] at t4_1
  obtain ⟨x27, q27, _, w27⟩ := DataW.trod_int Try.underlying3 t4_1
  have k27 : cs[27]? = some (.int .i64 x27) := list_at2 (list_at1 q27)
  clear t4_1
  have t4_2 := hf4 2 _ rfl
  rw [List.getElem?_eq_getElem (show 2 < ys4.length by rw [yl4]; decide)] at t4_2
  obtain ⟨x28, q28, _, w28⟩ := DataW.trod_int Try.underlying3 t4_2
  have k28 : cs[28]? = some (.int .i64 x28) := list_at2 (list_at1 q28)
  clear t4_2
  have t4_3 := hf4 3 _ rfl
  rw [List.getElem?_eq_getElem (show 3 < ys4.length by rw [yl4]; decide)] at t4_3
  obtain ⟨x29, q29, _, w29⟩ := DataW.trod_string Try.underlying9 t4_3
  have k29 : cs[29]? = some (.string x29) := list_at2 (list_at1 q29)
  clear t4_3
  have t4_4 := hf4 4 _ rfl
  rw [List.getElem?_eq_getElem (show 4 < ys4.length by rw [yl4]; decide)] at t4_4
  obtain ⟨xa30, xl30, xc30, q30⟩ := slice_shape t4_4
  have k30 : cs[30]? = some (.slice xa30 xl30 xc30) := list_at2 (list_at1 q30)
  clear t4_4
  have t4_5 := hf4 5 _ rfl
  rw [List.getElem?_eq_getElem (show 5 < ys4.length by rw [yl4]; decide)] at t4_5
  obtain ⟨ys5, n5, _, _, _, yl5, hf5⟩ := DataW.trod_struct Try.underlying36 t4_5
  have t5_0 := hf5 0 _ rfl
  rw [List.getElem?_eq_getElem (show 0 < ys5.length by rw [yl5]; decide)] at t5_0
  obtain ⟨x31, q31, _, w31⟩ := DataW.trod_int Try.underlying3 t5_0
  have k31 : cs[31]? = some (.int .i64 x31) := list_at2 (list_at2 (list_at1 q31))
  clear t5_0
  have t5_1 := hf5 1 _ rfl
  rw [List.getElem?_eq_getElem (show 1 < ys5.length by rw [yl5]; decide)] at t5_1
  obtain ⟨x32, q32, _, w32⟩ := DataW.trod_int Try.underlying3 t5_1
  have k32 : cs[32]? = some (.int .i64 x32) := list_at2 (list_at2 (list_at1 q32))
  clear t5_1
  have t5_2 := hf5 2 _ rfl
  rw [List.getElem?_eq_getElem (show 2 < ys5.length by rw [yl5]; decide)] at t5_2
  obtain ⟨x33, q33, _, w33⟩ := DataW.trod_int Try.underlying3 t5_2
  have k33 : cs[33]? = some (.int .i64 x33) := list_at2 (list_at2 (list_at1 q33))
  clear t5_2
  have t5_3 := hf5 3 _ rfl
  rw [List.getElem?_eq_getElem (show 3 < ys5.length by rw [yl5]; decide)] at t5_3
  obtain ⟨x34, q34, _, w34⟩ := DataW.trod_int Try.underlying3 t5_3
  have k34 : cs[34]? = some (.int .i64 x34) := list_at2 (list_at2 (list_at1 q34))
  clear t5_3
  have t5_4 := hf5 4 _ rfl
  rw [List.getElem?_eq_getElem (show 4 < ys5.length by rw [yl5]; decide)] at t5_4
  obtain ⟨x35, q35, _, w35⟩ := DataW.trod_int Try.underlying3 t5_4
  have k35 : cs[35]? = some (.int .i64 x35) := list_at2 (list_at2 (list_at1 q35))
  clear t5_4
  have t5_5 := hf5 5 _ rfl
  rw [List.getElem?_eq_getElem (show 5 < ys5.length by rw [yl5]; decide)] at t5_5
  obtain ⟨x36, q36, _, w36⟩ := DataW.trod_int Try.underlying3 t5_5
  have k36 : cs[36]? = some (.int .i64 x36) := list_at2 (list_at2 (list_at1 q36))
  clear t5_5
  have t5_6 := hf5 6 _ rfl
  rw [List.getElem?_eq_getElem (show 6 < ys5.length by rw [yl5]; decide)] at t5_6
  obtain ⟨x37, q37, _, w37⟩ := DataW.trod_int Try.underlying3 t5_6
  have k37 : cs[37]? = some (.int .i64 x37) := list_at2 (list_at2 (list_at1 q37))
  clear t5_6
  have t5_7 := hf5 7 _ rfl
  rw [List.getElem?_eq_getElem (show 7 < ys5.length by rw [yl5]; decide)] at t5_7
  obtain ⟨x38, q38, _, w38⟩ := DataW.trod_int Try.underlying3 t5_7
  have k38 : cs[38]? = some (.int .i64 x38) := list_at2 (list_at2 (list_at1 q38))
  clear t5_7
  have t4_6 := hf4 6 _ rfl
  rw [List.getElem?_eq_getElem (show 6 < ys4.length by rw [yl4]; decide)] at t4_6
  obtain ⟨x39, q39, _, w39⟩ := DataW.trod_int Try.underlying3 t4_6
  have k39 : cs[39]? = some (.int .i64 x39) := list_at2 (list_at1 q39)
  clear t4_6
  have t4_7 := hf4 7 _ rfl
  rw [List.getElem?_eq_getElem (show 7 < ys4.length by rw [yl4]; decide)] at t4_7
  obtain ⟨ys6, n6, _, _, _, yl6, hf6⟩ := DataW.trod_struct Try.underlying28 t4_7
  have t6_0 := hf6 0 _ rfl
  rw [List.getElem?_eq_getElem (show 0 < ys6.length by rw [yl6]; decide)] at t6_0
  obtain ⟨x40, q40, _, w40⟩ := DataW.trod_int Try.underlying3 t6_0
  have k40 : cs[40]? = some (.int .i64 x40) := list_at2 (list_at2 (list_at1 q40))
  clear t6_0
  have t6_1 := hf6 1 _ rfl
  rw [List.getElem?_eq_getElem (show 1 < ys6.length by rw [yl6]; decide)] at t6_1
  obtain ⟨x41, q41, _, w41⟩ := DataW.trod_int Try.underlying3 t6_1
  have k41 : cs[41]? = some (.int .i64 x41) := list_at2 (list_at2 (list_at1 q41))
  clear t6_1
  have t6_2 := hf6 2 _ rfl
  rw [List.getElem?_eq_getElem (show 2 < ys6.length by rw [yl6]; decide)] at t6_2
  obtain ⟨x42, q42, _, w42⟩ := DataW.trod_int Try.underlying3 t6_2
  have k42 : cs[42]? = some (.int .i64 x42) := list_at2 (list_at2 (list_at1 q42))
  clear t6_2
  have t6_3 := hf6 3 _ rfl
  rw [List.getElem?_eq_getElem (show 3 < ys6.length by rw [yl6]; decide)] at t6_3
  obtain ⟨x43, q43, _, w43⟩ := DataW.trod_int Try.underlying3 t6_3
  have k43 : cs[43]? = some (.int .i64 x43) := list_at2 (list_at2 (list_at1 q43))
  clear t6_3
  have t6_4 := hf6 4 _ rfl
  rw [List.getElem?_eq_getElem (show 4 < ys6.length by rw [yl6]; decide)] at t6_4
  obtain ⟨x44, q44, _, w44⟩ := DataW.trod_int Try.underlying3 t6_4
  have k44 : cs[44]? = some (.int .i64 x44) := list_at2 (list_at2 (list_at1 q44))
  clear t6_4
  have hcells : (⟨x0, ⟨x1, x2, x3, x4, x5⟩, ⟨x6, x12, x14, x15, fun k => cs.getD (k + 6) undef⟩, x26, x27, fun k => [x31, x32, x33, x34, x35, x36, x37, x38].getD k 0, fun k => cs.getD k undef⟩ : Ev).cells = cs.toArray := by
    apply Array.ext'
    apply List.ext_getElem?
    intro j
    rcases j with _ | _ | _ | _ | _ | _ | _ | _ | _ | _ | _ | _ | _ | _ | _ | _ | _ | _ | _ | _ | _ | _ | _ | _ | _ | _ | _ | _ | _ | _ | _ | _ | _ | _ | _ | _ | _ | _ | _ | _ | _ | _ | _ | _ | _ | j
    · exact k0.symm
    · exact k1.symm
    · exact k2.symm
    · exact k3.symm
    · exact k4.symm
    · exact k5.symm
    · exact k6.symm
    · exact (show some (cs.getD 7 undef) = cs[7]? by rw [k7, getD_at k7])
    · exact (show some (cs.getD 8 undef) = cs[8]? by rw [k8, getD_at k8])
    · exact (show some (cs.getD 9 undef) = cs[9]? by rw [k9, getD_at k9])
    · exact (show some (cs.getD 10 undef) = cs[10]? by rw [k10, getD_at k10])
    · exact (show some (cs.getD 11 undef) = cs[11]? by rw [k11, getD_at k11])
    · exact k12.symm
    · exact (show some (cs.getD 13 undef) = cs[13]? by rw [k13, getD_at k13])
    · exact k14.symm
    · exact k15.symm
    · exact (show some (cs.getD 16 undef) = cs[16]? by rw [k16, getD_at k16])
    · exact (show some (cs.getD 17 undef) = cs[17]? by rw [k17, getD_at k17])
    · exact (show some (cs.getD 18 undef) = cs[18]? by rw [k18, getD_at k18])
    · exact (show some (cs.getD 19 undef) = cs[19]? by rw [k19, getD_at k19])
    · exact (show some (cs.getD 20 undef) = cs[20]? by rw [k20, getD_at k20])
    · exact (show some (cs.getD 21 undef) = cs[21]? by rw [k21, getD_at k21])
    · exact (show some (cs.getD 22 undef) = cs[22]? by rw [k22, getD_at k22])
    · exact (show some (cs.getD 23 undef) = cs[23]? by rw [k23, getD_at k23])
    · exact (show some (cs.getD 24 undef) = cs[24]? by rw [k24, getD_at k24])
    · exact (show some (cs.getD 25 undef) = cs[25]? by rw [k25, getD_at k25])
    · exact k26.symm
    · exact k27.symm
    · exact (show some (cs.getD 28 undef) = cs[28]? by rw [k28, getD_at k28])
    · exact (show some (cs.getD 29 undef) = cs[29]? by rw [k29, getD_at k29])
    · exact (show some (cs.getD 30 undef) = cs[30]? by rw [k30, getD_at k30])
    · exact k31.symm
    · exact k32.symm
    · exact k33.symm
    · exact k34.symm
    · exact k35.symm
    · exact k36.symm
    · exact k37.symm
    · exact k38.symm
    · exact (show some (cs.getD 39 undef) = cs[39]? by rw [k39, getD_at k39])
    · exact (show some (cs.getD 40 undef) = cs[40]? by rw [k40, getD_at k40])
    · exact (show some (cs.getD 41 undef) = cs[41]? by rw [k41, getD_at k41])
    · exact (show some (cs.getD 42 undef) = cs[42]? by rw [k42, getD_at k42])
    · exact (show some (cs.getD 43 undef) = cs[43]? by rw [k43, getD_at k43])
    · exact (show some (cs.getD 44 undef) = cs[44]? by rw [k44, getD_at k44])
    · rw [List.getElem?_eq_none (by show 45 ≤ _; omega), List.getElem?_eq_none (by simp; omega)]
  have hone : ∀ v ∈ cs, v.oneCell' = true := by
    intro v hv
    obtain ⟨j, hj, rfl⟩ := List.getElem_of_mem hv
    have hk : cs[j]? = some cs[j] := List.getElem?_eq_getElem hj
    generalize cs[j] = u at hk ⊢
    rcases j with _ | _ | _ | _ | _ | _ | _ | _ | _ | _ | _ | _ | _ | _ | _ | _ | _ | _ | _ | _ | _ | _ | _ | _ | _ | _ | _ | _ | _ | _ | _ | _ | _ | _ | _ | _ | _ | _ | _ | _ | _ | _ | _ | _ | _ | j
    · exact (Option.some.inj (hk.symm.trans k0)) ▸ rfl
    · exact (Option.some.inj (hk.symm.trans k1)) ▸ rfl
    · exact (Option.some.inj (hk.symm.trans k2)) ▸ rfl
    · exact (Option.some.inj (hk.symm.trans k3)) ▸ rfl
    · exact (Option.some.inj (hk.symm.trans k4)) ▸ rfl
    · exact (Option.some.inj (hk.symm.trans k5)) ▸ rfl
    · exact (Option.some.inj (hk.symm.trans k6)) ▸ rfl
    · exact (Option.some.inj (hk.symm.trans k7)) ▸ rfl
    · exact (Option.some.inj (hk.symm.trans k8)) ▸ rfl
    · exact (Option.some.inj (hk.symm.trans k9)) ▸ rfl
    · exact (Option.some.inj (hk.symm.trans k10)) ▸ rfl
    · exact (Option.some.inj (hk.symm.trans k11)) ▸ rfl
    · exact (Option.some.inj (hk.symm.trans k12)) ▸ rfl
    · exact (Option.some.inj (hk.symm.trans k13)) ▸ rfl
    · exact (Option.some.inj (hk.symm.trans k14)) ▸ rfl
    · exact (Option.some.inj (hk.symm.trans k15)) ▸ rfl
    · exact (Option.some.inj (hk.symm.trans k16)) ▸ rfl
    · exact (Option.some.inj (hk.symm.trans k17)) ▸ rfl
    · exact (Option.some.inj (hk.symm.trans k18)) ▸ rfl
    · exact (Option.some.inj (hk.symm.trans k19)) ▸ rfl
    · exact (Option.some.inj (hk.symm.trans k20)) ▸ rfl
    · exact (Option.some.inj (hk.symm.trans k21)) ▸ rfl
    · exact (Option.some.inj (hk.symm.trans k22)) ▸ rfl
    · exact (Option.some.inj (hk.symm.trans k23)) ▸ rfl
    · exact (Option.some.inj (hk.symm.trans k24)) ▸ rfl
    · exact (Option.some.inj (hk.symm.trans k25)) ▸ rfl
    · exact (Option.some.inj (hk.symm.trans k26)) ▸ rfl
    · exact (Option.some.inj (hk.symm.trans k27)) ▸ rfl
    · exact (Option.some.inj (hk.symm.trans k28)) ▸ rfl
    · exact (Option.some.inj (hk.symm.trans k29)) ▸ rfl
    · exact (Option.some.inj (hk.symm.trans k30)) ▸ rfl
    · exact (Option.some.inj (hk.symm.trans k31)) ▸ rfl
    · exact (Option.some.inj (hk.symm.trans k32)) ▸ rfl
    · exact (Option.some.inj (hk.symm.trans k33)) ▸ rfl
    · exact (Option.some.inj (hk.symm.trans k34)) ▸ rfl
    · exact (Option.some.inj (hk.symm.trans k35)) ▸ rfl
    · exact (Option.some.inj (hk.symm.trans k36)) ▸ rfl
    · exact (Option.some.inj (hk.symm.trans k37)) ▸ rfl
    · exact (Option.some.inj (hk.symm.trans k38)) ▸ rfl
    · exact (Option.some.inj (hk.symm.trans k39)) ▸ rfl
    · exact (Option.some.inj (hk.symm.trans k40)) ▸ rfl
    · exact (Option.some.inj (hk.symm.trans k41)) ▸ rfl
    · exact (Option.some.inj (hk.symm.trans k42)) ▸ rfl
    · exact (Option.some.inj (hk.symm.trans k43)) ▸ rfl
    · exact (Option.some.inj (hk.symm.trans k44)) ▸ rfl
    · omega
  exact ⟨(⟨x0, ⟨x1, x2, x3, x4, x5⟩, ⟨x6, x12, x14, x15, fun k => cs.getD (k + 6) undef⟩, x26, x27, fun k => [x31, x32, x33, x34, x35, x36, x37, x38].getD k 0, fun k => cs.getD k undef⟩ : Ev), hcells, w0, w27, by rw [hcells]; exact all_oneCell_toArray hone⟩
theorem evs_of_trod {H : Type} {enc : TypeId × Value → H} {W : World} {v : Value} {d : DataW H} {p : List MemPlace}
    (hf : DataW.Trod enc Try.prog W 0 (fun _ => true) true 22 v d p) (hlt : ∀ x ∈ p, x.block < W.heap.size) (hv : ∃ a len cap, v = .slice a len cap) :
    ∃ a len cap, v = .slice a len cap ∧ len ≤ cap ∧ cap ≤ maxLen ∧ ∃ es : List Ev, es.length = len ∧ EvsAt W a es ∧ ∀ e ∈ es, GoodE e := by
  obtain ⟨a0, len0, cap0, rfl⟩ := hv
  obtain ⟨fuel, hf⟩ := hf
  have hC : Try.prog.cellsOf 40 = 45 := by kernel_rfl
  rcases open_slice Try.underlying22 hf with ⟨hcs, hx⟩ | ⟨a, len, cap, m, n, D, Pl, hcs, _, hl, hm, hmm, hx, hi⟩
  · simp [Value.cells] at hcs
    obtain ⟨rfl, rfl, rfl⟩ := hcs
    exact ⟨none, 0, 0, rfl, Nat.le_refl _, by unfold maxLen; omega, [], rfl, fun k hk => absurd hk (by simp), by simp⟩
  · simp [Value.cells] at hcs
    obtain ⟨rfl, rfl, rfl⟩ := hcs
    simp only [if_true] at hmm
    subst hmm
    rw [hC] at hi hx
    refine ⟨some a, len0, m, rfl, hl, hm, ?_⟩
    have key : ∀ i, i < len0 → ∃ (e : Ev), GoodE e ∧ ∃ b off, a = ⟨b, off, none⟩ ∧ b < W.heap.size ∧ W.rangeAt b (off + i * 45) e.cells.toList := by
      intro i h
      obtain ⟨cs0, hc0, ht0⟩ := hi 0 (by omega)
      obtain ⟨_, hl0, hat0⟩ := World.cells?_some hc0
      obtain ⟨b, off, rfl⟩ : ∃ b off, a = ⟨b, off, none⟩ := by
        have h1 := hat0 0 (by omega)
        rw [List.getElem?_eq_getElem (by omega), Go.Deep.add_add] at h1
        exact addr_plain (by simpa using h1)
      obtain ⟨cs, hc, htr⟩ := hi i (by omega)
      obtain ⟨_, hlc, hat⟩ := World.cells?_some hc
      have hat' : ∀ j, j < 45 → W.cell? ⟨b, off + i * 45 + j, none⟩ = cs[j]? := fun j hj => by
        rw [← hat j hj, Addr.add_lit, Addr.add_lit]
      obtain ⟨e, he, hg⟩ := ev_of_trod hlc htr
      refine ⟨e, hg, b, off, rfl, ?_, fun j v hj => ?_⟩
      · have hx' : p = _ := congrArg Prod.snd hx
        refine hlt (MemPlace.cell b off) ?_
        rw [hx']
        refine List.mem_append_left _ ?_
        simp [MemPlace.row]
        omega
      · rw [he] at hj
        have hj' : j < 45 := by
          have := (List.getElem?_eq_some_iff.1 hj).1
          simpa [hlc] using this
        rw [hat' j hj']
        simpa using hj
    let f : Nat → Ev := fun i => if h : i < len0 then (key i h).choose else evZ 0 zero 0 0 0 0 0 0 0
    refine ⟨(List.range len0).map f, by simp, fun k hk => ?_, fun e he => ?_⟩
    · have hk' : k < len0 := by simpa using hk
      obtain ⟨_, b, off, hab, hlb, hr⟩ := (key k hk').choose_spec
      refine ⟨b, off, by rw [hab], hlb, ?_⟩
      have : ((List.range len0).map f)[k] = (key k hk').choose := by simp [f, hk']
      rw [this]
      exact hr
    · obtain ⟨k, hk, rfl⟩ := List.mem_map.1 he
      have hk' : k < len0 := by simpa using hk
      have : f k = (key k hk').choose := by simp [f, hk']
      rw [this]
      exact (key k hk').choose_spec.1

end Go.Proofs.Ytolmpejaakpikaa
