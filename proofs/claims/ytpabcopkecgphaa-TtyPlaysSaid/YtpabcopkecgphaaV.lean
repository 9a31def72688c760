/- The walks of does and of TtyPlays. -/
import Derived.Test.YtpabcopkecgphaaU
namespace Go.Proofs.Ytpabcopkecgphaa
open Go.RowKit

def OpsIn (w : World) (a : Option Addr) (len : Nat) : Prop :=
  ∀ i, i < len → ∃ (b off : Nat) (x0 : Int) (x1 : Int) (x2 : ByteArray) (x3 : Bool), a = some ⟨b, off, none⟩ ∧ b < w.heap.size ∧ (Lit.int .i64 x0).wf = true ∧ (Lit.int .i64 x1).wf = true ∧ x2.size ≤ maxLen ∧ w.cell? ⟨b, off + i * 4, none⟩ = some (.int .i64 x0) ∧ w.cell? ⟨b, off + i * 4 + 1, none⟩ = some (.int .i64 x1) ∧ w.cell? ⟨b, off + i * 4 + 2, none⟩ = some (.string x2) ∧ w.cell? ⟨b, off + i * 4 + 3, none⟩ = some (.bool x3)


/-- Both, and a variable of the call's own. -/
def Mix3 (w0 w : World) (bt br lb : Nat) (cs : Array Value) (s1 s2 : TS) : Prop := ∃ S T, TtyIs w bt S s1 ∧ RefIs w br T s2 ∧ (∀ k, S k → ¬ T k) ∧ (∀ k, S k → w0.heap.size ≤ k) ∧ (∀ k, T k → w0.heap.size ≤ k) ∧ w0.grownBy w none ∧ ¬ S lb ∧ ¬ T lb ∧ Blk w lb 49 cs
section
variable {w0 w w' : World} {bt br lb : Nat} {cs : Array Value} {s1 s2 s3 : TS}
theorem Mix3.start (h : Mix w0 w bt br s1 s2) (cs : Array Value) : Mix3 w0 (w.alloc (.cells cs 49)) bt br w.heap.size cs s1 s2 := by
  obtain ⟨S, T, h1, h2, h3, h4, h5, h6⟩ := h
  have hc : Chg nobody w (w.alloc (.cells cs 49)) := (Chg.refl nobody w).alloc _
  exact ⟨S, T, h1.chg hc (fun _ _ e => e), h2.chg hc (fun _ _ e => e), h3, h4, h5, only_alloc h6 _, fun e => Nat.lt_irrefl _ (h1.lt e), fun e => Nat.lt_irrefl _ (h2.lt e), Blk.new w 49 cs⟩
theorem Mix3.mix (h : Mix3 w0 w bt br lb cs s1 s2) : Mix w0 w bt br s1 s2 := by
  obtain ⟨S, T, h1, h2, h3, h4, h5, h6, _⟩ := h
  exact ⟨S, T, h1, h2, h3, h4, h5, h6⟩
theorem Mix3.blk (h : Mix3 w0 w bt br lb cs s1 s2) : Blk w lb 49 cs := by
  obtain ⟨S, T, _, _, _, _, _, _, _, _, h⟩ := h
  exact h
theorem Mix3.tty (h : Mix3 w0 w bt br lb cs s1 s2) {f : FuncId} {args : Array Value} {v : Value} (c : ∀ S, TtyIs w bt S s1 → Calls Try.prog f args w fun e w' => e = .returned v ∧ TtyTo w w' bt S s3) :
    Calls Try.prog f args w fun e w' => e = .returned v ∧ Mix3 w0 w' bt br lb cs s3 s2 := by
  obtain ⟨S, T, h1, h2, h3, h4, h5, h6, h7, h8, h9⟩ := h
  refine (c S h1).mono ?_
  rintro e w' ⟨rfl, S', k1, k2, k3⟩
  have hlt : ∀ k, T k → k < w.heap.size := fun k hk => h2.lt hk
  refine ⟨rfl, S', T, k1, h2.chg k3 (fun k hk hs => h3 k hs hk), fun k hk ht => ?_, fun k hk => ?_, h5, chg_none h6 h4 k3, fun e => ?_, h8, h9.chg k3 h7⟩
  · rcases k2 k hk with h | h
    · exact h3 k h ht
    · have := hlt k ht; omega
  · rcases k2 k hk with h | h
    · exact h4 k h
    · exact Nat.le_trans h6.size h
  · rcases k2 lb e with h | h
    · exact h7 h
    · have := h9.lt; omega
theorem Mix3.ref (h : Mix3 w0 w bt br lb cs s1 s2) {f : FuncId} {args : Array Value} {v : Value} (c : ∀ T, RefIs w br T s2 → Calls Try.prog f args w fun e w' => e = .returned v ∧ RefTo w w' br T s3) :
    Calls Try.prog f args w fun e w' => e = .returned v ∧ Mix w0 w' bt br s1 s3 := h.mix.ref c
end

theorem echo_screen (st : TS) (on : Bool) : (st.echo on).screen = st.screen := by unfold TS.echo; split <;> rfl
def Does (w0 : World) (bt br : Nat) (m : Nat) (e : Ending) (w' : World) : Prop := e = .returned (.bool true) ∧ ∃ st', Mix w0 w' bt br st' st' ∧ st'.Inv ∧ st'.screen.length ≤ m

set_option maxHeartbeats 2000000 in
theorem does_any {w0 w : World} {bt br : Nat} {st : TS} (h : Mix w0 w bt br st st) (hi : st.Inv) (m : Nat) (hm : st.screen.length ≤ m) (hm2 : m ≤ 1000000000) (K n : Int) (s : ByteArray) (hs : s.size ≤ maxLen) (on : Bool) :
    Calls Try.prog 18 #[.pointer (some ⟨bt, 0, none⟩), .pointer (some ⟨br, 0, none⟩), .agg #[.int .i64 K, .int .i64 n, .string s, .bool on]] w (Does w0 bt br (m + 2400000)) := by
  have H0 := hide (Mix3.start h #[.int .i64 K, .int .i64 n, .string s, .bool on])
  have hgw := h.grown.size
  have Hi := hide hi
  have Hs := hide hs
  have Hw0 := hide hgw
  clear h hi hs hgw
  have hq : ((K == 1) = true) ∨ ((K == 1) = false ∧ (K == 2) = true) ∨ ((K == 1) = false ∧ (K == 2) = false ∧ (K == 3) = true) ∨ ((K == 1) = false ∧ (K == 2) = false ∧ (K == 3) = false ∧ (K == 4) = true) ∨
      ((K == 1) = false ∧ (K == 2) = false ∧ (K == 3) = false ∧ (K == 4) = false ∧ (K == 5) = true) ∨ ((K == 1) = false ∧ (K == 2) = false ∧ (K == 3) = false ∧ (K == 4) = false ∧ (K == 5) = false) := by
    simp only [beq_iff_eq, beq_eq_false_iff_ne, ne_eq]
    omega
  rcases hq with q1 | ⟨q1, q2⟩ | ⟨q1, q2, q3⟩ | ⟨q1, q2, q3, q4⟩ | ⟨q1, q2, q3, q4, q5⟩ | ⟨q1, q2, q3, q4, q5⟩
  · go_enter Try.func18, Try.ntmps18
    go_wp2_with fail
    go_at_call 15
    refine (short_any s Hs.out 3000 (by omega) _).mono ?_
    rintro e w1 ⟨s1, rfl, hs1, rfl⟩
    go_wp2_with fail
    go_at_call 11
    refine (H0.out.tty fun S h => type_any h Hi.out s1 (by omega) (by omega)).mono ?_
    rintro e w2 ⟨rfl, hM⟩
    have M2 := hide hM
    clear hM
    go_wp2_with fail
    go_at_call 27
    refine (M2.out.ref fun T h => rtype_any h Hi.out s1 (by omega) (by omega)).mono ?_
    rintro e w3 ⟨rfl, hM⟩
    have M3 := hide hM
    clear hM
    go_wp2
    go_ret
    exact ⟨rfl, _, M3.out, type_inv Hi.out _, by have := type_screen Hi.out s1.data.toList; have hl : s1.data.toList.length = s1.size := rfl; omega⟩
  · go_enter Try.func18, Try.ntmps18
    go_wp2_with fail
    go_at_call 15
    refine (short_any s Hs.out 3000 (by omega) _).mono ?_
    rintro e w1 ⟨s1, rfl, hs1, rfl⟩
    go_wp2_with fail
    go_at_call 12
    refine (H0.out.tty fun S h => read_any h n (by have := Hi.out.a; omega)).mono ?_
    rintro e w2 ⟨rfl, hM⟩
    have M2 := hide hM
    clear hM
    have b1 : w2.cell? ⟨w.heap.size, 1, none⟩ = some (.int .i64 n) := M2.out.blk.cell 1
    go_wp2_with fail
    go_at_call 28
    refine (M2.out.ref fun T h => rread_any h n (by have := Hi.out.a; omega)).mono ?_
    rintro e w3 ⟨rfl, hM⟩
    have M3 := hide hM
    clear hM
    go_wp2
    go_ret
    exact ⟨rfl, _, M3.out, rd_inv Hi.out n, by rw [(rd_silent st n).2.1]; omega⟩
  · go_enter Try.func18, Try.ntmps18
    go_wp2_with fail
    go_at_call 15
    refine (short_any s Hs.out 3000 (by omega) _).mono ?_
    rintro e w1 ⟨s1, rfl, hs1, rfl⟩
    go_wp2_with fail
    go_at_call 29
    refine (H0.out.tty fun S h => write_any h s1 (by omega)).mono ?_
    rintro e w2 ⟨rfl, hM⟩
    have M2 := hide hM
    clear hM
    go_wp2_with fail
    go_at_call 30
    refine (M2.out.ref fun T h => rwrite_any h s1 (by omega)).mono ?_
    rintro e w3 ⟨rfl, hM⟩
    have M3 := hide hM
    clear hM
    go_wp2
    go_ret
    exact ⟨rfl, _, M3.out, ⟨Hi.out.a, Hi.out.b⟩, by have hl : s1.data.toList.length = s1.size := rfl; simp only [List.length_append]; omega⟩
  · go_enter Try.func18, Try.ntmps18
    go_wp2_with fail
    go_at_call 15
    refine (short_any s Hs.out 3000 (by omega) _).mono ?_
    rintro e w1 ⟨s1, rfl, hs1, rfl⟩
    go_wp2_with fail
    go_at_call 16
    refine (H0.out.tty fun S h => echo_any h on).mono ?_
    rintro e w2 ⟨rfl, hM⟩
    have M2 := hide hM
    clear hM
    have b3 : w2.cell? ⟨w.heap.size, 3, none⟩ = some (.bool on) := M2.out.blk.cell 3
    go_wp2_with fail
    go_at_call 31
    refine (M2.out.ref fun T h => recho_any h on).mono ?_
    rintro e w3 ⟨rfl, hM⟩
    have M3 := hide hM
    clear hM
    go_wp2
    go_ret
    exact ⟨rfl, _, M3.out, echo_inv Hi.out on, by rw [echo_screen]; omega⟩
  · go_enter Try.func18, Try.ntmps18
    go_wp2_with fail
    go_at_call 15
    refine (short_any s Hs.out 3000 (by omega) _).mono ?_
    rintro e w1 ⟨s1, rfl, hs1, rfl⟩
    go_wp2_with fail
    go_at_call 32
    refine (H0.out.tty fun S h => clear_any h).mono ?_
    rintro e w2 ⟨rfl, hM⟩
    have M2 := hide hM
    clear hM
    go_wp2_with fail
    go_at_call 33
    refine (M2.out.ref fun T h => rclear_any h).mono ?_
    rintro e w3 ⟨rfl, hM⟩
    have M3 := hide hM
    clear hM
    go_wp2
    go_ret
    exact ⟨rfl, _, M3.out, ⟨by simp [TS.clear, TS.drop, waitOf], by simp [TS.clear, TS.drop]⟩, by show st.screen.length ≤ _; omega⟩
  · go_enter Try.func18, Try.ntmps18
    go_wp2_with fail
    go_at_call 15
    refine (short_any s Hs.out 3000 (by omega) _).mono ?_
    rintro e w1 ⟨s1, rfl, hs1, rfl⟩
    go_wp2
    go_ret
    exact ⟨rfl, _, H0.out.mix, Hi.out, by omega⟩

end Go.Proofs.Ytpabcopkecgphaa
