/- does, all its arms; what a step keeps. -/
import Derived.Test.YtdcfpklohleoiaaDoorZ
namespace Go.Proofs.YtdcfpklohleoiaaDoor
open Go.RowKit

def doF (vs : List V) (K : Int) (n val : List UInt8) (A B : Bool) : List V :=
  if K = 1 then (setF vs n val).1 else if K = 2 then (unsetF vs n).1 else if K = 3 then (markF vs n A B).1 else vs
theorem does_any (vs : List V) (K : Int) (n val : List UInt8) (A B : Bool) (v1 v2 : Value) (w : World) (hw : WF vs) (ho1 : Own w 35 4 v1 vs.length (vcs vs) 0) (ho2 : Own w 35 4 v2 vs.length (vcs vs) 0) (hn : n.length ≤ 9223372036854775807) (hval : val.length ≤ 9223372036854775807) :
    Calls Tryd.prog 9 #[envV v1, envV v2, .agg #[.int .i64 K, .string ⟨n.toArray⟩, .string ⟨val.toArray⟩, .bool A, .bool B]] w (DoPost w (doF vs K n val A B)) := by
  unfold doF
  split
  · rename_i h; subst h; exact does_set vs n val A B v1 v2 w hw ho1 ho2 hn hval
  · rename_i h1
    split
    · rename_i h; subst h; exact does_unset vs n val A B v1 v2 w hw ho1 ho2 hn hval
    · rename_i h2
      split
      · rename_i h; subst h; exact does_mark vs n val A B v1 v2 w hw ho1 ho2 hn hval
      · rename_i h3
        exact does_get vs K n val A B v1 v2 w hw ho1 ho2 h1 h2 h3
theorem wf_do {vs : List V} (h : WF vs) (K : Int) (n val : List UInt8) (A B : Bool) : WF (doF vs K n val A B) := by
  unfold doF
  split
  · exact wf_set h n val
  · split
    · exact wf_unset h n
    · split
      · exact wf_mark h n A B
      · exact h
theorem do_keeps {vs : List V} (h : Srt vs) (K : Int) (n val : List UInt8) (A B : Bool) {a : V} (ha : a ∈ vs) (hr : a.r = true) : ∃ b, lookF (doF vs K n val A B) a.n = some b ∧ b.v = a.v := by
  unfold doF
  split
  · exact ⟨a, set_keeps h n val ha hr, rfl⟩
  · split
    · exact ⟨a, unset_keeps h n ha hr, rfl⟩
    · split
      · exact mark_keeps h n A B ha
      · exact ⟨a, look_of_mem h ha, rfl⟩
/-- The names are no longer than a text can be. -/
def NL (vs : List V) : Prop := ∀ a ∈ vs, a.n.length ≤ 9223372036854775807
theorem nl_put {vs : List V} (h : NL vs) (u : V) (hu : u.n.length ≤ 9223372036854775807) : NL (putF vs u) := fun a ha => by
  rcases put_mem ha with rfl | ha
  · exact hu
  · exact h a ha
theorem nl_set {vs : List V} (h : NL vs) (m val : List UInt8) (hm : m.length ≤ 9223372036854775807) : NL (setF vs m val).1 := by
  unfold setF
  split
  · exact h
  · split
    · exact h
    · split
      · exact h
      · split
        · exact h
        · exact nl_put h _ (by rw [show ({ lookV vs m with v := val } : V).n = m from lookV_n vs m]; exact hm)
theorem nl_mark {vs : List V} (h : NL vs) (m : List UInt8) (x r : Bool) (hm : m.length ≤ 9223372036854775807) : NL (markF vs m x r).1 := by
  unfold markF
  split
  · exact h
  · split
    · exact h
    · exact nl_put h _ (by rw [show ({ lookV vs m with x := (lookV vs m).x || x, r := (lookV vs m).r || r } : V).n = m from lookV_n vs m]; exact hm)
theorem nl_unset {vs : List V} (h : NL vs) (m : List UInt8) : NL (unsetF vs m).1 := by
  unfold unsetF
  split
  · exact h
  · split
    · exact h
    · exact fun a ha => h a (List.mem_filter.1 ha).1
theorem nl_do {vs : List V} (h : NL vs) (K : Int) (n val : List UInt8) (A B : Bool) (hn : n.length ≤ 9223372036854775807) : NL (doF vs K n val A B) := by
  unfold doF
  split
  · exact nl_set h n val hn
  · split
    · exact nl_unset h n
    · split
      · exact nl_mark h n A B hn
      · exact h
theorem nl_step {vs : List V} (h : NL vs) (s : List UInt8) (hs : s.length ≤ 9223372036854775807) : NL (stepF vs s) := by
  have hc := (cut_len s).1
  unfold stepF
  split
  · exact h
  · split
    · exact nl_mark (nl_set h _ _ (by omega)) _ _ _ (by omega)
    · exact h
theorem nl_from (ss : List (List UInt8)) (hs : ∀ s ∈ ss, s.length ≤ 9223372036854775807) : NL (fromF ss) := by
  unfold fromF
  have : ∀ (l : List (List UInt8)) (vs : List V), NL vs → (∀ s ∈ l, s.length ≤ 9223372036854775807) → NL (l.foldl stepF vs) := by
    intro l
    induction l with
    | nil => intro vs h _; exact h
    | cons s l ih => intro vs h hl; exact ih _ (nl_step h s (hl s (List.mem_cons_self ..))) (fun t ht => hl t (List.mem_cons_of_mem _ ht))
  exact this ss [] (fun a ha => by cases ha) hs

end Go.Proofs.YtdcfpklohleoiaaDoor
