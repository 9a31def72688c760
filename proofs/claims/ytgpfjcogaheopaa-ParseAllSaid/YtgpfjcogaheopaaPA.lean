/- The parser as plain functions. -/
import Derived.Test.YtgpfjcogaheopaaMB
set_option linter.all false
namespace Go.Proofs.Ytgpfjcogaheopaa
open Lx
def wBang : List UInt8 := [33]
def wOpen : List UInt8 := [123]
def wClose : List UInt8 := [125]
def wCase : List UInt8 := [99, 97, 115, 101]
def wDo : List UInt8 := [100, 111]
def wDone : List UInt8 := [100, 111, 110, 101]
def wElif : List UInt8 := [101, 108, 105, 102]
def wElse : List UInt8 := [101, 108, 115, 101]
def wEsac : List UInt8 := [101, 115, 97, 99]
def wFi : List UInt8 := [102, 105]
def wFor : List UInt8 := [102, 111, 114]
def wIf : List UInt8 := [105, 102]
def wIn : List UInt8 := [105, 110]
def wThen : List UInt8 := [116, 104, 101, 110]
def wUntil : List UInt8 := [117, 110, 116, 105, 108]
def wWhile : List UInt8 := [119, 104, 105, 108, 101]
def sLf : List UInt8 := [10]
def sAmp : List UInt8 := [38]
def sSemi : List UInt8 := [59]
def sSemi2 : List UInt8 := [59, 59]
def sAnd : List UInt8 := [38, 38]
def sOr : List UInt8 := [124, 124]
def sBar : List UInt8 := [124]
def sPar : List UInt8 := [40]
def sRap : List UInt8 := [41]
def resW : List (List UInt8) := [wBang, wOpen, wClose, wCase, wDo, wDone, wElif, wElse, wEsac, wFi, wFor, wIf, wIn, wThen, wUntil, wWhile]
def rdrW : List (List UInt8) := [[60], [62], [62, 62], [60, 38], [62, 38], [60, 62], [62, 124]]
def resB (s : List UInt8) : Bool := resW.contains s
/-- A redirection. -/
structure Rd where
 fd : Int
 op : List UInt8
 wd : List UInt8
/-- A node. -/
structure Nd where
 kind : Int
 name : List UInt8 := []
 inn : Bool := false
 sets : List (List UInt8) := []
 words : List (List UInt8) := []
 redirs : List Rd := []
 pats : List (List (List UInt8)) := []
 kids : List Int := []
def letB (c : UInt8) : Bool := decide (97 ≤ c.toNat ∧ c.toNat ≤ 122) || decide (65 ≤ c.toNat ∧ c.toNat ≤ 90) || decide (c.toNat = 95)
def digB (c : UInt8) : Bool := decide (48 ≤ c.toNat ∧ c.toNat ≤ 57)
def nmGo : Bool → List UInt8 → Nat
 | _, [] => 0
 | f, c :: r => if (letB c || (!f && digB c)) = true then nmGo false r + 1 else 0
/-- How many bytes are a name. -/
def nameF (s : List UInt8) : Nat := nmGo true s
def namedB (t : Tok) : Bool := t.k == 1 && nameF t.t == t.t.length
/-- What a reader answers: something, the tokens that are left, the nodes that are laid; or a place and an error. -/
inductive PR (α : Type)
 | ok (x : α) (ts : List Tok) (ns : List Nd)
 | bad (a e : Int)
def PR.bind {α β : Type} (r : PR α) (f : α → List Tok → List Nd → PR β) : PR β := match r with
 | .ok x ts ns => f x ts ns
 | .bad a e => .bad a e
theorem PR.bind_ok {α β : Type} (x : α) (ts : List Tok) (ns : List Nd) (f : α → List Tok → List Nd → PR β) : (PR.ok x ts ns).bind f = f x ts ns := rfl
theorem PR.bind_bad {α β : Type} (a e : Int) (f : α → List Tok → List Nd → PR β) : (PR.bad a e : PR α).bind f = .bad a e := rfl
def sgnB (ts : List Tok) (s : List UInt8) : Bool := match ts with
 | t :: _ => t.k == 2 && t.t == s
 | [] => false
def wrdB (ts : List Tok) (s : List UInt8) : Bool := match ts with
 | t :: _ => t.k == 1 && t.t == s
 | [] => false
def isB (ts : List Tok) (s : List UInt8) : Bool := sgnB ts s || wrdB ts s
/-- The tokens behind a token that is taken, if it stands there. -/
def takeT (ts : List Tok) (s : List UInt8) : List Tok := if isB ts s = true then ts.tail else ts
def wrongR {α : Type} (ts : List Tok) : PR α := match ts with
 | t :: _ => .bad t.a (if t.k = 4 then 23 else 17)
 | [] => .bad 0 0
def needR (s : List UInt8) (ts : List Tok) (ns : List Nd) : PR Unit := if isB ts s = true then .ok () ts.tail ns else wrongR ts
def breaksF : List Tok → List Tok
 | t :: r => if (t.k == 2 && t.t == sLf) = true then breaksF r else t :: r
 | [] => []
def rdrB (t : Tok) : Bool := t.k == 2 && rdrW.contains t.t
def cmpW : List (List UInt8) := [wOpen, wIf, wWhile, wUntil, wFor, wCase]
def cmpB (t : Tok) : Bool := (t.k == 2 && t.t == sPar) || (t.k == 1 && cmpW.contains t.t)
def beginsB (ts : List Tok) : Bool := match ts with
 | t :: _ => cmpB t || rdrB t || t.k == 3 || (t.k == 1 && (t.t == wBang || t.t == wIn || !resB t.t))
 | [] => false
/-- A node laid. -/
def layR (n : Nd) (ts : List Tok) (ns : List Nd) : PR Int := .ok ns.length ts (ns ++ [n])
abbrev Rdr := List Tok → List Nd → PR Int
/-! ### lists, items, pipes -/
/-- The rounds of a list: the kids, and is one not waited for? -/
def listL (item : Rdr) : Nat → List Int → Bool → List Tok → List Nd → PR (List Int × Bool)
 | 0, _, _, _, _ => .bad 0 0
 | f + 1, kids, back, ts, ns => (item ts ns).bind fun x ts ns =>
  let amp := isB ts sAmp
  let tt := takeT ts sAmp
  let y : Int := if amp = true then ns.length else x
  let ns := if amp = true then ns ++ [{ kind := 7, kids := [x] }] else ns
  if (amp || isB tt sSemi || isB tt sLf) = true then
   let tu := if amp = true then tt else tt.tail
   if beginsB (breaksF tu) = true then listL item f (kids ++ [y]) (back || amp) (breaksF tu) ns else .ok (kids ++ [y], back || amp) (breaksF tu) ns
  else .ok (kids ++ [y], back || amp) tt ns
def listF (item : Rdr) : Rdr := fun ts ns => (listL item (ts.length + 1) [] false (breaksF ts) ns).bind fun k ts ns =>
 match k.1 with
 | [x] => if k.2 = true then layR { kind := 6, kids := [x] } (breaksF ts) ns else .ok x (breaksF ts) ns
 | l => layR { kind := 6, kids := l } (breaksF ts) ns
def itemL (pipe : Rdr) : Nat → Int → Rdr
 | 0, _, _, _ => .bad 0 0
 | f + 1, x, ts, ns =>
  if isB ts sAnd = true then (pipe (breaksF ts.tail) ns).bind fun y ts ns => itemL pipe f ns.length ts (ns ++ [{ kind := 4, kids := [x, y] }])
  else if isB ts sOr = true then (pipe (breaksF ts.tail) ns).bind fun y ts ns => itemL pipe f ns.length ts (ns ++ [{ kind := 5, kids := [x, y] }])
  else .ok x ts ns
def itemF (pipe : Rdr) : Rdr := fun ts ns => (pipe ts ns).bind fun x ts ns => itemL pipe (ts.length + 1) x ts ns
def pipeL (cmd : Rdr) : Nat → List Int → List Tok → List Nd → PR (List Int)
 | 0, _, _, _ => .bad 0 0
 | f + 1, kids, ts, ns => if isB ts sBar = true then (cmd (breaksF ts.tail) ns).bind fun y ts ns => pipeL cmd f (kids ++ [y]) ts ns else .ok kids ts ns
def notR (b : Bool) (x : Int) : Rdr := fun ts ns => if b = true then layR { kind := 2, kids := [x] } ts ns else .ok x ts ns
def pipeF (cmd : Rdr) : Rdr := fun ts ns => (cmd (takeT ts wBang) ns).bind fun x tt ns => (pipeL cmd (tt.length + 1) [x] tt ns).bind fun kids tt ns =>
 if 1 < kids.length then notR (isB ts wBang) ns.length tt (ns ++ [{ kind := 3, kids := kids }]) else notR (isB ts wBang) (kids.headD 0) tt ns
/-! ### redirections, simple commands -/
def wkB : List Tok → Bool
 | w :: _ => w.k == 1 || w.k == 3
 | [] => false
def redirL : Nat → List Rd → List Tok → List Nd → PR (List Rd)
 | 0, _, _, _ => .bad 0 0
 | f + 1, acc, ts, ns => match ts with
  | [] => .bad 0 0
  | t :: r =>
   if (t.k == 3 && rdrB (r.headD t)) = true then
    (if wkB r.tail = true then redirL f (acc ++ [⟨((t.t.headD 0).toNat : Int) - 48, (r.headD t).t, (r.tail.headD t).t⟩]) r.tail.tail ns else wrongR r.tail)
   else if rdrB t = true then
    (if wkB r = true then redirL f (acc ++ [⟨-1, t.t, (r.headD t).t⟩]) r.tail ns else wrongR r)
   else .ok acc (t :: r) ns
def redirF (ts : List Tok) (ns : List Nd) : PR (List Rd) := redirL (ts.length + 1) [] ts ns
def setB (s : List UInt8) : Bool := decide (0 < nameF s) && decide (nameF s < s.length) && (s.getD (nameF s) 0 == 61)
def simL : Nat → Nd → List Tok → List Nd → PR Nd
 | 0, _, _, _ => .bad 0 0
 | f + 1, n, ts, ns => (redirF ts ns).bind fun l ts ns =>
  let n := { n with redirs := n.redirs ++ l }
  match ts with
  | [] => .bad 0 0
  | t :: r =>
   if t.k ≠ 1 then .ok n ts ns
   else if 0 < n.words.length then simL f { n with words := n.words ++ [t.t] } r ns
   else if setB t.t = true then simL f { n with sets := n.sets ++ [t.t] } r ns
   else if (t.t != wIn && resB t.t) = true then .ok n ts ns
   else simL f { n with words := n.words ++ [t.t] } r ns
def simF : Rdr := fun ts ns => (simL (ts.length + 1) { kind := 1 } ts ns).bind fun n ts ns => if n.sets.length + n.words.length + n.redirs.length = 0 then wrongR ts else layR n ts ns
/-! ### compounds: a reader at a depth -/
abbrev Drd := Nat → Rdr
def withinF (f : Drd) : Drd := fun d ts ns => if 24 < d then .bad (match ts with | t :: _ => (t.a : Int) | [] => 0) 17 else f (d + 1) ts ns
def setRd (ns : List Nd) (x : Int) (l : List Rd) : List Nd := ns.modify x.toNat fun n => { n with redirs := l }
def cmpF (core : Drd) : Drd := fun d ts ns => (withinF core d ts ns).bind fun x ts ns => (redirF ts ns).bind fun l ts ns => .ok x ts (setRd ns x l)
def cmpH (ts : List Tok) : Bool := match ts with
 | t :: _ => cmpB t
 | [] => false
def nmH (ts : List Tok) : List UInt8 := match ts with
 | t :: _ => t.t
 | [] => []
def funF (cmp : Drd) : Drd := fun d ts ns => (needR sPar ts.tail ns).bind fun _ tt ns => (needR sRap tt ns).bind fun _ tt ns =>
 if cmpH (breaksF tt) = true then (cmp d (breaksF tt) ns).bind fun x tt ns => layR { kind := 15, name := nmH ts, kids := [x] } tt ns else wrongR (breaksF tt)
def funB (ts : List Tok) : Bool := match ts with
 | t :: u :: _ => namedB t && !resB t.t && u.k == 2 && u.t == sPar
 | _ => false
def cmdF (cmp : Drd) : Drd := fun d ts ns => if cmpH ts = true then cmp d ts ns else if funB ts = true then withinF (funF cmp) d ts ns else simF ts ns
def lstF (cmp : Drd) : Drd := fun d => listF (itemF (pipeF (cmdF cmp d)))
def ifsF (lst : Rdr) : Nat → Rdr
 | 0, _, _ => .bad 0 0
 | f + 1, ts, ns => (lst ts ns).bind fun a ts ns => (needR wThen ts ns).bind fun _ ts ns => (lst ts ns).bind fun b ts ns =>
  if isB ts wElif = true then (ifsF lst f ts.tail ns).bind fun c ts ns => layR { kind := 10, kids := [a, b, c] } ts ns
  else if isB ts wElse = true then (lst ts.tail ns).bind fun c ts ns => (needR wFi ts ns).bind fun _ ts ns => layR { kind := 10, kids := [a, b, c] } ts ns
  else (needR wFi ts ns).bind fun _ ts ns => layR { kind := 10, kids := [a, b] } ts ns
/-- Words as long as there are some. -/
def wordsT : List Tok → List (List UInt8)
 | t :: r => if t.k = 1 then t.t :: wordsT r else []
 | [] => []
def wordsR : List Tok → List Tok
 | t :: r => if t.k = 1 then wordsR r else t :: r
 | [] => []
def forsF (ts : List Tok) (ns : List Nd) : PR Nd := match ts with
 | [] => .bad 0 0
 | t :: r => if namedB t = true then
   let tt := breaksF r
   if isB tt wIn = true then
    let tu := wordsR tt.tail
    if (isB tu sSemi || isB tu sLf) = true then (needR wDo (breaksF tu.tail) ns).bind fun _ ts ns => .ok { kind := 13, name := t.t, inn := true, words := wordsT tt.tail } ts ns
    else wrongR tu
   else (needR wDo (breaksF (takeT tt sSemi)) ns).bind fun _ ts ns => .ok { kind := 13, name := t.t } ts ns
  else wrongR ts
def anyR (ts : List Tok) (ns : List Nd) : PR (List UInt8) := match ts with
 | t :: r => if t.k = 1 then .ok t.t r ns else wrongR ts
 | [] => .bad 0 0
def patsL : Nat → List (List UInt8) → List Tok → List Nd → PR (List (List UInt8))
 | 0, _, _, _ => .bad 0 0
 | f + 1, acc, ts, ns => if isB ts sBar = true then (anyR ts.tail ns).bind fun s ts ns => patsL f (acc ++ [s]) ts ns else .ok acc ts ns
def caseL (lst : Rdr) : Nat → Nd → List Tok → List Nd → PR Nd
 | 0, _, _, _ => .bad 0 0
 | f + 1, n, ts, ns => if wrdB ts wEsac = true then .ok n ts ns else
  (anyR (if sgnB ts sPar = true then ts.tail else ts) ns).bind fun s ts ns => (patsL (ts.length + 1) [s] ts ns).bind fun pats ts ns => (needR sRap ts ns).bind fun _ ts ns =>
  (if beginsB (breaksF ts) = true then lst (breaksF ts) ns else .ok (-1) (breaksF ts) ns).bind fun body ts ns =>
  let n := { n with pats := n.pats ++ [pats], kids := n.kids ++ [body] }
  if isB ts sSemi2 = true then caseL lst f n (breaksF ts.tail) ns else .ok n ts ns
def caseF (lst : Rdr) (ts : List Tok) (ns : List Nd) : PR Nd := (anyR ts ns).bind fun s ts ns => (needR wIn (breaksF ts) ns).bind fun _ ts ns =>
 (caseL lst (ts.length + 1) { kind := 14, words := [s] } (breaksF ts) ns).bind fun n ts ns => (needR wEsac ts ns).bind fun _ ts ns => .ok n ts ns
/-- What stands behind a compound's first token, whose text is s. -/
def coreS (lst : Rdr) (s : List UInt8) : Rdr := fun ts ns =>
 if s = wOpen then (lst ts ns).bind fun x ts ns => (needR wClose ts ns).bind fun _ ts ns => layR { kind := 8, kids := [x] } ts ns
 else if s = sPar then (lst ts ns).bind fun x ts ns => (needR sRap ts ns).bind fun _ ts ns => layR { kind := 9, kids := [x] } ts ns
 else if s = wIf then ifsF lst (ts.length + 1) ts ns
 else if s = wFor then (forsF ts ns).bind fun n ts ns => (lst ts ns).bind fun x ts ns => (needR wDone ts ns).bind fun _ ts ns => layR { n with kids := [x] } ts ns
 else if s = wCase then (caseF lst ts ns).bind fun n ts ns => layR n ts ns
 else (lst ts ns).bind fun x ts ns => (needR wDo ts ns).bind fun _ ts ns => (lst ts ns).bind fun y ts ns => (needR wDone ts ns).bind fun _ ts ns =>
  layR { kind := if s = wUntil then 12 else if s = wWhile then 11 else 0, kids := [x, y] } ts ns
def coreF (lst : Drd) : Drd := fun d ts ns => match ts with
 | t :: r => if t.k = 4 then .bad 0 0 else coreS (lst d) t.t r ns
 | [] => .bad 0 0
/-- Fuel: so many tokens at most. -/
def core : Nat → Drd
 | 0 => fun _ _ _ => .bad 0 0
 | f + 1 => coreF (lstF (cmpF (core f)))
def lst (f : Nat) : Drd := lstF (cmpF (core f))
/-- Nodes, a place, an error. -/
structure Ps where
 ns : List Nd
 a : Int
 e : Int
def parseT (ts : List Tok) : Ps :=
 match breaksF ts with
 | [] => ⟨[], 0, 0⟩
 | t :: r => if t.k = 4 then ⟨[], 0, 0⟩ else match lst ts.length 0 (t :: r) [] with
  | .bad a e => ⟨[], a, e⟩
  | .ok _ ts ns => match ts with
   | [] => ⟨[], 0, 0⟩
   | u :: _ => if u.k ≠ 4 then ⟨[], u.a, 17⟩ else if 300 < ns.length then ⟨[], 0, 12⟩ else ⟨ns, 0, 0⟩
def parseF (s : List UInt8) : Ps := match allF s with
 | .err a e => ⟨[], a, e⟩
 | .ok ts => parseT ts
end Go.Proofs.Ytgpfjcogaheopaa
