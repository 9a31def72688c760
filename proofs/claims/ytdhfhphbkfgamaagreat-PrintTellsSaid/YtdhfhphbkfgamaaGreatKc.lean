/- A part. -/
import Derived.ProofKit
import Derived.SizedLaws
import Derived.Deep.Slices
import Derived.Deep.Fields
import Derived.ChangeSame
import Derived.Deep.Grids
import Derived.ChangeMaps5
import Derived.Test.YtdhfhphbkfgamaaGreatKa
set_option maxRecDepth 100000
set_option linter.all false
namespace Go.Proofs.YtdhfhphbkfgamaaGreat
section
open Go.ChangeShapes Go.WideShapes Go.ChangeAt Go.RowKit Proofs.Tryz
theorem Tryz.own:ownKnob prog.godebug=none:=by kernel_rfl
theorem Tryz.laidOut:laidOutB prog=true:=by kernel_rfl
section
variable {H:Type}{enc:TypeId×Value->H}{P:Program}
theorem Ll{f:Func}{s:ChangeSpec}{N ae af ag:Bool}{G I:World}{args:Array Value}{v:Value}{J K:List (DataW H)}{z pa pv:List MemPlace}
  (M:DataW.Whole enc P f.params.toList s.vars N G args.toList J K z)
  (O:∀(b:Nat) (F:Nat->Bool) (ah:Bool),DataW.TrodAll enc P I b F ah f.resultTypes.toList (v.resultList f.resultTypes.size) (s.fn H (J++K)).results [])
  (W:∀F:Nat->Bool,(∀p∈z,F p.block=true)->DataW.TrodAll enc P I 0 F true f.params.toList args.toList (s.fn H (J++K)).args pa)
  (X:∀F:Nat->Bool,(∀p∈z,F p.block=true)->DataW.TrodVars enc P I F s.vars (s.fn H (J++K)).vars pv)
  (L:z=pa++pv) (aa:Below G.heap.size G I)
  (ai:∀(j:Nat) (t:TypeId) (r:Value),f.resultTypes[j]? =some t->(v.resultList f.resultTypes.size)[j]? =some r->Value.okWide P I .any 0 t r):
  s.post enc P f N ae af ag G args v I:=by
 have ab:∀p∈z,p.block<G.heap.size:=fun p h=>M.lt p h
 have hold:∀p∈z,(fun b=>decide (b<G.heap.size)) p.block=true:=fun p h=>by simpa using ab p h
 refine⟨J,K,z,[],pa,pv,M,O _ _ _,W _ hold,X _ hold,World.keptBut_mono (fun p h=>⟨h,?_⟩) (aa.frame (· ∈z)),fun _=>?_⟩
 ·rw[L,ID]at h;exact Or.inr h
 ·obtain⟨_,_,_,_,_,aj,ak⟩:=M;refine⟨ai,_,_,([]++pa)++pv,⟨[]++pa,pv,trodAll_append (W _ (fun _ _=>rfl)) (O _ _ _),X _ (fun _ _=>rfl),rfl,?_,?_⟩,?_⟩
  ·intro b ac h;have ad:MemPlace.cell b ac∈z:=(by rw[L];simpa using h);rw[aa.frozen (ab _ ad)];exact aj b ac ad
  ·intro al;have:=ak al;rw[L]at this;simpa using this
  ·intro p h _;rw[L];simpa using h
theorem JA(J:laidOutB P=true){h K:World}(L:Below h.heap.size h K)(I:Nat->Bool):
  ∀(ts:List TypeId) (z:List Value) (F:List (DataW H)) (ps:List MemPlace),(∀t∈ts,P.readableRec t=true/\t<P.types.size)->(∀x∈ps,x.block<h.heap.size)->(∀x∈ps,I x.block=true)->
   DataW.TrodAll enc P h 0 (fun _=>true) true ts z F ps->DataW.TrodAll enc P K 0 I true ts z F ps
 |[],z,F,ps,_,_,_,G=>by
  obtain⟨rfl,rfl,rfl⟩:=trodAll_nil G;exact G
 |t::ts,z,F,ps,M,N,O,G=>by
  obtain⟨v,X,d,aa,a,b,rfl,rfl,rfl,ab,ac⟩:=trodAll_cons G;have W:=M t (En ..);exact⟨a,b,WideElems.Trod_stays J W.1 W.2 ab (fun x hx=>L.same (N x (List.mem_append_left _ hx))) (fun x hx=>O x (List.mem_append_left _ hx)),
   JA J L I ts X aa b (fun t ad=>M t (List.mem_cons_of_mem _ ad)) (fun x hx=>N x (List.mem_append_right _ hx)) (fun x hx=>O x (List.mem_append_right _ hx)) ac,rfl⟩
theorem Ij{F:World}{base:Nat}{G:Nat->Bool}{I:Bool} :∀ {ts:List TypeId} {J:List Value} {z:List (DataW H)} {ps:List MemPlace},DataW.TrodAll enc P F base G I ts J z ps->z.length=ts.length
 |[],_,_,_,h=>by obtain⟨rfl,rfl,rfl⟩:=trodAll_nil h;rfl
 |_::ts,_,_,_,h=>by
  obtain⟨v,L,d,M,a,b,rfl,rfl,rfl,N,K⟩:=trodAll_cons h;simp[Ij K]
end
theorem Od{I:Os}(af:I.Started){H:Type}{enc:TypeId×Value->H}{F:FuncId}{fn:Func}{spec:ChangeSpec}{O:TypeId}
  (ag:prog.funcs[F]? =some fn) (ah:Tryz.checked.prog.inits.idxOf? F=none) (W:fn.resultTypes=#[O]) (X:prog.underlying O=some .bool) (J:spec.vars=[])
  (ai:∀h:List (DataW H),h.length=fn.params.toList.length->spec.fn H h= { results:=[.lit (.bool true)],args:=h })
  (aj:∀t∈fn.params.toList,prog.readableRec t=true/\t<prog.types.size)
  (ak:∃(w:World) (G:Tape) (i:Input),w.os=I/\(w.forCall G i).Shaped Tryz.checked.prog/\i.vars=[]/\Input.okWide Tryz.checked.prog (w.forCall G i) .any w.heap.size F i/\
   spec.pre6 enc Tryz.checked.prog fn [] false (w.forCall G i).memory i.args/\({} :Assume).holds Tryz.checked.prog (lone (Frame.enter Tryz.checked.prog F i.args .normal) [] (w.forCall G i)))
  (al:∀(z:World) (base:Nat) (args:Array Value) (h:List (DataW H)) (p:List MemPlace),
   (∀(j:Nat) t v,fn.params[j]? =some t->args[j]? =some v->Value.okWide prog z .any base t v)->
   DataW.TrodAll enc prog z 0 (fun _=>true) true fn.params.toList args.toList h p->(∀x∈p,x.block<z.heap.size)->
   (DataW.weightsEach prog fn.params.toList h).all (· <=reachBytes)=true->
   Calls prog F args z fun e aa=>e=.returned (.bool true)/\Below z.heap.size z aa):
  ReturnsInHanded {} Tryz.checked I F .any (spec.pre6 enc prog fn [] false) (spec.post enc prog fn false true false false):=by
 refine returnsInHanded_of_change_sized (C:=Tryz.checked) Tryz.own af ah ag ak ?_;intro z base args h ar au am ab _ K _;have L:=ab;obtain⟨p,q,M,ac,rfl,aw,ax⟩:=ab;rw[J]at ac;obtain⟨rfl,rfl⟩:=trodVars_none ac;have an:spec.plain.varTypes Tryz.checked.prog=[]:=by
  simp[DataSpec.varTypes,ChangeSpec.plain,J]
 rw[an]at K;simp only[Fv]at K L;have ad:∀x∈p,x.block<z.heap.size:=fun x hx=>L.lt x hx
 have ao:h.length=fn.params.toList.length:=Ij M;refine(al z base args h p am M ad K).mono fun e aa ⟨ap,ae⟩=>?_
 subst ap;have hs:=ai h ao;refine⟨_,rfl,Ll (pa:=p) (pv:=[]) L (fun b N ay=>?_) (fun N aq=>?_) (fun N _=>?_) (by simp) ae (ok_one W rfl (okWide_bool_mk X true))⟩
 ·rw[W];simp only[Fv,hs];exact trodAll_mk1 (shut_bool X true)
 ·simp only[Fv,hs];exact JA Tryz.laidOut ae N _ _ _ _ aj ad aq M
 ·rw[J];simp only[Fv,hs];rfl
end
section
open Go.ChangeShapes Go.WideShapes Go.Deep Proofs.Tryz
section
variable {H:Type}{enc:TypeId×Value->H}{P:Program}{w:World}{base:Nat}{spare:Nat->Bool}{held:Bool}
end
theorem On{w:World}{a:Addr}{v:Value}(z:w.cell? (a.add 0)=some v):∃b h,a=⟨b,h,none⟩:=by
 obtain⟨b,h,F⟩:=a;have G:F=none:=(by simpa [Addr.add]using World.cell?_spot z);subst G;exact⟨b,h,rfl⟩
end
section
open Go.ChangeShapes Go.WideShapes Go.ChangeAt Go.RowKit Go.Deep Proofs.Tryz
def YK(w:World)(a:Option Addr)(z:Nat):Prop:=
 ∀i,i<z-> ∃b h s,a=some ⟨b,h,none⟩/\b<w.heap.size/\(s:ByteArray).size<=maxLen/\w.cell? ⟨b,h+i,none⟩=some (.string s)
def YH(w:World)(a:Option Addr)(F:Nat):Prop:=
 ∀i,i<F-> ∃b h z,a=some ⟨b,h,none⟩/\b<w.heap.size/\(Lit.int .i64 z).wf=true/\w.cell? ⟨b,h+i,none⟩=some (.int .i64 z)
def Xz(w:World)(a:Option Addr)(z:Nat):Prop:=
 ∀i,i<z-> ∃b h F,a=some ⟨b,h,none⟩/\b<w.heap.size/\w.cell? ⟨b,h+i,none⟩=some (.bool F)
theorem Th{b h n:Nat}(z:0<n):MemPlace.cell b h∈MemPlace.row ⟨b,h,none⟩ n:=by
 simp[MemPlace.row];exact z
section
variable {H:Type}{enc:TypeId×Value->H}{W:World}{v:Value}{d:DataW H}{p:List MemPlace}{P:Program}{t e:TypeId}
end
theorem Dy{z:List Value}{j c:Nat}{v:Value}(F:(z.drop j).take c=[v]):z[j]? =some v:=by
 have h:((z.drop j).take c)[0]? =some v:=(by rw[F];rfl);rw[List.getElem?_take]at h;split at h
 ·rw[List.getElem?_drop]at h;exact h
 ·cases h
end
end Go.Proofs.YtdhfhphbkfgamaaGreat
