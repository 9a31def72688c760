/- A part. -/
import Derived.Test.YtdhfhphbkfgamaaGreatPm
set_option maxRecDepth 100000
set_option linter.all false
set_option maxHeartbeats 0
namespace Go.Proofs.YtdhfhphbkfgamaaGreat
section
open Go.RowKit Lx Proofs.Tryz
theorem CB.Sm{av:Nat->Prop}{base:Nat->Prop}{rb d:Nat}{w:World}{vt vn:Value}{ts:List AY}{ns:List V}(h:CB av base w rb vt vn ts ns d)(z:Nat)(F:z<=26){x:Int}(hx:x=z):CB av base (w.setCell ⟨rb,2,none⟩ (.int .i64 x)) rb vt vn ts ns z:=by
 subst hx;have G:vt.ownBlock≠some rb:=fun e=>by
  have:=(Own.AO h.tok e).uniq h.BF.AO;exact Aj this (by decide)
 exact⟨Y.AW h.BF 2 _,h.tok.Bi (p:=⟨rb,2,none⟩) G _,h.NT.Bi (p:=⟨rb,2,none⟩) h.lo.at_ h.BF.AO,h.new,h.lo.size (by rw[World.size_setCell];exact BN _),h.Ak,h.EG,F,h.Lc⟩
def Ul(pre:List AY->Prop)(fn:FuncId)(spec:Eg)(n:Nat):Prop:=∀(av:Nat->Prop) (base:Nat->Prop) (rb d:Nat) (ts:List AY) (ns:List V) (w:World),(∀k,av k->k<w.heap.size)->CQ av base w rb ts ns d->ts.length<=n->pre ts->
 Calls prog fn #[.pointer (some ⟨rb,0,none⟩)] w (Am Cg av base w rb d (spec d ts ns))
def fv(fn:FuncId)(rb:Nat):Value:=.func (.func fn) #[.pointer (some ⟨rb,0,none⟩)] #[]
theorem MQ(pre:List AY->Prop)(n:Nat)(fn:FuncId)(spec:Eg)(ax:∀args w,Sem.run prog (callFunc fn args) w=.ok (.enter fn args) w)(K:Ul pre fn spec n)(av:Nat->Prop)(base:Nat->Prop)(rb d:Nat)(ts:List AY)(ns:List V)(w:World)(L:∀k,av k->k<w.heap.size)(h:CQ av base w rb ts ns d)(ac:ts.length<=n)(ad:pre ts):
  Calls prog 111 #[.pointer (some ⟨rb,0,none⟩),fv fn rb] w (Am Cg av base w rb d (B1 spec d ts ns)):=by
 obtain⟨vt,vn,h⟩:=h;have ay:=Z h;have ae:=Z L;have az:=h.dep;obtain⟨t,r,g,aA,aB,rfl,rfl,I,af,ag,ah,ai⟩:=h.head;obtain⟨d0,d1,d2⟩:=h.cells;have lb:=Y.lt h.BF;have aj:=Y.frozen h.BF 2;have J:(0:Int)<(((t::r).length:Nat):Int):=(by simp only[BR];omega);obtain⟨aC,F⟩:=U ((t::r).length);unfold B1 fv;by_cases G:24<d
 ·have q:decide ((24:Int)<(d:Int))=true:=Au (by omega);rw[Ai G];unfold Am;simp only[];rw[F]at d0 J I;clear h F G;go_enter func111,ntmps111;go_wp2_with fail;exact AS rfl ⟨rfl,Fr.refl base w⟩
 ·have q:decide ((24:Int)<(d:Int))=false:=As (by omega);rw[AP G];have aD:d<=24:=(by omega);have ak:=Z (CB.Sm h (d+1) (by omega) (x:=(d:Int)+1) (by omega));have M:=Z (h.Si 2 (.int .i64 ((d:Int)+1)));have al:=Z (show(w.setCell ⟨rb,2,none⟩ (.int .i64 ((d:Int)+1))).heap.size=w.heap.size from World.size_setCell ..);have N:=Z (K av base rb (d+1) (t::r) ns _ (fun k hk=>by have:=al.out;have:=ae.out k hk;omega) ⟨_,_,ak.out⟩ ac ad);obtain⟨am,O⟩:=U (spec (d+1) (t::r) ns);rw[O]at N⊢;rw[F]at d0 J I;have an:(d:Int)+1<=9223372036854775807:=(by omega);clear h F G O K L;go_enter func111,ntmps111;go_wp2_with fail;refine N.out.mono ?_;cases am with
  |bad a e=>
   unfold Am;simp only[];rintro e ao ⟨rfl,ap⟩;exact AS rfl ⟨rfl,M.out.trans ap⟩
  |ok x T aE=>
   unfold Am Cg;simp only[];rintro e ao ⟨v,rfl,rfl,⟨aF,aG,z⟩,W⟩;have aH:=Z z;have aq:=Z (M.out.trans W);obtain⟨aI,aJ,ar⟩:=z.cells;have aK:=Y.lt z.BF;have aL:=Y.frozen z.BF 2;have X:=Z (CB.Sm z d (by omega) (x:=(((d+1:Nat):Int))-1) (by omega));have aa:=Z (aq.out.trans (z.Si 2 (.int .i64 ((((d+1:Nat):Int))-1))));have au:(1:Int)<=((d+1:Nat):Int):=(by omega);have aw:((d+1:Nat):Int)<=30:=(by omega);obtain⟨D1,ab⟩:=U (d+1);rw[ab]at ar au aw X aa;clear z W d0 d1 d2 lb aj ag ah ai ab q an I af J;go_wp2_with fail;go_ret;exact⟨_,rfl,rfl,⟨_,_,X.out⟩,aa.out⟩
section
variable {av:Nat->Prop}{base:Nat->Prop}{rb d:Nat}{w w':World}{vt vn v:Value}{ts:List AY}{ns:List V}
theorem Ir(ns:List V)(m:Nat)(l:List Rd)(i:Nat)(h:i<(Dq ns m l).length)(z:i<ns.length):(Dq ns m l)[i]=if m=i then { ns[i]with AK:=l } else ns[i]:=by
 simp[Dq,List.getElem_modify]
theorem WH{h:List Value}{n i m:Nat}(I:h.length=n*8)(J:i<n)(u:Value):((h.set (m*8+5) u).drop (i*8)).take 8=if m=i then((h.drop (i*8)).take 8).set 5 u else(h.drop (i*8)).take 8:=by
 apply List.ext_getElem?;intro j;rw[List.getElem?_take,List.getElem?_drop];by_cases z:j<8
 ·rw[Ai z,List.getElem?_set];by_cases F:m=i
  ·subst F;rw[Ai rfl];by_cases G:j=5
   ·subst G;rw[Ai (by omega),Ai (by omega),List.getElem?_set,Ai rfl,Ai (by rw[Fw,D8];omega)]
   ·rw[AP (by omega),List.getElem?_set,AP (by omega),List.getElem?_take,Ai z,List.getElem?_drop]
  ·rw[AP F,AP (by omega),List.getElem?_take,Ai z,List.getElem?_drop]
 ·rw[AP z];split
  ·rw[List.getElem?_eq_none (by rw[List.length_set,Fw];omega)]
  ·rw[List.getElem?_eq_none (by rw[Fw];omega)]
theorem Ct.Mq{g F L m:Nat}(X:Ct av w (.slice (some ⟨g,F,none⟩) ns.length L) ns)(al:m<ns.length){l:List Rd}(aa:Ji w v l)(J:Av av v):Ct av (w.setCell ⟨g,F+m*8+5,none⟩ v) (.slice (some ⟨g,F,none⟩) ns.length L) (Dq ns m l):=by
 obtain⟨ab,K,ac⟩:=X;have M:(Dq ns m l).length=ns.length:=Ed _ _ _;have ad:Bn w g 32:=Own.AO K rfl;have ae:Az (fun k=>k=g) w (w.setCell ⟨g,F+m*8+5,none⟩ v):=Az.setCell (S:=fun k=>k=g) (Az.refl _ w) (p:=⟨g,F+m*8+5,none⟩) (.inl rfl) v;have hk:∀ {e:TypeId} {s n k:Nat} {u:Value} {xs:List Value},Own w e s u n xs k->e≠32->Own (w.setCell ⟨g,F+m*8+5,none⟩ v) e s u n xs k:=fun N af=>N.Bo ae fun b ag e=>af ((Own.AO N ag).uniq (e▸ad))
 have O:=Own.set K (m*8+5) (by omega) v;rw[<-Nat.add_assoc]at O;refine⟨ab.set (m*8+5) v,by rw[M];exact O,fun i z=>?_⟩;have G:i<ns.length:=(by rw[M]at z;exact z);obtain⟨a,b,r,p,k,e,h⟩:=ac i G;have W:NH av (w.setCell ⟨g,F+m*8+5,none⟩ v) p (ns[i]).AT:=by
  obtain⟨ps,ah,ai,aj⟩:=h.AT;exact⟨ps,hk ah (by decide),ai,fun i z=>by obtain⟨u,ak,hs,J⟩:=aj i z;exact⟨u,ak,hk hs (by decide),J⟩⟩
 rw[WH K.len G];by_cases I:m=i
 ·subst I;refine⟨a,b,v,p,k,?_,?_⟩
  ·rw[Ai rfl,e,Ir _ _ _ _ z G,Ai rfl];rfl
  ·rw[Ir _ _ _ _ z G,Ai rfl];exact⟨hk h.AZ (by decide),hk h.words (by decide),hk aa (by decide),W,hk h.kids (by decide),h.ha,h.hb,J,h.hk⟩
 ·refine⟨a,b,r,p,k,?_,?_⟩
  ·rw[AP I,e,Ir _ _ _ _ z G,AP I]
  ·rw[Ir _ _ _ _ z G,AP I];exact⟨hk h.AZ (by decide),hk h.words (by decide),hk h.DJ (by decide),W,hk h.kids (by decide),h.ha,h.hb,h.hr,h.hk⟩
theorem CB.Mq{g z G m:Nat}(h:CB av base w rb vt (.slice (some ⟨g,z,none⟩) ns.length G) ts ns d)(I:m<ns.length){l:List Rd}(J:Ji w v l)(K:Av av v):CB av base (w.setCell ⟨g,z+m*8+5,none⟩ v) rb vt (.slice (some ⟨g,z,none⟩) ns.length G) ts (Dq ns m l) d/\Fr base w (w.setCell ⟨g,z+m*8+5,none⟩ v):=by
 obtain⟨N,L,_⟩:=h.NT;have F:Bn w g 32:=Own.AO L rfl;have M:rb≠g:=fun e=>Aj ((e▸h.BF.AO).uniq F) (by decide)
 refine⟨⟨Y.Bi h.BF (p:=⟨g,z+m*8+5,none⟩) M _,h.tok.Bi (p:=⟨g,z+m*8+5,none⟩) (fun e=>Aj ((Own.AO h.tok e).uniq F) (by decide)) _,?_,h.new,h.lo.size (by rw[World.size_setCell];exact BN _),h.Ak,by rw[Ed];exact h.EG,h.dep,h.Lc⟩,(Fr.refl base w).set (p:=⟨g,z+m*8+5,none⟩) (h.new g rfl) (.inr F) _⟩;exact h.NT.Mq I J K
end
theorem NC(n:Nat)(core:Eg)(aw:Fc 5 core)(ax:Ul (fun ts=>E7 ts=true) 120 core n):Ul (fun ts=>E7 ts=true) 109 (FI core) n:=by
 intro av base rb d ts ns w G I ay az;have aA:=Z G;have J:=Z (MQ _ n _ core (fun _ _=>rfl) ax av base rb d ts ns w G I ay az);have O:=Ks aw d ts ns;show Calls prog 109 #[.pointer (some ⟨rb,0,none⟩)] w (Am Cg av base w rb d (FI core d ts ns));unfold FI;obtain⟨aB,K⟩:=U (B1 core d ts ns);rw[K]at J⊢;have aS:∀(fn:Fn) (first W:Array Value) (w:World),(Instr.makeFunc fn first W).run prog w=.ok (.func fn first W) w:=fun _ _ _ _=>rfl
 unfold Am Cg fv at J;cases aB with
 |bad a e=>
  rw[PR.LG];unfold Am;simp only[];clear G I K O;go_enter func109,ntmps109;go_wp2_with fail;refine J.out.mono ?_;rintro e ag ⟨rfl,aC⟩;exact AS rfl ⟨rfl,aC⟩
 |ok x T h=>
  have X:=O x T h I.Ak K;rw[PR.Bm];have aD:=X.more;obtain⟨m,ah⟩:∃m,h.length=m+1:=⟨h.length-1,by omega⟩;obtain rfl:x=(m:Int):=by rw[X.last];omega
  have z:=Z ah;obtain⟨R,aa⟩:=U (((Cb T h).bind fun l ts ns=>(.ok (m:Int) ts (Dq ns m l):PR Int)));have ai:=Z aa;rw[aa];clear G I K O X ah aD aa;go_enter func109,ntmps109;go_wp2_with fail;refine J.out.mono ?_;rintro e ag ⟨v,rfl,rfl,⟨aE,aF,L⟩,aj⟩;have ab:=Z (Lb av base rb d aF T h ag ⟨aE,L⟩);obtain⟨aG,ac⟩:=U (Cb T h);rw[ac]at ab;have ak:=Z L;have ad:=Z aj;unfold Br NU at ab;have aH:=Z L.Ak;have ae:=Z ac;clear L aj ac;go_wp2_with fail;refine ab.out.mono ?_;cases aG with
  |bad a e=>
   rintro e al ⟨rfl,M⟩;refine AS rfl ?_;rw[<-ai.out,ae.out];exact(⟨rfl,ad.out.trans (ak.out.Kt M)⟩:_/\_)
  |ok l aI am=>
   obtain⟨_,rfl,_⟩:=Dz aH.out ae.out;rintro e al ⟨v,rfl,⟨af,an⟩,⟨aT,F⟩,M⟩;have aJ:=Z (show R=.ok (m:Int) aI (Dq am m l) by rw[<-ai.out,ae.out];rfl);obtain⟨ao,N,_⟩:=F.NT;obtain⟨g,aK,W,rfl,aL,_,aU,ap⟩:=N.some_ (by have:=z.out;omega);obtain⟨aV,aW,rfl,_,_⟩:=Own.form af;have aq:=Z (CB.Mq (m:=m) F (by have:=z.out;omega) af (fun b aM hk=>by have aX:=an b aM;have aY:=aA.out b hk;have aZ:=ad.out.size;omega));have aN:=Z (ad.out.trans (ak.out.Kt M));obtain⟨a0,aO,a1⟩:=F.cells;have a2:=Y.lt F.BF;have aP:=Own.frozen0 N (m*8+5);obtain⟨u5,a3⟩:∃u5,al.cell? ⟨g,aK+m*8+5,none⟩=some u5:=by
    have ar:=ap (m*8+5) (by have:=z.out;omega);rw[<-Nat.add_assoc]at ar;rw[ar];have aQ:m*8+5<ao.length:=(by rw[N.len];have:=z.out;omega);exact⟨ao[m*8+5],CZ aQ⟩
   rw[<-Nat.add_assoc]at aP;obtain⟨aR,au⟩:=U am.length;have a4:(0:Int)<=(m:Int):=(by omega);have a5:(m:Int)<(aR:Int):=(by have:=z.out;omega);rw[au]at aO aL;clear af an F M N ap au;go_wp2_with fail;rw[aJ.out];go_ret;exact⟨_,rfl,rfl,⟨_,_,aq.out.1⟩,aN.out.trans aq.out.2⟩
end
section
open Go.RowKit Lx Proofs.Tryz
def Bx(base:Nat->Prop)(B:Nat):Nat->Prop:=fun k=>base k/\k≠B
section
variable {av:Nat->Prop}{base:Nat->Prop}{rb d B:Nat}{w w' a b:World}{vt vn v:Value}{ts:List AY}{ns:List V}
theorem CQ.box(h:CQ av base w rb ts ns d)(o:Obj)(G:w.heap.size=B):CQ av (Bx base B) (w.alloc o) rb ts ns d:=by
 subst G;obtain⟨vt,vn,h⟩:=h;obtain⟨J,I,_⟩:=h.NT;have z:=h.grown (AF (AB w none) o);exact⟨vt,vn,z.BF,z.tok,z.NT,fun b F=>⟨h.new b F,by have:=Own.lt I F;omega⟩,⟨⟨h.lo.at_,by have:=Y.lt h.BF;omega⟩,fun k hk=>by rw[BW]at hk;exact⟨h.lo.up k (by omega),by omega⟩⟩,z.Ak,z.EG,z.dep,z.Lc⟩
theorem CQ.unbox(h:CQ av (Bx base B) w rb ts ns d):CQ av base w rb ts ns d:=by
 obtain⟨vt,vn,h⟩:=h;exact⟨vt,vn,h.RX fun k hk=>hk.1⟩
theorem Fr.unbox(h:Fr (Bx base B) a b):Fr base a b:=h.RX fun k hk=>hk.1
theorem Fr.EO(z:Fr (Bx base B) a b){T:TypeId}{h:Array Value}(F:Y a B T h):Y b B T h:=z.low F (fun e=>e.2 rfl)
theorem CQ.IQ(h:CQ av base w rb ts ns d)(G:¬base B)(K:Bn w B 32)(j:Nat)(u:Value):CQ av base (w.setCell ⟨B,j,none⟩ u) rb ts ns d:=by
 obtain⟨vt,vn,h⟩:=h;obtain⟨L,M,N⟩:=h.NT;have O:Az (fun k=>k=B) w (w.setCell ⟨B,j,none⟩ u):=Az.setCell (S:=fun k=>k=B) (Az.refl _ w) (p:=⟨B,j,none⟩) (.inl rfl) u;have hk:∀ {e:TypeId} {s n k:Nat} {I:Value} {xs:List Value},Own w e s I n xs k->e≠32->Own (w.setCell ⟨B,j,none⟩ u) e s I n xs k:=fun J W=>J.Bo O fun b X e=>W ((Own.AO J X).uniq (e▸K))
 refine⟨vt,vn,Y.Bi h.BF (p:=⟨B,j,none⟩) (fun e=>G (by have e':rb=B:=e;rw[<-e'];exact h.lo.at_)) _,hk h.tok (by decide),?_,h.new,h.lo.size (by rw[World.size_setCell];exact BN _),h.Ak,h.EG,h.dep,h.Lc⟩;refine⟨L,M.Bi (p:=⟨B,j,none⟩) (fun e=>G (h.new B e)) _,fun i F=>?_⟩;obtain⟨a,b,r,p,k,e,z⟩:=N i F;refine⟨a,b,r,p,k,e,hk z.AZ (by decide),hk z.words (by decide),hk z.DJ (by decide),?_,hk z.kids (by decide),z.ha,z.hb,z.hr,z.hk⟩;obtain⟨ps,aa,ab,ac⟩:=z.AT;exact⟨ps,hk aa (by decide),ab,fun i F=>by obtain⟨u,ad,hs,ae⟩:=ac i F;exact⟨u,ad,hk hs (by decide),ae⟩⟩
theorem Fr.NM(h:Fr base a b)(z:a.heap.size<=B)(j:Nat)(u:Value):Fr base a (b.setCell ⟨B,j,none⟩ u):=h.new (p:=⟨B,j,none⟩) z u
theorem Ot{t:AY}{r:List AY}(h:CQ av base w rb (t::r) ns d)(hk:t.k≠4):Calls prog 61 #[.pointer (some ⟨rb,0,none⟩)] w (Am IX av base w rb d (.ok t r ns)):=by
 obtain⟨vt,vn,h⟩:=h;exact(Et av base rb d vt vn t r ns w h hk).mono fun e w' z=>Br.g h z
theorem PT{t:AY}{r:List AY}(h:CQ av base w rb (t::r) ns d):Calls prog 31 #[.pointer (some ⟨rb,0,none⟩)] w fun e w'=>e=.panicked [GF t.a (if t.k=4 then 23 else 17)]/\w.grownBy w' none:=by
 obtain⟨vt,vn,h⟩:=h;exact F0 av base rb d vt vn t r ns w h
theorem CQ.head(h:CQ av base w rb ts ns d):∃vt vn t r g z F,ts=t::r/\vt=.slice (some ⟨g,z,none⟩) ts.length F/\ts.length<=F/\g<w.heap.size/\w.cell? ⟨g,z,none⟩=some (.int .i64 t.k)/\w.cell? ⟨g,z+1,none⟩=some (.string ⟨t.t.toArray⟩)/\w.cell? ⟨g,z+2,none⟩=some (.int .i64 t.a)/\rb<w.heap.size/\w.cell? ⟨rb,0,none⟩=some vt/\w.cell? ⟨rb,1,none⟩=some vn/\CB av base w rb vt vn ts ns d:=by
 obtain⟨vt,vn,h⟩:=h;obtain⟨t,r,g,z,F,G,I,J,K,L,M,N⟩:=h.head;obtain⟨d0,d1,_⟩:=h.cells;exact⟨vt,vn,t,r,g,z,F,G,I,J,K,L,M,N,Y.lt h.BF,d0,d1,h⟩
theorem Bk.as{x y r p k:Value}{n m:V}(h:Bk av w x y r p k n)(z:m.AZ=n.AZ)(F:m.words=n.words)(G:m.AK=n.AK)(I:m.AT=n.AT)(J:m.kids=n.kids):Bk av w x y r p k m:=by
 refine⟨z▸h.AZ,F▸h.words,G▸h.DJ,I▸h.AT,J▸h.kids,h.ha,h.hb,h.hr,h.hk⟩
end
theorem CM{w:World}{B:Nat}{z F G c3 c4 I J K:Value}(h:Y w B 32 #[z,F,G,c3,c4,I,J,K]):w.cell? ⟨B,0,none⟩=some z/\w.cell? ⟨B,1,none⟩=some F/\w.cell? ⟨B,2,none⟩=some G/\w.cell? ⟨B,3,none⟩=some c3/\w.cell? ⟨B,4,none⟩=some c4/\w.cell? ⟨B,5,none⟩=some I/\w.cell? ⟨B,6,none⟩=some J/\w.cell? ⟨B,7,none⟩=some K/\B<w.heap.size:=
 ⟨Y.cell h 0,Y.cell h 1,Y.cell h 2,Y.cell h 3,Y.cell h 4,Y.cell h 5,Y.cell h 6,Y.cell h 7,Y.lt h⟩
theorem CK{s:List UInt8}{ts:List AY}{ns:List V}(h:BT ts s=true):AX s ts ns=.ok () ts.tail ns:=Ai h
theorem Ci{s:List UInt8}{ts:List AY}{ns:List V}(h:BT ts s=false):AX s ts ns=A3 ts:=AP (by rw[h];decide)
theorem Ra{t:AY}{r:List AY}(z:E7 (t::r)=true):t.k≠4:=by
 have h:Fj t=true:=z;unfold Fj at h;rw[GX,CN,CN]at h;rcases h with h|h
 ·have:=eq_of_beq h.1;omega
 ·have:=eq_of_beq h.1;omega
theorem N3(n:Nat)(J:Eg)(aH:Fc 5 J)(aI:Ul (fun ts=>E7 ts=true) 109 J n):Ul (fun ts=>I2 ts=true) 112 (I0 J) n:=by
 intro av base rb d ts ns w aJ G ab L;obtain⟨t,r,rfl⟩:=G.Ak.ne;have aK:t.k=1:=by
  unfold I2 at L;split at L
  ·rename_i cj ck cl e;injection e with bz cm;subst bz;rw[CN,CN,CN]at L;have ac:=L.1.1.1;unfold CE at ac;rw[CN]at ac;exact eq_of_beq ac.1
  ·cases L
 have cn:=Z G;have aL:=Z aJ;have aM:=Z (Ot G (by omega));have bA:=Z G.EG;have bB:=Z (aH d);have aN:=Z (fun av base w h a b c e=>aI av base rb d h ns w a b c e);have ai:=Z (fun av base w s h (G:CQ av base w rb h ns d)=>Mx s G);have aO:=Z (fun av base w h (G:CQ av base w rb h ns d)=>Gi G);have bC:=Z (fun av base w (t:AY) (r:List AY) (G:CQ av base w rb (t::r) ns d)=>PT G);have aP:=Z (fun t aj=>Ga t aj);have aQ:=Z (fun av base w ts ns n a b r p k G ab K=>Hg av base rb d ts ns n a b r p k w G ab K);show Calls prog 112 #[.pointer (some ⟨rb,0,none⟩)] w (Am Cg av base w rb d (I0 J d (t::r) ns));unfold I0;rw[show Xx (t::r)=t.t from rfl,List.tail_cons];obtain⟨co,h,cp⟩:=t;simp only[]at aK⊢;subst aK;obtain⟨R,ak⟩:=U (((AX Bz r ns).bind fun _ z ns=>(AX DX z ns).bind fun _ z ns=>if E7 (AG z)=true then(J d (AG z) ns).bind fun x z ns=>Ao { kind:=15,name:=h,kids:=[x] } z ns else A3 (AG z)));have aR:=Z ak;rw[ak];unfold Am IX GY sv at aM;unfold Am Cr at aO;unfold Am Cg Ao AU sv at aQ;unfold Am Cg at aN;unfold sv at ai;unfold GY sv at aP;have cq:=Jk;have bD:=Z ab;clear ak G aJ L aI aH ab;go_enter func112,ntmps112;go_wp2_with fail;refine aM.out.mono ?_;rintro e W ⟨v,rfl,rfl,M,al⟩;obtain⟨B,ad⟩:=U W.heap.size;have aS:=Z (CQ.box M (.cells #[.int .i64 15,.string ⟨h.toArray⟩,.bool false,.slice none 0 0,.slice none 0 0,.slice none 0 0,.slice none 0 0,.slice none 0 0] 32) ad);have aT:=Z (show Y (W.alloc (.cells #[.int .i64 15,.string ⟨h.toArray⟩,.bool false,.slice none 0 0,.slice none 0 0,.slice none 0 0,.slice none 0 0,.slice none 0 0] 32)) B 32 _ from by rw[<-ad];exact Y.new W 32 _);have am:=Z (al.alloc (.cells #[.int .i64 15,.string ⟨h.toArray⟩,.bool false,.slice none 0 0,.slice none 0 0,.slice none 0 0,.slice none 0 0,.slice none 0 0] 32));have bE:=Z (show w.heap.size<=B by rw[<-ad];exact al.size);have bF:=Z (show B<(W.alloc (.cells #[.int .i64 15,.string ⟨h.toArray⟩,.bool false,.slice none 0 0,.slice none 0 0,.slice none 0 0,.slice none 0 0,.slice none 0 0] 32)).heap.size by rw[BW];omega);have X:r.length+1<=n:=(by have:=bD.out;simpa using this);have bG:=Z X;have bH:=Z (show ns.length+10*r.length+10<=100000 by have:=bA.out;simp only[BR]at this;omega);have aU:=M.Ak;have aV:=Z aU;clear M al X aU;go_upto_region 2 with(fail);obtain⟨cr,aW⟩:=U (W.alloc (.cells #[.int .i64 15,.string ⟨h.toArray⟩,.bool false,.slice none 0 0,.slice none 0 0,.slice none 0 0,.slice none 0 0,.slice none 0 0] 32));rw[aW]at aS aT am bF⊢;clear aW ad;have I:=Z (ai.out _ _ _ Bz _ aS.out);unfold AX at I;obtain⟨bI,an⟩:=U (BT r Bz);rw[an]at I;have ao:=Z an;unfold Bz Am Cr at I;clear an;go_wp2_with fail;refine I.out.mono ?_;cases bI with
 |false=>
  obtain⟨t1,N,rfl⟩:=aV.out.ne;rintro e bJ ⟨rfl,K⟩;refine AS rfl ?_;rw[<-aR.out,Ci ao.out];exact(⟨rfl,am.out.trans K.unbox⟩:_/\_)
 |true=>
  obtain⟨ap,aq⟩:=BD aV.out ao.out;have ar:=Z (show((AX DX r.tail ns).bind fun _ z ns=>if E7 (AG z)=true then(J d (AG z) ns).bind fun x z ns=>Ao { kind:=15,name:=h,kids:=[x] } z ns else A3 (AG z))=R by rw[<-aR.out,CK ao.out];rfl);rintro e bJ ⟨v,rfl,rfl,aX,au⟩;have aY:=Z aX;have bK:=Z (au.EO aT.out);have aZ:=Z (am.out.trans au.unbox);obtain⟨N,M⟩:=U r.tail;rw[M]at ap aq ar aY;have a0:=Z ap;have bL:=Z aq;clear aX au ap aq M;have ae:=Z (ai.out _ _ _ DX _ aY.out);unfold AX at ae;obtain⟨bM,aw⟩:=U (BT N DX);rw[aw]at ae;have ax:=Z aw;unfold DX Am Cr at ae;clear aw;go_wp2_with fail;refine ae.out.mono ?_;cases bM with
  |false=>
   obtain⟨t1,a1,rfl⟩:=a0.out.ne;rintro e bN ⟨rfl,K⟩;refine AS rfl ?_;rw[<-ar.out,Ci ax.out];exact(⟨rfl,aZ.out.trans K.unbox⟩:_/\_)
  |true=>
   obtain⟨a2,bO⟩:=BD a0.out ax.out;have ay:=Z (show(if E7 (AG N.tail)=true then(J d (AG N.tail) ns).bind fun x z ns=>Ao { kind:=15,name:=h,kids:=[x] } z ns else A3 (AG N.tail))=R by rw[<-ar.out,CK ax.out];rfl);rintro e bN ⟨v,rfl,rfl,a3,az⟩;have bP:=Z a3;have bQ:=Z (az.EO bK.out);have bR:=Z (aZ.out.trans az.unbox);have aA:=Ae a2;have I:=Z (aO.out _ _ _ _ bP.out);obtain⟨a1,a4⟩:=U (AG N.tail);rw[a4]at aA I ay;have a5:=Z (show a1.length+2<=r.length by have:=bL.out;omega);have bS:=Z aA.1;clear a3 az a2 bO aA a4;go_wp2_with fail;refine I.out.mono ?_;rintro e ct ⟨v,rfl,rfl,a6,aB⟩;have a7:=Z a6;have bT:=Z (aB.EO bQ.out);have bU:=Z (bR.out.trans aB.unbox);clear a6 aB;obtain⟨cu,cv,t5,af,cw,cx,cy,rfl,rfl,a8,bV,a9,a',ba,bW,bb,d15,bX⟩:=a7.out.head;have bc:(0:Int)<(((t5::af).length:Nat):Int):=(by simp only[BR];omega);have aC:=Z (fun aj=>aP.out t5 aj);obtain⟨bd,aD⟩:=U (Fj t5);rw[aD]at aC;have aE:=Z (show E7 (t5::af)=bd from aD);obtain⟨cz,be⟩:=U ((t5::af).length);rw[be]at bb bc a8;clear bX be aD;obtain⟨bY,bZ,b0⟩:=t5;simp only[]at a9 a' ba aC;go_wp2_with fail;refine(aC.out _).mono ?_;rintro e b1 ⟨rfl,ag⟩;have bf:=Z (a7.out.grown ag);have b2:=Z (Y.grown bT.out ag (by simp));have aa:=Z (bU.out.trans (Fr.AL ag));clear ag bb d15 bW a9 a' ba bV a8 bc;cases bd with
   |false=>
    go_wp2_with fail;refine(bC.out _ _ _ _ _ bf.out).mono ?_;rintro e F ⟨rfl,b3⟩;refine AS rfl ?_;rw[<-ay.out,aE.out];exact(⟨rfl,aa.out.trans (Fr.AL b3)⟩:_/\_)
   |true=>
    have bg:∀k,av k->k<b1.heap.size:=fun k hk=>DZ (aL.out k hk) aa.out.size
    have I:=Z (aN.out _ _ _ _ bg bf.out (by have:=a5.out;have:=bG.out;omega) aE.out);obtain⟨bh,aF⟩:=U (J d (⟨bY,bZ,b0⟩::af) ns);rw[aF]at I;have bi:=Z aF;have bj:=Z (show(bh.bind fun x z ns=>Ao { kind:=15,name:=h,kids:=[x] } z ns)=R by rw[<-ay.out,aE.out,bi.out];rfl);clear aF bg;go_wp2_with fail;refine I.out.mono ?_;cases bh with
    |bad a e=>
     rintro e F ⟨rfl,K⟩;refine AS rfl ?_;rw[<-bj.out];exact(⟨rfl,aa.out.trans K.unbox⟩:_/\_)
    |ok x T b4=>
     rintro e F ⟨v,rfl,rfl,bk,ah⟩;have bl:=bB.out _ _ _ _ _ bS.out bi.out;have b5:=Z (show b4.length+1+10*T.length<=100000 by have ac:=bl.EG;have cA:=a5.out;have cB:=bH.out;omega);have aG:=ah.EO b2.out;have bm:=bk.grown (AF (AB F none) (.cells #[.int .i64 x] 3));have O:=aG.alloc (.cells #[.int .i64 x] 3);have bn:=O.AO;have bo:=bm.IQ (fun e=>e.2 rfl) bn 7 (.slice (some ⟨F.heap.size,0,none⟩) 1 1);have bp:Y _ B 32 #[.int .i64 15,.string ⟨h.toArray⟩,.bool false,.slice none 0 0,.slice none 0 0,.slice none 0 0,.slice none 0 0,.slice (some ⟨F.heap.size,0,none⟩) 1 1]:=Y.AW O 7 (.slice (some ⟨F.heap.size,0,none⟩) 1 1);have bq:Fr base w ((F.alloc (.cells #[.int .i64 x] 3)).setCell ⟨B,7,none⟩ (.slice (some ⟨F.heap.size,0,none⟩) 1 1)):=Fr.NM ((aa.out.trans ah.unbox).alloc _) bE.out 7 _;have b6:=Y.lt O;have b7:=Y.frozen O 7;have b8:(F.alloc (.cells #[.int .i64 x] 3)).cell? ⟨B,7,none⟩=some (.slice none 0 0):=Y.cell O 7;have br:Y ((F.alloc (.cells #[.int .i64 x] 3)).setCell ⟨B,7,none⟩ (.slice (some ⟨F.heap.size,0,none⟩) 1 1)) F.heap.size 3 #[.int .i64 x]:=Y.Bi (Y.new F 3 _) (p:=⟨B,7,none⟩) (by have:=Y.lt aG;show F.heap.size≠B;omega) _;have bs:=Z (Bk.as (m:= { kind:=15,name:=h,kids:=[x] }) (JG (av:=av) (l:=[x]) (by simp) br (fun k hk=>DZ (aL.out k hk) (aa.out.trans ah.unbox).size) 15 (by simp)) rfl rfl rfl rfl rfl);have bt:=Z bo;have bu:=Z bp;have bv:=Z bq;have bw:=Z (aQ.out _ _ _ _ _ _ _ _ _ _ _ bt.out bs.out b5.out);clear bk ah bl aG bm O bn bo bp bq br;go_upto_region 8 with(fail);generalize (F.alloc (.cells #[.int .i64 x] 3)).setCell ⟨B,7,none⟩ (.slice (some ⟨F.heap.size,0,none⟩) 1 1)=cC at bt bu bv bw bs⊢;obtain⟨b9,b',ca,cb,cc,cd,ce,cf,cg⟩:=CM bu.out;clear b7 b8 b6;go_wp2_with fail;refine bw.out.mono ?_;rintro e cD ⟨v,rfl,rfl,X,bx⟩;have ch:=Z X.unbox;have ci:=Z (bv.out.trans bx.unbox);clear X bx b9 b' ca cb cc cd ce cf cg;go_wp2_with fail;rw[<-bj.out];go_ret;exact⟨_,rfl,rfl,ch.out,ci.out⟩
theorem Oi(n:Nat)(F:Eg)(aX:Fc 5 F)(au:Ul (fun ts=>E7 ts=true) 109 F n):RG 97 (FW F) n:=by
 have aY:=N3 n F aX au;intro av base rb d ts ns w aZ N a0;have aw:=Z N;have ax:=Z aZ;have br:=Z (MQ _ n _ (I0 F) (fun _ _=>rfl) aY);have bs:=Z (fun t h=>Ga t h);have bt:=Z (fun t h N=>MO t h N);have bu:=Z (fun s h=>Hq s h);have bO:∀(fn:Fn) (first ay:Array Value) (w:World),(Instr.makeFunc fn first ay).run prog w=.ok (.func fn first ay) w:=fun _ _ _ _=>rfl
 have a1:=Z (fun w a b c e=>au av base rb d ts ns w a b c e);have bv:=Z (fun w a b=>UL av base rb d ts ns w a b);show Calls prog 97 #[.pointer (some ⟨rb,0,none⟩)] w (Am Cg av base w rb d (FW F d ts ns));unfold FW;have a2:=N.Ak;obtain⟨vt,vn,t,r,g,a3,ay,rfl,rfl,a4,bw,az,aA,aB,lb,d0,d1,aC⟩:=N.head;have a5:=Z aC;have bx:(0:Int)<(((t::r).length:Nat):Int):=(by simp only[BR];omega);have O:=Z (fun h=>bs.out t h);have bz:=(aC.Lc t (En ..)).1;have ai:=Z (fun h=>bt.out t h (by omega));have aj:=Z (fun h=>bu.out t.t h);obtain⟨a6,aD⟩:=U (Fj t);rw[aD]at O;have ak:=Z (show E7 (t::r)=a6 from aD);obtain⟨aE,aF⟩:=U (CE t);rw[aF]at ai;have a7:=Z aF;obtain⟨a8,aG⟩:=U (Df t.t);rw[aG]at aj;have bA:=Z aG;unfold GY sv at O ai;unfold sv at aj;have aH:=Z a0;have bB:=Z a2;obtain⟨bC,aI⟩:=U ((t::r).length);have a9:=Z aI;rw[aI]at d0 bx a4;clear aZ N aC aD aF aG a0 a2 bz aI aY au aX;cases a6 with
 |true=>
  rw[Ai ak.out];have bD:=Z (a1.out w ax.out aw.out aH.out ak.out);obtain⟨bE,aJ⟩:=U (F d (t::r) ns);rw[aJ];have bF:=Z aJ;clear aJ bD;obtain⟨z,G,I⟩:=t;simp only[]at az aA aB O;go_enter func97,ntmps97;go_wp2_with fail;refine(O.out _).mono ?_;rintro e a' ⟨rfl,M⟩;have W:=Z (AI (AF (AB w none) _) M);have ba:=Z (a1.out a' (fun k hk=>DZ (ax.out k hk) W.out.size) (aw.out.grown W.out) aH.out ak.out);rw[bF.out]at ba;clear M;go_wp2_with fail;refine ba.out.mono ?_;cases bE with
  |bad a e=>
   unfold Am;rintro e X ⟨rfl,af⟩;exact AS rfl ⟨rfl,(Fr.AL W.out).trans af⟩
  |ok x T bb=>
   unfold Am Cg;rintro e X ⟨v,rfl,rfl,J,K⟩;have ag:=Z J;have ah:=Z ((Fr.AL W.out).trans K);clear J K;go_wp2_with fail;go_ret;exact⟨_,rfl,rfl,ag.out,ah.out⟩
 |false=>
  rw[AP (by rw[ak.out];decide)];obtain⟨R,aK⟩:=U ((if I2 (t::r)=true then B1 (I0 F) d (t::r) ns else Iz (t::r) ns));have bc:=Z aK;rw[aK];clear aK;have aa:I2 (t::r)=(aE&&(!a8&&(match r with|u::_=>(u.k==2&&u.t==Bz)|[]=>false))):=by
   cases r with
   |nil=>simp[I2]
   |cons u r=>simp[I2,a7.out,bA.out,Bool.and_assoc]
  have ab:=Z aa;clear aa;have bd:=Z (show aE=true->t.k=1 from fun e=>by
   have al:=a7.out;rw[e]at al;unfold CE at al;rw[CN]at al;exact eq_of_beq al.1)
  have be:∀u ac,r=u::ac->(w.cell? ⟨g,a3+3,none⟩=some (.int .i64 u.k)/\w.cell? ⟨g,a3+4,none⟩=some (.string ⟨u.t.toArray⟩)):=fun u ac e=>by
   subst e;have:=a5.out.two;exact⟨this.1,this.2.1⟩
  have bG:=Z be;clear be;have aL:=Z (by have:=a5.out;exact(this:CB av base w rb _ vn (t::r) ns d));obtain⟨z,G,I⟩:=t;simp only[]at az aA aB O ai aj;go_enter func97,ntmps97;go_wp2_with fail;refine(O.out _).mono ?_;rintro e a' ⟨rfl,M⟩;obtain⟨am,an,ao,aM⟩:=Pb (t:=⟨z,G,I⟩) M;simp only[]at am an ao;have bf:=Z M;have W:=Z (AI (AF (AB w none) _) M);obtain⟨bP,aN⟩:=U w.heap.size;rw[aN]at am an ao aM;clear M d0 d1 lb az aA aB bw a4;go_upto_region 4 with(fail);go_cut [15] (fun bH bI=>bH=.bool (I2 (⟨z,G,I⟩::r))/\w.grownBy bI none);case first=>
   go_wp2_with fail;refine(ai.out _).mono ?_;rintro e X ⟨rfl,ap⟩;have bg:=Z (AI W.out ap);obtain⟨aO,aP,aQ,bh⟩:=Pb (t:=⟨z,G,I⟩) (AI bf.out ap);simp only[]at aO aP aQ;rw[aN]at aO aP aQ bh;have bQ:=Z (AI bf.out ap);clear ap am an ao aM;cases aE with
   |false=>
    go_wp2_with fail;go_meet;exact⟨by rw[ab.out];rfl,bg.out⟩
   |true=>
    go_wp2_with fail;refine(aj.out _).mono ?_;rintro e bR ⟨rfl,bi⟩;have L:=Z (AI bg.out bi);cases a8 with
    |true=>
     go_wp2_with fail;go_meet;exact⟨by rw[ab.out];rfl,L.out⟩
    |false=>
     obtain⟨u,ac,rfl⟩:=(bB.out.tail (by have:z=1:=(by first|exact bd.out rfl|exact bd.out trivial);show z≠4;omega)).ne;obtain⟨bj,bk⟩:=bG.out u ac rfl;have aR:=Own.lt aL.out.tok (by rfl);have bJ:=AH L.out aR bj;have bK:=AH L.out aR bk;have aS:=aL.out.grown L.out;obtain⟨bL,bS,_⟩:=aS.cells;have bT:=Y.lt aS.BF;have bM:=aL.out.tok.form;have bU:(1:Int)<(bC:Int):=(by rw[<-a9.out];simp only[BR];omega);have bV:=DZ aR L.out.size;rw[a9.out]at bL;obtain⟨aq,ar,bl⟩:=u;simp only[]at bJ bK ab;clear bj bk aS bM bi aO aP aQ bh;by_cases bm:aq=2
     ·subst bm;by_cases bn:ar=[40]
      ·subst bn;go_wp2_with fail;go_meet;exact⟨by rw[ab.out];rfl,L.out⟩
      ·have bN:(ar==[40])=false:=Bd bn;have aT:=Z (show I2 (⟨z,G,I⟩::⟨2,ar,bl⟩::ac)=false by rw[ab.out];simp only[Bz,bN];rfl);go_wp2_with fail;go_meet;exact⟨by rw[aT.out],L.out⟩
     ·have bW:((aq:Int)==2)=false:=(by rw[A4];omega);have aT:=Z (show I2 (⟨z,G,I⟩::⟨aq,ar,bl⟩::ac)=false by rw[ab.out];simp only[show(aq==2)=false from Bd bm];rfl);go_wp2_with fail;go_meet;exact⟨by rw[aT.out],L.out⟩
  case rest=>
   obtain⟨rfl,bo⟩:=hcut;have ad:=Z bo;have bp:=Z (fun k (hk:av k)=>DZ (ax.out k hk) ad.out.size);have bq:=Z (aw.out.grown ad.out);obtain⟨aU,aa⟩:∃aU,I2 (⟨z,G,I⟩::r)=aU:=⟨_,rfl⟩;have aV:=Z aa;simp only[aa];clear bo aa am an ao aM aN;cases aU with
   |true=>
    have ae:=Z (br.out av base rb d _ ns wc bp.out bq.out aH.out aV.out);have aW:=Z (show B1 (I0 F) d (⟨z,G,I⟩::r) ns=R from(Ai aV.out).symm.trans bc.out);rw[aW.out]at ae;unfold fv at ae;go_wp2_with fail;refine ae.out.mono ?_;cases R with
    |bad a e=>
     unfold Am;rintro e X ⟨rfl,af⟩;exact AS rfl ⟨rfl,(Fr.AL ad.out).trans af⟩
    |ok x T bb=>
     unfold Am Cg;rintro e X ⟨v,rfl,rfl,J,K⟩;have ag:=Z J;have ah:=Z ((Fr.AL ad.out).trans K);clear J K;go_wp2_with fail;go_ret;exact⟨_,rfl,rfl,ag.out,ah.out⟩
   |false=>
    have ae:=Z (bv.out wc bp.out bq.out);have aW:=Z (show Iz (⟨z,G,I⟩::r) ns=R from(AP (by rw[aV.out];decide)).symm.trans bc.out);rw[aW.out]at ae;go_wp2_with fail;refine ae.out.mono ?_;cases R with
    |bad a e=>
     unfold Am;rintro e X ⟨rfl,af⟩;exact AS rfl ⟨rfl,(Fr.AL ad.out).trans af⟩
    |ok x T bb=>
     unfold Am Cg;rintro e X ⟨v,rfl,rfl,J,K⟩;have ag:=Z J;have ah:=Z ((Fr.AL ad.out).trans K);clear J K;go_wp2_with fail;go_ret;exact⟨_,rfl,rfl,ag.out,ah.out⟩
end
end Go.Proofs.YtdhfhphbkfgamaaGreat
