/- PrintTells: a part of its proof. -/
import Derived.Test.YtdhfhphbkfgamaaGreatPm
set_option maxRecDepth 100000
set_option maxHeartbeats 64000000
namespace Go.Proofs.YtdhfhphbkfgamaaGreat
section
open Go.RowKit Lx
theorem B8.Qk {av:Nat→Prop} {base:Nat→Prop} {rb d:Nat} {w:World} {vt vn:Value} {ts:List AX} {ns:List V} (h:B8 av base w rb vt vn ts ns d) (z:Nat) (F:z≤26) {x:Int} (hx:x=z):B8 av base (w.setCell ⟨rb,2,none⟩ (.int .i64 x)) rb vt vn ts ns z:=by
 subst hx;have G:vt.ownBlock≠some rb:=fun e=>by
  have:=(Own.AN h.tok e).uniq h.BD.AN;exact Ai this (by decide)
 exact⟨Y.AV h.BD 2 _,h.tok.Be (p:=⟨rb,2,none⟩) G _,h.Mo.Be (p:=⟨rb,2,none⟩) h.lo.at_ h.BD.AN,h.new,h.lo.size (by rw[World.size_setCell];exact BL _),h.Aj,h.Dy,F,h.Kx⟩
def Tr (pre:List AX→Prop) (fn:FuncId) (spec:EO) (n:Nat):Prop:= ∀(av:Nat→Prop) (base:Nat→Prop) (rb d:Nat) (ts:List AX) (ns:List V) (w:World),(∀k,av k→k<w.heap.size)→CM av base w rb ts ns d→ts.length≤n→pre ts→
 Calls Tryz.prog fn #[.pointer (some ⟨rb,0,none⟩)] w (Al CZ av base w rb d (spec d ts ns))
def fv (fn:FuncId) (rb:Nat):Value:=.func (.func fn) #[.pointer (some ⟨rb,0,none⟩)] #[]
theorem Ll (pre:List AX→Prop) (n:Nat) (fn:FuncId) (spec:EO) (aB: ∀args w,Sem.run Tryz.prog (callFunc fn args) w=.ok (.enter fn args) w) (M:Tr pre fn spec n) (av:Nat→Prop) (base:Nat→Prop) (rb d:Nat) (ts:List AX) (ns:List V) (w:World) (N: ∀k,av k→k<w.heap.size) (h:CM av base w rb ts ns d) (af:ts.length≤n) (ag:pre ts):
  Calls Tryz.prog 111 #[.pointer (some ⟨rb,0,none⟩),fv fn rb] w (Al CZ av base w rb d (Bw spec d ts ns)):=by
 obtain⟨vt,vn,h⟩:=h;have aC:=Z h;have ah:=Z N;have aD:=h.dep;obtain⟨t,r,g,aE,aF,rfl,rfl,I,ai,aj,ak,al⟩:=h.head;obtain⟨J,am,an⟩:=h.cells;have lb:=Y.lt h.BD;have ao:=Y.frozen h.BD 2;have K:(0:Int)<(((t::r).length:Nat):Int):=(by simp only[BP];omega);obtain⟨O,F⟩: ∃O,(t::r).length=O:=⟨_,rfl⟩;unfold Bw fv;by_cases G:24<d
 ·have q:decide ((24:Int)<(d:Int))=true:=At (by omega);rw[Ah G];unfold Al;simp only[];rw[F]at J K I;clear h F G;go_enter Tryz.func111,Tryz.ntmps111;go_wp2_with fail;exact AR rfl ⟨rfl,Fr.refl base w⟩
 ·have q:decide ((24:Int)<(d:Int))=false:=Aq (by omega);rw[U G];have aG:d≤24:=(by omega);have ap:=Z (B8.Qk h (d+1) (by omega) (x:=(d:Int)+1) (by omega));have W:=Z (h.SS 2 (.int .i64 ((d:Int)+1)));have aq:=Z (show(w.setCell ⟨rb,2,none⟩ (.int .i64 ((d:Int)+1))).heap.size=w.heap.size from World.size_setCell ..);have X:=Z (M av base rb (d+1) (t::r) ns _ (fun k hk=>by have:=aq.out;have:=ah.out k hk;omega) ⟨_,_,ap.out⟩ af ag);obtain⟨L,aa⟩: ∃L,spec (d+1) (t::r) ns=L:=⟨_,rfl⟩;rw[aa]at X⊢;rw[F]at J K I;have ar:(d:Int)+1≤9223372036854775807:=(by omega);clear h F G aa M N;go_enter Tryz.func111,Tryz.ntmps111;go_wp2_with fail;refine X.out.mono ?_;cases L with
  |bad a e=>
   unfold Al;simp only[];rintro e au ⟨rfl,aw⟩;exact AR rfl ⟨rfl,W.out.trans aw⟩
  |ok x T aH=>
   unfold Al CZ;simp only[];rintro e au ⟨v,rfl,rfl,⟨aI,aJ,z⟩,ab⟩;have aK:=Z z;have ax:=Z (W.out.trans ab);obtain⟨aL,aM,ay⟩:=z.cells;have aN:=Y.lt z.BD;have aO:=Y.frozen z.BD 2;have ac:=Z (B8.Qk z d (by omega) (x:=(((d+1:Nat):Int))-1) (by omega));have ad:=Z (ax.out.trans (z.SS 2 (.int .i64 ((((d+1:Nat):Int))-1))));have az:(1:Int)≤((d+1:Nat):Int):=(by omega);have aA:((d+1:Nat):Int)≤30:=(by omega);obtain⟨D1,ae⟩: ∃D1,d+1=D1:=⟨_,rfl⟩;rw[ae]at ay az aA ac ad;clear z ab J am an lb ao aj ak al ae q ar I ai K;go_wp2_with fail;go_ret;exact⟨_,rfl,rfl,⟨_,_,ac.out⟩,ad.out⟩
section
variable {av:Nat→Prop} {base:Nat→Prop} {rb d:Nat} {w w':World} {vt vn v:Value} {ts:List AX} {ns:List V}
theorem II (ns:List V) (m:Nat) (l:List Rd) (i:Nat) (h:i<(Dd ns m l).length) (z:i<ns.length):(Dd ns m l)[i]=if m=i then { ns[i]with AK:=l } else ns[i]:=by
 simp[Dd,List.getElem_modify]
theorem Vh {h:List Value} {n i m:Nat} (I:h.length=n*8) (J:i<n) (u:Value):((h.set (m*8+5) u).drop (i*8)).take 8=if m=i then((h.drop (i*8)).take 8).set 5 u else(h.drop (i*8)).take 8:=by
 apply List.ext_getElem?;intro j;rw[List.getElem?_take,List.getElem?_drop];by_cases z:j<8
 ·rw[Ah z,List.getElem?_set];by_cases F:m=i
  ·subst F;rw[Ah rfl];by_cases G:j=5
   ·subst G;rw[Ah (by omega),Ah (by omega),List.getElem?_set,Ah rfl,Ah (by rw[List.length_take,Dq];omega)]
   ·rw[U (by omega),List.getElem?_set,U (by omega),List.getElem?_take,Ah z,List.getElem?_drop]
  ·rw[U F,U (by omega),List.getElem?_take,Ah z,List.getElem?_drop]
 ·rw[U z];split
  ·rw[List.getElem?_eq_none (by rw[List.length_set,List.length_take];omega)]
  ·rw[List.getElem?_eq_none (by rw[List.length_take];omega)]
theorem Cm.MZ {g F L m:Nat} (X:Cm av w (.slice (some ⟨g,F,none⟩) ns.length L) ns) (al:m<ns.length) {l:List Rd} (aa:I4 w v l) (J:Av av v):Cm av (w.setCell ⟨g,F+m*8+5,none⟩ v) (.slice (some ⟨g,F,none⟩) ns.length L) (Dd ns m l):=by
 obtain⟨ab,K,ac⟩:=X;have M:(Dd ns m l).length=ns.length:=EN _ _ _;have ad:Bk w g 32:=Own.AN K rfl;have ae:Az (fun k=>k=g) w (w.setCell ⟨g,F+m*8+5,none⟩ v):=Az.setCell (S:=fun k=>k=g) (Az.refl _ w) (p:=⟨g,F+m*8+5,none⟩) (.inl rfl) v;have hk: ∀ {e:TypeId} {s n k:Nat} {u:Value} {xs:List Value},Own w e s u n xs k→e≠32→Own (w.setCell ⟨g,F+m*8+5,none⟩ v) e s u n xs k:=fun N af=>N.Bl ae fun b ag e=>af ((Own.AN N ag).uniq (e▸ad))
 have O:=Own.set K (m*8+5) (by omega) v;rw[←Nat.add_assoc]at O;refine⟨ab.set (m*8+5) v,by rw[M];exact O,fun i z=>?_⟩;have G:i<ns.length:=(by rw[M]at z;exact z);obtain⟨a,b,r,p,k,e,h⟩:=ac i G;have W:NP av (w.setCell ⟨g,F+m*8+5,none⟩ v) p (ns[i]).AS:=by
  obtain⟨ps,ah,ai,aj⟩:=h.AS;exact⟨ps,hk ah (by decide),ai,fun i z=>by obtain⟨u,ak,hs,J⟩:=aj i z;exact⟨u,ak,hk hs (by decide),J⟩⟩
 rw[Vh K.len G];by_cases I:m=i
 ·subst I;refine⟨a,b,v,p,k,?_,?_⟩
  ·rw[Ah rfl,e,II _ _ _ _ z G,Ah rfl];rfl
  ·rw[II _ _ _ _ z G,Ah rfl];exact⟨hk h.AY (by decide),hk h.words (by decide),hk aa (by decide),W,hk h.kids (by decide),h.ha,h.hb,J,h.hk⟩
 ·refine⟨a,b,r,p,k,?_,?_⟩
  ·rw[U I,e,II _ _ _ _ z G,U I]
  ·rw[II _ _ _ _ z G,U I];exact⟨hk h.AY (by decide),hk h.words (by decide),hk h.DB (by decide),W,hk h.kids (by decide),h.ha,h.hb,h.hr,h.hk⟩
theorem B8.MZ {g z G m:Nat} (h:B8 av base w rb vt (.slice (some ⟨g,z,none⟩) ns.length G) ts ns d) (I:m<ns.length) {l:List Rd} (J:I4 w v l) (K:Av av v):B8 av base (w.setCell ⟨g,z+m*8+5,none⟩ v) rb vt (.slice (some ⟨g,z,none⟩) ns.length G) ts (Dd ns m l) d∧Fr base w (w.setCell ⟨g,z+m*8+5,none⟩ v):=by
 obtain⟨N,L,_⟩:=h.Mo;have F:Bk w g 32:=Own.AN L rfl;have M:rb≠g:=fun e=>Ai ((e▸h.BD.AN).uniq F) (by decide)
 refine⟨⟨Y.Be h.BD (p:=⟨g,z+m*8+5,none⟩) M _,h.tok.Be (p:=⟨g,z+m*8+5,none⟩) (fun e=>Ai ((Own.AN h.tok e).uniq F) (by decide)) _,?_,h.new,h.lo.size (by rw[World.size_setCell];exact BL _),h.Aj,by rw[EN];exact h.Dy,h.dep,h.Kx⟩,(Fr.refl base w).set (p:=⟨g,z+m*8+5,none⟩) (h.new g rfl) (.inr F) _⟩;exact h.Mo.MZ I J K
end
theorem NR (n:Nat) (core:EO) (az:FF 5 core) (aA:Tr (fun ts=>El ts=true) 120 core n):Tr (fun ts=>El ts=true) 109 (Ez core) n:=by
 intro av base rb d ts ns w G I aB aC;have aD:=Z G;have J:=Z (Ll _ n _ core (fun _ _=>rfl) aA av base rb d ts ns w G I aB aC);have O:=Kl az d ts ns;show Calls Tryz.prog 109 #[.pointer (some ⟨rb,0,none⟩)] w (Al CZ av base w rb d (Ez core d ts ns));unfold Ez;obtain⟨W,K⟩: ∃W,Bw core d ts ns=W:=⟨_,rfl⟩;rw[K]at J⊢;have aS: ∀(fn:Fn) (first X:Array Value) (w:World),(Instr.makeFunc fn first X).run Tryz.prog w=.ok (.func fn first X) w:=fun _ _ _ _=>rfl
 unfold Al CZ fv at J;cases W with
 |bad a e=>
  rw[PR.Ku];unfold Al;simp only[];clear G I K O;go_enter Tryz.func109,Tryz.ntmps109;go_wp2_with fail;refine J.out.mono ?_;rintro e aj ⟨rfl,aE⟩;exact AR rfl ⟨rfl,aE⟩
 |ok x T h=>
  have aa:=O x T h I.Aj K;rw[PR.Bj];have aF:=aa.more;obtain⟨m,ak⟩: ∃m,h.length=m+1:=⟨h.length-1,by omega⟩;obtain rfl:x=(m:Int):=by rw[aa.last];omega
  have z:=Z ak;obtain⟨R,ab⟩: ∃R,((CW T h).bind fun l ts ns=>(.ok (m:Int) ts (Dd ns m l):PR Int))=R:=⟨_,rfl⟩;have al:=Z ab;rw[ab];clear G I K O aa ak aF ab;go_enter Tryz.func109,Tryz.ntmps109;go_wp2_with fail;refine J.out.mono ?_;rintro e aj ⟨v,rfl,rfl,⟨aG,aH,L⟩,am⟩;have ac:=Z (J7 av base rb d aH T h aj ⟨aG,L⟩);obtain⟨ad,ae⟩: ∃ad,CW T h=ad:=⟨_,rfl⟩;rw[ae]at ac;have an:=Z L;have af:=Z am;unfold Bo Mv at ac;have aI:=Z L.Aj;have ag:=Z ae;clear L am ae;go_wp2_with fail;refine ac.out.mono ?_;cases ad with
  |bad a e=>
   rintro e ao ⟨rfl,M⟩;refine AR rfl ?_;rw[←al.out,ag.out];exact(⟨rfl,af.out.trans (an.out.Ko M)⟩:_∧_)
  |ok l aJ ap=>
   obtain⟨_,rfl,_⟩:=Dg aI.out ag.out;rintro e ao ⟨v,rfl,⟨ah,aq⟩,⟨aT,F⟩,M⟩;have aK:=Z (show R=.ok (m:Int) aJ (Dd ap m l) by rw[←al.out,ag.out];rfl);obtain⟨ar,N,_⟩:=F.Mo;obtain⟨g,aL,X,rfl,aM,_,aU,au⟩:=N.some_ (by have:=z.out;omega);obtain⟨aV,aW,rfl,_,_⟩:=Own.form ah;have aw:=Z (B8.MZ (m:=m) F (by have:=z.out;omega) ah (fun b aN hk=>by have aX:=aq b aN;have aY:=aD.out b hk;have aZ:=af.out.size;omega));have aO:=Z (af.out.trans (an.out.Ko M));obtain⟨a0,aP,a1⟩:=F.cells;have a2:=Y.lt F.BD;have aQ:=Own.frozen0 N (m*8+5);obtain⟨u5,a3⟩: ∃u5,ao.cell? ⟨g,aL+m*8+5,none⟩=some u5:=by
    have ax:=au (m*8+5) (by have:=z.out;omega);rw[←Nat.add_assoc]at ax;rw[ax];have aR:m*8+5<ar.length:=(by rw[N.len];have:=z.out;omega);exact⟨ar[m*8+5],List.getElem?_eq_getElem aR⟩
   rw[←Nat.add_assoc]at aQ;obtain⟨ai,ay⟩: ∃ai,ap.length=ai:=⟨_,rfl⟩;have a4:(0:Int)≤(m:Int):=(by omega);have a5:(m:Int)<(ai:Int):=(by have:=z.out;omega);rw[ay]at aP aM;clear ah aq F M N au ay;go_wp2_with fail;rw[aK.out];go_ret;exact⟨_,rfl,rfl,⟨_,_,aw.out.1⟩,aO.out.trans aw.out.2⟩
end
section
open Go.RowKit Lx
def Bx (base:Nat→Prop) (B:Nat):Nat→Prop:=fun k=>base k∧k≠B
section
variable {av:Nat→Prop} {base:Nat→Prop} {rb d B:Nat} {w w' a b:World} {vt vn v:Value} {ts:List AX} {ns:List V}
theorem CM.box (h:CM av base w rb ts ns d) (o:Obj) (G:w.heap.size=B):CM av (Bx base B) (w.alloc o) rb ts ns d:=by
 subst G;obtain⟨vt,vn,h⟩:=h;obtain⟨J,I,_⟩:=h.Mo;have z:=h.grown (AF (AB w none) o);exact⟨vt,vn,z.BD,z.tok,z.Mo,fun b F=>⟨h.new b F,by have:=Own.lt I F;omega⟩,⟨⟨h.lo.at_,by have:=Y.lt h.BD;omega⟩,fun k hk=>by rw[World.size_alloc]at hk;exact⟨h.lo.up k (by omega),by omega⟩⟩,z.Aj,z.Dy,z.dep,z.Kx⟩
theorem CM.unbox (h:CM av (Bx base B) w rb ts ns d):CM av base w rb ts ns d:=by
 obtain⟨vt,vn,h⟩:=h;exact⟨vt,vn,h.RU fun k hk=>hk.1⟩
theorem Fr.unbox (h:Fr (Bx base B) a b):Fr base a b:=h.RU fun k hk=>hk.1
theorem Fr.D8 (z:Fr (Bx base B) a b) {T:TypeId} {h:Array Value} (F:Y a B T h):Y b B T h:=z.low F (fun e=>e.2 rfl)
theorem CM.ID (h:CM av base w rb ts ns d) (G: ¬base B) (K:Bk w B 32) (j:Nat) (u:Value):CM av base (w.setCell ⟨B,j,none⟩ u) rb ts ns d:=by
 obtain⟨vt,vn,h⟩:=h;obtain⟨L,M,N⟩:=h.Mo;have O:Az (fun k=>k=B) w (w.setCell ⟨B,j,none⟩ u):=Az.setCell (S:=fun k=>k=B) (Az.refl _ w) (p:=⟨B,j,none⟩) (.inl rfl) u;have hk: ∀ {e:TypeId} {s n k:Nat} {I:Value} {xs:List Value},Own w e s I n xs k→e≠32→Own (w.setCell ⟨B,j,none⟩ u) e s I n xs k:=fun J W=>J.Bl O fun b X e=>W ((Own.AN J X).uniq (e▸K))
 refine⟨vt,vn,Y.Be h.BD (p:=⟨B,j,none⟩) (fun e=>G (by have e':rb=B:=e;rw[←e'];exact h.lo.at_)) _,hk h.tok (by decide),?_,h.new,h.lo.size (by rw[World.size_setCell];exact BL _),h.Aj,h.Dy,h.dep,h.Kx⟩;refine⟨L,M.Be (p:=⟨B,j,none⟩) (fun e=>G (h.new B e)) _,fun i F=>?_⟩;obtain⟨a,b,r,p,k,e,z⟩:=N i F;refine⟨a,b,r,p,k,e,hk z.AY (by decide),hk z.words (by decide),hk z.DB (by decide),?_,hk z.kids (by decide),z.ha,z.hb,z.hr,z.hk⟩;obtain⟨ps,aa,ab,ac⟩:=z.AS;exact⟨ps,hk aa (by decide),ab,fun i F=>by obtain⟨u,ad,hs,ae⟩:=ac i F;exact⟨u,ad,hk hs (by decide),ae⟩⟩
theorem Fr.NU (h:Fr base a b) (z:a.heap.size≤B) (j:Nat) (u:Value):Fr base a (b.setCell ⟨B,j,none⟩ u):=h.new (p:=⟨B,j,none⟩) z u
theorem Nz {t:AX} {r:List AX} (h:CM av base w rb (t::r) ns d) (hk:t.k≠4):Calls Tryz.prog 61 #[.pointer (some ⟨rb,0,none⟩)] w (Al Gw av base w rb d (.ok t r ns)):=by
 obtain⟨vt,vn,h⟩:=h;exact(EU av base rb d vt vn t r ns w h hk).mono fun e w' z=>Bo.g h z
theorem O7 {t:AX} {r:List AX} (h:CM av base w rb (t::r) ns d):Calls Tryz.prog 31 #[.pointer (some ⟨rb,0,none⟩)] w fun e w'=>e=.panicked [Fk t.a (if t.k=4 then 23 else 17)]∧w.grownBy w' none:=by
 obtain⟨vt,vn,h⟩:=h;exact Fa av base rb d vt vn t r ns w h
theorem CM.head (h:CM av base w rb ts ns d): ∃vt vn t r g z F,ts=t::r∧vt=.slice (some ⟨g,z,none⟩) ts.length F∧ts.length≤F∧g<w.heap.size∧w.cell? ⟨g,z,none⟩=some (.int .i64 t.k)∧w.cell? ⟨g,z+1,none⟩=some (.string ⟨t.t.toArray⟩)∧w.cell? ⟨g,z+2,none⟩=some (.int .i64 t.a)∧rb<w.heap.size∧w.cell? ⟨rb,0,none⟩=some vt∧w.cell? ⟨rb,1,none⟩=some vn∧B8 av base w rb vt vn ts ns d:=by
 obtain⟨vt,vn,h⟩:=h;obtain⟨t,r,g,z,F,G,I,J,K,L,M,N⟩:=h.head;obtain⟨O,W,_⟩:=h.cells;exact⟨vt,vn,t,r,g,z,F,G,I,J,K,L,M,N,Y.lt h.BD,O,W,h⟩
theorem Bi.as {x y r p k:Value} {n m:V} (h:Bi av w x y r p k n) (z:m.AY=n.AY) (F:m.words=n.words) (G:m.AK=n.AK) (I:m.AS=n.AS) (J:m.kids=n.kids):Bi av w x y r p k m:=by
 refine⟨z▸h.AY,F▸h.words,G▸h.DB,I▸h.AS,J▸h.kids,h.ha,h.hb,h.hr,h.hk⟩
end
theorem CF {w:World} {B:Nat} {z F G c3 c4 I J K:Value} (h:Y w B 32 #[z,F,G,c3,c4,I,J,K]):w.cell? ⟨B,0,none⟩=some z∧w.cell? ⟨B,1,none⟩=some F∧w.cell? ⟨B,2,none⟩=some G∧w.cell? ⟨B,3,none⟩=some c3∧w.cell? ⟨B,4,none⟩=some c4∧w.cell? ⟨B,5,none⟩=some I∧w.cell? ⟨B,6,none⟩=some J∧w.cell? ⟨B,7,none⟩=some K∧B<w.heap.size:=
 ⟨Y.cell h 0,Y.cell h 1,Y.cell h 2,Y.cell h 3,Y.cell h 4,Y.cell h 5,Y.cell h 6,Y.cell h 7,Y.lt h⟩
theorem CH {s:List UInt8} {ts:List AX} {ns:List V} (h:BR ts s=true):AW s ts ns=.ok () ts.tail ns:=Ah h
theorem Cc {s:List UInt8} {ts:List AX} {ns:List V} (h:BR ts s=false):AW s ts ns=Ay ts:=U (by rw[h];decide)
theorem SO {t:AX} {r:List AX} (z:El (t::r)=true):t.k≠4:=by
 have h:FG t=true:=z;unfold FG at h;rw[Bool.or_eq_true,Bool.and_eq_true,Bool.and_eq_true]at h;rcases h with h|h
 ·have:=eq_of_beq h.1;omega
 ·have:=eq_of_beq h.1;omega
theorem Nb (n:Nat) (J:EO) (aN:FF 5 J) (aO:Tr (fun ts=>El ts=true) 109 J n):Tr (fun ts=>IV ts=true) 112 (IW J) n:=by
 intro av base rb d ts ns w aP G ac M;obtain⟨t,r,rfl⟩:=G.Aj.ne;have aQ:t.k=1:=by
  unfold IV at M;split at M
  ·rename_i co cp cq e;injection e with bE cr;subst bE;rw[Bool.and_eq_true,Bool.and_eq_true,Bool.and_eq_true]at M;have ad:=M.1.1.1;unfold CB at ad;rw[Bool.and_eq_true]at ad;exact eq_of_beq ad.1
  ·cases M
 have cs:=Z G;have aR:=Z aP;have aS:=Z (Nz G (by omega));have bF:=Z G.Dy;have bG:=Z (aN d);have aT:=Z (fun av base w h a b c e=>aO av base rb d h ns w a b c e);have am:=Z (fun av base w s h (G:CM av base w rb h ns d)=>MH s G);have aU:=Z (fun av base w h (G:CM av base w rb h ns d)=>GV G);have bH:=Z (fun av base w (t:AX) (r:List AX) (G:CM av base w rb (t::r) ns d)=>O7 G);have aV:=Z (fun t an=>GC t an);have aW:=Z (fun av base w ts ns n a b r p k G ac L=>GZ av base rb d ts ns n a b r p k w G ac L);show Calls Tryz.prog 112 #[.pointer (some ⟨rb,0,none⟩)] w (Al CZ av base w rb d (IW J d (t::r) ns));unfold IW;rw[show XZ (t::r)=t.t from rfl,List.tail_cons];obtain⟨ct,h,cu⟩:=t;simp only[]at aQ⊢;subst aQ;obtain⟨R,ao⟩: ∃R,((AW Bv r ns).bind fun _ z ns=>(AW DO z ns).bind fun _ z ns=>if El (AG z)=true then(J d (AG z) ns).bind fun x z ns=>An { kind:=15,name:=h,kids:=[x] } z ns else Ay (AG z))=R:=⟨_,rfl⟩;have aX:=Z ao;rw[ao];unfold Al Gw F8 sv at aS;unfold Al Ch at aU;unfold Al CZ An AT sv at aW;unfold Al CZ at aT;unfold sv at am;unfold F8 sv at aV;have cv:=JF;have bI:=Z ac;clear ao G aP M aO aN ac;go_enter Tryz.func112,Tryz.ntmps112;go_wp2_with fail;refine aS.out.mono ?_;rintro e X ⟨v,rfl,rfl,N,ap⟩;obtain⟨B,ae⟩: ∃B,X.heap.size=B:=⟨_,rfl⟩;have aY:=Z (CM.box N (.cells #[.int .i64 15,.string ⟨h.toArray⟩,.bool false,.slice none 0 0,.slice none 0 0,.slice none 0 0,.slice none 0 0,.slice none 0 0] 32) ae);have aZ:=Z (show Y (X.alloc (.cells #[.int .i64 15,.string ⟨h.toArray⟩,.bool false,.slice none 0 0,.slice none 0 0,.slice none 0 0,.slice none 0 0,.slice none 0 0] 32)) B 32 _ from by rw[←ae];exact Y.new X 32 _);have aq:=Z (ap.alloc (.cells #[.int .i64 15,.string ⟨h.toArray⟩,.bool false,.slice none 0 0,.slice none 0 0,.slice none 0 0,.slice none 0 0,.slice none 0 0] 32));have bJ:=Z (show w.heap.size≤B by rw[←ae];exact ap.size);have bK:=Z (show B<(X.alloc (.cells #[.int .i64 15,.string ⟨h.toArray⟩,.bool false,.slice none 0 0,.slice none 0 0,.slice none 0 0,.slice none 0 0,.slice none 0 0] 32)).heap.size by rw[World.size_alloc];omega);have aa:r.length+1≤n:=(by have:=bI.out;simpa using this);have bL:=Z aa;have bM:=Z (show ns.length+10*r.length+10≤100000 by have:=bF.out;simp only[BP]at this;omega);have a0:=N.Aj;have a1:=Z a0;clear N ap aa a0;go_upto_region 2 with(fail);obtain⟨a2,a3⟩: ∃a2,X.alloc (.cells #[.int .i64 15,.string ⟨h.toArray⟩,.bool false,.slice none 0 0,.slice none 0 0,.slice none 0 0,.slice none 0 0,.slice none 0 0] 32)=a2:=⟨_,rfl⟩;rw[a3]at aY aZ aq bK⊢;clear a3 ae;have I:=Z (am.out _ _ _ Bv _ aY.out);unfold AW at I;obtain⟨ar,au⟩: ∃ar,BR r Bv=ar:=⟨_,rfl⟩;rw[au]at I;have aw:=Z au;unfold Bv Al Ch at I;clear au;go_wp2_with fail;refine I.out.mono ?_;cases ar with
 |false=>
  obtain⟨bN,K,rfl⟩:=a1.out.ne;rintro e bO ⟨rfl,L⟩;refine AR rfl ?_;rw[←aX.out,Cc aw.out];exact(⟨rfl,aq.out.trans L.unbox⟩:_∧_)
 |true=>
  obtain⟨ax,ay⟩:=A9 a1.out aw.out;have az:=Z (show((AW DO r.tail ns).bind fun _ z ns=>if El (AG z)=true then(J d (AG z) ns).bind fun x z ns=>An { kind:=15,name:=h,kids:=[x] } z ns else Ay (AG z))=R by rw[←aX.out,CH aw.out];rfl);rintro e bO ⟨v,rfl,rfl,a4,aA⟩;have a5:=Z a4;have bP:=Z (aA.D8 aZ.out);have a6:=Z (aq.out.trans aA.unbox);obtain⟨K,N⟩: ∃K,r.tail=K:=⟨_,rfl⟩;rw[N]at ax ay az a5;have a7:=Z ax;have bQ:=Z ay;clear a4 aA ax ay N;have af:=Z (am.out _ _ _ DO _ a5.out);unfold AW at af;obtain⟨aB,aC⟩: ∃aB,BR K DO=aB:=⟨_,rfl⟩;rw[aC]at af;have aD:=Z aC;unfold DO Al Ch at af;clear aC;go_wp2_with fail;refine af.out.mono ?_;cases aB with
  |false=>
   obtain⟨bN,ag,rfl⟩:=a7.out.ne;rintro e bR ⟨rfl,L⟩;refine AR rfl ?_;rw[←az.out,Cc aD.out];exact(⟨rfl,a6.out.trans L.unbox⟩:_∧_)
  |true=>
   obtain⟨a8,bS⟩:=A9 a7.out aD.out;have aE:=Z (show(if El (AG K.tail)=true then(J d (AG K.tail) ns).bind fun x z ns=>An { kind:=15,name:=h,kids:=[x] } z ns else Ay (AG K.tail))=R by rw[←az.out,CH aD.out];rfl);rintro e bR ⟨v,rfl,rfl,a9,aF⟩;have bT:=Z a9;have bU:=Z (aF.D8 bP.out);have bV:=Z (a6.out.trans aF.unbox);have aG:=Ad a8;have I:=Z (aU.out _ _ _ _ bT.out);obtain⟨ag,a'⟩: ∃ag,AG K.tail=ag:=⟨_,rfl⟩;rw[a']at aG I aE;have ba:=Z (show ag.length+2≤r.length by have:=bQ.out;omega);have bW:=Z aG.1;clear a9 aF a8 bS aG a';go_wp2_with fail;refine I.out.mono ?_;rintro e cx ⟨v,rfl,rfl,bb,aH⟩;have bc:=Z bb;have bX:=Z (aH.D8 bU.out);have bY:=Z (bV.out.trans aH.unbox);clear bb aH;obtain⟨cy,cz,O,ah,cA,cB,cC,rfl,rfl,bd,bZ,be,bf,bg,b0,bh,b1,b2⟩:=bc.out.head;have bi:(0:Int)<(((O::ah).length:Nat):Int):=(by simp only[BP];omega);have aI:=Z (fun an=>aV.out O an);obtain⟨ai,aJ⟩: ∃ai,FG O=ai:=⟨_,rfl⟩;rw[aJ]at aI;have aK:=Z (show El (O::ah)=ai from aJ);obtain⟨bj,bk⟩: ∃bj,(O::ah).length=bj:=⟨_,rfl⟩;rw[bk]at bh bi bd;clear b2 bk aJ;obtain⟨b3,b4,b5⟩:=O;simp only[]at be bf bg aI;go_wp2_with fail;refine(aI.out _).mono ?_;rintro e b6 ⟨rfl,aj⟩;have bl:=Z (bc.out.grown aj);have b7:=Z (Y.grown bX.out aj (by simp));have ab:=Z (bY.out.trans (Fr.AL aj));clear aj bh b1 b0 be bf bg bZ bd bi;cases ai with
   |false=>
    go_wp2_with fail;refine(bH.out _ _ _ _ _ bl.out).mono ?_;rintro e F ⟨rfl,b8⟩;refine AR rfl ?_;rw[←aE.out,aK.out];exact(⟨rfl,ab.out.trans (Fr.AL b8)⟩:_∧_)
   |true=>
    have bm: ∀k,av k→k<b6.heap.size:=fun k hk=>DP (aR.out k hk) ab.out.size
    have I:=Z (aT.out _ _ _ _ bm bl.out (by have:=ba.out;have:=bL.out;omega) aK.out);obtain⟨ak,aL⟩: ∃ak,J d (⟨b3,b4,b5⟩::ah) ns=ak:=⟨_,rfl⟩;rw[aL]at I;have bn:=Z aL;have bo:=Z (show(ak.bind fun x z ns=>An { kind:=15,name:=h,kids:=[x] } z ns)=R by rw[←aE.out,aK.out,bn.out];rfl);clear aL bm;go_wp2_with fail;refine I.out.mono ?_;cases ak with
    |bad a e=>
     rintro e F ⟨rfl,L⟩;refine AR rfl ?_;rw[←bo.out];exact(⟨rfl,ab.out.trans L.unbox⟩:_∧_)
    |ok x T b9=>
     rintro e F ⟨v,rfl,rfl,bp,al⟩;have bq:=bG.out _ _ _ _ _ bW.out bn.out;have b':=Z (show b9.length+1+10*T.length≤100000 by have ad:=bq.Dy;have cD:=ba.out;have cE:=bM.out;omega);have aM:=al.D8 b7.out;have br:=bp.grown (AF (AB F none) (.cells #[.int .i64 x] 3));have W:=aM.alloc (.cells #[.int .i64 x] 3);have bs:=W.AN;have bt:=br.ID (fun e=>e.2 rfl) bs 7 (.slice (some ⟨F.heap.size,0,none⟩) 1 1);have bu:Y _ B 32 #[.int .i64 15,.string ⟨h.toArray⟩,.bool false,.slice none 0 0,.slice none 0 0,.slice none 0 0,.slice none 0 0,.slice (some ⟨F.heap.size,0,none⟩) 1 1]:=Y.AV W 7 (.slice (some ⟨F.heap.size,0,none⟩) 1 1);have bv:Fr base w ((F.alloc (.cells #[.int .i64 x] 3)).setCell ⟨B,7,none⟩ (.slice (some ⟨F.heap.size,0,none⟩) 1 1)):=Fr.NU ((ab.out.trans al.unbox).alloc _) bJ.out 7 _;have ca:=Y.lt W;have cb:=Y.frozen W 7;have cc:(F.alloc (.cells #[.int .i64 x] 3)).cell? ⟨B,7,none⟩=some (.slice none 0 0):=Y.cell W 7;have bw:Y ((F.alloc (.cells #[.int .i64 x] 3)).setCell ⟨B,7,none⟩ (.slice (some ⟨F.heap.size,0,none⟩) 1 1)) F.heap.size 3 #[.int .i64 x]:=Y.Be (Y.new F 3 _) (p:=⟨B,7,none⟩) (by have:=Y.lt aM;show F.heap.size≠B;omega) _;have bx:=Z (Bi.as (m:= { kind:=15,name:=h,kids:=[x] }) (Ij (av:=av) (l:=[x]) (by simp) bw (fun k hk=>DP (aR.out k hk) (ab.out.trans al.unbox).size) 15 (by simp)) rfl rfl rfl rfl rfl);have bz:=Z bt;have bA:=Z bu;have bB:=Z bv;have bC:=Z (aW.out _ _ _ _ _ _ _ _ _ _ _ bz.out bx.out b'.out);clear bp al bq aM br W bs bt bu bv bw;go_upto_region 8 with(fail);generalize (F.alloc (.cells #[.int .i64 x] 3)).setCell ⟨B,7,none⟩ (.slice (some ⟨F.heap.size,0,none⟩) 1 1)=cF at bz bA bB bC bx⊢;obtain⟨cd,ce,cf,cg,ch,ci,cj,ck,cl⟩:=CF bA.out;clear cb cc ca;go_wp2_with fail;refine bC.out.mono ?_;rintro e cG ⟨v,rfl,rfl,aa,bD⟩;have cm:=Z aa.unbox;have cn:=Z (bB.out.trans bD.unbox);clear aa bD cd ce cf cg ch ci cj ck cl;go_wp2_with fail;rw[←bo.out];go_ret;exact⟨_,rfl,rfl,cm.out,cn.out⟩
theorem Z0X {P:Prop} (h:P:=by
 go_wp2_with fail;refine ae.out.mono ?_;cases R with
 |bad a e=>
  unfold Al;rintro e X ⟨rfl,ag⟩;exact AR rfl ⟨rfl,(Fr.AL ad.out).trans ag⟩
 |ok x T be=>
  unfold Al CZ;rintro e X ⟨v,rfl,rfl,J,K⟩;have ah:=Z J;have ai:=Z ((Fr.AL ad.out).trans K);clear J K;go_wp2_with fail;go_ret;exact⟨_,rfl,rfl,ah.out,ai.out⟩):P:=h
theorem OD (n:Nat) (F:EO) (a1:FF 5 F) (ay:Tr (fun ts=>El ts=true) 109 F n):Qa 97 (FE F) n:=by
 have a2:=Nb n F a1 ay;intro av base rb d ts ns w a3 N a4;have az:=Z N;have aA:=Z a3;have bv:=Z (Ll _ n _ (IW F) (fun _ _=>rfl) a2);have bw:=Z (fun t h=>GC t h);have bx:=Z (fun t h N=>Lt t h N);have bz:=Z (fun s h=>Gd s h);have bR: ∀(fn:Fn) (first aB:Array Value) (w:World),(Instr.makeFunc fn first aB).run Tryz.prog w=.ok (.func fn first aB) w:=fun _ _ _ _=>rfl
 have a5:=Z (fun w a b c e=>ay av base rb d ts ns w a b c e);have bA:=Z (fun w a b=>Tm av base rb d ts ns w a b);show Calls Tryz.prog 97 #[.pointer (some ⟨rb,0,none⟩)] w (Al CZ av base w rb d (FE F d ts ns));unfold FE;have a6:=N.Aj;obtain⟨vt,vn,t,r,g,a7,aB,rfl,rfl,a8,bB,aC,aD,aE,lb,a9,bC,aF⟩:=N.head;have a':=Z aF;have bD:(0:Int)<(((t::r).length:Nat):Int):=(by simp only[BP];omega);have O:=Z (fun h=>bw.out t h);have bE:=(aF.Kx t (List.mem_cons_self ..)).1;have aj:=Z (fun h=>bx.out t h (by omega));have ak:=Z (fun h=>bz.out t.t h);obtain⟨al,aG⟩: ∃al,FG t=al:=⟨_,rfl⟩;rw[aG]at O;have am:=Z (show El (t::r)=al from aG);obtain⟨af,aH⟩: ∃af,CB t=af:=⟨_,rfl⟩;rw[aH]at aj;have ba:=Z aH;obtain⟨an,aI⟩: ∃an,DW t.t=an:=⟨_,rfl⟩;rw[aI]at ak;have bF:=Z aI;unfold F8 sv at O aj;unfold sv at ak;have aJ:=Z a4;have bG:=Z a6;obtain⟨aK,aL⟩: ∃aK,(t::r).length=aK:=⟨_,rfl⟩;have bb:=Z aL;rw[aL]at a9 bD a8;clear a3 N aF aG aH aI a4 a6 bE aL a2 ay a1;cases al with
 |true=>
  rw[Ah am.out];have bH:=Z (a5.out w aA.out az.out aJ.out am.out);obtain⟨aM,aN⟩: ∃aM,F d (t::r) ns=aM:=⟨_,rfl⟩;rw[aN];have bI:=Z aN;clear aN bH;obtain⟨z,G,I⟩:=t;simp only[]at aC aD aE O;go_enter Tryz.func97,Tryz.ntmps97;go_wp2_with fail;refine(O.out _).mono ?_;rintro e bc ⟨rfl,M⟩;have W:=Z (AI (AF (AB w none) _) M);have bd:=Z (a5.out bc (fun k hk=>DP (aA.out k hk) W.out.size) (az.out.grown W.out) aJ.out am.out);rw[bI.out]at bd;clear M;go_wp2_with fail;refine bd.out.mono ?_;cases aM with
  |bad a e=>
   unfold Al;rintro e X ⟨rfl,ag⟩;exact AR rfl ⟨rfl,(Fr.AL W.out).trans ag⟩
  |ok x T be=>
   unfold Al CZ;rintro e X ⟨v,rfl,rfl,J,K⟩;have ah:=Z J;have ai:=Z ((Fr.AL W.out).trans K);clear J K;go_wp2_with fail;go_ret;exact⟨_,rfl,rfl,ah.out,ai.out⟩
 |false=>
  rw[U (by rw[am.out];decide)];obtain⟨R,aO⟩: ∃R,(if IV (t::r)=true then Bw (IW F) d (t::r) ns else IT (t::r) ns)=R:=⟨_,rfl⟩;have bf:=Z aO;rw[aO];clear aO;have aa:IV (t::r)=(af&&(!an&&(match r with|u::_=>(u.k==2&&u.t==Bv)|[]=>false))):=by
   cases r with
   |nil=>simp[IV]
   |cons u r=>simp[IV,ba.out,bF.out,Bool.and_assoc]
  have ab:=Z aa;clear aa;have bg:=Z (show af=true→t.k=1 from fun e=>by
   have ao:=ba.out;rw[e]at ao;unfold CB at ao;rw[Bool.and_eq_true]at ao;exact eq_of_beq ao.1)
  have bh: ∀u ac,r=u::ac→(w.cell? ⟨g,a7+3,none⟩=some (.int .i64 u.k)∧w.cell? ⟨g,a7+4,none⟩=some (.string ⟨u.t.toArray⟩)):=fun u ac e=>by
   subst e;have:=a'.out.two;exact⟨this.1,this.2.1⟩
  have bJ:=Z bh;clear bh;have aP:=Z (by have:=a'.out;exact(this:B8 av base w rb _ vn (t::r) ns d));obtain⟨z,G,I⟩:=t;simp only[]at aC aD aE O aj ak;go_enter Tryz.func97,Tryz.ntmps97;go_wp2_with fail;refine(O.out _).mono ?_;rintro e bc ⟨rfl,M⟩;obtain⟨ap,aq,ar,aQ⟩:=O6 (t:=⟨z,G,I⟩) M;simp only[]at ap aq ar;have bi:=Z M;have W:=Z (AI (AF (AB w none) _) M);obtain⟨bj,aR⟩: ∃bj,w.heap.size=bj:=⟨_,rfl⟩;rw[aR]at ap aq ar aQ;clear M a9 bC lb aC aD aE bB a8;go_upto_region 4 with(fail);go_cut [15] (fun bK bL=>bK=.bool (IV (⟨z,G,I⟩::r))∧w.grownBy bL none);case first=>
   go_wp2_with fail;refine(aj.out _).mono ?_;rintro e X ⟨rfl,au⟩;have bk:=Z (AI W.out au);obtain⟨aS,aT,aU,bl⟩:=O6 (t:=⟨z,G,I⟩) (AI bi.out au);simp only[]at aS aT aU;rw[aR]at aS aT aU bl;have bS:=Z (AI bi.out au);clear au ap aq ar aQ;cases af with
   |false=>
    go_wp2_with fail;go_meet;exact⟨by rw[ab.out];rfl,bk.out⟩
   |true=>
    go_wp2_with fail;refine(ak.out _).mono ?_;rintro e bT ⟨rfl,bm⟩;have L:=Z (AI bk.out bm);cases an with
    |true=>
     go_wp2_with fail;go_meet;exact⟨by rw[ab.out];rfl,L.out⟩
    |false=>
     obtain⟨u,ac,rfl⟩:=(bG.out.tail (by have:z=1:=(by first|exact bg.out rfl|exact bg.out trivial);show z≠4;omega)).ne;obtain⟨bn,bo⟩:=bJ.out u ac rfl;have aV:=Own.lt aP.out.tok (by rfl);have bM:=AH L.out aV bn;have bN:=AH L.out aV bo;have aW:=aP.out.grown L.out;obtain⟨bO,bU,_⟩:=aW.cells;have bV:=Y.lt aW.BD;have bP:=aP.out.tok.form;have bW:(1:Int)<(aK:Int):=(by rw[←bb.out];simp only[BP];omega);have bX:=DP aV L.out.size;rw[bb.out]at bO;obtain⟨aw,ax,bp⟩:=u;simp only[]at bM bN ab;clear bn bo aW bP bm aS aT aU bl;by_cases bq:aw=2
     ·subst bq;by_cases br:ax=[40]
      ·subst br;go_wp2_with fail;go_meet;exact⟨by rw[ab.out];rfl,L.out⟩
      ·have bQ:(ax==[40])=false:=Ba br;have aX:=Z (show IV (⟨z,G,I⟩::⟨2,ax,bp⟩::ac)=false by rw[ab.out];simp only[Bv,bQ];rfl);go_wp2_with fail;go_meet;exact⟨by rw[aX.out],L.out⟩
     ·have bY:((aw:Int)==2)=false:=(by rw[beq_eq_false_iff_ne];omega);have aX:=Z (show IV (⟨z,G,I⟩::⟨aw,ax,bp⟩::ac)=false by rw[ab.out];simp only[show(aw==2)=false from Ba bq];rfl);go_wp2_with fail;go_meet;exact⟨by rw[aX.out],L.out⟩
  case rest=>
   obtain⟨rfl,bs⟩:=hcut;have ad:=Z bs;have bt:=Z (fun k (hk:av k)=>DP (aA.out k hk) ad.out.size);have bu:=Z (az.out.grown ad.out);obtain⟨aY,aa⟩: ∃aY,IV (⟨z,G,I⟩::r)=aY:=⟨_,rfl⟩;have aZ:=Z aa;simp only[aa];clear bs aa ap aq ar aQ aR;cases aY with
   |true=>
    have ae:=Z (bv.out av base rb d _ ns wc bt.out bu.out aJ.out aZ.out);have a0:=Z (show Bw (IW F) d (⟨z,G,I⟩::r) ns=R from(Ah aZ.out).symm.trans bf.out);rw[a0.out]at ae;unfold fv at ae;exact Z0X
   |false=>
    have ae:=Z (bA.out wc bt.out bu.out);have a0:=Z (show IT (⟨z,G,I⟩::r) ns=R from(U (by rw[aZ.out];decide)).symm.trans bf.out);rw[a0.out]at ae;exact Z0X
end
end Go.Proofs.YtdhfhphbkfgamaaGreat
