/- A part. -/
import Derived.Test.YtdhfhphbkfgamaaGreatUc
set_option maxRecDepth 100000
set_option linter.all false
set_option maxHeartbeats 0
namespace Go.Proofs.YtdhfhphbkfgamaaGreat
open Go.RowKit Lx Proofs.Tryz
def Gk(s:List UInt8):Prop:=s.length<=140737488355328
def Qs(r:List UInt8)(w:World)(e:Ending)(w':World):Prop:=e=.returned (sv r)/\w'=w
theorem LQ(s:List UInt8)(w:World)(hs:s.length<=4611686018427387904):Calls prog 38 #[sv s] w (Qs (EJ s) w):=by
 have F:=sz s;unfold Qs sv;by_cases z:8192<s.length
 ·have q:decide ((8192:Int)<(s.length:Int))=true:=Au (by omega);have G:=Jl s 8192;have h:EJ s=s.take 8192:=Ai z;rw[h];clear h;go_enter func38,ntmps38;go_wp2_with fail;go_ret;exact⟨rfl,rfl⟩
 ·have q:decide ((8192:Int)<(s.length:Int))=false:=As (by omega);have h:EJ s=s:=AP z;rw[h];clear h;go_enter func38,ntmps38;go_wp2_with fail;go_ret;exact⟨rfl,rfl⟩
theorem Rz(s t:List UInt8)(w:World)(hs:s.length<=4611686018427387900)(J:t.length<=4611686018427387900):Calls prog 39 #[sv s,sv t] w (Qs (IB s t) w):=by
 have K:=sz s;have L:=sz t;unfold Qs sv;by_cases h:s=[]
 ·subst h;rw[show IB [] t=t from Ai rfl];go_enter func39,ntmps39;go_wp2_with fail;go_ret;exact⟨rfl,rfl⟩
 ·have q:(s==[])=false:=Bd h;have M:s.isEmpty=false:=(by cases s with|nil=>exact Aj rfl h|cons=>rfl);obtain⟨S1,z⟩:=U (s++[32]);obtain⟨G,F⟩:=U (S1++t);have N:S1.length=s.length+1:=(by rw[<-z];simp);have O:=sz S1;have W:ByteArray.mk s.toArray++ByteArray.mk #[32]=⟨S1.toArray⟩:=(by rw[<-z];exact Ax s [32]);have X:ByteArray.mk S1.toArray++ByteArray.mk t.toArray=⟨G.toArray⟩:=(by rw[<-F];exact Ax S1 t);have I:IB s t=G:=(by unfold IB;rw[AP h,z,F]);have aa:(ByteArray.mk #[32]).size=1:=rfl;rw[I];clear I z F h;go_enter func39,ntmps39;go_wp2_with fail;go_ret;exact⟨rfl,rfl⟩
theorem IL(s:List UInt8)(b:Bool)(w:World)(hs:s.length<=4611686018427387900):Calls prog 42 #[sv s,.bool b] w (Qs (C0 s b) w):=by
 have G:=sz s;unfold Qs sv;cases b with
 |true=>
  obtain⟨S1,h⟩:=U (s++[32]);have z:ByteArray.mk s.toArray++ByteArray.mk #[32]=⟨S1.toArray⟩:=(by rw[<-h];exact Ax s [32]);have F:(ByteArray.mk #[32]).size=1:=rfl;rw[show C0 s true=S1 from h];clear h;go_enter func42,ntmps42;go_wp2_with fail;go_ret;exact⟨rfl,rfl⟩
 |false=>
  obtain⟨S1,h⟩:=U (s++[59,32]);have z:ByteArray.mk s.toArray++ByteArray.mk #[59,32]=⟨S1.toArray⟩:=(by rw[<-h];exact Ax s [59,32]);have F:(ByteArray.mk #[59,32]).size=2:=rfl;rw[show C0 s false=S1 from h];clear h;go_enter func42,ntmps42;go_wp2_with fail;go_ret;exact⟨rfl,rfl⟩
theorem Fq{w:World}{v:Value}{n:Nat}{z:List Value}(G:Rows w v n z)(i:Nat)(L:i<n)(M:z.length=n):∃g h F,v=.slice (some ⟨g,h,none⟩) n F/\g<w.heap.size/\w.cell? ⟨g,h+i,none⟩=some (z[i]'(by omega)):=by
 obtain⟨a,F,rfl,_,_,I⟩:=G;obtain⟨g,h,rfl,J,K⟩:=I (by omega);exact⟨g,h,F,rfl,J,K i _ (CZ (by omega))⟩
theorem Mf(h:List (List UInt8))(v:Value)(i:Nat)(w:World)(F:Rows w v h.length (h.map sv)):Calls prog 40 #[v,.int .i64 i] w (Qs (h.getD i []) w):=by
 unfold Qs sv;by_cases z:i<h.length
 ·obtain⟨g,K,I,rfl,L,G⟩:=Fq F i z (by simp);have q:decide ((h.length:Int)<=(i:Int))=false:=As (by omega);have M:(0:Int)<=(i:Int)/\(i:Int)<((h.length:Nat):Int):=(by omega);have J:decide (h.length<=i)=false:=As (by omega);rw[show h.getD i []=h[i] by simp[z]];rw[List.getElem_map]at G;unfold sv at G;obtain⟨x,hx⟩:=U (h[i]);rw[hx]at G⊢;clear hx F z;go_enter func40,ntmps40;go_wp2_with fail;go_ret;exact⟨rfl,rfl⟩
 ·obtain⟨a,I,rfl,_,_,_⟩:=F;have q:decide ((h.length:Int)<=(i:Int))=true:=Au (by omega);have J:decide (h.length<=i)=true:=Au (by omega);rw[show h.getD i []=[] by simp[z]];clear z;go_enter func40,ntmps40;go_wp2_with fail;go_ret;exact⟨rfl,rfl⟩
theorem Jy(h:List Bool)(v:Value)(i:Nat)(w:World)(F:Rows w v h.length (h.map Value.bool)):Calls prog 43 #[v,.int .i64 i] w fun e w'=>e=.returned (.bool (h.getD i false))/\w'=w:=by
 by_cases z:i<h.length
 ·obtain⟨g,K,I,rfl,L,G⟩:=Fq F i z (by simp);have q:decide ((i:Int)<(h.length:Int))=true:=Au (by omega);have M:(0:Int)<=(i:Int)/\(i:Int)<((h.length:Nat):Int):=(by omega);have J:decide (i<h.length)=true:=Au z;rw[show h.getD i false=h[i] by simp[z]];rw[List.getElem_map]at G;obtain⟨x,hx⟩:=U (h[i]);rw[hx]at G⊢;clear hx F z;go_enter func43,ntmps43;go_wp2_with fail;go_ret;exact⟨rfl,rfl⟩
 ·obtain⟨a,I,rfl,_,_,_⟩:=F;have q:decide ((i:Int)<(h.length:Int))=false:=As (by omega);have J:decide (i<h.length)=false:=As z;rw[show h.getD i false=false by simp[z]];clear z;go_enter func43,ntmps43;go_wp2_with fail;go_ret;exact⟨rfl,rfl⟩
theorem It(s:List UInt8):(EJ s).length<=8192:=by
 unfold EJ;split
 ·rw[Fw];omega
 ·omega
theorem Jf(t:List (List UInt8))(u:List UInt8):∀m,(DE t u m).length<=8192
 |0=>DD _
 |m+1=>by rw[DE];exact It _
theorem ND(h:List (List UInt8))(u:List UInt8)(v:Value)(w:World)(z:Rows w v h.length (h.map sv))(ac:∀s∈h,Gk s)(ax:u.length<=1000):Calls prog 41 #[v,sv u] w (Qs (DE h u h.length) w):=by
 have N:=Z (fun s (hs:s.length<=4611686018427387904)=>LQ s w hs);have H:=Z z;have ah:=Z ac;obtain⟨a,ay,rfl,_,az,_⟩:=z;have aA:(h.length:Int)<=9223372036854775807:=(by omega);have aB:=sz u;unfold Qs sv at N⊢;obtain⟨ai,hF⟩:=U (DE h u h.length);rw[hF];have aj:=Z hF;clear ac hF;go_enter func41,ntmps41;go_wp2_with fail;go_loopg [5,6] (h.length+1) (fun g ak al wr=> ∃(i:Nat) (s:List UInt8),ak=.string ⟨s.toArray⟩/\al=.int .i64 i/\i<=h.length/\g+i=h.length+1/\s=DE h u i/\wr=w);case atStart=>exact⟨0,[],rfl,rfl,DD _,rfl,rfl,rfl⟩
 case round=>
  obtain⟨i,s,rfl,rfl,J,K,hs,rfl⟩:=hrel;have L:=Z (BC J (BC K hs));have aC:s.length<=8192:=(by rw[hs];exact Jf h u i);by_cases z:i<h.length
  ·have q:decide ((i:Int)<(h.length:Int))=true:=Au (by omega);have am:decide (i<h.length)=true:=Au z;have aD:(0:Int)<=(i:Int)/\(i:Int)<((h.length:Nat):Int):=(by omega);have aE:(i:Int)+1<=9223372036854775807:=(by omega);obtain⟨aF,aG,aH,O,aI,W⟩:=Fq H.out i z (by simp);injection O with O _ an;subst O an;rw[List.getElem_map]at W;have ad:=Z (ah.out _ (Cp z));obtain⟨x,hx⟩:=U (h[i]);rw[hx]at W ad;have aJ:x.length<=140737488355328:=ad.out;have aK:=sz x;have aL:=sz s;unfold sv at W;have ae:=Z (show DE h u (i+1)=EJ ((if 0<i then s++u else s)++x) by
    rw[DE,<-hs];congr 2
    rw[<-hx];simp[z])
   have af:=Z z;by_cases I:0<i
   ·have ao:decide ((0:Int)<(i:Int))=true:=Au (by omega);have ap:decide (0<i)=true:=Au I;obtain⟨S1,M⟩:=U (s++u);obtain⟨F,G⟩:=U (S1++x);have aM:ByteArray.mk s.toArray++ByteArray.mk u.toArray=⟨S1.toArray⟩:=(by rw[<-M];exact Ax s u);have aq:ByteArray.mk S1.toArray++ByteArray.mk x.toArray=⟨F.toArray⟩:=(by rw[<-G];exact Ax S1 x);have aN:S1.length=s.length+u.length:=(by rw[<-M,BG]);have X:F.length=S1.length+x.length:=(by rw[<-G,BG]);have aO:=sz S1;have aa:=Z (show DE h u (i+1)=EJ F by rw[ae.out,Ai I,M,G]);have ab:=Z (N.out F (by omega));clear J K hs hx z M G I X;go_wp2_with fail;refine ab.out.mono ?_;rintro e ar ⟨rfl,rfl⟩;go_wp2_with fail;go_roundg (gk-1);case rel=>exact⟨i+1,_,rfl,by rw[EP];rfl,af.out,by have:=L.out;omega,aa.out.symm,rfl⟩
    case measure=>have:=L.out;omega
   ·have ao:decide ((0:Int)<(i:Int))=false:=As (by omega);have ap:decide (0<i)=false:=As I;obtain⟨F,G⟩:=U (s++x);have aq:ByteArray.mk s.toArray++ByteArray.mk x.toArray=⟨F.toArray⟩:=(by rw[<-G];exact Ax s x);have X:F.length=s.length+x.length:=(by rw[<-G,BG]);have aa:=Z (show DE h u (i+1)=EJ F by rw[ae.out,AP I,G]);have ab:=Z (N.out F (by omega));clear J K hs hx z G I X;go_wp2_with fail;refine ab.out.mono ?_;rintro e ar ⟨rfl,rfl⟩;go_wp2_with fail;go_roundg (gk-1);case rel=>exact⟨i+1,_,rfl,by rw[EP];rfl,af.out,by have:=L.out;omega,aa.out.symm,rfl⟩
    case measure=>have:=L.out;omega
  ·have q:decide ((i:Int)<(h.length:Int))=false:=As (by omega);have am:decide (i<h.length)=false:=As z;have ag:i=h.length:=(by omega);have au:=Z (show s=ai by rw[hs,ag];exact aj.out);clear J K hs z ag;go_wp2_with fail;have aw:=au.out;rw[aw];go_ret;exact⟨rfl,rfl⟩
theorem OE(x:Rd)(w:World)(X:Gk x.op)(aa:Gk x.wd):Calls prog 45 #[.agg #[.int .i64 x.fd,sv x.op,sv x.wd]] w fun e w'=>e=.returned (sv (D6 x))/\w.grownBy w' none:=by
 obtain⟨h,z,F⟩:=x;unfold Gk at X aa;simp only[]at X aa⊢;obtain⟨G,M⟩:=U (z++F);have am:ByteArray.mk z.toArray++ByteArray.mk F.toArray=⟨G.toArray⟩:=(by rw[Ax,M]);have an:G.length=z.length+F.length:=(by rw[<-M,BG]);have ab:=Z (show D6 ⟨h,z,F⟩=(if 0<=h/\h<=9 then [UInt8.ofNat (48+h.toNat)]else [])++G by unfold D6;rw[M]);have ao:=sz z;have ap:=sz F;have aq:=sz G;have L:=Z (Y.new w 34 #[.int .i64 h,.string ⟨z.toArray⟩,.string ⟨F.toArray⟩]);have N:=Z (AF (AB w none) (.cells #[.int .i64 h,.string ⟨z.toArray⟩,.string ⟨F.toArray⟩] 34));unfold sv;clear M;go_enter func45,ntmps45;go_upto_region 1 with(fail);generalize w.alloc (.cells #[.int .i64 h,.string ⟨z.toArray⟩,.string ⟨F.toArray⟩] 34)=K,w.heap.size=A at L N⊢;have ar:K.cell? ⟨A,0,none⟩=some (.int .i64 h):=Y.cell L.out 0;have au:K.cell? ⟨A,1,none⟩=some (.string ⟨z.toArray⟩):=Y.cell L.out 1;have aw:K.cell? ⟨A,2,none⟩=some (.string ⟨F.toArray⟩):=Y.cell L.out 2;have ax:=Y.lt L.out;by_cases J:0<=h/\h<=9
 ·have ac:decide ((0:Int)<=h)=true:=Au J.1;have ah:decide (h<=9)=true:=Au J.2;obtain⟨I,W⟩:=U (UInt8.ofNat (48+h.toNat));have ay:ByteArray.mk #[I]++ByteArray.mk G.toArray=⟨(I::G).toArray⟩:=Ax [I] G;have az:(ByteArray.mk #[I]).size=1:=rfl;have O:=Z (show D6 ⟨h,z,F⟩=I::G by rw[ab.out,Ai J,W];rfl);have ad:(I.toNat:Int)=48+h:=by
   rw[<-W];have:(48+h.toNat)%256=48+h.toNat:=Nat.mod_eq_of_lt (by omega);show(((48+h.toNat)%256:Nat):Int)=_;rw[this];omega
  have ai:=Z ad;have aj:=Z J;clear W ad;go_upto_region 3 with(fail);have aA:0<=h/\h<=9:=aj.out;have ae:Own (K.alloc (.cells #[.int .u8 (I.toNat:Int)] 5)) 5 1 (.slice (some ⟨K.heap.size,0,none⟩) 1 1) 1 (Kw [I]) 0:=Own.made K #[.int .u8 (I.toNat:Int)] 5 1 1 0 rfl (by decide);have ak:=Own.str (P:=prog) ae underlying37 underlying5 underlying9;rw[ai.out]at ak;have al:=Z (AF N.out (.cells #[.int .u8 (48+h)] 5));clear ae;go_wp2_with fail;rw[O.out];go_ret;exact⟨rfl,al.out⟩
 ·have af:(decide ((0:Int)<=h)&&decide (h<=9))=false:=by
   rw[Bool.and_eq_false_iff,Ex,Ex];omega
  have O:=Z (show D6 ⟨h,z,F⟩=G by rw[ab.out,AP J];rfl);by_cases ag:0<=h
  ·have ac:decide ((0:Int)<=h)=true:=Au ag;have ah:decide (h<=9)=false:=As (by omega);clear af J;go_wp2_with fail;rw[O.out];go_ret;exact⟨rfl,N.out⟩
  ·have ac:decide ((0:Int)<=h)=false:=As ag;clear af J;go_wp2_with fail;rw[O.out];go_ret;exact⟨rfl,N.out⟩
theorem EY{w h:World}{v:Value}{n:Nat}{z:List Value}(I:Rows w v n z)(F:w.grownBy h none):Rows h v n z:=by
 obtain⟨a,J,e,K,L,M⟩:=I;refine⟨a,J,e,K,L,fun N=>?_⟩;obtain⟨g,O,W,G,X⟩:=M N;exact⟨g,O,W,DZ G F.size,fun j x aa=>AH F G (X j x aa)⟩
theorem OA(s:List UInt8)(p:List (List UInt8)):∀(d m:Nat),(Gl s p m).length<=(Gl s p (m+d)).length
 |0,m=>BN _
 |d+1,m=>by
  refine E0 (OA s p d m) ?_;rw[<-Nat.add_assoc,Gl];split
  ·rw[BG,BG];omega
  ·rw[BG];omega
theorem VY(s:List UInt8)(p:List (List UInt8))(m:Nat)(z:m<=p.length):(Gl s p m).length<=s.length+(Cs p).length:=by
 have h:=OA s p (p.length-m) m;rw[Nat.add_sub_of_le z,Mj,BG]at h;exact h
theorem PW(s:List UInt8)(p:List (List UInt8))(m:Nat)(h:m<p.length):Gl s p (m+1)=(if 0<m then Gl s p m++[32,124,32]else Gl s p m)++p[m]:=by
 rw[Gl];simp[h]
theorem UA(s:List UInt8)(p:List (List UInt8))(m:Nat)(z:m<p.length):(p[m]).length+(Gl s p m).length<=s.length+(Cs p).length:=by
 have h:=VY s p (m+1) z;rw[PW s p m z]at h;split at h
 ·rw[BG,BG]at h;omega
 ·rw[BG]at h;omega
theorem MX(n:V)(t:List (List UInt8))(h:(n.words.headD []).length<=140737488355328):∀m,(casT n t m).length<=140737488355500
 |0=>by
  rw[casT];simp only[BG,BR,CU];omega
 |m+1=>by
  rw[casT];exact E0 (It _) (by omega)
theorem TI(n:V)(t:List (List UInt8))(m:Nat)(h:m<n.AT.length):casT n t (m+1)=EJ ((if t.getD m []≠[]then casT n t m++[32,40]++Cs n.AT[m]++[41]++[32]++t.getD m []else casT n t m++[32,40]++Cs n.AT[m]++[41])++[59,59]):=by
 rw[casT];have z:n.AT.getD m []=n.AT[m]:=(by simp[h]);rw[z,Mj]
theorem Mi(n0:Nat)(n:V)(bi bj bk bl bm:Value)(t:List (List UInt8))(v:Value)(w:World)(ag:Fk n0 w bi bj bk bl bm n)(aQ:Rows w v t.length (t.map sv))(aR:Qn n)(bn:∀s∈t,Gk s):
  Calls prog 44 #[.agg (AU n bi bj bk bl bm).toArray,v] w fun e w'=>e=.returned (sv (casT n t n.AT.length++[32,101,115,97,99]))/\w.grownBy w' none:=by
 have aS:=Z (fun s aw (hs:s.length<=4611686018427387904)=>LQ s aw hs);obtain⟨aT,aU,aV,aW,aX,c3,aY,c4,aZ,a0,rfl,rfl,rfl,rfl,rfl⟩:=ag.C5;obtain⟨cF,cG,rfl,_,cH,_⟩:=id aQ;obtain⟨J,a1⟩:=U n.words.length;have bo:=Z a1;rw[a1]at ag⊢;clear a1;have ax:=AF (AB w none) (.cells #[.int .i64 n.kind,.string ⟨n.name.toArray⟩,.bool n.A7,.slice aT n.AZ.length aU,.slice aV J aW,.slice aX n.AK.length c3,.slice aY n.AT.length c4,.slice aZ n.kids.length a0] 32);have ah:=Y.new w 32 #[.int .i64 n.kind,.string ⟨n.name.toArray⟩,.bool n.A7,.slice aT n.AZ.length aU,.slice aV J aW,.slice aX n.AK.length c3,.slice aY n.AT.length c4,.slice aZ n.kids.length a0];have ay:=Z (Fk.pf ag (PF.AL (n0:=n0) ax));have a2:=Z (EY aQ ax);have bp:=Z ax;obtain⟨aw,a3⟩:=U (w.alloc (.cells #[.int .i64 n.kind,.string ⟨n.name.toArray⟩,.bool n.A7,.slice aT n.AZ.length aU,.slice aV J aW,.slice aX n.AK.length c3,.slice aY n.AT.length c4,.slice aZ n.kids.length a0] 32));rw[a3]at ah ay a2 bp;have bJ:=Z a3;obtain⟨B,a4⟩:=U w.heap.size;rw[a4]at ah;have bK:=Z a4;have cI:=Y.cell ah 4;have cJ:=Y.cell ah 6;have cK:=Y.lt ah;have bL:=Z bn;have bM:=Z aR;have bN:(n.AT.length:Int)<=9223372036854775807:=(by obtain⟨_,_,_,cL⟩:=FP.form ay.out.AT;omega);have bO:=Z bN;have bq:(n.words.headD []).length<=140737488355328:=by
  cases bP:n.words with
  |nil=>exact DD _
  |cons s r=>exact aR.w s (by rw[bP];simp)
 have az:=Z bq;obtain⟨bQ,a5⟩:=U (casT n t n.AT.length++[32,101,115,97,99]);have bR:=Z a5;unfold Qs sv at aS;rw[a5];unfold AU sv;clear a3 a4 ah ag ax aQ bn aR a5 bq;go_enter func44,ntmps44;go_upto_region 1 with(first|(refine BK _ aw B (by exact rfl) bJ.out bK.out ?_));obtain⟨K,aA⟩:=U ([99,97,115,101,32]++n.words.headD []);have aB:=Z aA;go_upto_if 11 with(fail);go_cut [5] (fun ab ak=>ab=.string ⟨K.toArray⟩/\ak=aw);case first=>
  by_cases ai:0<J
  ·have q:decide ((0:Int)<(J:Int))=true:=Au (by omega);have a6:decide (0<J)=true:=Au ai;have al:0<n.words.length:=(by rw[bo.out];exact ai);obtain⟨g,br,bS,aC,L⟩:=CW.get ay.out.words 0 al;subst bS;have hx:n.words.headD []=n.words[0]:=(by rw[List.headD_eq_head?_getD,List.head?_eq_getElem?,CZ al];rfl);obtain⟨x,bs⟩:=U (n.words[0]);rw[bs]at L hx;have bT:x.length<=140737488355328:=(by rw[<-hx];exact az.out);have bU:=sz x;have cM:ByteArray.mk #[99,97,115,101,32]++ByteArray.mk x.toArray=⟨K.toArray⟩:=(by rw[<-aB.out,hx];exact Ax [99,97,115,101,32] x);have cN:(ByteArray.mk #[99,97,115,101,32]).size=5:=rfl;have bV:(0:Int)<(J:Int):=(by omega);unfold sv at L;rw[Nat.add_zero]at L;clear hx bs aA;go_wp2_with fail;go_meet;exact⟨rfl,rfl⟩
  ·have al:=ai;have ai:n.words=[]:=List.eq_nil_of_length_eq_zero (by rw[bo.out];omega);have q:decide ((0:Int)<(J:Int))=false:=As (by omega);have a6:decide (0<J)=false:=As al;have bt:K=[99,97,115,101,32]:=(by rw[<-aB.out,ai];rfl);have M:=Z bt;clear ai al bt aA;go_wp2_with fail;go_meet;exact⟨by rw[M.out],rfl⟩
 case rest=>
 obtain⟨rfl,bW⟩:=hcut;subst bW;have bX:K.length<=140737488355340:=(by rw[<-aB.out,BG];have:=az.out;simp only[BR,CU];omega);have bY:=sz K;obtain⟨am,aD⟩:=U (K++[32,105,110]);have bZ:ByteArray.mk K.toArray++ByteArray.mk #[32,105,110]=⟨am.toArray⟩:=(by rw[<-aD];exact Ax K [32,105,110]);have b0:am.length=K.length+3:=(by rw[<-aD,BG];rfl);have b1:=sz am;have b2:=Z (show am=casT n t 0 by rw[<-aD,<-aB.out];rfl);have z3:(ByteArray.mk #[32,105,110]).size=3:=rfl;clear aD aA;go_upto_region 5 with(fail);clear bZ b0 b1 z3 bX bY;go_wp2_with fail;go_loopg [5,6,7] (n.AT.length+1) (fun g ab b3 a7 wr=> ∃(i:Nat) (s:List UInt8),ab=.string ⟨s.toArray⟩/\b3=.int .i64 i/\i<=n.AT.length/\g+i=n.AT.length+1/\s=casT n t i/\wr=wc);case atStart=>exact⟨0,am,rfl,rfl,DD _,rfl,b2.out,rfl⟩
 case round=>
  obtain⟨i,s,rfl,rfl,a8,aC,hs,b4⟩:=hrel;obtain⟨bu,b5⟩:=JH gk;subst b5 b4;have aE:=Z (BC a8 (BC aC hs));have cO:=bO.out;by_cases I:i<n.AT.length
  ·have q:decide ((i:Int)<(n.AT.length:Int))=true:=Au (by omega);have a6:decide (i<n.AT.length)=true:=Au I;have bV:(0:Int)<=(i:Int)/\(i:Int)<((n.AT.length:Nat):Int):=(by omega);have cP:(i:Int)+1<=9223372036854775807:=(by omega);have bv:s.length<=140737488355500:=(by rw[hs];exact MX n t az.out i);have bw:=sz s;obtain⟨cQ,cR,cS,b6,cT,cU,aF⟩:=FP.get ay.out.AT i I;subst b6;obtain⟨p,bx⟩:=U (n.AT[i]);have an:=(bM.out.p _ (Cp I)).2;have a9:=TI n t i I;rw[bx]at aF an a9;obtain⟨pa,cV,rfl,_,cW⟩:=CW.at_ aF;have b7:=Z aF;have a':=Z an;have b8:=Z a9;have bz:=Z I;obtain⟨S1,aG⟩:=U (s++[32,40]);have b9:ByteArray.mk s.toArray++ByteArray.mk #[32,40]=⟨S1.toArray⟩:=(by rw[<-aG];exact Ax s [32,40]);have b':S1.length=s.length+2:=(by rw[<-aG,BG];rfl);have ca:=sz S1;have ba:(ByteArray.mk #[32,40]).size=2:=rfl;have cb:=Z (show S1=casT n t i++[32,40] by rw[<-aG,hs]);have bb:=Z (show S1.length<=140737488355502 by omega);clear a8 aC hs bx aF an a9 I aG;go_upto_block 2 with(fail);clear b9 b' ca ba bv bw;obtain⟨X,bA⟩:=U (S1++Cs p);have aH:=Z bA;clear bA;go_cut [5,7] (fun ab a7 ak=>ab=.string ⟨X.toArray⟩/\ak=wr);case first=>
    go_wp2_with fail;go_loopg [5,7] (p.length+1) (fun g ab a7 cc=> ∃(k:Nat) (s2:List UInt8),ab=.string ⟨s2.toArray⟩/\a7=.int .i64 k/\k<=p.length/\g+k=p.length+1/\s2=Gl S1 p k/\cc=wr);case atStart=>exact⟨0,S1,rfl,rfl,DD _,rfl,rfl,rfl⟩
    case round=>
     obtain⟨k,s2,rfl,rfl,hk,bc,ao,cd⟩:=hrel;subst cd;have aI:=Z (BC hk (BC bc ao));have cX:(p.length:Int)<=9223372036854775807:=(by omega);by_cases aa:k<p.length
     ·have ce:decide ((k:Int)<(p.length:Int))=true:=Au (by omega);have cf:decide (k<p.length)=true:=Au aa;have cY:(0:Int)<=(k:Int)/\(k:Int)<((p.length:Nat):Int):=(by omega);have cZ:(k:Int)+1<=9223372036854775807:=(by omega);obtain⟨c0,c1,cg,c2,bB⟩:=CW.get b7.out k aa;subst cg;have bd:=UA S1 p k aa;have aJ:=PW S1 p k aa;obtain⟨x,hx⟩:=U (p[k]);rw[hx]at bB bd aJ;rw[<-ao]at bd aJ;have bC:=Z aJ;have ch:=bb.out;have an:=a'.out;have bU:=sz x;have c5:=sz s2;have bT:x.length+s2.length<=281474976711000:=(by omega);unfold sv at bB;have bD:=Z aa;clear bd aJ hx ao hk bc aa ch an;by_cases aj:0<k
      ·have ci:decide ((0:Int)<(k:Int))=true:=Au (by omega);have cj:decide (0<k)=true:=Au aj;obtain⟨ac,aK⟩:=U (s2++[32,124,32]);have c6:ByteArray.mk s2.toArray++ByteArray.mk #[32,124,32]=⟨ac.toArray⟩:=(by rw[<-aK];exact Ax s2 [32,124,32]);have c7:ac.length=s2.length+3:=(by rw[<-aK,BG];rfl);have c8:=sz ac;obtain⟨N,O⟩:=U (ac++x);have ck:ByteArray.mk ac.toArray++ByteArray.mk x.toArray=⟨N.toArray⟩:=(by rw[<-O];exact Ax ac x);have cl:N.length=ac.length+x.length:=(by rw[<-O,BG]);have cm:=sz N;have z3:(ByteArray.mk #[32,124,32]).size=3:=rfl;have M:=Z (show Gl S1 p (k+1)=N by rw[bC.out,Ai aj,aK,O]);clear aj aK O;go_wp2_with fail;go_roundg (gk-1);case rel=>exact⟨k+1,_,rfl,by rw[EP];rfl,bD.out,by have:=aI.out;omega,M.out.symm,rfl⟩
       case measure=>have:=aI.out;omega
      ·have ci:decide ((0:Int)<(k:Int))=false:=As (by omega);have cj:decide (0<k)=false:=As aj;obtain⟨N,O⟩:=U (s2++x);have ck:ByteArray.mk s2.toArray++ByteArray.mk x.toArray=⟨N.toArray⟩:=(by rw[<-O];exact Ax s2 x);have cl:N.length=s2.length+x.length:=(by rw[<-O,BG]);have cm:=sz N;have M:=Z (show Gl S1 p (k+1)=N by rw[bC.out,AP aj,O]);clear aj O;go_wp2_with fail;go_roundg (gk-1);case rel=>exact⟨k+1,_,rfl,by rw[EP];rfl,bD.out,by have:=aI.out;omega,M.out.symm,rfl⟩
       case measure=>have:=aI.out;omega
     ·have ce:decide ((k:Int)<(p.length:Int))=false:=As (by omega);have cf:decide (k<p.length)=false:=As aa;have cn:=Z (show s2=X by rw[ao,show k=p.length by omega,Mj];exact aH.out);clear hk bc ao aa;go_wp2_with fail;go_meet;exact⟨by rw[cn.out],rfl⟩
   case rest=>
   obtain⟨rfl,co⟩:=hcut;subst co;have cp:X.length<=281474976710900:=(by rw[<-aH.out,BG];have:=bb.out;have:=a'.out;omega);have cq:=sz X;obtain⟨h,aL⟩:=U (X++[41]);have cr:ByteArray.mk X.toArray++ByteArray.mk #[41]=⟨h.toArray⟩:=(by rw[<-aL];exact Ax X [41]);have bE:h.length=X.length+1:=(by rw[<-aL,BG];rfl);have cs:=sz h;have bF:(ByteArray.mk #[41]).size=1:=rfl;obtain⟨tx,aM⟩:=U (t.getD i []);have be:=Z (show casT n t (i+1)=EJ ((if tx≠[]then h++[32]++tx else h)++[59,59]) by rw[b8.out,aM,<-aL,<-aH.out,cb.out]);have c9:tx.length<=140737488355328:=by
    rw[<-aM];by_cases z:i<t.length
    ·rw[show t.getD i []=t[i] by simp[z]];exact bL.out _ (Cp z)
    ·rw[show t.getD i []=[] by simp[z]];exact DD _
   have aN:=Z aM;clear aL aM;go_upto_region 16 with(fail);clear cr cs bF cp cq;have c':=sz h;obtain⟨da,bf⟩:=U ((if tx≠[]then h++[32]++tx else h));rw[bf]at be;have bG:=Z bf;have db:h.length<=281474976710901:=(by have:=aH.out;rw[bE,<-this,BG];have:=bb.out;have:=a'.out;omega);clear bf bE;have dc:(t.length:Int)<=9223372036854775807:=(by omega);obtain⟨ap,bH⟩:=U ((!tx.isEmpty));have aq:=Z bH;clear bH;go_cut [65] (fun ct ak=>ct=.bool ap/\ak=wc);case first=>
    by_cases z:i<t.length
    ·have cu:decide ((i:Int)<(t.length:Int))=true:=Au (by omega);have cv:decide (i<t.length)=true:=Au z;obtain⟨g,br,cw,ad,cx,L⟩:=Fq a2.out i z (by simp);injection ad with ad _ bg;subst ad bg;have cy:(0:Int)<=(i:Int)/\(i:Int)<((t.length:Nat):Int):=(by omega);have ar:t[i]=tx:=(by have:=aN.out;rw[show t.getD i []=t[i] by simp[z]]at this;exact this);rw[List.getElem_map,ar]at L;unfold sv at L;clear ar z;by_cases F:tx=[]
     ·subst F;have au:=Z (show ap=false from aq.out.symm);go_wp2_with fail;go_meet;exact⟨by rw[au.out],rfl⟩
     ·have dd:(tx !=[])=true:=JY F;have cz:tx.isEmpty=false:=(by cases tx with|nil=>exact Aj rfl F|cons=>rfl);have au:=Z (show ap=true by rw[<-aq.out,cz];rfl);clear F;go_wp2_with fail;go_meet;exact⟨by rw[au.out],rfl⟩
    ·have cu:decide ((i:Int)<(t.length:Int))=false:=As (by omega);have cv:decide (i<t.length)=false:=As z;have au:=Z (show ap=false by rw[<-aq.out,<-aN.out,show t.getD i []=[] by simp[z]];rfl);clear z;go_wp2_with fail;go_meet;exact⟨by rw[au.out],rfl⟩
   case rest=>
   obtain⟨rfl,cA⟩:=hcut;subst cA;cases ap with
   |true=>
    have F:tx≠[]:=fun e=>by have:=aq.out;rw[e]at this;cases this
    have z:i<t.length:=by
     apply Classical.byContradiction;intro ag;exact F (by rw[<-aN.out];simp[ag])
    obtain⟨g,br,cw,ad,cx,L⟩:=Fq a2.out i z (by simp);injection ad with ad _ bg;subst ad bg;have cy:(0:Int)<=(i:Int)/\(i:Int)<((t.length:Nat):Int):=(by omega);have ar:t[i]=tx:=(by have:=aN.out;rw[show t.getD i []=t[i] by simp[z]]at this;exact this);rw[List.getElem_map,ar]at L;unfold sv at L;have de:=sz tx;obtain⟨ae,aO⟩:=U (h++[32]);have df:ByteArray.mk h.toArray++ByteArray.mk #[32]=⟨ae.toArray⟩:=(by rw[<-aO];exact Ax h [32]);have dg:ae.length=h.length+1:=(by rw[<-aO,BG];rfl);have dh:=sz ae;obtain⟨af,aP⟩:=U (ae++tx);have di:ByteArray.mk ae.toArray++ByteArray.mk tx.toArray=⟨af.toArray⟩:=(by rw[<-aP];exact Ax ae tx);have dj:af.length=ae.length+tx.length:=(by rw[<-aP,BG]);have dk:=sz af;obtain⟨G,W⟩:=U (af++[59,59]);have cB:ByteArray.mk af.toArray++ByteArray.mk #[59,59]=⟨G.toArray⟩:=(by rw[<-W];exact Ax af [59,59]);have cC:G.length=af.length+2:=(by rw[<-W,BG];rfl);have cD:=sz G;have bF:(ByteArray.mk #[32]).size=1:=rfl;have ba:(ByteArray.mk #[59,59]).size=2:=rfl;have M:=Z (show casT n t (i+1)=EJ G by rw[be.out,<-bG.out,Ai F,aO,aP,W]);have bh:=Z (aS.out G wc (by omega));clear ar z F aO aP W;go_wp2_with fail;refine bh.out.mono ?_;rintro e cE ⟨rfl,rfl⟩;go_wp2_with fail;go_roundg (bu-1);case rel=>exact⟨i+1,_,rfl,by rw[EP];rfl,bz.out,by have:=aE.out;omega,M.out.symm,rfl⟩
    case measure=>have:=aE.out;omega
   |false=>
    have F:tx=[]:=(by have:=aq.out;cases tx with|nil=>rfl|cons a b=>cases this);obtain⟨G,W⟩:=U (h++[59,59]);have cB:ByteArray.mk h.toArray++ByteArray.mk #[59,59]=⟨G.toArray⟩:=(by rw[<-W];exact Ax h [59,59]);have cC:G.length=h.length+2:=(by rw[<-W,BG];rfl);have cD:=sz G;have ba:(ByteArray.mk #[59,59]).size=2:=rfl;have M:=Z (show casT n t (i+1)=EJ G by rw[be.out,<-bG.out,AP (fun I=>I F),W]);have bh:=Z (aS.out G wc (by omega));clear F W;go_wp2_with fail;refine bh.out.mono ?_;rintro e cE ⟨rfl,rfl⟩;go_wp2_with fail;go_roundg (bu-1);case rel=>exact⟨i+1,_,rfl,by rw[EP];rfl,bz.out,by have:=aE.out;omega,M.out.symm,rfl⟩
    case measure=>have:=aE.out;omega
  ·have q:decide ((i:Int)<(n.AT.length:Int))=false:=As (by omega);have a6:decide (i<n.AT.length)=false:=As I;have bI:i=n.AT.length:=(by omega);have bv:s.length<=140737488355500:=(by rw[hs];exact MX n t az.out i);have bw:=sz s;have dl:(ByteArray.mk #[32,101,115,97,99]).size=5:=rfl;have dm:ByteArray.mk s.toArray++ByteArray.mk #[32,101,115,97,99]=⟨bQ.toArray⟩:=(by rw[<-bR.out,<-bI,<-hs];exact Ax s [32,101,115,97,99]);clear a8 aC hs I bI;go_wp2_with fail;go_ret;exact⟨rfl,bp.out⟩
end Go.Proofs.YtdhfhphbkfgamaaGreat
