/- PrintTells: a part of its proof. -/
import Derived.Test.YtdhfhphbkfgamaaGreatUc
set_option maxRecDepth 100000
set_option maxHeartbeats 64000000
namespace Go.Proofs.YtdhfhphbkfgamaaGreat
section
open Go.RowKit Lx
def GN (s:List UInt8):Prop:=s.length≤140737488355328
def Qs (r:List UInt8) (w:World) (e:Ending) (w':World):Prop:=e=.returned (sv r)∧w'=w
theorem Z1G {P:Prop} (h:P:=by
 go_wp2_with fail;go_ret;exact⟨rfl,rfl⟩):P:=h
theorem KO (s:List UInt8) (w:World) (hs:s.length≤4611686018427387904):Calls Tryz.prog 38 #[sv s] w (Qs (D6 s) w):=by
 have F:=sz s;unfold Qs sv;by_cases z:8192<s.length
 ·have q:decide ((8192:Int)<(s.length:Int))=true:=At (by omega);have G:=JA s 8192;have h:D6 s=s.take 8192:=Ah z;rw[h];clear h;go_enter Tryz.func38,Tryz.ntmps38;exact Z1G
 ·have q:decide ((8192:Int)<(s.length:Int))=false:=Aq (by omega);have h:D6 s=s:=U z;rw[h];clear h;go_enter Tryz.func38,Tryz.ntmps38;exact Z1G
theorem Rf (s t:List UInt8) (w:World) (hs:s.length≤4611686018427387900) (J:t.length≤4611686018427387900):Calls Tryz.prog 39 #[sv s,sv t] w (Qs (Gp s t) w):=by
 have K:=sz s;have L:=sz t;unfold Qs sv;by_cases h:s=[]
 ·subst h;rw[show Gp [] t=t from Ah rfl];go_enter Tryz.func39,Tryz.ntmps39;exact Z1G
 ·have q:(s==[])=false:=Ba h;have M:s.isEmpty=false:=(by cases s with|nil=>exact Ai rfl h|cons=>rfl);obtain⟨S1,z⟩: ∃x,s++[32]=x:=⟨_,rfl⟩;obtain⟨G,F⟩: ∃x,S1++t=x:=⟨_,rfl⟩;have N:S1.length=s.length+1:=(by rw[←z];simp);have O:=sz S1;have W:ByteArray.mk s.toArray++ByteArray.mk #[32]=⟨S1.toArray⟩:=(by rw[←z];exact Aw s [32]);have X:ByteArray.mk S1.toArray++ByteArray.mk t.toArray=⟨G.toArray⟩:=(by rw[←F];exact Aw S1 t);have I:Gp s t=G:=(by unfold Gp;rw[U h,z,F]);have aa:(ByteArray.mk #[32]).size=1:=rfl;rw[I];clear I z F h;go_enter Tryz.func39,Tryz.ntmps39;exact Z1G
theorem Gt (s:List UInt8) (b:Bool) (w:World) (hs:s.length≤4611686018427387900):Calls Tryz.prog 42 #[sv s,.bool b] w (Qs (Cq s b) w):=by
 have G:=sz s;unfold Qs sv;cases b with
 |true=>
  obtain⟨S1,h⟩: ∃x,s++[32]=x:=⟨_,rfl⟩;have z:ByteArray.mk s.toArray++ByteArray.mk #[32]=⟨S1.toArray⟩:=(by rw[←h];exact Aw s [32]);have F:(ByteArray.mk #[32]).size=1:=rfl;rw[show Cq s true=S1 from h];clear h;go_enter Tryz.func42,Tryz.ntmps42;exact Z1G
 |false=>
  obtain⟨S1,h⟩: ∃x,s++[59,32]=x:=⟨_,rfl⟩;have z:ByteArray.mk s.toArray++ByteArray.mk #[59,32]=⟨S1.toArray⟩:=(by rw[←h];exact Aw s [59,32]);have F:(ByteArray.mk #[59,32]).size=2:=rfl;rw[show Cq s false=S1 from h];clear h;go_enter Tryz.func42,Tryz.ntmps42;exact Z1G
theorem FU {w:World} {v:Value} {n:Nat} {z:List Value} (G:Rows w v n z) (i:Nat) (L:i<n) (M:z.length=n): ∃g h F,v=.slice (some ⟨g,h,none⟩) n F∧g<w.heap.size∧w.cell? ⟨g,h+i,none⟩=some (z[i]'(by omega)):=by
 obtain⟨a,F,rfl,_,_,I⟩:=G;obtain⟨g,h,rfl,J,K⟩:=I (by omega);exact⟨g,h,F,rfl,J,K i _ (List.getElem?_eq_getElem (by omega))⟩
theorem MV (h:List (List UInt8)) (v:Value) (i:Nat) (w:World) (F:Rows w v h.length (h.map sv)):Calls Tryz.prog 40 #[v,.int .i64 i] w (Qs (h.getD i []) w):=by
 unfold Qs sv;by_cases z:i<h.length
 ·obtain⟨g,K,I,rfl,L,G⟩:=FU F i z (by simp);have q:decide ((h.length:Int)≤(i:Int))=false:=Aq (by omega);have M:(0:Int)≤(i:Int)∧(i:Int)<((h.length:Nat):Int):=(by omega);have J:decide (h.length≤i)=false:=Aq (by omega);rw[show h.getD i []=h[i] by simp[z]];rw[List.getElem_map]at G;unfold sv at G;obtain⟨x,hx⟩: ∃x,h[i]=x:=⟨_,rfl⟩;rw[hx]at G⊢;clear hx F z;go_enter Tryz.func40,Tryz.ntmps40;exact Z1G
 ·obtain⟨a,I,rfl,_,_,_⟩:=F;have q:decide ((h.length:Int)≤(i:Int))=true:=At (by omega);have J:decide (h.length≤i)=true:=At (by omega);rw[show h.getD i []=[] by simp[z]];clear z;go_enter Tryz.func40,Tryz.ntmps40;exact Z1G
theorem JL (h:List Bool) (v:Value) (i:Nat) (w:World) (F:Rows w v h.length (h.map Value.bool)):Calls Tryz.prog 43 #[v,.int .i64 i] w fun e w'=>e=.returned (.bool (h.getD i false))∧w'=w:=by
 by_cases z:i<h.length
 ·obtain⟨g,K,I,rfl,L,G⟩:=FU F i z (by simp);have q:decide ((i:Int)<(h.length:Int))=true:=At (by omega);have M:(0:Int)≤(i:Int)∧(i:Int)<((h.length:Nat):Int):=(by omega);have J:decide (i<h.length)=true:=At z;rw[show h.getD i false=h[i] by simp[z]];rw[List.getElem_map]at G;obtain⟨x,hx⟩: ∃x,h[i]=x:=⟨_,rfl⟩;rw[hx]at G⊢;clear hx F z;go_enter Tryz.func43,Tryz.ntmps43;exact Z1G
 ·obtain⟨a,I,rfl,_,_,_⟩:=F;have q:decide ((i:Int)<(h.length:Int))=false:=Aq (by omega);have J:decide (i<h.length)=false:=Aq z;rw[show h.getD i false=false by simp[z]];clear z;go_enter Tryz.func43,Tryz.ntmps43;exact Z1G
theorem IG (s:List UInt8):(D6 s).length≤8192:=by
 unfold D6;split
 ·rw[List.length_take];omega
 ·omega
theorem JJ (t:List (List UInt8)) (u:List UInt8): ∀m,(C6 t u m).length≤8192
 |0=>DM _
 |m+1=>by rw[C6];exact IG _
theorem Z1H {P:Prop} (h:P:=by
 go_wp2_with fail;refine ac.out.mono ?_;rintro e ar ⟨rfl,rfl⟩;go_wp2_with fail;go_roundg (gk-1);case rel=>exact⟨i+1,_,rfl,by rw[Int.natCast_add];rfl,ag.out,by have:=L.out;omega,ab.out.symm,rfl⟩
 case measure=>have:=L.out;omega):P:=h
theorem NC (h:List (List UInt8)) (u:List UInt8) (v:Value) (w:World) (z:Rows w v h.length (h.map sv)) (ad: ∀s∈h,GN s) (ax:u.length≤1000):Calls Tryz.prog 41 #[v,sv u] w (Qs (C6 h u h.length) w):=by
 have N:=Z (fun s (hs:s.length≤4611686018427387904)=>KO s w hs);have H:=Z z;have ai:=Z ad;obtain⟨a,ay,rfl,_,az,_⟩:=z;have aA:(h.length:Int)≤9223372036854775807:=(by omega);have aB:=sz u;unfold Qs sv at N⊢;obtain⟨O,hF⟩: ∃O,C6 h u h.length=O:=⟨_,rfl⟩;rw[hF];have aj:=Z hF;clear ad hF;go_enter Tryz.func41,Tryz.ntmps41;go_wp2_with fail;go_loopg [5,6] (h.length+1) (fun g ak al wr=> ∃(i:Nat) (s:List UInt8),ak=.string ⟨s.toArray⟩∧al=.int .i64 i∧i≤h.length∧g+i=h.length+1∧s=C6 h u i∧wr=w);case atStart=>exact⟨0,[],rfl,rfl,DM _,rfl,rfl,rfl⟩
 case round=>
  obtain⟨i,s,rfl,rfl,J,K,hs,rfl⟩:=hrel;have L:=Z (A8 J (A8 K hs));have aC:s.length≤8192:=(by rw[hs];exact JJ h u i);by_cases z:i<h.length
  ·have q:decide ((i:Int)<(h.length:Int))=true:=At (by omega);have am:decide (i<h.length)=true:=At z;have aD:(0:Int)≤(i:Int)∧(i:Int)<((h.length:Nat):Int):=(by omega);have aE:(i:Int)+1≤9223372036854775807:=(by omega);obtain⟨aF,aG,aH,W,aI,X⟩:=FU H.out i z (by simp);injection W with W _ an;subst W an;rw[List.getElem_map]at X;have ae:=Z (ai.out _ (List.getElem_mem z));obtain⟨x,hx⟩: ∃x,h[i]=x:=⟨_,rfl⟩;rw[hx]at X ae;have aJ:x.length≤140737488355328:=ae.out;have aK:=sz x;have aL:=sz s;unfold sv at X;have af:=Z (show C6 h u (i+1)=D6 ((if 0<i then s++u else s)++x) by
    rw[C6,←hs];congr 2
    rw[←hx];simp[z])
   have ag:=Z z;by_cases I:0<i
   ·have ao:decide ((0:Int)<(i:Int))=true:=At (by omega);have ap:decide (0<i)=true:=At I;obtain⟨S1,M⟩: ∃y,s++u=y:=⟨_,rfl⟩;obtain⟨F,G⟩: ∃y,S1++x=y:=⟨_,rfl⟩;have aM:ByteArray.mk s.toArray++ByteArray.mk u.toArray=⟨S1.toArray⟩:=(by rw[←M];exact Aw s u);have aq:ByteArray.mk S1.toArray++ByteArray.mk x.toArray=⟨F.toArray⟩:=(by rw[←G];exact Aw S1 x);have aN:S1.length=s.length+u.length:=(by rw[←M,BE]);have aa:F.length=S1.length+x.length:=(by rw[←G,BE]);have aO:=sz S1;have ab:=Z (show C6 h u (i+1)=D6 F by rw[af.out,Ah I,M,G]);have ac:=Z (N.out F (by omega));clear J K hs hx z M G I aa;exact Z1H
   ·have ao:decide ((0:Int)<(i:Int))=false:=Aq (by omega);have ap:decide (0<i)=false:=Aq I;obtain⟨F,G⟩: ∃y,s++x=y:=⟨_,rfl⟩;have aq:ByteArray.mk s.toArray++ByteArray.mk x.toArray=⟨F.toArray⟩:=(by rw[←G];exact Aw s x);have aa:F.length=s.length+x.length:=(by rw[←G,BE]);have ab:=Z (show C6 h u (i+1)=D6 F by rw[af.out,U I,G]);have ac:=Z (N.out F (by omega));clear J K hs hx z G I aa;exact Z1H
  ·have q:decide ((i:Int)<(h.length:Int))=false:=Aq (by omega);have am:decide (i<h.length)=false:=Aq z;have ah:i=h.length:=(by omega);have au:=Z (show s=O by rw[hs,ah];exact aj.out);clear J K hs z ah;go_wp2_with fail;have aw:=au.out;rw[aw];go_ret;exact⟨rfl,rfl⟩
end
section
open Go.RowKit Lx
theorem Z1I {P:Prop} (h:P:=by
 clear af J;go_wp2_with fail;rw[O.out];go_ret;exact⟨rfl,N.out⟩):P:=h
theorem NF (x:Rd) (w:World) (X:GN x.op) (aa:GN x.wd):Calls Tryz.prog 45 #[.agg #[.int .i64 x.fd,sv x.op,sv x.wd]] w fun e w'=>e=.returned (sv (Dh x))∧w.grownBy w' none:=by
 obtain⟨h,z,F⟩:=x;unfold GN at X aa;simp only[]at X aa⊢;obtain⟨G,M⟩: ∃s,z++F=s:=⟨_,rfl⟩;have am:ByteArray.mk z.toArray++ByteArray.mk F.toArray=⟨G.toArray⟩:=(by rw[Aw,M]);have an:G.length=z.length+F.length:=(by rw[←M,BE]);have ab:=Z (show Dh ⟨h,z,F⟩=(if 0≤h∧h≤9 then [UInt8.ofNat (48+h.toNat)]else [])++G by unfold Dh;rw[M]);have ao:=sz z;have ap:=sz F;have aq:=sz G;have L:=Z (Y.new w 34 #[.int .i64 h,.string ⟨z.toArray⟩,.string ⟨F.toArray⟩]);have N:=Z (AF (AB w none) (.cells #[.int .i64 h,.string ⟨z.toArray⟩,.string ⟨F.toArray⟩] 34));unfold sv;clear M;go_enter Tryz.func45,Tryz.ntmps45;go_upto_region 1 with(fail);generalize w.alloc (.cells #[.int .i64 h,.string ⟨z.toArray⟩,.string ⟨F.toArray⟩] 34)=K,w.heap.size=A at L N⊢;have ar:K.cell? ⟨A,0,none⟩=some (.int .i64 h):=Y.cell L.out 0;have au:K.cell? ⟨A,1,none⟩=some (.string ⟨z.toArray⟩):=Y.cell L.out 1;have aw:K.cell? ⟨A,2,none⟩=some (.string ⟨F.toArray⟩):=Y.cell L.out 2;have ax:=Y.lt L.out;by_cases J:0≤h∧h≤9
 ·have ac:decide ((0:Int)≤h)=true:=At J.1;have ah:decide (h≤9)=true:=At J.2;obtain⟨I,W⟩: ∃c,UInt8.ofNat (48+h.toNat)=c:=⟨_,rfl⟩;have ay:ByteArray.mk #[I]++ByteArray.mk G.toArray=⟨(I::G).toArray⟩:=Aw [I] G;have az:(ByteArray.mk #[I]).size=1:=rfl;have O:=Z (show Dh ⟨h,z,F⟩=I::G by rw[ab.out,Ah J,W];rfl);have ad:(I.toNat:Int)=48+h:=by
   rw[←W];have:(48+h.toNat)%256=48+h.toNat:=Nat.mod_eq_of_lt (by omega);show(((48+h.toNat)%256:Nat):Int)=_;rw[this];omega
  have ai:=Z ad;have aj:=Z J;clear W ad;go_upto_region 3 with(fail);have aA:0≤h∧h≤9:=aj.out;have ae:Own (K.alloc (.cells #[.int .u8 (I.toNat:Int)] 5)) 5 1 (.slice (some ⟨K.heap.size,0,none⟩) 1 1) 1 (J3 [I]) 0:=Own.made K #[.int .u8 (I.toNat:Int)] 5 1 1 0 rfl (by decide);have ak:=Own.str (P:=Tryz.prog) ae Tryz.underlying37 Tryz.underlying5 Tryz.underlying9;rw[ai.out]at ak;have al:=Z (AF N.out (.cells #[.int .u8 (48+h)] 5));clear ae;go_wp2_with fail;rw[O.out];go_ret;exact⟨rfl,al.out⟩
 ·have af:(decide ((0:Int)≤h)&&decide (h≤9))=false:=by
   rw[Bool.and_eq_false_iff,decide_eq_false_iff_not,decide_eq_false_iff_not];omega
  have O:=Z (show Dh ⟨h,z,F⟩=G by rw[ab.out,U J];rfl);by_cases ag:0≤h
  ·have ac:decide ((0:Int)≤h)=true:=At ag;have ah:decide (h≤9)=false:=Aq (by omega);exact Z1I
  ·have ac:decide ((0:Int)≤h)=false:=Aq ag;exact Z1I
end
section
open Go.RowKit Lx
theorem EF {w h:World} {v:Value} {n:Nat} {z:List Value} (I:Rows w v n z) (F:w.grownBy h none):Rows h v n z:=by
 obtain⟨a,J,e,K,L,M⟩:=I;refine⟨a,J,e,K,L,fun N=>?_⟩;obtain⟨g,O,W,G,X⟩:=M N;exact⟨g,O,W,DP G F.size,fun j x aa=>AH F G (X j x aa)⟩
theorem Md (s:List UInt8) (p:List (List UInt8)): ∀(d m:Nat),(GS s p m).length≤(GS s p (m+d)).length
 |0,m=>BL _
 |d+1,m=>by
  refine Ef (Md s p d m) ?_;rw[←Nat.add_assoc,GS];split
  ·rw[BE,BE];omega
  ·rw[BE];omega
theorem V8 (s:List UInt8) (p:List (List UInt8)) (m:Nat) (z:m≤p.length):(GS s p m).length≤s.length+(Ck p).length:=by
 have h:=Md s p (p.length-m) m;rw[Nat.add_sub_of_le z,MN,BE]at h;exact h
theorem Oq (s:List UInt8) (p:List (List UInt8)) (m:Nat) (h:m<p.length):GS s p (m+1)=(if 0<m then GS s p m++[32,124,32]else GS s p m)++p[m]:=by
 rw[GS];simp[h]
theorem Su (s:List UInt8) (p:List (List UInt8)) (m:Nat) (z:m<p.length):(p[m]).length+(GS s p m).length≤s.length+(Ck p).length:=by
 have h:=V8 s p (m+1) z;rw[Oq s p m z]at h;split at h
 ·rw[BE,BE]at h;omega
 ·rw[BE]at h;omega
theorem MJ (n:V) (t:List (List UInt8)) (h:(n.words.headD []).length≤140737488355328): ∀m,(casT n t m).length≤140737488355500
 |0=>by
  rw[casT];simp only[BE,BP,List.length_nil];omega
 |m+1=>by
  rw[casT];exact Ef (IG _) (by omega)
theorem Ts (n:V) (t:List (List UInt8)) (m:Nat) (h:m<n.AS.length):casT n t (m+1)=D6 ((if t.getD m []≠[]then casT n t m++[32,40]++Ck n.AS[m]++[41]++[32]++t.getD m []else casT n t m++[32,40]++Ck n.AS[m]++[41])++[59,59]):=by
 rw[casT];have z:n.AS.getD m []=n.AS[m]:=(by simp[h]);rw[z,MN]
theorem Z1J {P:Prop} (h:P:=by
 go_wp2_with fail;refine bh.out.mono ?_;rintro e cF ⟨rfl,rfl⟩;go_wp2_with fail;go_roundg (bu-1);case rel=>exact⟨i+1,_,rfl,by rw[Int.natCast_add];rfl,bz.out,by have:=aE.out;omega,M.out.symm,rfl⟩
 case measure=>have:=aE.out;omega):P:=h
theorem Z1K {P:Prop} (h:P:=by
 go_wp2_with fail;go_roundg (gk-1);case rel=>exact⟨k+1,_,rfl,by rw[Int.natCast_add];rfl,bD.out,by have:=aI.out;omega,M.out.symm,rfl⟩
 case measure=>have:=aI.out;omega):P:=h
theorem Z1L {P:Prop} (h:P:=by
 go_wp2_with fail;go_meet;exact⟨by rw[aw.out],rfl⟩):P:=h
theorem MM (n0:Nat) (n:V) (bi bj bk bl bm:Value) (t:List (List UInt8)) (v:Value) (w:World) (ag:FP n0 w bi bj bk bl bm n) (aQ:Rows w v t.length (t.map sv)) (aR:QL n) (bn: ∀s∈t,GN s):
  Calls Tryz.prog 44 #[.agg (AT n bi bj bk bl bm).toArray,v] w fun e w'=>e=.returned (sv (casT n t n.AS.length++[32,101,115,97,99]))∧w.grownBy w' none:=by
 have aS:=Z (fun s ah (hs:s.length≤4611686018427387904)=>KO s ah hs);obtain⟨aT,aU,aV,aW,aX,c3,aY,c4,aZ,a0,rfl,rfl,rfl,rfl,rfl⟩:=ag.C1;obtain⟨cG,cH,rfl,_,cI,_⟩:=id aQ;obtain⟨J,a1⟩: ∃x,n.words.length=x:=⟨_,rfl⟩;have bo:=Z a1;rw[a1]at ag⊢;clear a1;have ax:=AF (AB w none) (.cells #[.int .i64 n.kind,.string ⟨n.name.toArray⟩,.bool n.A5,.slice aT n.AY.length aU,.slice aV J aW,.slice aX n.AK.length c3,.slice aY n.AS.length c4,.slice aZ n.kids.length a0] 32);have ai:=Y.new w 32 #[.int .i64 n.kind,.string ⟨n.name.toArray⟩,.bool n.A5,.slice aT n.AY.length aU,.slice aV J aW,.slice aX n.AK.length c3,.slice aY n.AS.length c4,.slice aZ n.kids.length a0];have ay:=Z (FP.pf ag (PF.AL (n0:=n0) ax));have a2:=Z (EF aQ ax);have bp:=Z ax;obtain⟨ah,a3⟩: ∃ah,w.alloc (.cells #[.int .i64 n.kind,.string ⟨n.name.toArray⟩,.bool n.A5,.slice aT n.AY.length aU,.slice aV J aW,.slice aX n.AK.length c3,.slice aY n.AS.length c4,.slice aZ n.kids.length a0] 32)=ah:=⟨_,rfl⟩;rw[a3]at ai ay a2 bp;have bJ:=Z a3;obtain⟨B,a4⟩: ∃B,w.heap.size=B:=⟨_,rfl⟩;rw[a4]at ai;have bK:=Z a4;have cJ:=Y.cell ai 4;have cK:=Y.cell ai 6;have cL:=Y.lt ai;have bL:=Z bn;have bM:=Z aR;have bN:(n.AS.length:Int)≤9223372036854775807:=(by obtain⟨_,_,_,cM⟩:=E4.form ay.out.AS;omega);have bO:=Z bN;have bq:(n.words.headD []).length≤140737488355328:=by
  cases bP:n.words with
  |nil=>exact DM _
  |cons s r=>exact aR.w s (by rw[bP];simp)
 have az:=Z bq;obtain⟨bQ,a5⟩: ∃bR,casT n t n.AS.length++[32,101,115,97,99]=bR:=⟨_,rfl⟩;have bS:=Z a5;unfold Qs sv at aS;rw[a5];unfold AT sv;clear a3 a4 ai ag ax aQ bn aR a5 bq;go_enter Tryz.func44,Tryz.ntmps44;go_upto_region 1 with(first|(refine BI _ ah B (by exact rfl) bJ.out bK.out ?_));obtain⟨K,aA⟩: ∃x,[99,97,115,101,32]++n.words.headD []=x:=⟨_,rfl⟩;have aB:=Z aA;go_upto_if 11 with(fail);go_cut [5] (fun ab al=>ab=.string ⟨K.toArray⟩∧al=ah);case first=>
  by_cases aj:0<J
  ·have q:decide ((0:Int)<(J:Int))=true:=At (by omega);have a6:decide (0<J)=true:=At aj;have am:0<n.words.length:=(by rw[bo.out];exact aj);obtain⟨g,br,bT,aC,L⟩:=CQ.get ay.out.words 0 am;subst bT;have hx:n.words.headD []=n.words[0]:=(by rw[List.headD_eq_head?_getD,List.head?_eq_getElem?,List.getElem?_eq_getElem am];rfl);obtain⟨x,bs⟩: ∃x,n.words[0]=x:=⟨_,rfl⟩;rw[bs]at L hx;have bU:x.length≤140737488355328:=(by rw[←hx];exact az.out);have bV:=sz x;have cN:ByteArray.mk #[99,97,115,101,32]++ByteArray.mk x.toArray=⟨K.toArray⟩:=(by rw[←aB.out,hx];exact Aw [99,97,115,101,32] x);have cO:(ByteArray.mk #[99,97,115,101,32]).size=5:=rfl;have bW:(0:Int)<(J:Int):=(by omega);unfold sv at L;rw[Nat.add_zero]at L;clear hx bs aA;go_wp2_with fail;go_meet;exact⟨rfl,rfl⟩
  ·have am:=aj;have aj:n.words=[]:=List.eq_nil_of_length_eq_zero (by rw[bo.out];omega);have q:decide ((0:Int)<(J:Int))=false:=Aq (by omega);have a6:decide (0<J)=false:=Aq am;have bt:K=[99,97,115,101,32]:=(by rw[←aB.out,aj];rfl);have M:=Z bt;clear aj am bt aA;go_wp2_with fail;go_meet;exact⟨by rw[M.out],rfl⟩
 case rest=>
 obtain⟨rfl,bX⟩:=hcut;subst bX;have bY:K.length≤140737488355340:=(by rw[←aB.out,BE];have:=az.out;simp only[BP,List.length_nil];omega);have bZ:=sz K;obtain⟨an,aD⟩: ∃y,K++[32,105,110]=y:=⟨_,rfl⟩;have b0:ByteArray.mk K.toArray++ByteArray.mk #[32,105,110]=⟨an.toArray⟩:=(by rw[←aD];exact Aw K [32,105,110]);have b1:an.length=K.length+3:=(by rw[←aD,BE];rfl);have b2:=sz an;have b3:=Z (show an=casT n t 0 by rw[←aD,←aB.out];rfl);have z3:(ByteArray.mk #[32,105,110]).size=3:=rfl;clear aD aA;go_upto_region 5 with(fail);clear b0 b1 b2 z3 bY bZ;go_wp2_with fail;go_loopg [5,6,7] (n.AS.length+1) (fun g ab b4 a7 wr=> ∃(i:Nat) (s:List UInt8),ab=.string ⟨s.toArray⟩∧b4=.int .i64 i∧i≤n.AS.length∧g+i=n.AS.length+1∧s=casT n t i∧wr=wc);case atStart=>exact⟨0,an,rfl,rfl,DM _,rfl,b3.out,rfl⟩
 case round=>
  obtain⟨i,s,rfl,rfl,a8,aC,hs,b5⟩:=hrel;obtain⟨bu,b6⟩: ∃x,x=gk:=⟨_,rfl⟩;subst b6 b5;have aE:=Z (A8 a8 (A8 aC hs));have cP:=bO.out;by_cases I:i<n.AS.length
  ·have q:decide ((i:Int)<(n.AS.length:Int))=true:=At (by omega);have a6:decide (i<n.AS.length)=true:=At I;have bW:(0:Int)≤(i:Int)∧(i:Int)<((n.AS.length:Nat):Int):=(by omega);have cQ:(i:Int)+1≤9223372036854775807:=(by omega);have bv:s.length≤140737488355500:=(by rw[hs];exact MJ n t az.out i);have bw:=sz s;obtain⟨cR,cS,cT,b7,cU,cV,aF⟩:=E4.get ay.out.AS i I;subst b7;obtain⟨p,bx⟩: ∃p,n.AS[i]=p:=⟨_,rfl⟩;have ao:=(bM.out.p _ (List.getElem_mem I)).2;have a9:=Ts n t i I;rw[bx]at aF ao a9;obtain⟨pa,cW,rfl,_,cX⟩:=CQ.at_ aF;have b8:=Z aF;have a':=Z ao;have b9:=Z a9;have bz:=Z I;obtain⟨S1,aG⟩: ∃y,s++[32,40]=y:=⟨_,rfl⟩;have b':ByteArray.mk s.toArray++ByteArray.mk #[32,40]=⟨S1.toArray⟩:=(by rw[←aG];exact Aw s [32,40]);have ca:S1.length=s.length+2:=(by rw[←aG,BE];rfl);have cb:=sz S1;have ba:(ByteArray.mk #[32,40]).size=2:=rfl;have cc:=Z (show S1=casT n t i++[32,40] by rw[←aG,hs]);have bb:=Z (show S1.length≤140737488355502 by omega);clear a8 aC hs bx aF ao a9 I aG;go_upto_block 2 with(fail);clear b' ca cb ba bv bw;obtain⟨X,bA⟩: ∃x,S1++Ck p=x:=⟨_,rfl⟩;have aH:=Z bA;clear bA;go_cut [5,7] (fun ab a7 al=>ab=.string ⟨X.toArray⟩∧al=wr);case first=>
    go_wp2_with fail;go_loopg [5,7] (p.length+1) (fun g ab a7 cd=> ∃(k:Nat) (s2:List UInt8),ab=.string ⟨s2.toArray⟩∧a7=.int .i64 k∧k≤p.length∧g+k=p.length+1∧s2=GS S1 p k∧cd=wr);case atStart=>exact⟨0,S1,rfl,rfl,DM _,rfl,rfl,rfl⟩
    case round=>
     obtain⟨k,s2,rfl,rfl,hk,bc,ap,ce⟩:=hrel;subst ce;have aI:=Z (A8 hk (A8 bc ap));have cY:(p.length:Int)≤9223372036854775807:=(by omega);by_cases aa:k<p.length
     ·have cf:decide ((k:Int)<(p.length:Int))=true:=At (by omega);have cg:decide (k<p.length)=true:=At aa;have cZ:(0:Int)≤(k:Int)∧(k:Int)<((p.length:Nat):Int):=(by omega);have c0:(k:Int)+1≤9223372036854775807:=(by omega);obtain⟨c1,c2,ch,c5,bB⟩:=CQ.get b8.out k aa;subst ch;have bd:=Su S1 p k aa;have aJ:=Oq S1 p k aa;obtain⟨x,hx⟩: ∃x,p[k]=x:=⟨_,rfl⟩;rw[hx]at bB bd aJ;rw[←ap]at bd aJ;have bC:=Z aJ;have ci:=bb.out;have ao:=a'.out;have bV:=sz x;have c6:=sz s2;have bU:x.length+s2.length≤281474976711000:=(by omega);unfold sv at bB;have bD:=Z aa;clear bd aJ hx ap hk bc aa ci ao;by_cases ak:0<k
      ·have cj:decide ((0:Int)<(k:Int))=true:=At (by omega);have ck:decide (0<k)=true:=At ak;obtain⟨ac,aK⟩: ∃y,s2++[32,124,32]=y:=⟨_,rfl⟩;have c7:ByteArray.mk s2.toArray++ByteArray.mk #[32,124,32]=⟨ac.toArray⟩:=(by rw[←aK];exact Aw s2 [32,124,32]);have c8:ac.length=s2.length+3:=(by rw[←aK,BE];rfl);have c9:=sz ac;obtain⟨N,O⟩: ∃y,ac++x=y:=⟨_,rfl⟩;have cl:ByteArray.mk ac.toArray++ByteArray.mk x.toArray=⟨N.toArray⟩:=(by rw[←O];exact Aw ac x);have cm:N.length=ac.length+x.length:=(by rw[←O,BE]);have cn:=sz N;have z3:(ByteArray.mk #[32,124,32]).size=3:=rfl;have M:=Z (show GS S1 p (k+1)=N by rw[bC.out,Ah ak,aK,O]);clear ak aK O;exact Z1K
      ·have cj:decide ((0:Int)<(k:Int))=false:=Aq (by omega);have ck:decide (0<k)=false:=Aq ak;obtain⟨N,O⟩: ∃y,s2++x=y:=⟨_,rfl⟩;have cl:ByteArray.mk s2.toArray++ByteArray.mk x.toArray=⟨N.toArray⟩:=(by rw[←O];exact Aw s2 x);have cm:N.length=s2.length+x.length:=(by rw[←O,BE]);have cn:=sz N;have M:=Z (show GS S1 p (k+1)=N by rw[bC.out,U ak,O]);clear ak O;exact Z1K
     ·have cf:decide ((k:Int)<(p.length:Int))=false:=Aq (by omega);have cg:decide (k<p.length)=false:=Aq aa;have co:=Z (show s2=X by rw[ap,show k=p.length by omega,MN];exact aH.out);clear hk bc ap aa;go_wp2_with fail;go_meet;exact⟨by rw[co.out],rfl⟩
   case rest=>
   obtain⟨rfl,cp⟩:=hcut;subst cp;have cq:X.length≤281474976710900:=(by rw[←aH.out,BE];have:=bb.out;have:=a'.out;omega);have cr:=sz X;obtain⟨h,aL⟩: ∃y,X++[41]=y:=⟨_,rfl⟩;have cs:ByteArray.mk X.toArray++ByteArray.mk #[41]=⟨h.toArray⟩:=(by rw[←aL];exact Aw X [41]);have bE:h.length=X.length+1:=(by rw[←aL,BE];rfl);have ct:=sz h;have bF:(ByteArray.mk #[41]).size=1:=rfl;obtain⟨tx,aM⟩: ∃x,t.getD i []=x:=⟨_,rfl⟩;have be:=Z (show casT n t (i+1)=D6 ((if tx≠[]then h++[32]++tx else h)++[59,59]) by rw[b9.out,aM,←aL,←aH.out,cc.out]);have c':tx.length≤140737488355328:=by
    rw[←aM];by_cases z:i<t.length
    ·rw[show t.getD i []=t[i] by simp[z]];exact bL.out _ (List.getElem_mem z)
    ·rw[show t.getD i []=[] by simp[z]];exact DM _
   have aN:=Z aM;clear aL aM;go_upto_region 16 with(fail);clear cs ct bF cq cr;have da:=sz h;obtain⟨db,bf⟩: ∃x,(if tx≠[]then h++[32]++tx else h)=x:=⟨_,rfl⟩;rw[bf]at be;have bG:=Z bf;have dc:h.length≤281474976710901:=(by have:=aH.out;rw[bE,←this,BE];have:=bb.out;have:=a'.out;omega);clear bf bE;have dd:(t.length:Int)≤9223372036854775807:=(by omega);obtain⟨aq,bH⟩: ∃b,(!tx.isEmpty)=b:=⟨_,rfl⟩;have ar:=Z bH;clear bH;go_cut [65] (fun cu al=>cu=.bool aq∧al=wc);case first=>
    by_cases z:i<t.length
    ·have cv:decide ((i:Int)<(t.length:Int))=true:=At (by omega);have cw:decide (i<t.length)=true:=At z;obtain⟨g,br,cx,ad,cy,L⟩:=FU a2.out i z (by simp);injection ad with ad _ bg;subst ad bg;have cz:(0:Int)≤(i:Int)∧(i:Int)<((t.length:Nat):Int):=(by omega);have au:t[i]=tx:=(by have:=aN.out;rw[show t.getD i []=t[i] by simp[z]]at this;exact this);rw[List.getElem_map,au]at L;unfold sv at L;clear au z;by_cases F:tx=[]
     ·subst F;have aw:=Z (show aq=false from ar.out.symm);exact Z1L
     ·have de:(tx !=[])=true:=JG F;have cA:tx.isEmpty=false:=(by cases tx with|nil=>exact Ai rfl F|cons=>rfl);have aw:=Z (show aq=true by rw[←ar.out,cA];rfl);clear F;exact Z1L
    ·have cv:decide ((i:Int)<(t.length:Int))=false:=Aq (by omega);have cw:decide (i<t.length)=false:=Aq z;have aw:=Z (show aq=false by rw[←ar.out,←aN.out,show t.getD i []=[] by simp[z]];rfl);clear z;exact Z1L
   case rest=>
   obtain⟨rfl,cB⟩:=hcut;subst cB;cases aq with
   |true=>
    have F:tx≠[]:=fun e=>by have:=ar.out;rw[e]at this;cases this
    have z:i<t.length:=by
     apply Classical.byContradiction;intro ag;exact F (by rw[←aN.out];simp[ag])
    obtain⟨g,br,cx,ad,cy,L⟩:=FU a2.out i z (by simp);injection ad with ad _ bg;subst ad bg;have cz:(0:Int)≤(i:Int)∧(i:Int)<((t.length:Nat):Int):=(by omega);have au:t[i]=tx:=(by have:=aN.out;rw[show t.getD i []=t[i] by simp[z]]at this;exact this);rw[List.getElem_map,au]at L;unfold sv at L;have df:=sz tx;obtain⟨ae,aO⟩: ∃y,h++[32]=y:=⟨_,rfl⟩;have dg:ByteArray.mk h.toArray++ByteArray.mk #[32]=⟨ae.toArray⟩:=(by rw[←aO];exact Aw h [32]);have dh:ae.length=h.length+1:=(by rw[←aO,BE];rfl);have di:=sz ae;obtain⟨af,aP⟩: ∃y,ae++tx=y:=⟨_,rfl⟩;have dj:ByteArray.mk ae.toArray++ByteArray.mk tx.toArray=⟨af.toArray⟩:=(by rw[←aP];exact Aw ae tx);have dk:af.length=ae.length+tx.length:=(by rw[←aP,BE]);have dl:=sz af;obtain⟨G,W⟩: ∃y,af++[59,59]=y:=⟨_,rfl⟩;have cC:ByteArray.mk af.toArray++ByteArray.mk #[59,59]=⟨G.toArray⟩:=(by rw[←W];exact Aw af [59,59]);have cD:G.length=af.length+2:=(by rw[←W,BE];rfl);have cE:=sz G;have bF:(ByteArray.mk #[32]).size=1:=rfl;have ba:(ByteArray.mk #[59,59]).size=2:=rfl;have M:=Z (show casT n t (i+1)=D6 G by rw[be.out,←bG.out,Ah F,aO,aP,W]);have bh:=Z (aS.out G wc (by omega));clear au z F aO aP W;exact Z1J
   |false=>
    have F:tx=[]:=(by have:=ar.out;cases tx with|nil=>rfl|cons a b=>cases this);obtain⟨G,W⟩: ∃y,h++[59,59]=y:=⟨_,rfl⟩;have cC:ByteArray.mk h.toArray++ByteArray.mk #[59,59]=⟨G.toArray⟩:=(by rw[←W];exact Aw h [59,59]);have cD:G.length=h.length+2:=(by rw[←W,BE];rfl);have cE:=sz G;have ba:(ByteArray.mk #[59,59]).size=2:=rfl;have M:=Z (show casT n t (i+1)=D6 G by rw[be.out,←bG.out,U (fun I=>I F),W]);have bh:=Z (aS.out G wc (by omega));clear F W;exact Z1J
  ·have q:decide ((i:Int)<(n.AS.length:Int))=false:=Aq (by omega);have a6:decide (i<n.AS.length)=false:=Aq I;have bI:i=n.AS.length:=(by omega);have bv:s.length≤140737488355500:=(by rw[hs];exact MJ n t az.out i);have bw:=sz s;have dm:(ByteArray.mk #[32,101,115,97,99]).size=5:=rfl;have dn:ByteArray.mk s.toArray++ByteArray.mk #[32,101,115,97,99]=⟨bQ.toArray⟩:=(by rw[←bS.out,←bI,←hs];exact Aw s [32,101,115,97,99]);clear a8 aC hs I bI;go_wp2_with fail;go_ret;exact⟨rfl,bp.out⟩
end
end Go.Proofs.YtdhfhphbkfgamaaGreat
