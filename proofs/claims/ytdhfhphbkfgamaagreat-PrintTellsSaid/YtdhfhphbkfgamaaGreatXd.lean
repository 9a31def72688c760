/- A part. -/
import Derived.Test.YtdhfhphbkfgamaaGreatXc
set_option maxRecDepth 100000
set_option linter.all false
set_option maxHeartbeats 0
namespace Go.Proofs.YtdhfhphbkfgamaaGreat.Lx
open Go.RowKit Proofs.Tryz
inductive Nx
 |tok (k:Nat) (s:List UInt8)
 |more
 |deep (a:Nat)
def PB(t:List UInt8)(n:Nat):Bool:=decide (n=1/\48<=(t.getD 0 0).toNat/\(t.getD 0 0).toNat<=57/\1<t.length/\(t.getD 1 0=60\/t.getD 1 0=62))
def Ce(t:List UInt8):Nx:=if De t≠[]then .tok 2 (De t)else match Dn t with
 | .ok n=> .tok (if PB t n=true then 3 else 1) (t.take n)
 | .more=> .more
 | .deep a=> .deep a
def Hu(rb i:Nat)(l:List UInt8)(w:World):Nx->Ending->World->Prop
 | .tok k s,e,w'=>e=.returned (.agg #[.int .i64 k,sv s,.int .i64 i])/\w.grownBy w' (some rb)/\CB w' rb l 0
 | .more,e,w'=>e=.panicked [Eu l.length 23]/\w.grownBy w' (some rb)
 | .deep a,e,w'=>e=.panicked [Eu ((i:Int)+a) 17]/\w.grownBy w' (some rb)
theorem WU{w:World}{b:Nat}{x y G:Value}(I:Y w b 69 #[x,y,G])(h z F:Value):Y (((w.setCell ⟨b,0,none⟩ h).setCell ⟨b,1,none⟩ z).setCell ⟨b,2,none⟩ F) b 69 #[h,z,F]:=((Y.AW I 0 _).AW 1 _).AW 2 _
theorem Vz{w:World}{b g:Nat}{T:TypeId}{z:Array Value}(F:Y w g T z)(h:g≠b)(G I J:Value):Y (((w.setCell ⟨b,0,none⟩ G).setCell ⟨b,1,none⟩ I).setCell ⟨b,2,none⟩ J) g T z:=((Y.Bi F h _).Bi h _).Bi h _
theorem YN{w0 w:World}{b rb:Nat}(z:w0.grownBy w (some rb))(h:w0.heap.size<=b)(F G I:Value):w0.grownBy (((w.setCell ⟨b,0,none⟩ F).setCell ⟨b,1,none⟩ G).setCell ⟨b,2,none⟩ I) (some rb):=AN (AN (AN z (p:=⟨b,0,none⟩) (.inr h) _) (p:=⟨b,1,none⟩) (.inr h) _) (p:=⟨b,2,none⟩) (.inr h) _
theorem Pm(l:List UInt8)(i n:Nat)(h:i+n<=l.length):(ByteArray.mk l.toArray).extract i (i+n)=⟨((l.drop i).take n).toArray⟩:=by
 apply ByteArray.ext;rw[ByteArray.data_extract];apply Array.ext';rw[Array.toList_extract,List.extract_eq_take_drop];simp
theorem Et(rb i:Nat)(l:List UInt8)(w:World)(h:CB w rb l 0)(aN:i<l.length)(aO:l.length<=1000000):
  Calls prog 59 #[.pointer (some ⟨rb,0,none⟩),.int .i64 i] w fun e w'=>Hu rb i l w (Ce (l.drop i)) e w':=by
 have a7:=sz l;have a8:=Y.lt h;have az:=Y.new w 69 #[.int .i64 0,.string ⟨#[]⟩,.int .i64 0];have aq:CB (w.alloc (.cells #[.int .i64 0,.string ⟨#[]⟩,.int .i64 0] 69)) rb l 0:=Y.alloc h _;have aA:w.grownBy (w.alloc (.cells #[.int .i64 0,.string ⟨#[]⟩,.int .i64 0] 69)) (some rb):=AF (AB w _) _;have hs:=IW rb 0 i l _ aq (by omega) aO;obtain⟨t,ac⟩:=U (l.drop i);rw[ac]at hs⊢;have aB:=Z az;have ah:=Z aq;have ai:=Z aA;have a9:=Z ac;have aZ:w.heap.size<(w.alloc (.cells #[.int .i64 0,.string ⟨#[]⟩,.int .i64 0] 69)).heap.size:=(by rw[BW];omega);by_cases ad:De t=[]
 ·have K:Ce t=match Dn t with
    | .ok n=> .tok (if PB t n=true then 3 else 1) (t.take n)
    | .more=> .more
    | .deep a=> .deep a:=by unfold Ce;rw[AP (fun h=>h ad)]
  rw[ad]at hs;unfold sv at hs;have ag:=Z hs;have aP:=Z (fun w' aC=>JW rb i l w' aC (by omega) aO);clear hs az aq aA h aZ ad;have aD:=fun n=>Mp _ t n rfl
  have a':t.length=l.length-i:=(by rw[<-ac,D8]);obtain⟨R,aE⟩:=U (Dn t);have aF:=fun w' aC=>aP.out w' aC
  rw[ac,aE]at aF;rw[aE]at K aD;have ae:=Z aF;clear aF aP aE;rw[K];cases R with
  |more=>
   unfold Hu;unfold Rs.out at ae;clear K;go_enter func59,ntmps59;go_wp2_with fail;refine ag.out.mono ?_;rintro e L ⟨rfl,z⟩;have N:=Z (show CB L rb l 0 from Y.grown ah.out z (by simp));have O:=Z (AJ ai.out (Cc z _));go_wp2_with fail;refine(ae.out _ N.out).mono ?_;rintro e aj ⟨rfl,J,_⟩;exact BC rfl (BC rfl (AJ O.out J))
  |deep a=>
   unfold Hu;unfold Rs.out at ae;clear K;go_enter func59,ntmps59;go_wp2_with fail;refine ag.out.mono ?_;rintro e L ⟨rfl,z⟩;have N:=Z (show CB L rb l 0 from Y.grown ah.out z (by simp));have O:=Z (AJ ai.out (Cc z _));go_wp2_with fail;refine(ae.out _ N.out).mono ?_;rintro e aj ⟨rfl,J,_⟩;exact BC rfl (BC rfl (AJ O.out J))
  |ok n=>
   have ba:=aD n rfl;have hx:=Pm l i n (by omega);rw[ac]at hx;unfold Rs.out at ae;have bb:(0:Int)<=i/\(i:Int)<(l.length:Int):=(by omega);have bc:(i:Int)<=(i:Int)+n/\(i:Int)+n<=(l.length:Int):=(by omega);have a0:=BE l i aN;obtain⟨c,aG⟩:=U (l[i]);rw[aG]at a0;have aQ:t.getD 0 0=c:=(by rw[<-ac,EK,List.getElem?_drop,Nat.add_zero,CZ aN,aG];rfl);have a1:∀h:i+1<l.length,t.getD 1 0=l[i+1]:=fun h=>by rw[<-ac,EK,List.getElem?_drop,CZ h];rfl
   have ways:(PB t n=false/\(¬n=1\/(n=1/\decide ((48:Int)<=(c.toNat:Int))=false/\decide (48<=c.toNat)=false)\/(n=1/\decide ((48:Int)<=(c.toNat:Int))=true/\decide (48<=c.toNat)=true/\decide ((c.toNat:Int)<=57)=false/\decide (c.toNat<=57)=false)\/
     (n=1/\decide ((48:Int)<=(c.toNat:Int))=true/\decide (48<=c.toNat)=true/\decide ((c.toNat:Int)<=57)=true/\decide (c.toNat<=57)=true/\decide ((i:Int)+1<(l.length:Int))=false)\/
     (∃h:i+1<l.length,n=1/\decide ((48:Int)<=(c.toNat:Int))=true/\decide (48<=c.toNat)=true/\decide ((c.toNat:Int)<=57)=true/\decide (c.toNat<=57)=true/\decide ((i:Int)+1<(l.length:Int))=true/\((l[i+1].toNat:Int)==60)=false/\((l[i+1].toNat:Int)==62)=false)))\/
     (PB t n=true/\ ∃h:i+1<l.length,n=1/\decide ((48:Int)<=(c.toNat:Int))=true/\decide (48<=c.toNat)=true/\decide ((c.toNat:Int)<=57)=true/\decide (c.toNat<=57)=true/\decide ((i:Int)+1<(l.length:Int))=true/\(((l[i+1].toNat:Int)==60)=true\/((l[i+1].toNat:Int)==60)=false/\((l[i+1].toNat:Int)==62)=true)):=by
    unfold PB;rw[aQ];by_cases M:n=1
    ·by_cases W:48<=c.toNat
     ·by_cases X:c.toNat<=57
      ·by_cases ar:i+1<l.length
       ·rw[a1 ar];by_cases ak:l[i+1]=60
        ·refine .inr ⟨Au ⟨M,W,X,by omega,.inl ak⟩,ar,M,Au (by omega),Au W,Au (by omega),Au X,Au (by omega),.inl (by rw[ak];rfl)⟩
        ·by_cases au:l[i+1]=62
         ·refine .inr ⟨Au ⟨M,W,X,by omega,.inr au⟩,ar,M,Au (by omega),Au W,Au (by omega),Au X,Au (by omega),.inr ⟨Aw (d:=60) ak,by rw[au];rfl⟩⟩
         ·refine .inl ⟨As (fun h=>h.2.2.2.2.elim ak au),.inr (.inr (.inr (.inr ⟨ar,M,Au (by omega),Au W,Au (by omega),Au X,Au (by omega),Aw (d:=60) ak,Aw (d:=62) au⟩)))⟩
       ·refine .inl ⟨As (fun h=>by have:=h.2.2.2.1;omega),.inr (.inr (.inr (.inl ⟨M,Au (by omega),Au W,Au (by omega),Au X,As (by omega)⟩)))⟩
      ·refine .inl ⟨As (fun h=>X h.2.2.1),.inr (.inr (.inl ⟨M,Au (by omega),Au W,As (by omega),As X⟩))⟩
     ·refine .inl ⟨As (fun h=>W h.2.1),.inr (.inl ⟨M,As (by omega),As W⟩)⟩
    ·exact .inl ⟨As (fun h=>M h.1),.inl M⟩
   have aH:Ce t=.tok (if PB t n=true then 3 else 1) (t.take n):=K;obtain⟨s,al⟩:=U (t.take n);rw[al]at hx aH;rw[<-K,aH];clear K aH al aG aQ aD;rcases ways with⟨aI,ways⟩|⟨aI,aJ,rfl,aw,ax,aK,aL,aR,ay⟩
   ·rw[aI,AP Bool.false_ne_true];unfold Hu;have bd:(((n:Int)==1)=false/\ ¬n=1)\/n=1:=by
     by_cases e:n=1
     ·exact .inr e
     ·exact .inl ⟨by rw[A4];omega,e⟩
    rcases ways with be|⟨rfl,aw,ax⟩|⟨rfl,aw,ax,aK,aL⟩|⟨rfl,aw,ax,aK,aL,aR⟩|⟨aJ,rfl,aw,ax,aK,aL,aR,ay,a2⟩
    all_goals
     try have bf:((n:Int)==1)=false:=by rw[A4];omega
     try have a3:=BE l (i+1) aJ
     try have a4:(i:Int)+1<(l.length:Int):=by omega
     unfold sv;go_enter func59,ntmps59;go_wp2_with fail;refine ag.out.mono ?_;rintro e L ⟨rfl,z⟩;have I:=Z (Y.grown aB.out z (by simp));have N:=Z (show CB L rb l 0 from Y.grown ah.out z (by simp));have O:=Z (AJ ai.out (Cc z _));go_wp2_with fail;refine(ae.out _ N.out).mono ?_;rintro e aj ⟨rfl,J,am⟩;have af:=Z (am _ rfl);have F:=Z (Y.grown I.out J (by intro e;injection e with e;omega));have aM:=Z (AJ O.out J);have aS:=Y.cell F.out 0;have aT:=Y.cell F.out 1;have aU:=Y.cell F.out 2;have aV:=Y.frozen F.out 0;have aW:=Y.frozen F.out 1;have aX:=Y.frozen F.out 2;have lv:=Y.lt F.out;have a5:=af.out.c0;have a6:=Y.lt af.out;clear am J z;go_wp2_with fail;have G:=Y.alloc (WU F.out (.int .i64 1) (.string ⟨s.toArray⟩) (.int .i64 i)) (.cells #[.int .i64 1,.string ⟨s.toArray⟩,.int .i64 i] 69);have aa:CB _ rb l 0:=Y.alloc (Vz af.out (b:=w.heap.size) (by omega) (.int .i64 1) (.string ⟨s.toArray⟩) (.int .i64 i)) (.cells #[.int .i64 1,.string ⟨s.toArray⟩,.int .i64 i] 69);have ab:=AF (YN aM.out (BN _) (.int .i64 1) (.string ⟨s.toArray⟩) (.int .i64 i)) (.cells #[.int .i64 1,.string ⟨s.toArray⟩,.int .i64 i] 69);generalize ((((aj.setCell ⟨w.heap.size,0,none⟩ (.int .i64 1)).setCell ⟨w.heap.size,1,none⟩ (.string ⟨s.toArray⟩)).setCell ⟨w.heap.size,2,none⟩ (.int .i64 i)).alloc (.cells #[.int .i64 1,.string ⟨s.toArray⟩,.int .i64 i] 69))=aY at G aa ab⊢;have an:=Y.cell G 0;have ao:=Y.cell G 1;have ap:=Y.cell G 2;exact bodyPost_ret (v:=.agg #[.int .i64 1,.string ⟨s.toArray⟩,.int .i64 i]) (by simp[results,Tryz.results59,go_sem,an,ao,ap]) rfl ⟨rfl,ab,aa⟩
   ·rw[aI,Ai rfl];unfold Hu;have a3:=BE l (i+1) aJ;have a4:(i:Int)+1<(l.length:Int):=(by omega);rcases ay with ay|⟨ay,a2⟩
    all_goals
     unfold sv;go_enter func59,ntmps59;go_wp2_with fail;refine ag.out.mono ?_;rintro e L ⟨rfl,z⟩;have I:=Z (Y.grown aB.out z (by simp));have N:=Z (show CB L rb l 0 from Y.grown ah.out z (by simp));have O:=Z (AJ ai.out (Cc z _));go_wp2_with fail;refine(ae.out _ N.out).mono ?_;rintro e aj ⟨rfl,J,am⟩;have af:=Z (am _ rfl);have F:=Z (Y.grown I.out J (by intro e;injection e with e;omega));have aM:=Z (AJ O.out J);have aS:=Y.cell F.out 0;have aT:=Y.cell F.out 1;have aU:=Y.cell F.out 2;have aV:=Y.frozen F.out 0;have aW:=Y.frozen F.out 1;have aX:=Y.frozen F.out 2;have lv:=Y.lt F.out;have a5:=af.out.c0;have a6:=Y.lt af.out;clear am J z;go_wp2_with fail;have G:=Y.alloc (WU F.out (.int .i64 3) (.string ⟨s.toArray⟩) (.int .i64 i)) (.cells #[.int .i64 3,.string ⟨s.toArray⟩,.int .i64 i] 69);have aa:CB _ rb l 0:=Y.alloc (Vz af.out (b:=w.heap.size) (by omega) (.int .i64 3) (.string ⟨s.toArray⟩) (.int .i64 i)) (.cells #[.int .i64 3,.string ⟨s.toArray⟩,.int .i64 i] 69);have ab:=AF (YN aM.out (BN _) (.int .i64 3) (.string ⟨s.toArray⟩) (.int .i64 i)) (.cells #[.int .i64 3,.string ⟨s.toArray⟩,.int .i64 i] 69);generalize ((((aj.setCell ⟨w.heap.size,0,none⟩ (.int .i64 3)).setCell ⟨w.heap.size,1,none⟩ (.string ⟨s.toArray⟩)).setCell ⟨w.heap.size,2,none⟩ (.int .i64 i)).alloc (.cells #[.int .i64 3,.string ⟨s.toArray⟩,.int .i64 i] 69))=aY at G aa ab⊢;have an:=Y.cell G 0;have ao:=Y.cell G 1;have ap:=Y.cell G 2;exact bodyPost_ret (v:=.agg #[.int .i64 3,.string ⟨s.toArray⟩,.int .i64 i]) (by simp[results,Tryz.results59,go_sem,an,ao,ap]) rfl ⟨rfl,ab,aa⟩
 ·have K:Ce t=.tok 2 (De t):=(by unfold Ce;rw[Ai ad]);rw[K];obtain⟨s,al⟩:=U (De t);rw[al]at hs ad⊢;have bg:s.isEmpty=false:=(by simpa using ad);unfold Hu;unfold sv at hs⊢;have ag:=Z hs;clear hs az aq aA h K al ad;go_enter func59,ntmps59;go_wp2_with fail;refine ag.out.mono ?_;rintro e L ⟨rfl,z⟩;have I:=Z (Y.grown aB.out z (by simp));have N:=Z (show CB L rb l 0 from Y.grown ah.out z (by simp));have O:=Z (AJ ai.out (Cc z _));have aS:=Y.cell I.out 0;have aT:=Y.cell I.out 1;have aU:=Y.cell I.out 2;have aV:=Y.frozen I.out 0;have aW:=Y.frozen I.out 1;have aX:=Y.frozen I.out 2;have lv:=Y.lt I.out;go_wp2_with fail;have G:=WU I.out (.int .i64 2) (.string ⟨s.toArray⟩) (.int .i64 i);have aa:CB _ rb l 0:=Vz N.out (b:=w.heap.size) (by omega) (.int .i64 2) (.string ⟨s.toArray⟩) (.int .i64 i);have ab:=YN O.out (BN _) (.int .i64 2) (.string ⟨s.toArray⟩) (.int .i64 i);generalize ((L.setCell ⟨w.heap.size,0,none⟩ (.int .i64 2)).setCell ⟨w.heap.size,1,none⟩ (.string ⟨s.toArray⟩)).setCell ⟨w.heap.size,2,none⟩ (.int .i64 i)=aY at G aa ab⊢;have an:=Y.cell G 0;have ao:=Y.cell G 1;have ap:=Y.cell G 2;exact bodyPost_ret (v:=.agg #[.int .i64 2,.string ⟨s.toArray⟩,.int .i64 i]) (by simp[results,Tryz.results59,go_sem,an,ao,ap]) rfl ⟨rfl,ab,aa⟩
structure AY where
 k:Nat
 t:List UInt8
 a:Nat
def AY.cells(x:AY):List Value:=[.int .i64 x.k,sv x.t,.int .i64 x.a]
def Jo(l:List AY):List Value:=l.flatMap AY.cells
theorem LH(l:List AY)(x:AY):Jo (l++[x])=Jo l++x.cells:=by simp[Jo]
theorem Ik(l:List AY):∀(n j:Nat) (h:n<l.length) (_:j<3),(Jo l)[n*3+j]? =(l[n]).cells[j]? :=by
 induction l with
 |nil=>intro n j h;simp at h
 |cons x r ih=>
  intro n j h F;have z:Jo (x::r)=x.cells++Jo r:=(by simp[Jo]);have G:x.cells.length=3:=rfl;cases n with
  |zero=>rw[z,Nat.zero_mul,Dc,Gx (by omega)];rfl
  |succ n=>
   rw[z,Ig (by omega),G,show(n+1)*3+j-3=n*3+j by omega];exact ih n j (by simpa using h) F
inductive Ar
 |ok (l:List AY)
 |err (a:Int) (e:Int)
def D3(l:List UInt8):Nat->Nat->List AY->Ar
 |0,_,h=> .ok h
 |f+1,i,h=>if i<l.length then(if h.length=400 then .err i 12 else match Ce (l.drop i)with
  | .tok k s=>D3 l f (i+s.length+A6 (l.drop (i+s.length))) (h++[⟨k,s,i⟩])
  | .more=> .err l.length 23
  | .deep a=> .err ((i:Int)+a) 17)else .ok h
def GA(l:List UInt8):Ar:=if 4096<l.length then .err 0 10 else match D3 l (l.length+1) (A6 l) []with
 | .ok h=> .ok (h++[⟨4,[],l.length⟩])
 | .err a e=> .err a e
theorem D5:∀(z:Nat) (t:List UInt8),t.length=z->A6 (t.drop (A6 t))=0:=by
 intro z;induction z using Nat.strongRecOn with
 |ind z ih=>
  intro t G;match t,G with
  |[],_=>rw[EC];exact EC
  |c::r,G=>
   rw[BR]at G;rw[Cu];by_cases I:c=32\/c=9
   ·rw[Ai I,Nat.add_comm,List.drop_succ_cons];exact ih _ (by omega) r rfl
   ·rw[AP I];by_cases F:(c::r).take 2=[92,10]
    ·rw[Ai F];have h:=take_len F;simp at h;have:=ih _ (by rw[D8];omega) (r.drop 1) rfl;rw[List.drop_drop]at this;rw[show 2+A6 (r.drop 1)=(1+A6 (r.drop 1))+1 by omega,List.drop_succ_cons];exact this
    ·rw[AP F];by_cases h:c=35
     ·rw[Ai h];obtain⟨n,K⟩:=U (((c::r).takeWhile (· !=10)).length);rw[K];have J:=Lu (c::r);rw[K]at J;by_cases L:Lib.indexByte (c::r) 10<0
      ·rw[J.1 L,IG (BN _)];exact EC
      ·exact NB (J.2 (by omega)).2
     ·rw[AP h,List.drop_zero,Cu,AP I,AP F,AP h]
theorem PM{c:UInt8}(h:DB DF c=true):c=32\/c=9\/c=10\/c=124\/c=38\/c=59\/c=60\/c=62\/c=40\/c=41:=by
 apply Classical.byContradiction;intro z;simp only[not_or]at z;obtain⟨F,G,I,J,K,L,M,N,O,W⟩:=z;have e:∀a:UInt8,¬c=a->(a==c)=false:=fun a h=>by rw[A4];exact fun e=>h e.symm
 revert h
 unfold DB DF;simp only[Lib.indexByte,e _ F,e _ G,e _ I,e _ J,e _ K,e _ L,e _ M,e _ N,e _ O,e _ W,Bool.false_eq_true,if_false,beq_self_eq_true,if_true];decide
theorem sign_one{c:UInt8}{r:List UInt8}(z:[c]∈D9):De (c::r)≠[]:=by
 obtain⟨m,G,I⟩:=List.getElem_of_mem z;unfold De;cases h:D9.find? (Ca (c::r))with
 |none=>
  rw[List.find?_eq_none]at h;have:=h [c] z;unfold Ca at this;simp at this
 |some s=>
  have F:=List.mem_of_find?_eq_some h;have:=(Ix s F).1;show s≠[];intro e;rw[e]at this;exact Aj this (by decide)
theorem Jj{t:List UInt8}(M:t≠[])(G:A6 t=0){k:Nat}{s:List UInt8}(h:Ce t=.tok k s):1<=s.length/\s.length<=t.length:=by
 unfold Ce at h;rcases MJ t with hs|⟨hs,N⟩
 ·rw[AP (fun e=>e hs)]at h;cases z:Dn t with
  |more=>rw[z]at h;cases h
  |deep a=>rw[z]at h;cases h
  |ok n=>
   rw[z]at h;injection h with _ h;have K:=Mp _ t n rfl z;subst h;rw[Fw,Nat.min_eq_left K];refine⟨?_,K⟩;match t,M with
   |c::r,_=>
    rw[FK]at z;by_cases L:DB DF c=true
    ·exfalso;have F:∀d:UInt8,[d]∈D9->c≠d:=fun d O e=>sign_one (r:=r) O (by rw[<-e];exact hs)
     rw[Cu]at G;rcases PM L with e|e|e|e|e|e|e|e|e|e
     ·rw[Ai (.inl e)]at G;omega
     ·rw[Ai (.inr e)]at G;omega
     ·exact F _ (by decide) e
     ·exact F _ (by decide) e
     ·exact F _ (by decide) e
     ·exact F _ (by decide) e
     ·exact F _ (by decide) e
     ·exact F _ (by decide) e
     ·exact F _ (by decide) e
     ·exact F _ (by decide) e
    ·rw[AP L]at z;cases I:Ad 25 false (c::r)with
     |more=>rw[I]at z;cases z
     |deep a=>rw[I]at z;cases z
     |ok q=>
      rw[I]at z;obtain⟨m,_,rfl⟩:=Rs.C1 z;omega
 ·have J:=(Ix _ hs).1;have W:De t≠[]:=(by intro e;rw[e]at J;exact Aj J (by decide));rw[Ai W]at h;injection h with _ h;subst h;refine⟨J,?_⟩;have:=congrArg List.length N;rw[Fw]at this;omega
theorem RY(h z F G:Nat)(a:Int)(u:FrameMode)(w:World)(I:Y w h 95 #[.int .i64 a,.int .i64 0]):
  CallsD prog 56 #[.pointer (some ⟨h,0,none⟩),.pointer (some ⟨z,0,none⟩),.pointer (some ⟨F,0,none⟩),.pointer (some ⟨G,0,none⟩)] u w fun J K w'=>K=u/\(J=.returned (.tuple #[])/\w'=w):=by
 have L:=Y.cell I 1;go_enter_d func56,ntmps56
 go_wp2
 refine bodyPost_end (results_none rfl _ _ _) rfl ⟨rfl,rfl⟩
theorem J4(G h z F:Nat)(a e:Int)(v:Value)(x y:Int)(M:e≠0)(u:FrameMode)(w:World)(I:Y w G 95 #[.int .i64 a,.int .i64 e])(J:Y w h 60 #[v])(K:Y w z 3 #[.int .i64 x])(L:Y w F 44 #[.int .i64 y])(W:z≠h)(X:F≠h)(aa:F≠z)(ab:G≠h)(ac:G≠z):
  CallsD prog 56 #[.pointer (some ⟨G,0,none⟩),.pointer (some ⟨h,0,none⟩),.pointer (some ⟨z,0,none⟩),.pointer (some ⟨F,0,none⟩)] u w fun N O w'=>O=u/\(N=.returned (.tuple #[])/\w'=((w.setCell ⟨h,0,none⟩ (.slice none 0 0)).setCell ⟨z,0,none⟩ (.int .i64 a)).setCell ⟨F,0,none⟩ (.int .i64 e)):=by
 have ad:=Y.cell I 0;have ae:=Y.cell I 1;have d2:=Y.cell J 0;have af:=Y.frozen J 0;have d3:=Y.cell K 0;have z3:=Y.frozen K 0;have d4:=Y.cell L 0;have ag:=Y.frozen L 0;have q:(e==0)=false:=(by rw[A4];exact M);have ah:(e !=0)=true:=(by simp[M]);clear I J K L;go_enter_d func56,ntmps56
 go_wp2
 refine bodyPost_end (results_none rfl _ _ _) rfl ⟨rfl,rfl⟩
end Go.Proofs.YtdhfhphbkfgamaaGreat.Lx
