import Derived.Test.YtobpmgpnbbcgjaaGreatDoorG22
import Derived.Test.YtobpmgpnbbcgjaaGreatDoorG11
set_option linter.all false
open Go.IntKind (i64 u64 u32)
open Go.Value renaming slice→dB,agg→qvK,bool→Õ,pointer→qyQ,tuple→æ,int→Ô
namespace Go.Proofs.Tryz
open Go.Eng Go.Big
section
variable{l:L3}
def qT (l:L3)(o:List Rat)(m:L3):List Rat:=if Ý l m=0 then o else cT (ig l (PD l m) (PE l m)) o
def A_ (l:L3)(ls:List L3):List Rat:=ls.foldl (qT l) []
theorem Tp {m:L3}(h:Nz l)(u:Ý l m≠0):ig l (PD l m) (PE l m)=Ø m l:=by have ⟨v1,v2⟩:=T9 u;have ⟨a,b⟩:=To h v1;generalize ig l (PD l m) (PE l m)=z at *;rw [<-a,<-b,jY] at v2;have c:Û m l≠0:=by{rw [cross_dot] at u;grind};have:=Ŧ _ c;unfold Ø;grind
theorem va (h:Nz l):∀(ls:zA L3)(o:zA Rat),(asc o->asc (ls.foldl (qT l) o))/\(ls.foldl (qT l) o).length<=o.length+ls.length/\∀x,x∈ls.foldl (qT l) o↔x∈o\/∃m∈ls,Û m l≠0/\x=Ø m l
 | [],o=>⟨id,Ù _,λx=>ψ⟩
 | m::ls,o=>by
  have ⟨u,y,z⟩:=va h ls (qT l o m);rw [Ő];have b:Ý l m=0↔Û m l=0:=by rw [cross_dot];grind
  refine ⟨λg=>u ?_,ü y ?_,λx=>(z x).m ?_⟩
  ·unfold qT;split
   ·exact g
   ·exact Bu g
  ·unfold qT;split
   ·simp only [Ą];omega
   ·have:=@lu (ig l (PD l m) (PE l m)) o;simp only [Ą];omega
  ·unfold qT;split
   ·rename_i e;have e:=b.1 e;refine or_congr Wk0 ⟨λ⟨k,a,g⟩=>⟨k,Ă _ a,g⟩,λ⟨k,a,g⟩=>?_⟩;rcases ê.1 a with rfl|a
    ·exact Å e g.1
    ·exact ⟨k,a,g⟩
   ·rename_i e;have d:¬Û m l=0:=λg=>e (b.2 g);rw [qu,Tp h e];constructor
    ·rintro ((g|g)|⟨k,a,g⟩)
     ·exact .inr ⟨m,č ..,d,g⟩
     ·exact .inl g
     ·exact .inr ⟨k,Ă _ a,g⟩
    ·rintro (g|⟨k,a,f,c⟩)
     ·exact .inl (.inr g)
     ·rcases ê.1 a with rfl|a
      ·exact .inl (.inl c)
      ·exact .inr ⟨k,a,f,c⟩
theorem U_ {ls:zA L3}(u:Bd l)(h:Nz l)(y:∀m∈ls,Bd m):∀x∈A_ l ls,Sz 60060 x:=λx a=>by
 rcases ((va h ls []).2.2 x).1 a with g|⟨m,hm,-,rfl⟩
 ·cases g
 ·exact (kv u.e_ (y m hm).e_).s ω
theorem uW {V:ut}{v:un}{p:OA}{n c:Nat}{ls:zA L3}(hl:bP V v l)(bl:Bd l)(nz:Nz l)(h:bo 6 bP V p n ls)(hn:ls.length<=1000000)(hb:∀m∈ls,Bd m):À 99 #[v,dB p n c] V λr W=>∃q m e,r=dB q m e/\bo 3 RQ W q m (A_ l ls):=by
 obtain rfl:=h.len;have H:=hl;obtain ⟨_,_,_,_,_,_,_,_,_,_,_,_,rfl⟩:=bG hl
 refine ux V _ ⟨λz V'=>∃(i:Nat)(O:zA Rat),z.2.2.2=(i:Int)/\i<=ls.length/\O.length<=i/\(∀q∈O,Sz 60060 q)/\A_ l ls=(ls.drop i).foldl (qT l) O/\GR 3 RQ V' z.1 z.2.1 z.2.2.1 O,λz=>ls.length-z.2.2.2.toNat,
  ⟨(0,0,[],0),σ,0,[],rfl,á _,á _,(λq k=>by cases k),by rw [Qt5];rfl,GR.nil⟩,?_⟩
 rintro ⟨C,T,us,z4⟩ V1 R ⟨i,O,e4,NB,b2,I,f,o⟩;dsimp only at e4 o;subst e4;have g1:=o.len;have U:=o.le;refine ⟨rfl,λb=>?_,λb fo s bk hb=>?_⟩;rotate_left
 ·have b:¬(i:Int)<ls.length:=Â b;obtain rfl:i=ls.length:=ω;rw [Qr0] at f;have f:A_ l ls=O:=f;rw [f];subst g1;exact ⟨_,_,T,rfl,bo.bq hb (o.row.le λ_ _ g=>g.le s) φ U⟩
 have b:(i:Int)<ls.length:=Á b;have G:i<ls.length:=ω
 have w:i64.wrap ((i:Int)+1)=((i+1:Nat):Int):=by rw [ao ω];rfl
 dsimp only;rw [Ü,w];have ⟨is,d1,q1,m1,e1,d2,q2,m2,e2,d3,q3,m3,e3,a,ha,a0,a1,a2,a3,a4,a5,gm⟩:=rP (h.le R λ_ _ g=>bP.le g R) G;have ed:ls.drop i=ls[i]::ls.drop (i+1):=Ĥ G;rw [ed,Ő] at f;have W:=hb _ (ó G);generalize ls[i]=m at *;refine ⟨is,⟨ω,ω⟩,d1,q1,m1,e1,d2,q2,m2,e2,d3,q3,m3,e3,a,ha,a0,a1,a2,a3,a4,a5,λV2 X=>(Mk (l:=l) (m:=m) (bP.le H (R.m X)) (bP.le gm X) bl.e_ W.e_).s ?_⟩;rintro r V3 l3 ⟨u,rfl,gz,S⟩;have Y:=X.m l3;by_cases D:Ý l m=0
 ·have es:qT l O m=O:=Ä D;rw [es] at f;have:=gz D;unfold M9 at this;subst this;exact ⟨_,_,_,_,_,_,_,_,_,_,_,_,_,_,_,rfl,λ_=>⟨(C,T,us,((i+1:Nat):Int)),by dsimp only;omega,σ,i+1,O,rfl,G,ω,I,f,o.s λ_ _ g=>g.le Y⟩,λg=>by rw [È (λg=>g D)] at g;cases g⟩
 have es:qT l O m=cT (ig l (PD l m) (PE l m)) O:=Ã D;rw [es] at f;have Z:Sz 60060 (ig l (PD l m) (PE l m)):=by rw [Tp nz D];exact (kv bl.e_ W.e_).s ω
 have S:=S D;have a6:=S;obtain ⟨_,_,_,_,_,_,_,_,_,_,_,_,_,_,rfl⟩:=gO S;have ⟨s1,s2⟩:=Hu bl.e_ W.e_;refine ⟨_,_,_,_,_,_,_,_,_,_,_,_,_,_,_,rfl,λg=>by rw [Ç D] at g;(first|cases g|exact Å g φ),λ_ V4 l4=>(vF (L:=l) (bP.le H (R.m (Y.m l4))) (a6.le l4) nz (bl.e_.up (K:=20020) ω) s1 s2).s ?_⟩;rintro r V5 l5 k;have E:=k;obtain ⟨ep,en,ec,eq,em,ee,rfl⟩:=k.shape;have gC:=Y.m (l4.m l5);clear k;generalize ig l (PD l m) (PE l m)=x at *;refine ⟨_,ep,en,ec,eq,em,ee,rfl,λz _=>∃j:Nat,z=(j:Int)/\j<=O.length/\∀(y:Nat)(h:y<O.length),y<j->O[y]<x,λz=>O.length-z.toNat,⟨0,σ,0,rfl,á _,λy _ h=>Å h (ŋ y)⟩,?_⟩;rintro z V6 l6 ⟨j,rfl,qA,jl⟩;have wj:i64.wrap ((j:Int)+1)=((j+1:Nat):Int):=by rw [ao ω];rfl
 rw [Ü,wj];have fy:=gC.m l6;refine ⟨rfl,λz _=>z=true↔∃h:j<O.length,O[j]<x,⟨λb=>?_,λb=>⟨false,σ,?_⟩⟩,?_⟩
 ·have b:(j:Int)<(C:Int):=Á b;have t:j<O.length:=ω;have ⟨rb,rp,rn,rc,rq,rm,re,eK,yS,hr⟩:=Hh o.row t;refine ⟨⟨ω,ω⟩,U,rb,rp,rn,rc,rq,rm,re,⟨eK,yS⟩,λV7 l7=>(ew (hr.le (fy.m l7)) (E.le (l6.m l7)) (I _ (ó t)) Z).s ?_⟩;rintro r V8 l8 rfl;exact ⟨_,rfl,_,σ,by dsimp only;rw [Ñ,uY];exact ⟨λh=>⟨t,h⟩,λ⟨_,h⟩=>h⟩⟩
 ·have b:¬(j:Int)<(C:Int):=Â b;exact ⟨π,λ⟨h,_⟩=>Å h ω⟩
 rintro z V9 l9 Jc;refine ⟨rfl,λF=>?_,λF=>?_⟩
 ·have ⟨t,a7⟩:=Jc.1 F;refine ⟨((j+1:Nat):Int),by (try dsimp only);omega,σ,j+1,rfl,t,λy h b3=>?_⟩;by_cases e:y=j;{subst e;exact a7};{exact jl y h ω}
 have a8:∀h:j<O.length,¬O[j]<x:=λh M=>by have:=Jc.2 ⟨h,M⟩;rw [F] at this;cases this
 have d:=NF O j qA jl a8;have jN:=fy.m l9;have N:=l6.m l9;refine ⟨λz _=>z=true↔¬∃h:j<O.length,O[j]=x,⟨λhe=>⟨true,σ,?_⟩,λhe=>?_⟩,?_⟩
 ·have he:(j:Int)=(C:Int):=by{simpa using he};exact ⟨λ_ ⟨h,_⟩=>Å h ω,λ_=>rfl⟩
 ·have he:¬(j:Int)=(C:Int):=by{simpa using he};have t:j<O.length:=ω;have ⟨rb,rp,rn,rc,rq,rm,re,eK,yS,hr⟩:=Hh o.row t;refine ⟨⟨ω,ω⟩,U,rb,rp,rn,rc,rq,rm,re,⟨eK,yS⟩,λfo s=>(ew (hr.le (jN.m s)) (E.le (N.m s)) (I _ (ó t)) Z).s ?_⟩;rintro r fg dy rfl;exact ⟨_,rfl,_,σ,by dsimp only;rw [bne_iff_ne,ne_eq,<-fh];exact ⟨λh ⟨_,M⟩=>h M,λh M=>h ⟨t,M⟩⟩⟩
 rintro z gT dX qp;have A:=jN.m dX;refine ⟨rfl,λF iL B bk a9 J=>?_,λF=>?_⟩
 ·have b0:=qp.1 F;rw [Ã b0] at d;have P:=A.m B;obtain ⟨xs,ys,x1,x2,x3,y1,y2,y3,r1,r2,r3,r4,r5⟩:=rM (V:=iL) (o.s λ_ _ g=>g.le P) φ (λ_ _=>TM) a9 (es:=[_,_,_]) rfl (E.le (N.m (dX.m B))) (j:=j);refine ⟨⟨ω,ω⟩,⟨ω,ω⟩,⟨ω,ω⟩,xs,x1,x2,ω,Ù _,Ù 3,x2,x3,λb4 J2 sp c' h1 h2=>?_⟩;rw [r1,r2];(refine ⟨ys,y1,y2,Ù _,y3,ω,ω,r3,r4,λb1 Q h3 h4=>⟨(j+(1+(C-j)),Q,_,((i+1:Nat):Int)),by dsimp only;omega,by and_intros<;>first|rfl|omega,i+1,cT x O,rfl,G,?_,?_,f,?_⟩⟩);{rw [d,ë,è,Ą,ī];omega};{intro q k;rcases qu.1 k with rfl|k;{exact Z};{exact I q k}};{show GR 3 RQ _ _ _ _ (cT x O);rw [d];exact r5 b1 Q h3 h4}
 ·have hex:∃h:j<O.length,O[j]=x:=Qj0 λh=>by{have:=qp.2 h;rw [F] at this;cases this};rw [Ä hex] at d;rw [d] at f;exact ⟨(C,T,us,((i+1:Nat):Int)),by dsimp only;omega,σ,i+1,O,rfl,G,ω,I,f,o.s λ_ _ g=>g.le A⟩
theorem Rw (u:Nz l){t:Tr}:Yc l (A_ l (aY t.di)) t:=by refine (F5 t).imp λm hm a=>((va u (aY t.di) []).2.2 _).2 (.inr ⟨bN m,(iS _).2 _ |>.2 (ă.2 ⟨m,hm,rfl⟩),?_⟩);rcases mK m with e|e<;>rw [e];{exact ⟨a,rfl⟩};{exact ⟨by rw [dot_rev];grind,(cutP_rev a).symm⟩}
theorem Lr {V:ut}{v:un}{p:OA}{t:Tr}(h:RW V p t)(ha:t.dJ jO)(hs:t.size<=100000)(hl:bP V v l)(kl:jO l):À 42 #[qyQ p,v,Õ true,Õ false] V λr W=>∃q n c,r=dB q n c/\bo 8 mb W q n (kd l t):=by have A:=hl;have C:=iV kl.1;have ok:t.dJ λm=>ch m=true:=ha.imp λ_ h=>h.1;have db:∀m∈aY t.di,Bd m:=I3 (q:=Bd) (λl h=>by rcases mK l with e|e<;>rw [e];exact h;exact h.rev) λm hm=>(ju ha m hm).2;have dl:(aY t.di).length<=100000:=ü (Fa _) (by rw [jv];exact hs);have ⟨f1,f2,f3⟩:=va C (aY t.di) [];have D:asc (A_ l (aY t.di)):=f1 List.Pairwise.nil;have a3:(A_ l (aY t.di)).length<=100000:=ü f2 (by simpa using dl);have E:=U_ kl.2 C db;have cc:=Rw C (t:=t);have fin:∀ms,ms=(aX (A_ l (aY t.di))).map (λx=>(aV.oV t (cg l x,cj l x) (dY l true)).1&&!(aV.oV t (cg l x,cj l x) (dY l false)).1)->qm (A_ l (aY t.di)) ms=kd l t:=λms e=>VX cc kl.1 ok D e;have U:∀{W:ut} {v:un} {q:OA} {n c:Nat},bP W v l->bo 6 bP W q n (aY t.di)->À 99 #[v,dB q n c] W λr W=>∃q m e,r=dB q m e/\bo 3 RQ W q m (A_ l (aY t.di)):=λa b=>uW a kl.2 C b ω db;generalize A_ l (aY t.di)=P at *;have pl:(aX P).length=P.length+1:=dZ;obtain ⟨_,_,_,_,_,_,_,_,_,_,_,_,rfl⟩:=bG hl;refine KQ V _ λV1 l1=>(sZ (h.le l1) ha).s ?_;rintro r V2 l2 ⟨q1,n1,c1,rfl,gd⟩;have Zj:=l1.m l2;refine ⟨q1,n1,c1,rfl,λV3 N=>(U (bP.le A (Zj.m N)) (gd.le N λ_ _ k=>bP.le k N)).s ?_⟩;rintro r V4 l4 ⟨q2,n2,c2,rfl,gc⟩;have Sk:=Zj.m (N.m l4);refine ⟨q2,n2,c2,rfl,λV5 l5=>(eE (l_0:=l.1) (l_1:=l.2.1) (l_2:=l.2.2) (bP.le A (Sk.m l5)) kl.2.e_.1 kl.2.e_.2.1 kl.2.e_.2.2 ω).s ?_⟩;rintro r V6 l6 ⟨x1,x2,x3,x4,x5,x6,y1,y2,y3,y4,y5,y6,rfl,gx,gy⟩;refine qxZ ⟨rfl,λV7 X=>(AP (gy.le X)).s ?_⟩;rintro r V8 l8 go;rw [Rat.neg_neg] at go;have Y:=go;obtain ⟨z1,z2,z3,z4,z5,z6,rfl⟩:=go.shape;have O:=l5.m (l6.m (X.m l8));refine ⟨_,z1,z2,z3,z4,z5,z6,rfl,λV9 Z=>(qe (gc.le (O.m Z) λ_ _ k=>k.le (O.m Z)) ω (k:=60060) E).s ?_⟩;rintro r fo a0 ⟨q3,n3,c3,rfl,F⟩;obtain rfl:=F.len;have Q:=Z.m a0;have G:=Sk.m (O.m Q);have gn:RP fo (qvK #[Õ (decide (((l.1:Int):Rat).num<0)),dB z1 z2 z3,dB z4 z5 z6,Õ (decide (((l.2.1:Int):Rat).num<0)),dB x1 x2 x3,dB x4 x5 x6]) (dY l true).1 (dY l true).2:=wqQ ⟨rfl,Y.le Q,gx.le (X.m (l8.m Q))⟩;have H:Sz 1000 (dY l true).1/\Sz 1000 (dY l true).2:=⟨kl.2.e_.1,kl.2.e_.2.1⟩;let f:Rat->md:=λx=>(aV.oV t (cg l x,cj l x) (dY l true)).1&&!(aV.oV t (cg l x,cj l x) (dY l false)).1;refine ⟨q3,_,c3,rfl,λz V'=>∃i:Nat,z.2.2.2=(i:Int)/\i<=(aX P).length/\GR 1 RBl V' z.1 z.2.1 z.2.2.1 (((aX P).map f).take i),λz=>(aX P).length-z.2.2.2.toNat,⟨(0,0,[],0),σ,0,rfl,á _,GR.nil⟩,?_⟩;rintro ⟨w1,w2,us,a4⟩ fg I ⟨i,e4,NB,d⟩;dsimp only at e4 d;subst e4;have gl:=d.len;rw [è,ĉ] at gl;dsimp only;rw [Ü];refine ⟨rfl,λj=>?_,λj sC kt bk o=>?_⟩;rotate_left;{have j:¬(i:Int)<(aX P).length:=Â j;obtain rfl:i=(aX P).length:=ω;rw [Ŕ (by rw [ĉ];exact Ù _)] at d;obtain rfl:=d.len;have s:=O.m (Q.m (I.m kt));refine (uQ (gc.le s λ_ _ k=>k.le s) (bo.bq o (d.row.le λ_ _ g=>g) φ d.le) (by rw [ĉ];exact pl)).s ?_;rintro r sE qB ⟨q,n,c,rfl,g⟩;rw [fin _ rfl] at g;exact ⟨q,n,c,rfl,λ_ sN nH=>⟨q,n,c,rfl,g.le nH λ_ _ g=>mb.le g nH⟩⟩};have j:(i:Int)<(aX P).length:=Á j;have J:i<(aX P).length:=ω;have w:i64.wrap ((i:Int)+1)=((i+1:Nat):Int):=by{rw [ao ω];rfl};rw [w];have et:((aX P).map f).take (i+1)=((aX P).map f).take i++[f (aX P)[i]]:=by{rw [Ĭ,ñ (by rw [ĉ];exact J)];simp};have sx:=FA E (ó J);obtain ⟨ad,hd,xs,-,hq,B⟩:=(F.le I λ_ _ g=>g.le I).at_ i J;have a1:=hq;obtain ⟨ep,en,ec,eq,em,ee,ex⟩:=hq.shape;have ex:=Æ Array.toList (Value.agg.inj ex);dsimp only at ex;subst ex;have ef:f (aX P)[i]=((aV.oV t (cg l (aX P)[i],cj l (aX P)[i]) (dY l true)).1&&!(aV.oV t (cg l (aX P)[i],cj l (aX P)[i]) (dY l false)).1):=rfl;clear hq;generalize (aX P)[i]=x at *;have VD:=G.m I;refine ⟨aK hd,⟨ω,ω⟩,_,ep,en,ec,eq,em,ee,ad,hd,B 0 _ rfl,B 1 _ rfl,B 2 _ rfl,λgT R=>(PX (L:=l) (bP.le A (VD.m R)) (a1.le R) C (kl.2.e_.up (K:=120124) ω) (sx.s ω)).s ?_⟩;rintro r iL dS gp;have M:=gp;obtain ⟨_,_,_,_,_,_,_,_,_,_,_,_,_,_,rfl⟩:=gO gp;have px:=(qU (kl.2.e_.up (K:=120124) ω) (sx.s ω)).s (show _<=60000000 by omega);have py:=(qV (kl.2.e_.up (K:=120124) ω) (sx.s ω)).s (show _<=60000000 by omega);have Xx:=I.m (R.m dS);have tw:∀{pv:un},RP iL pv (cg l x) (cj l x)->∀{W:ut} {e:md} {u:un},iL.Le W->RP W u (dY l e).1 (dY l e).2->Sz 1000 (dY l e).1/\Sz 1000 (dY l e).2->À 102 #[qyQ p,pv,u] W λr W=>r=æ #[Õ (aV.oV t (cg l x,cj l x) (dY l e)).1,Õ (aV.oV t (cg l x,cj l x) (dY l e)).2]:=λ{pv} gq {W e u} g hu su=>AZ (p:=(cg l x,cj l x)) (k:=60000000) ω ω px py (su.1.s ω) (su.2.s ω) (h.le (VD.m (R.m (dS.m g)))) (xE ha) (gq.le g) hu;refine qxZ ⟨rfl,λlR S=>(tw M (e:=true) S (gn.le (Xx.m S)) H).s ?_⟩;rintro r lS gC rfl;refine ⟨_,_,rfl,λkH fy=>(IF (p:=dY l true) (gn.le (Xx.m (S.m (gC.m fy)))) H.1 H.2).s ?_⟩;rintro r lT ij T;have T:RP lT r (dY l false).1 (dY l false).2:=T;have a2:=T;obtain ⟨_,_,_,_,_,_,_,_,_,_,_,_,_,_,rfl⟩:=gO T;refine qxZ ⟨rfl,λmZ hU=>(tw M (e:=false) (S.m (gC.m (fy.m (ij.m hU)))) (a2.le hU) ⟨H.1.neg,H.2.neg⟩).s ?_⟩;rintro r pS jN rfl;have y:=d.s (V':=pS) λ_ _ g=>g;refine ⟨_,_,rfl,λo=>⟨ω,d.le,d.cap,rfl,λv hv=>by rw [ö.1 hv];rfl,λsp c' h1 h2=>⟨(w1+1,c',_,((i+1:Nat):Int)),by dsimp only;omega,σ,i+1,rfl,J,?_⟩⟩,λo=>⟨ω,d.le,d.cap,rfl,λv hv=>by rw [ö.1 hv];rfl,λsp c' h1 h2=>⟨(w1+1,c',_,((i+1:Nat):Int)),by dsimp only;omega,σ,i+1,rfl,J,?_⟩⟩⟩;{show GR 1 RBl _ _ _ _ (((aX P).map f).take (i+1));rw [et];refine y.snoc rfl ?_ φ h1 h2;have o:(aV.oV t (cg l x,cj l x) (dY l true)).1=true:=by{simpa using o};rw [ef,o];cases (aV.oV t (cg l x,cj l x) (dY l false)).1<;>rfl};{show GR 1 RBl _ _ _ _ (((aX P).map f).take (i+1));rw [et];refine y.snoc rfl ?_ φ h1 h2;have o:(aV.oV t (cg l x,cj l x) (dY l true)).1=false:=by{simpa using o};rw [ef,o];rfl}
section
variable {S:List L3} {t:Tr} (h:wH S t)
include h
theorem wH.part (E:zA L3)(u:∀l∈E,jO l):(kn t E).length<=122*E.length:=by
 induction E with
 | nil=>exact Ù _
 | cons l E y=>
  have b:=y λx a=>u x (Ă _ a);have k:=u l (č ..);have f1:=(kO (h.Qr k.2)).2.2;have f2:=(kO (h.Qr k.2.rev)).2.2;unfold kn jq at *;grind
set_option maxHeartbeats 4000000 in
theorem wX {V:ut}{q:OA}(g:RW V q t):À 12 #[qyQ q] V λr W=>∃p n c,r=dB p n c/\bo 14 iI W p n (dh (kn t (aY t.di))):=by
 have sz:=h.size;have dl:=h.lines;have Uu:=h.Uu;have kj:=h.len;have fr:=h.qk;refine wA V _ λV1 l1=>(sZ (g.le l1) h.ok).s ?_;rintro r V2 l2 ⟨p,n,c,rfl,gD⟩;generalize aY t.di=D at *;obtain rfl:=gD.len
 have RY:∀j,(kn t (D.take j)).length<=122*25:=λj=>by have h1:=h.part (D.take j) λl hl=>Uu l (Qr2 _ _ hl);rw [è] at h1;omega
 refine ⟨p,_,c,rfl,λz V'=>∃j:Nat,z.2.2.2=(j:Int)/\j<=D.length/\GR 14 iI V' z.1 z.2.1 z.2.2.1 (kn t (D.take j)),λz=>D.length-z.2.2.2.toNat,⟨(0,0,[],0),σ,0,rfl,á _,GR.nil⟩,?_⟩;rintro ⟨z1,z2,vs,z4⟩ V3 l3 ⟨j,F,qA,H⟩;dsimp only at F H;subst F;dsimp only;rw [Ü];refine ⟨rfl,λu=>?_,λu fo a7 bk hb=>?_⟩;rotate_left
 ·have u:¬(j:Int)<D.length:=Â u;obtain rfl:j=D.length:=ω;rw [ď] at H;obtain rfl:=H.len;refine (Gm (bo.bq hb (H.row.le λ_ _ g=>iI.le g a7) φ H.le) ω (k:=1000000) (λf hf=>⟨(fr f hf).2.1.e_.up ω,(fr f hf).2.2⟩)).s ?_;rintro r fg dy ⟨q',m',e',rfl,g⟩;exact ⟨q',m',e',rfl,λ_ gT dX=>⟨q',m',e',rfl,ra⟩⟩
 have u:(j:Int)<D.length:=Á u;have hi:j<D.length:=ω
 have w:i64.wrap ((j:Int)+1)=((j+1:Nat):Int):=by rw [ao ω];rfl
 rw [w];obtain ⟨is,I,J,K,M,N,O,P,Q,R,S,T,U,a,a8,a0,a1,a2,a3,a4,a5,gl⟩:=rP (gD.le l3 λ_ _ k=>bP.le k l3) hi;have kl:=Uu _ (ó hi)
 have et:kn t (D.take (j+1))=kn t (D.take j)++(jq t D[j]++jq t (Ö D[j])):=by unfold kn;rw [Ĭ,ñ hi];show List.flatMap _ (_++[D[j]])=_;rw [ŧ,ē,Wq5,þ]
 have fj:=RY j;have a9:=RY (j+1);rw [et] at a9;generalize D[j]=L at *;refine ⟨is,⟨ω,ω⟩,I,J,K,M,N,O,P,Q,R,S,T,U,a,a8,a0,a1,a2,a3,a4,a5,λV4 l4=>(gX (bP.le gl l4)).s ?_⟩;rintro r V5 l5 gr;have H3:bP V5 r (Ö L):=gr;obtain ⟨s1,W,X,d1,s2,Y,Z,d2,s3,q3,m3,d3,rfl⟩:=bG H3
 refine ⟨s1,W,X,d1,s2,Y,Z,d2,s3,q3,m3,d3,rfl,λz V'=>∃i:Nat,z.2.2.2.1=(i:Int)/\i<=2/\z.2.2.2.2=[Õ I,dB J K M,Õ N,dB O P Q,Õ R,dB S T U,Õ s1,dB W X d1,Õ s2,dB Y Z d2,Õ s3,dB q3 m3 d3]/\V5.Le V'/\GR 14 iI V' z.1 z.2.1 z.2.2.1 (kn t (D.take j)++([L,Ö L].take i).flatMap (jq t)),λz=>2-z.2.2.2.1.toNat,
  ⟨(z1,z2,vs,0,_),σ,0,rfl,ω,rfl,Ó.Le.refl _,by show GR 14 iI V5 z1 z2 vs (_++[]);rw [þ];exact H.s λ_ _ k=>iI.le k au⟩,?_⟩
 rintro ⟨u1,u2,us,u4,lits⟩ V6 l6 ⟨i,F,NB,e5,Qv,Vt⟩;dsimp only at F e5 Vt;subst F e5;dsimp only;rw [Ü];refine ⟨rfl,λm=>?_,λm=>?_⟩;rotate_left
 ·have m:¬(i:Int)<2:=Â m;obtain rfl:i=2:=ω;have e:([L,Ö L].take 2).flatMap (jq t)=jq t L++jq t (Ö L):=by{show jq t L++(jq t (Ö L)++[])=_;rw [þ]};rw [e,<-et] at Vt;exact ⟨(u1,u2,us,((j+1:Nat):Int)),by dsimp only;omega,σ,j+1,rfl,hi,Vt⟩
 have m:(i:Int)<2:=Á m;have wi:i64.wrap ((i:Int)+1)=((i+1:Nat):Int):=by rw [ao ω];rfl
 have b0:∃v Tg x y A Wi Qx B C Wj VS E d,((0+i*6)+6<=([Õ I,dB J K M,Õ N,dB O P Q,Õ R,dB S T U,Õ s1,dB W X d1,Õ s2,dB Y Z d2,Õ s3,dB q3 m3 d3]:zA un).length/\(([Õ I,dB J K M,Õ N,dB O P Q,Õ R,dB S T U,Õ s1,dB W X d1,Õ s2,dB Y Z d2,Õ s3,dB q3 m3 d3]:zA un).drop (0+i*6)).take 6=[Õ v,dB Tg x y,Õ A,dB Wi Qx B,Õ C,dB Wj VS E]) /\
   bP V6 (qvK #[Õ v,dB Tg x y,Õ A,dB Wi Qx B,Õ C,dB Wj VS E]) d/\jO d/\([L,Ö L].take (i+1)).flatMap (jq t)=([L,Ö L].take i).flatMap (jq t)++jq t d/\(([L,Ö L].take i).flatMap (jq t)).length<=61:=by
  rcases (show i=0\/i=1 by omega) with rfl|rfl
  ·exact ⟨I,J,K,M,N,O,P,Q,R,S,T,U,L,⟨by show 0+0*6+6<=12;omega,rfl⟩,bP.le gl au,kl,by show jq t L++[]=[]++jq t L;rw [þ];rfl,á _⟩
  ·exact ⟨s1,W,X,d1,s2,Y,Z,d2,s3,q3,m3,d3,Ö L,⟨by show 0+1*6+6<=12;omega,rfl⟩,bP.le H3 Qv,mz kl,by show jq t L++(jq t (Ö L)++[])=(jq t L++[])++jq t (Ö L);rw [þ,þ],by show (jq t L++[]).length<=61;rw [þ];unfold jq;rw [ĉ];exact (kO (h.Qr kl.2)).2.2⟩
 obtain ⟨v,Tg,x,y,A,Wi,Qx,B,C,Wj,VS,E,d,a6,gL,kL,eT,fT⟩:=b0;refine ⟨⟨ω,ω⟩,v,Tg,x,y,A,Wi,Qx,B,C,Wj,VS,E,a6,λV7 l7=>(Lr (g.le au) h.ok ω (bP.le gL l7) kL).s ?_⟩;rintro r V8 l8 ⟨p8,n8,c8,rfl,g8⟩;obtain rfl:=g8.len;have b4:=(kO (h.Qr kL.2)).2.2
 refine ⟨p8,_,c8,rfl,λz V'=>∃k:Nat,z.2.2.2.1=(k:Int)/\k<=(kd d t).length/\z.2.2.2.2=[Õ I,dB J K M,Õ N,dB O P Q,Õ R,dB S T U,Õ s1,dB W X d1,Õ s2,dB Y Z d2,Õ s3,dB q3 m3 d3]/\V8.Le V'/\GR 14 iI V' z.1 z.2.1 z.2.2.1 ((kn t (D.take j)++([L,Ö L].take i).flatMap (jq t))++((kd d t).take k).map λs=>(d,s)),λz=>(kd d t).length-z.2.2.2.1.toNat,
  ⟨(u1,u2,us,0,_),σ,0,rfl,á _,rfl,Ó.Le.refl _,by show GR 14 iI V8 u1 u2 us (_++[]);rw [þ];exact Vt.s λ_ _ k=>iI.le k au⟩,?_⟩
 rintro ⟨w1,w2,ws,w4,lits⟩ V9 l9 ⟨k,F,b5,e5,Zo,G⟩;dsimp only at F e5 G;subst F e5;dsimp only;rw [Ü];refine ⟨rfl,λo=>?_,λo=>?_⟩;rotate_left
 ·have o:¬(k:Int)<(kd d t).length:=Â o;obtain rfl:k=(kd d t).length:=ω
  rw [ď] at G;refine ⟨(w1,w2,ws,((i+1:Nat):Int),_),by dsimp only;omega,by and_intros<;>first|rfl|exact wi,i+1,rfl,ω,rfl,Qv.m au,?_⟩;show GR 14 iI V9 w1 w2 ws _;rw [eT,<-Ĕ];exact G
 have o:(k:Int)<(kd d t).length:=Á o;have hk:k<(kd d t).length:=ω
 have wk:i64.wrap ((k:Int)+1)=((k+1:Nat):Int):=by rw [ao ω];rfl
 have ⟨js,e1,r1,o1,f1,r2,o2,f2,e2,r3,o3,f3,r4,o4,f4,ad,hd,x0,x1,x2,x3,x4,x5,x6,x7,hq⟩:=Af (g8.le Zo λ_ _ g=>mb.le g Zo) hk;have zl:=G.len;rw [ë,ë,ĉ,è] at zl
 have ek:(((kd d t).take (k+1)).map λs=>(d,s))=(((kd d t).take k).map λs=>(d,s))++[(d,(kd d t)[k])]:=by rw [Ĭ,ñ hk,Ń];rfl
 have rf:iI V9 (qvK #[Õ v,dB Tg x y,Õ A,dB Wi Qx B,Õ C,dB Wj VS E,Õ e1,dB r1 o1 f1,dB r2 o2 f2,Õ e2,dB r3 o3 f3,dB r4 o4 f4,Õ (kd d t)[k].a,Õ (kd d t)[k].b]) (d,(kd d t)[k]):=⟨_,_,_,_,_,_,_,_,_,_,_,_,_,_,_,_,_,_,_,_,_,_,_,_,_,_,rfl,bP.le gL au,hq⟩;refine ⟨js,⟨ω,ω⟩,_,_,_,_,_,_,_,_,_,_,_,_,_,_,_,_,ad,hd,x0,x1,x2,x3,x4,x5,x6,x7,ω,G.le,G.cap,rfl,Hf rf,λsp c' h1 h2=>⟨(w1+1,c',_,((k+1:Nat):Int),_),by dsimp only;omega,by and_intros<;>first|rfl|exact wk,k+1,rfl,hk,rfl,Zo,?_⟩⟩;show GR 14 iI V9 _ _ _ _;rw [ek,<-Ĕ];exact G.snoc (a:=(d,(kd d t)[k])) rfl rf φ h1 h2
end
end
section
def PG {m:L3}{s:Sp}{l:zA (L3×Sp)}:(m,s)∈l↔s∈ax m l:=by unfold ax;rw [ă];constructor;{intro h;exact ⟨_,Ł.2 ⟨h,Ç rfl⟩,rfl⟩};{rintro ⟨⟨a,b⟩,h,rfl⟩;have ⟨c,d⟩:=Ł.1 h;rw [<-(Á d)];exact c}
def mem_F {t:Tr}(ht:∀k∈t.di,ch k=true){m:L3}{s:Sp}:(m,s)∈dh (kn t (aY t.di))↔ch m=true/\s∈kd m t:=by rw [PG,Kb,On ht];split;{rename_i o;rw [IP (show tu (kd m t) from comb_reg ..)];exact ⟨λh=>⟨o,h⟩,λh=>h.2⟩};{rename_i o;exact ⟨λh=>(nomatch h),λh=>Å h.1 o⟩}
def eG (f:L3×Sp):List (Rat×Rat):=(if f.2.a=true then [] else [(cg f.1 f.2.lo,cj f.1 f.2.lo)])++(if f.2.b=true then [] else [(cg f.1 f.2.hi,cj f.1 f.2.hi)])
end
section
variable{v:Value}{V:Ó}{c n:Nat}{vs:List Value}
def AB (a b:Rat×Rat):Int:=if cY a.1 b.1≠0 then cY a.1 b.1 else cY a.2 b.2
theorem AD {a b:Rat×Rat}:AB a b<0↔a.1<b.1\/a.1=b.1/\a.2<b.2:=by unfold AB;rcases ct a.1 b.1 with ⟨g,e⟩|⟨g,e⟩|⟨g,e⟩<;>rw [e]<;>rcases ct a.2 b.2 with ⟨y,u⟩|⟨y,u⟩|⟨y,u⟩<;>rw [u]<;>simp<;>grind
theorem ordCV:Ō AB:=⟨λa b h=>by rw [AD] at *;grind,λa b d h c=>by rw [AD] at *;grind⟩
theorem Yu {a b:Rat×Rat}(h:¬AB a b<0)(u:¬AB b a<0):a=b:=by rw [AD] at h u;exact Wj7 χ χ
def uD (V:Ó)(v:Value)(c:Rat×Rat):Prop:=pP V v c.1 c.2/\Sz 100000000 c.1/\Sz 100000000 c.2
theorem uD.le {V V':ut}{c:Rat×Rat}(h:uD V v c)(l:V.Le V'):uD V' v c:=⟨h.1.le l,h.2⟩
theorem uD.shape {c:Rat×Rat}(h:uD V v c):∃(x y:Int)(p:OA)(u z:Int)(D:OA),v=qvK #[Ô .i64 x,Ô .i64 y,qyQ p,Ô .i64 u,Ô .i64 z,qyQ D]:=by obtain ⟨⟨a,b,p,d,f,q,e,-⟩,-⟩:=h;exact ⟨_,_,_,_,_,_,e⟩
theorem Rf {w:un}{a b:Rat×Rat}(h:pP V v a.1 a.2)(F:pP V w b.1 b.2){k:Nat}(s1:Sz k a.1)(s2:Sz k a.2)(s3:Sz k b.1)(s4:Sz k b.2)(M:k<=200000000:=by omega):À 36 #[v,w] V λr W=>r=Ô .i64 (AB a b):=by obtain ⟨c,d,q,e,f,i,rfl,u,x⟩:=h;obtain ⟨j,l,t,m,n,o,rfl,hu,hw⟩:=F;refine Eh V _ λy z=>(jg ra ra s1 s3).s ?_;rintro r V2 A rfl;refine ⟨_,rfl,λg p s=>?_,λg p s=>(jg ra ra s2 s4).s ?_⟩;{unfold AB;rw [Ä (by simpa using g)]};{rintro r B C rfl;refine ⟨_,rfl,λD E=>?_⟩;unfold AB;rw [Ã (by simpa using g)]}
theorem Li {w:un}{a b:Rat×Rat}(h:uD V v a)(u:uD V w b):À 36 #[v,w] V λr W=>r=Ô .i64 (AB a b):=
 Rf h.1 u.1 h.2.1 h.2.2 u.2.1 u.2.2
def eV (a b:Rat×Rat):Bool:=decide (a.1=b.1/\a.2=b.2)
theorem Rn {w:un}{a b:Rat×Rat}(h:uD V v a)(u:uD V w b):À 39 #[v,w] V λr W=>r=Õ (eV a b):=
 AM h.1 u.1 h.2.1 h.2.2 u.2.1 u.2.2
structure UA (V:Ó) (n:Nat) (vs:List Value) (l:List (Rat×Rat)):Prop where
 row:é 6 uD V vs l
 len:n=l.length
 kj:l.length<30000
theorem UA.le {V V':ut}{l:zA (Rat×Rat)}(h:UA V n vs l)(e:V.Le V'):UA V' n vs l:=⟨h.row.le λ_ _ g=>uD.le g e,h.len,h.kj⟩
theorem UA.get {l:zA (Rat×Rat)}(h:UA V n vs l){k:Nat}(E:k<l.length):∃(x y:Int)(p:OA)(u z:Int)(D:OA),((0+k*6)+6<=vs.length/\(vs.drop (0+k*6)).take 6=[Ô .i64 x,Ô .i64 y,qyQ p,Ô .i64 u,Ô .i64 z,qyQ D])/\uD V (qvK #[Ô .i64 x,Ô .i64 y,qyQ p,Ô .i64 u,Ô .i64 z,qyQ D]) (l.getD k DR):=by obtain ⟨xs,-,a,b,c⟩:=h.row.get (d:=DR) E φ;obtain ⟨x,y,p,u,z,D,e⟩:=a.shape;have e:=Æ Array.toList (Value.agg.inj e);subst e;rw [Ĉ];exact ⟨x,y,p,u,z,D,⟨b,c⟩,a⟩
theorem uD.cells {c:Rat×Rat}(h:uD V v c):∃xs:zA un,v=.agg xs.toArray/\xs.length=6/\∀x∈xs,x.oneCell'=true:=by obtain ⟨_,_,_,_,_,_,rfl⟩:=h.shape;exact ⟨_,rfl,rfl,ĥ.1 rfl⟩
theorem Iw {V:ut}{lb:Nat}{l:zA (Rat×Rat)}(hw:V.w.heap[lb]?=some (.cells vs.toArray 103 (0,0)))(z:V.X lb)(h:UA V n vs l):À 35 #[dB (some ⟨lb,0,none⟩) n c,.func (.func 36) #[] #[]] V λr W=>r=æ #[]/\∃u l',W.w.heap[lb]?=some (.cells u.toArray 103 (0,0))/\UA W n u l'/\l'.Perm l/\l'.Pairwise λx y=>¬AB y x<0:=by have kj:=h.kj;refine (Cp (R:=uD) (cf:=AB) FK aggP sizP uD.le uD.cells ordCV Li φ hw z h.row h.len).s λr V' b ⟨rfl,u,l',e,row,pm,a⟩=>⟨rfl,u,l',e,⟨row,h.len.m pm.length_eq.symm,by rw [pm.length_eq];exact kj⟩,pm,a⟩
theorem yL:À 35 #[dB none 0 0,.func (.func 36) #[] #[]] V λr W=>r=æ #[]:=
 (rZ FK).s λ_ _ _ h=>h.1
set_option maxHeartbeats 1000000 in
theorem AF {V:ut}{lb n c:Nat}{vs:zA un}{l:zA (Rat×Rat)}(hw:V.w.heap[lb]?=some (.cells vs.toArray 103 (0,0)))(hx:V.X lb)(h:UA V n vs l)(hc:n<=c):À 38 #[dB (some ⟨lb,0,none⟩) n c,.func (.func 39) #[] #[]] V λr W=>∃vs',r=dB (some ⟨lb,0,none⟩) (ie eV l).length c/\W.w.heap[lb]?=some (.cells vs'.toArray 103 (0,0))/\é 6 uD W vs' (ie eV l)/\vs'.length=vs.length:=by
 have kj:=h.kj;have len:=h.len;refine lZ lb n c vs V _ hw hx ⟨λH V1 l1 J=>?_,λH=>⟨λz V'=>∃k:Nat,z=((k+1:Nat):Int)/\k+1<=n/\ie eV (l.take (k+1))=l.take (k+1),λz=>n-z.toNat,⟨1,σ,0,rfl,by have:=Â H;omega,uZ (by rw [è];omega)⟩,?_⟩⟩
 ·have H:(n:Int)<2:=Á H;have e:=uZ (e:=eV) (l:=l);rw [e,<-len];exact ⟨vs,rfl,J,h.row.le λ_ _ g=>uD.le g l1,rfl⟩
 rintro z V2 l2 ⟨k,rfl,hk,j⟩;have G:=h.le l2;refine ⟨rfl,λb=>?_,λb V9 l9 K=>?_⟩;rotate_left
 ·have b:¬((k+1:Nat):Int)<n:=Â b;have e:l.take (k+1)=l:=Ŕ ω;rw [e] at j;rw [j,<-len];exact ⟨vs,rfl,K,h.row.le λ_ _ g=>uD.le g au,rfl⟩
 have b:((k+1:Nat):Int)<n:=Á b;have w1:i64.wrap (((k+1:Nat):Int)-1)=(k:Int):=by rw [ao ω];omega
 have w2:i64.wrap (((k+1:Nat):Int)+1)=((k+1+1:Nat):Int):=by rw [ao ω];rfl
 rw [w1,w2,Ü,Ü];obtain ⟨x,y,A,B,C,D,I,W⟩:=G.get (k:=k+1) ω;obtain ⟨L,M,N,O,P,Q,R,Y⟩:=G.get (k:=k) ω;refine ⟨⟨ω,b⟩,x,y,A,B,C,D,I,⟨ω,ω⟩,L,M,N,O,P,Q,R,λV3 l3=>(Rn ra ra).s ?_⟩;rintro r V4 l4 rfl;have step:=kJ (e:=eV) (d:=DR) (l:=l) (k:=k);refine ⟨_,rfl,λhe=>⟨⟨ω,ω⟩,?_⟩,λhe=>⟨((k+1+1:Nat):Int),by dsimp only;omega,σ,k+1,rfl,ω,?_⟩⟩;rotate_left
 ·have p:eV (l.getD (k+1) DR) (l.getD k DR)=false:=he;rw [step,j,p];show l.take (k+1)++[_]=_;have E:k+1<l.length:=ω;rw [show l.getD (k+1) DR=l[k+1] by rw [Ė,ñ E];rfl,ŀ E]
 have p:eV (l.getD (k+1) DR) (l.getD k DR)=true:=he;have Z:∀{m:Nat},m<c->pO 0 c m 6=m*6:=λhm=>by unfold pO;rw [Ã ω,Ĉ]
 refine ⟨λz V'=>∃(q t:Nat)(m:zA (Rat×Rat)),z.1=(q:Int)/\z.2.1=((t+1:Nat):Int)/\q<=k+1+t/\k+1+t+1<=n/\UA V' n z.2.2 m/\z.2.2.length=vs.length/\(∀i,k+1+t<=i->m.getD i DR=l.getD i DR)/\m.take q=ie eV (l.take (k+1+t+1)),λz=>n-z.2.1.toNat,
  ⟨(((k+1:Nat):Int),1,vs),σ,k+1,0,l,rfl,rfl,ω,ω,ra,rfl,λi _=>rfl,?_⟩,?_⟩
 ·rw [ě,step,p,Ä rfl,þ,j]
 rintro ⟨zq,zt,us⟩ V5 l5 ⟨q,t,m,e1,e2,hq,ht,s,S,hm,F⟩;dsimp only at e1 e2 s S;subst e1 e2;dsimp only;have ml:=s.len;have a0:=s.row.eM φ;refine ⟨rfl,λa=>?_,λa=>?_⟩
 ·have a:((t+1:Nat):Int)<((n-(k+1):Nat):Int):=Á a;have w3:i64.wrap (((t+1:Nat):Int)-1)=(t:Int):=by{rw [ao ω];omega};have w4:i64.wrap (((t+1:Nat):Int)+1)=((t+1+1:Nat):Int):=by{rw [ao ω];rfl};have w5:i64.wrap ((q:Int)+1)=((q+1:Nat):Int):=by{rw [ao ω];rfl};rw [w3,w4,w5,Ü,Ü,Ü,Z ω];obtain ⟨x,y,A,B,C,D,I,W⟩:=s.get (k:=k+1+(t+1)) ω;obtain ⟨L,M,N,O,P,Q,R,Y⟩:=s.get (k:=k+1+t) ω;have a1:(k+1)*6+(t+1)*6=0+(k+1+(t+1))*6:=ω;have a2:(k+1)*6+t*6=0+(k+1+t)*6:=ω;rw [a1,a2];rw [hm _ ω] at W;rw [hm _ ω] at Y;refine ⟨⟨ω,a⟩,x,y,A,B,C,D,I,⟨ω,ω⟩,L,M,N,O,P,Q,R,λV6 l6=>(Rn ra ra).s ?_⟩;rintro r V7 l7 rfl;have XK:=l6.m l7;have f:=kJ (e:=eV) (d:=DR) (l:=l) (k:=k+1+t);refine ⟨_,rfl,λT=>⟨⟨ω,a⟩,x,y,A,B,C,D,I,⟨ω,ω⟩,ω,(((q+1:Nat):Int),((t+1+1:Nat):Int),_),by dsimp only;omega,σ,q+1,t+1,m.set q (l.getD (k+1+(t+1)) DR),rfl,rfl,ω,ω,?_,?_,λi E=>?_,?_⟩,λT=>⟨(((q:Nat):Int),((t+1+1:Nat):Int),us),by dsimp only;omega,σ,q,t+1,m,rfl,rfl,ω,ω,ra,S,λi E=>hm i ω,?_⟩⟩;{refine ⟨?_,by rw [Qf3];exact ml,by rw [Qf3];exact s.kj⟩;have:=(s.le XK).row.put (i:=q) ω φ (xs:=[Ô .i64 x,Ô .i64 y,qyQ A,Ô .i64 B,Ô .i64 C,qyQ D]) rfl ra;rw [Ĉ];exact this};{exact (qR (vs:=us) (xs:=[Ô .i64 x,Ô .i64 y,qyQ A,Ô .i64 B,Ô .i64 C,qyQ D]) (o:=0+q*6) (by show 0+q*6+6<=_;omega)).m S};{rw [Ė,Qm3 ω,<-Ė];exact hm i ω};{have u:eV (l.getD (k+1+(t+1)) DR) (l.getD (k+1+t) DR)=false:=by{simpa using T};have v:eV (l.getD (k+1+t+1) DR) (l.getD (k+1+t) DR)=false:=u;have E:q<m.length:=ω;rw [show k+1+(t+1)+1=k+1+t+2 from rfl,f,v,<-F,Ã φ];rw [Qp4,Ĭ,ñ E,show (some m[q]).toList=[m[q]] from rfl];rw [List.set_append_right _ _ (by rw [è];omega),è,ğ ω,Nat.sub_self];rfl};{have u:eV (l.getD (k+1+(t+1)) DR) (l.getD (k+1+t) DR)=true:=by{simpa using T};have v:eV (l.getD (k+1+t+1) DR) (l.getD (k+1+t) DR)=true:=u;rw [show k+1+(t+1)+1=k+1+t+2 from rfl,f,v,Ä rfl,þ,F]}
 ·have a:¬((t+1:Nat):Int)<((n-(k+1):Nat):Int):=Â a;have hl:l.take (k+1+t+1)=l:=Ŕ ω;rw [hl] at F;have a3:q<n:=by{have:=Nv (e:=eV) (d:=DR) (l:=l) (k:=k) ω p;rw [<-F,è] at this;omega};rw [Ü,Z ω];have hz:q*6+(n-q)*6=n*6:=by{rw [<-đ];congr 1;omega};rw [hz];refine ⟨⟨ω,ω⟩,ω,⟨ω,ω⟩,λV8 l8 U=>⟨_,?_,U,?_,?_⟩⟩;{rw [<-F,è,ğ ω]};{rw [<-F,Ĕ];exact (s.row.le λ_ _ g=>uD.le g l8).Nt ω φ};{simp only [ë,è,ī,oX,Ww4,Wx7,List.sum_replicate_nat,Ą,İ];omega}
theorem tK:À 38 #[dB none 0 0,.func (.func 39) #[] #[]] V λr W=>r=dB none 0 0:=
 jZ V _ ⟨λ_ a b=>rfl,λh=>Å (Â h) φ⟩
theorem nj {p:OA}{A:zA (Rat×Rat)}(h:bo 6 uD V p n A)(hn:A.length<=1000000:=by omega):À 37 #[dB p n c] V λr W=>∃q m e,r=dB q m e/\bo 6 eI W q m A:=by obtain rfl:=h.len;refine wg V _ ⟨λz V'=>∃j:Nat,z.2.2.2=(j:Int)/\j<=A.length/\GR 6 eI V' z.1 z.2.1 z.2.2.1 (A.take j),λz=>A.length-z.2.2.2.toNat,⟨(0,0,[],0),σ,0,rfl,á _,GR.nil⟩,?_⟩;rintro ⟨s,P,Q,R⟩ S i ⟨j,t,T,d⟩;subst t;have u:=d.len;rw [è] at u;refine ⟨rfl,λb=>?_,λb U v W B=>?_⟩;{have b:(j:Int)<A.length:=Á b;have f:j<A.length:=ω;have w:i64.wrap ((j:Int)+1)=((j+1:Nat):Int):=by{rw [ao ω];rfl};dsimp only;rw [Ü,w];obtain ⟨C,x,y,q,X,Y,Z,a,D,E,F,G,H,I,J,g⟩:=VN (k:=100000000) (h.le i λ_ _ g=>uD.le g i) f;refine ⟨C,⟨ω,ω⟩,_,_,_,_,_,_,a,D,E,F,G,H,I,J,λV2 K=>(Gh (g.1.le K) g.2.1 g.2.2 φ).s ?_⟩;rintro r l l3 L;have o:eI l r A[j]:=L;obtain ⟨_,_,_,_,_,_,_,_,_,_,_,_,_,_,rfl⟩:=o.shape;refine qxZ ⟨rfl,ω,d.le,d.cap,rfl,NV,λsp M N O=>⟨(s+1,M,_,((j+1:Nat):Int)),by dsimp only;omega,σ,j+1,rfl,f,?_⟩⟩;rw [Ĭ,ñ f];exact (d.s (V':=l) λ_ _ g=>eI.le g au).snoc rfl o φ N O};{have b:¬(j:Int)<A.length:=Â b;obtain rfl:j=A.length:=ω;rw [ď] at d;obtain rfl:=d.len;exact ⟨_,_,_,rfl,bo.bq B (d.row.le λ_ _ g=>eI.le g v) φ d.le⟩}
def OB (V:Ó)(n c:Nat)(vs:List Value)(l:List (Rat×Rat)):Prop:=GR 6 uD V n c vs l/\(vs≠[]->0<n)
theorem OB.le {V V':ut}{l:zA (Rat×Rat)}(h:OB V n c vs l)(e:V.Le V'):OB V' n c vs l:=⟨h.1.s λ_ _ g=>uD.le g e,h.2⟩
theorem nF:∀l:zA (L3×Sp),(l.flatMap eG).length<=2*l.length
 | []=>Ù _
 | f::r=>by
  have:=nF r;rw [ē,ë,Ą]
  have:(eG f).length<=2:=by
   unfold eG;split<;>split<;>simp
  omega
section
variable {S:List L3} {t:Tr} (h:wH S t)
include h
theorem UT {V:ut}{q:OA}(g:RT V q t):À 31 #[qyQ q] V λr W=>∃p n c,r=dB p n c/\bo 17 pH W p n (dh (kn t (aY t.di))):=by
 have e:=h.len;have j:=h.lines
 exact pW g (xE h.ok) h.size ω (λl b=>⟨_,_,h.Qr (h.Uu l b).2,h.Qr (h.Uu l b).2.rev⟩) (λi _=>xJ i) (My _) (Rq _)
  λg d=>wR g d ω (λm=>ō (h.each m) ω) (λf a=>(h.qk f a).2.1.e_.up ω) (λf a=>(h.qk f a).1.2) (λf a=>(h.qk f a).2.2) λi=>xJ i
theorem Lc {V:ut}{v y z:un}(hA:AT V v (rt 0 t) (wr 0 t))(hy:pQ V 0 y)(hz:pQ V 1 z):À 11 #[v] V λr W=>∃p n c m,r=æ #[dB p n c,.nilIface]/\bo 6 eI W p n (ie eV m)/\m.Perm ((dh (kn t (aY t.di))).flatMap eG)/\m.Pairwise λx y=>¬AB y x<0:=by have ln:=h.len;have sz:=h.size;have jl:=xw (kn t (aY t.di));have zs:=vx λf X=>(h.qk f X).2;obtain ⟨q,n,c,rfl,-⟩:=id hA;refine rk V _ λV1 l1=>(pf (qC (xE h.ok)) ra ra ra).s ?_;rintro r V2 l2 ⟨-,g⟩;obtain ⟨p,rfl,gt⟩:=g t (L9 (NT h.ok)) h.dep;refine ⟨p,.nilIface,rfl,.inl rfl,π,λ_ V4 l4=>(UT h (gt.le l4)).s ?_⟩;rintro r V5 l5 ⟨p3,n3,c3,rfl,hF⟩;generalize dh (kn t (aY t.di))=F at *;obtain rfl:=hF.len;refine ⟨p3,_,c3,rfl,λz V'=>∃j:Nat,z.2.2.2=(j:Int)/\j<=F.length/\OB V' z.1 z.2.1 z.2.2.1 ((F.take j).flatMap eG),λz=>F.length-z.2.2.2.toNat,⟨(0,0,[],0),σ,0,rfl,á _,GR.nil,λh=>Å rfl h⟩,?_⟩;rintro ⟨Y,G,vs,z4⟩ V6 l6 ⟨j,T,qA,s⟩;dsimp only at T s;subst T;have el:∀i,((F.take i).flatMap eG).length<=12200:=λi=>by{have:=nF (F.take i);rw [è] at this;omega};refine ⟨rfl,λu=>?_,λu=>?_⟩;{have u:(j:Int)<F.length:=Á u;have U:j<F.length:=ω;have w:i64.wrap ((j:Int)+1)=((j+1:Nat):Int):=by{rw [ao ω];rfl};dsimp only;rw [Ü,w];obtain ⟨ad,a0,xs,h2,h3⟩:=(hF.le l6 λ_ _ g=>zU.le g l6).at_ j U;have X:zU V6 (.agg xs.toArray) F[j].1 F[j].2:=h3.1;have d:=h3.2;obtain ⟨x1,x2,p',y1,y2,q',u1,u2,r',v1,v2,t',w1,w2,o',ex,-,-⟩:=id X;have ex:=Æ Array.toList (Value.agg.inj ex);subst ex;have ⟨s1,s2⟩:=zs _ (ó U);have step:(F.take (j+1)).flatMap eG=(F.take j).flatMap eG++eG F[j]:=by{rw [<-ŀ U,ŧ];simp};have a4:=s.1.len;have H:=el j;refine ⟨aK a0,⟨ω,ω⟩,x1,x2,p',y1,y2,q',u1,u2,r',v1,v2,t',w1,w2,o',_,_,ad,a0,d 0 _ rfl,d 1 _ rfl,d 2 _ rfl,d 3 _ rfl,d 4 _ rfl,d 5 _ rfl,d 6 _ rfl,d 7 _ rfl,d 8 _ rfl,d 9 _ rfl,d 10 _ rfl,d 11 _ rfl,d 12 _ rfl,d 13 _ rfl,d 14 _ rfl,d 15 _ rfl,d 16 _ rfl,λ_=>⟨⟨ω,ω⟩,λV7 l7=>(K_ ra s1 s2).s ?_⟩,λh=>nomatch h⟩;rintro r V8 l8 ⟨w',rfl,W⟩;have I:=W;obtain ⟨_,_,_,_,_,_,rfl,-,-⟩:=W;refine qxW ⟨rfl,λz V'=>OB V' z.1 z.2.1 z.2.2 ((F.take j).flatMap eG++if F[j].2.a=true then [] else [(cg F[j].1 F[j].2.lo,cj F[j].1 F[j].2.lo)]),⟨λk=>?_,λk=>?_⟩,?_⟩;{have k:F[j].2.a=false:=by{simpa using k};rw [k] at I;refine ⟨ω,s.1.le,s.1.cap,rfl,XS,λsp Z D J=>⟨(Y+1,Z,_),σ,?_⟩⟩;rw [k,Ã φ];exact ⟨(s.1.s (V':=V8) λ_ _ g=>uD.le g au).snoc rfl ⟨I,(qU s1 s2.1).s ω,(qV s1 s2.1).s ω⟩ φ D J,λ_=>by dsimp only;omega⟩};{have k:F[j].2.a=true:=by{simpa using k};refine ⟨(Y,G,vs),σ,?_⟩;rw [k,Ä rfl,þ];exact ra};rintro ⟨n1,n2,ns⟩ V9 l9 B;dsimp only at B;have m1:=B.1.len;refine ⟨rfl,λ_=>⟨⟨ω,ω⟩,λfo a5=>(Rd ra s1 s2).s ?_⟩,λh=>nomatch h⟩;rintro r fg dy ⟨a6,rfl,K⟩;have L:=K;obtain ⟨_,_,_,_,_,_,rfl,-,-⟩:=K;have m2:n1<=12201:=by{have:(if F[j].2.a=true then [] else [(cg F[j].1 F[j].2.lo,cj F[j].1 F[j].2.lo)]).length<=1:=by{split<;>simp};rw [ë] at m1;omega};refine qxW ⟨rfl,λz V'=>OB V' z.1 z.2.1 z.2.2 ((F.take (j+1)).flatMap eG),⟨λk=>?_,λk=>?_⟩,?_⟩;{have k:F[j].2.b=false:=by{simpa using k};rw [k] at L;refine ⟨by dsimp only;omega,B.1.le,B.1.cap,rfl,XS,λsp Z D J=>⟨(n1+1,Z,_),σ,?_⟩⟩;rw [step,eG,k,Ã (c:=false=true) φ,<-Ĕ];exact ⟨(B.1.s (V':=fg) λ_ _ g=>uD.le g au).snoc rfl ⟨L,(qU s1 s2.2).s ω,(qV s1 s2.2).s ω⟩ φ D J,λ_=>by dsimp only;omega⟩};{have k:F[j].2.b=true:=by{simpa using k};refine ⟨(n1,n2,ns),σ,?_⟩;rw [step,eG,k,Ä (c:=true=true) rfl,þ];exact ra};rintro ⟨D,J,ks⟩ gT dX a1;exact ⟨rfl,π,λ_=>⟨(D,J,ks,((j+1:Nat):Int)),by dsimp only;omega,σ,j+1,rfl,U,a1⟩⟩};have u:¬(j:Int)<F.length:=Â u;obtain rfl:j=F.length:=ω;have H:=el F.length;rw [ď] at s H;obtain ⟨s,M⟩:=s;have N:=s.cap;have hle:=s.le;have hlen:=s.len;generalize F.flatMap eG=o at *;refine ⟨λhz=>?_,λhz sC kt O f1 f2=>?_⟩;{subst hz;have c0:G=0:=by{simp at N;omega};subst c0;have n0:Y=0:=ω;subst n0;refine ⟨rfl,λiL dS=>yL.s ?_⟩;rintro r lR gj rfl;refine ⟨rfl,λlS gC Yt e1 e2=>tK.s ?_⟩;rintro r kH fy rfl;refine ⟨0,[],λh=>Å rfl h,λh=>Å rfl h,none,0,0,rfl,λlT ij UO hl=>(nj (A:=[]) bo.nil φ).s ?_⟩;rintro r mZ hU ⟨P,Q,R,rfl,hw⟩;refine ⟨P,Q,R,rfl,λ_ pS jN=>⟨P,Q,R,[],rfl,hw.le jN λ_ _ g=>eI.le g jN,?_,List.Pairwise.nil⟩⟩;rw [(ĝ.1 hlen.symm)]};have a7:=M hz;have a2:G≠0:=ω;have LI:∀b,mA b G=some ⟨b,0,none⟩:=λb=>by{unfold mA;rw [Ã a2]};rw [LI];refine (Iw (V:=sC.ar [vb vs sC.w.heap.size O]) (f1 hz) ⟨by simp [pC hz],f2 hz⟩ ⟨s.row.le λ_ _ g=>uD.le g λb o h=>kt b o h,hlen,ω⟩).s ?_;rintro r sE qB ⟨rfl,C,m,e3,sr,pm,pw⟩;have PI:=pm.length_eq;have E:C≠[]:=λe=>by{have:=sr.row.eM φ;rw [e,PI,<-hlen] at this;simp at this;omega};refine ⟨rfl,hz,C,E,e3,λsN nH S W K=>?_⟩;rw [LI];refine aa.XO (AF (V:=sN.ar [vb C sN.w.heap.size S]) (lb:=S) (vs:=C) (l:=m) (W E) ⟨by simp [pC E],K E⟩ (sr.le λb o h=>nH b o h) hle) ?_;rintro r uF pk hH ⟨ws,rfl,T,row,wl⟩;have hk:=A8 (e:=eV) (l:=m);refine ⟨S,ws,λ_=>T,λ_=>.inr ⟨E,rfl⟩,some ⟨S,0,none⟩,(ie eV m).length,G,by rw [LI],λDx pM a3 D=>(nj (A:=ie eV m) (bo.bq D (row.le λ_ _ g=>uD.le g ((Jm λ_=>hH S (K E)).m pM)) φ ω)).s ?_⟩;rintro r HZ Bz ⟨P,Q,R,rfl,hw⟩;exact ⟨P,Q,R,rfl,λ_ Nb Jl=>⟨P,Q,R,m,rfl,ra,pm,pw⟩⟩
theorem YC {x:Rat×Rat}(u:x∈(dh (kn t (aY t.di))).flatMap eG):Sz 100000000 x.1/\Sz 100000000 x.2:=by have ⟨f,a,u⟩:=ĕ.1 u;have ⟨s1,s2⟩:=vx (λf a=>(h.qk f a).2) f a;rcases ø.1 u with u|u;{split at u;{cases u};{rw [ö.1 u];exact ⟨(qU s1 s2.1).s ω,(qV s1 s2.1).s ω⟩}};{split at u;{cases u};{rw [ö.1 u];exact ⟨(qU s1 s2.2).s ω,(qV s1 s2.2).s ω⟩}}
end
end
section
variable{V:Ó}{v:Value}{p:OA}{c i n:Nat}
structure WW (f:L3×Sp):Prop where
 ok:ch f.1=true
 bd:Bd f.1
 gd:f.2.good
 sz:f.2.sz 100000
theorem EU (l:L3)(h:Nz l):jB l l=0:=by unfold jB;exact (wO h 0).1
theorem Mv {l:L3}(h:Nz l)(s:Sp):po l s l=[]/\po l s (Ö l)=[]:=by have a:Û l l=0:=by{unfold Û;grind};have b:Û (Ö l) l=0:=by{unfold Û Ö;simp only [Qs5];grind};have c:jB (Ö l) l=0:=by{have:=EU l h;unfold jB at *;rw [val_rev,this];rfl};refine ⟨?_,?_⟩<;>unfold po cS;{rw [a,EU l h];rfl};{rw [b,c];rfl}
theorem xI (l:L3)(s:Sp)(m:L3):(po l s m).length<=1:=by unfold po;split<;>simp
theorem TR {l m:L3}{s:Sp}(h:WW (l,s))(y:Bd m):∀u∈po l s m,WW u:=λu hu=>by
 unfold po at hu;split at hu
 ·rename_i g;rw [ö.1 hu];exact ⟨h.ok,h.bd,kY h.gd g,Aj h.bd.e_ y.e_ h.sz ω⟩
 ·cases hu
def lF (m:L3)(fs:List (L3×Sp)):List (L3×Sp):=fs.flatMap λf=>po f.1 f.2 m
theorem JG {m:L3}{fs:zA (L3×Sp)}(h:∀f∈fs,WW f)(y:Bd m):∀u∈lF m fs,WW u:=λu hu=>by
 have ⟨f,a,b⟩:=ĕ.1 hu;grind [TR]
theorem rT (m:L3):∀fs:zA (L3×Sp),(lF m fs).length<=fs.length
 | []=>Ù _
 | f::fs=>by
  have:=rT m fs;grind [xI,lF]
theorem Mc {f:L3×Sp}{fs:zA (L3×Sp)}(h:Nz f.1):(lF f.1 (f::fs)).length<=fs.length/\(lF (Ö f.1) (f::fs)).length<=fs.length:=by have ⟨a,b⟩:=Mv h f.2;refine ⟨?_,?_⟩<;>unfold lF<;>rw [ē];{rw [a];exact rT _ fs};{rw [b];exact rT _ fs}
theorem UY {x y:Rat}(h:Uk V v x y){k:Nat}(s1:Sz k x)(s2:Sz k y)(M:k<=2^38:=by omega):À 221 #[v] V λr W=>RP W r x y:=by obtain ⟨_,_,_,_,_,_,_,_,_,_,_,_,_,_,rfl,a,b⟩:=h;refine KN V _ λc d=>(Rg ra s1 M).s ?_;rintro r V2 e ⟨f,g,i,j,l,m,rfl,n,o⟩;refine qxW ⟨rfl,λp q=>(Rg ra s2 M).s ?_⟩;rintro r s t ⟨u,w,z,A,B,C,rfl,D,E⟩;exact qxW ⟨rfl,λF G=>⟨_,_,_,_,_,_,_,_,_,_,_,_,rfl,⟨_,_,_,_,_,_,rfl,ra,ra⟩,⟨_,_,_,_,_,_,rfl,ra,ra⟩⟩⟩
theorem TL {b1 u:md}{y z D E:OA}{F c1 M N O Z n4 c4:Nat}{c:Rat×Rat}(h:cP V (qvK #[Õ b1,dB y F c1,dB z M N,Õ u,dB D O Z,dB E n4 c4]) c):RQ V (qvK #[Õ b1,dB y F c1,dB z M N]) c.1/\RQ V (qvK #[Õ u,dB D O Z,dB E n4 c4]) c.2:=by obtain ⟨_,_,_,_,_,_,_,_,_,_,_,_,e,a,b⟩:=h;have e:=Æ Array.toList (Value.agg.inj e);simp only [ł,Value.bool.injEq,Value.slice.injEq,Í] at e;obtain ⟨rfl,⟨rfl,rfl,rfl⟩,⟨rfl,rfl,rfl⟩,rfl,⟨rfl,rfl,rfl⟩,⟨rfl,rfl,rfl⟩⟩:=e;exact ⟨a,b⟩
theorem AQ {u w:un}{a b c:Rat×Rat}(O:cP V u a)(Z:cP V v b)(hc:cP V w c){k:Nat}(h1:1<=k)(M:Sz k a.1/\Sz k a.2)(N:Sz k b.1/\Sz k b.2)(sc:Sz k c.1/\Sz k c.2)(hk:40*k+40<2^38:=by omega):À 294 #[u,v,w] V λr W=>∃x,r=Ô .i64 x:=by obtain ⟨_,_,_,_,_,_,_,_,_,_,_,_,_,_,rfl⟩:=O.shape;obtain ⟨_,_,_,_,_,_,_,_,_,_,_,_,_,_,rfl⟩:=Z.shape;obtain ⟨_,_,_,_,_,_,_,_,_,_,_,_,_,_,rfl⟩:=hc.shape;refine zG V _ λi f=>(p_ (RP.le Z f) (RP.le O f) N.1 N.2 M.1 M.2 h1).s ?_;rintro r V2 j g;obtain ⟨_,_,_,_,_,_,_,_,_,_,_,_,_,_,rfl⟩:=gO g;refine qxZ ⟨rfl,λl o=>(p_ (RP.le hc au) (RP.le O au) sc.1 sc.2 M.1 M.2 h1).s ?_⟩;rintro r q s h;obtain ⟨_,_,_,_,_,_,_,_,_,_,_,_,_,_,rfl⟩:=gO h;have m:k+(k+1)<=2*k+1:=ω;refine qxZ ⟨rfl,λt y=>(gH (k:=2*k+1) ra ra ((N.1.sub M.1).s ω) ((N.2.sub M.2).s ω) ((sc.1.sub M.1).s ω) ((sc.2.sub M.2).s ω)).s ?_⟩;rintro r z A ⟨p,n,d,B,C,D,rfl,E,F⟩;exact qxW ⟨rfl,λG H=>(rG _ ra).s λr I J e=>⟨_,e,λK L=>⟨_,rfl⟩⟩⟩
theorem yP (f n:Int):À 262 #[Ô .i64 f,Ô .i64 n] V λr W=>∃b,r=Õ b:=
 xV V _ ⟨λ_=>⟨φ,λ_ a c=>⟨_,rfl⟩,λ_=>⟨λ_ V2 d=>⟨_,rfl⟩,λ_ e g=>⟨_,rfl⟩⟩⟩,λ_=>⟨λ_ h i=>⟨_,rfl⟩,λ_ j k=>⟨_,rfl⟩⟩⟩
def Um (k:Nat)(l:List (Rat×Rat)):Prop:=∀p∈l,Sz k p.1/\Sz k p.2
theorem AX {l:zA (Rat×Rat)}{q:Rat×Rat}(h:bo 6 cP V p n l)(hl:l.length<=1000)(hs:Um 600000000 l)(hq:cP V v q)(sq:Sz 600000000 q.1/\Sz 600000000 q.2):À 261 #[dB p n c,v] V λr W=>∃x,r=Ô .i64 x:=by
 obtain rfl:=h.len;obtain ⟨Q1,Q2,Q3,Q4,Q5,Q6,Q7,L,M,N,O,P,Q,R,rfl⟩:=hq.shape;refine zN V _ ⟨λz _=>∃j:Nat,z.2=(j:Int)/\j<=l.length,λz=>l.length-z.2.toNat,⟨(0,0),σ,0,rfl,á _⟩,?_⟩;rintro ⟨z1,z2⟩ i U ⟨j,e,qA⟩;dsimp only at e;subst e;refine ⟨rfl,λd=>?_,λ_ iL dS=>⟨_,rfl⟩⟩;have d:=Á d;have m:j<l.length:=ω
 have w:i64.wrap ((j:Int)+1)=((j+1:Nat):Int):=by rw [ao ω];rfl
 have hm:(((j+1:Nat):Int)).tmod (l.length:Int)=(((j+1)%l.length:Nat):Int):=by rw [Wj3]
 have X:(j+1)%l.length<l.length:=Ě _ ω;dsimp only;rw [w,hm];rw [Ü,Ü];have Y:=h.le U λ_ _ g=>cP.le g U;obtain ⟨Z,b1,p1,n1,c1,p2,n2,c2,o,s,t,u,A,B,C,a,ha,a0,a1,a2,a3,a4,a5,gu⟩:=oJ cP.shape Y m;obtain ⟨-,B1,P1,N1,C1,P2,N2,C2,D,E,F,G,H,I,J,b,hb,A0,A1,A2,A3,A4,A5,gw⟩:=oJ cP.shape Y X;have S:=hs _ (ó m);have T:=hs _ (ó X);have uy:∀{W:ut},i.Le W->RQ W (qvK #[Õ o,dB s t u,dB A B C]) l[j].2:=λg=>(TL gu).2.le g;have wy:∀{W:ut},i.Le W->RQ W (qvK #[Õ D,dB E F G,dB H I J]) l[(j+1)%l.length].2:=λg=>(TL gw).2.le g;have qy:∀{W:ut},i.Le W->RQ W (qvK #[Õ L,dB M N O,dB P Q R]) q.2:=λg=>(TL hq).2.le au
 have f:∀{W:ut},i.Le W->À 294 #[qvK #[Õ b1,dB p1 n1 c1,dB p2 n2 c2,Õ o,dB s t u,dB A B C],qvK #[Õ B1,dB P1 N1 C1,dB P2 N2 C2,Õ D,dB E F G,dB H I J],qvK #[Õ Q1,dB Q2 Q3 Q4,dB Q5 Q6 Q7,Õ L,dB M N O,dB P Q R]] W λr W=>∃x,r=Ô .i64 x:=λg=>
  AQ (k:=600000000) (cP.le gu g) (cP.le gw g) ra ω S T sq
 refine ⟨Z,⟨ω,ω⟩,b1,p1,n1,c1,p2,n2,c2,o,s,t,u,A,B,C,a,ha,a0,a1,a2,a3,a4,a5,ω,Z,⟨ω,ω⟩,B1,P1,N1,C1,P2,N2,C2,D,E,F,G,H,I,J,b,hb,A0,A1,A2,A3,A4,A5,λV2 K=>(ew (uy K) (qy K) S.2 sq.2).s ?_⟩;rintro r V3 l3 rfl;refine ⟨_,rfl,λV4 l4=>(ew (wy au) (qy au) T.2 sq.2).s ?_⟩;rintro r V5 l5 rfl;have L5:=K.m (l3.m (l4.m l5));refine ⟨_,rfl,λ_ _=>True,⟨λ_=>⟨λ_ V6 l6=>(f au).s ?_,λ_=>⟨_,σ,trivial⟩⟩,λ_=>⟨_,σ,trivial⟩⟩,λz V8 l8 _=>⟨rfl,λ_ _=>True,⟨λ_=>⟨_,σ,trivial⟩,λ_=>⟨_,σ,trivial⟩⟩,λy V9 l9 _=>⟨rfl,λ_ _=>True,⟨λ_=>⟨λ_ fo a6=>(f au).s ?_,λ_=>⟨_,σ,trivial⟩⟩,λ_=>⟨_,σ,trivial⟩⟩,λx gT dX _=>⟨rfl,λ_=>⟨(_,((j+1:Nat):Int)),ω,σ,j+1,rfl,m⟩,λ_=>⟨(_,((j+1:Nat):Int)),ω,σ,j+1,rfl,m⟩⟩⟩⟩⟩
 ·rintro r V7 l7 ⟨x,rfl⟩;exact ⟨_,rfl,_,σ,trivial⟩
 ·rintro r fg dy ⟨x,rfl⟩;exact ⟨_,rfl,_,σ,trivial⟩
def M_ (R:Ó->Value->Rat×Rat->Prop)(V:Ó)(v:Value)(l:List (Rat×Rat)):Prop:=∃p n c,v=.agg #[.slice p n c]/\bo 6 R V p n l
abbrev Dw:=M_ cP
theorem M_.s {R:ut->un->Rat×Rat->Prop}{V':ut}{l:zA (Rat×Rat)}(h:M_ R V v l)(m:∀v a,R V v a->R V' v a)(g:V.Le V'):M_ R V' v l:=by obtain ⟨p,n,c,rfl,h⟩:=h;exact ⟨p,n,c,rfl,h.le g m⟩
theorem Dw.le {V V':ut}{l:zA (Rat×Rat)}(h:Dw V v l)(g:V.Le V'):Dw V' v l:=M_.s h (λ_ _ k=>cP.le k g) g
theorem GQ {R:ut->un->Rat×Rat->Prop}{L:zA (zA (Rat×Rat))}(h:bo 1 (M_ R) V p n L)(hi:i<L.length):p.isSome=true/\∃(q:OA)(m e:Nat),(∃a,ae p (i*1)=some a/\V.at a (dB q m e))/\bo 6 R V q m L[i]:=by have ⟨a,b,xs,j,⟨q,m,e,d,f⟩,g⟩:=h.at_ i hi;have c:=Æ Array.toList (Value.agg.inj d);dsimp only at c;subst c;refine ⟨?_,q,m,e,⟨a,b,?_⟩,f⟩;{(cases p with|none=>simp [ae] at b|some a=>rfl)};{have:=g 0 _ rfl;simpa [Addr.add] using this}
theorem ZD:∀v∈([dB p n c]:zA un),v.oneCell'=true:=λv a=>by rw [ö.1 a];rfl
structure Pgs (L:List (List (Rat×Rat))):Prop where
 len:L.length<=1000
 each:∀l∈L,l.length<=1000/\Um 600000000 l
theorem Lq {Z:OA}{n2 c2:Nat}{fill:Int}{L:zA (zA (Rat×Rat))}{q:Rat×Rat}(h:bo 1 Dw V p n L)(O:Pgs L)(hq:cP V v q)(sq:Sz 600000000 q.1/\Sz 600000000 q.2):À 219 #[qvK #[dB p n c,Ô .i64 fill,dB Z n2 c2],v] V λr W=>∃b,r=Õ b:=by obtain rfl:=h.len;have A:=O.len;obtain ⟨_,_,_,_,_,_,_,_,_,_,_,_,_,_,rfl⟩:=hq.shape;refine EG V _ ⟨λz _=>∃j:Nat,z.2=(j:Int)/\j<=L.length,λz=>L.length-z.2.toNat,⟨(0,0),σ,0,rfl,á _⟩,?_⟩;rintro ⟨l,B⟩ C i ⟨j,e,D⟩;dsimp only at e;subst e;refine ⟨rfl,λa=>?_,λ_ E F=>(yP fill l).s λr G H ⟨b,e⟩=>⟨b,e,λI J=>⟨b,rfl⟩⟩⟩;have a:=Á a;have d:j<L.length:=ω;have w:i64.wrap ((j:Int)+1)=((j+1:Nat):Int):=by{rw [ao ω];rfl};dsimp only;rw [w,Ü];have ⟨m,o,s,t,f,g⟩:=GQ (h.le i λ_ _ k=>Dw.le k i) d;have ⟨u,y⟩:=O.each _ (ó d);refine ⟨m,⟨ω,ω⟩,o,s,t,f,λV2 K=>(AX ra u y ra sq).s ?_⟩;rintro r M N ⟨x,rfl⟩;exact ⟨x,rfl,(_,((j+1:Nat):Int)),ω,σ,j+1,rfl,d⟩
theorem IG {A:zA (Rat×Rat)}(h:bo 6 eI V p n A)(hn:A.length<=1000000)(hs:Um 600000000 A):À 151 #[dB p n c] V λr W=>∃q m e,r=dB q m e/\bo 6 cP W q m A:=by obtain rfl:=h.len;refine HQ V _ ⟨λz V'=>∃j:Nat,z.2.2.2=(j:Int)/\j<=A.length/\GR 6 cP V' z.1 z.2.1 z.2.2.1 (A.take j),λz=>A.length-z.2.2.2.toNat,⟨(0,0,[],0),σ,0,rfl,á _,GR.nil⟩,?_⟩;rintro ⟨o,K,L,M⟩ N k ⟨j,l,O,d⟩;dsimp only at l d;subst l;have s:=d.len;rw [è] at s;refine ⟨rfl,λb=>?_,λb P t Q u=>?_⟩;{have b:(j:Int)<A.length:=Á b;have f:j<A.length:=ω;have w:i64.wrap ((j:Int)+1)=((j+1:Nat):Int):=by{rw [ao ω];rfl};dsimp only;rw [Ü,w];obtain ⟨v,R,S,T,U,W,X,Y,Z,p3,n3,c3,p4,n4,c4,a,x,y,B,C,D,E,F,g⟩:=oJ eI.shape (h.le k λ_ _ g=>eI.le g k) f;have ⟨s1,s2⟩:=hs _ (ó f);refine ⟨v,⟨ω,ω⟩,_,_,_,_,_,_,_,_,_,_,_,_,_,_,a,x,y,B,C,D,E,F,λV2 G=>(UY (eI.le g G) s1 s2).s λr V3 l3 (i:cP V3 r A[j])=>cP.ex i λ_ _ i=>⟨ω,d.le,d.cap,rfl,NV,λsp H I J=>⟨(o+1,H,_,((j+1:Nat):Int)),by dsimp only;omega,σ,j+1,rfl,f,?_⟩⟩⟩;dsimp only;rw [Ĭ,ñ f];exact (d.s (V':=V3) λ_ _ g=>cP.le g au).snoc rfl i φ I J};{have b:¬(j:Int)<A.length:=Â b;obtain rfl:j=A.length:=ω;rw [ď] at d;obtain rfl:=d.len;exact ⟨_,_,_,rfl,bo.bq u (d.row.le λ_ _ g=>cP.le g t) φ d.le⟩}
def edg (l:List (Rat×Rat))(i:Nat):L3×Sp:=
 (mS (l.getD i (0,0)).1 (l.getD i (0,0)).2 (l.getD ((i+1)%l.length) (0,0)).1 (l.getD ((i+1)%l.length) (0,0)).2,Mu (l.getD i (0,0)).1 (l.getD i (0,0)).2 (l.getD ((i+1)%l.length) (0,0)).1 (l.getD ((i+1)%l.length) (0,0)).2)
def mL (l:List (Rat×Rat)):List (L3×Sp):=(List.range l.length).map (edg l)
structure Pg (l:List (Rat×Rat)):Prop where
 len:l.length<=6
 sm:Um 10 l
 ne:∀i,i<l.length->¬((l.getD i (0,0)).1=(l.getD ((i+1)%l.length) (0,0)).1/\(l.getD i (0,0)).2=(l.getD ((i+1)%l.length) (0,0)).2)
theorem gJ {l:zA (Rat×Rat)}(h:i<l.length):l.getD i (0,0)=l[i]:=by rw [Ė,ñ h];rfl
theorem Pg.at_ {l:zA (Rat×Rat)}(h:Pg l)(hi:i<l.length):Sz 10 (l.getD i (0,0)).1/\Sz 10 (l.getD i (0,0)).2:=by rw [gJ hi];exact h.sm _ (ó hi)
theorem Pg.nxt {l:zA (Rat×Rat)}(hi:i<l.length):(i+1)%l.length<l.length:=Ě _ ω
theorem Pg.edge {l:zA (Rat×Rat)}(h:Pg l)(hi:i<l.length):WW (edg l i):=by have ⟨s1,s2⟩:=h.at_ hi;obtain ⟨s3,s4⟩:=h.at_ (Pg.nxt hi);have ok:=ZS (h.ne i hi);have sl:=Hv s1 s2 s3 s4 (h.ne i hi);have a:=WL s1 s2 s3 s4 (h.ne i hi);exact ⟨ok.1,Yr ⟨Sz.s sl.1 ω,Sz.s sl.2.1 ω,Sz.s sl.2.2 ω⟩,⟨ok.2.1,ok.2.2⟩,⟨Sz.s a.1 ω,Sz.s a.2 ω⟩⟩
theorem Pg.Xf {l:zA (Rat×Rat)}(h:Pg l):∀f∈mL l,WW f:=λf a=>by
 obtain ⟨i,b,rfl⟩:=ă.1 a;exact h.edge (Wj1.1 b)
theorem nD (l:zA (Rat×Rat)):(mL l).length=l.length:=by unfold mL;simp
theorem O_ {l:zA (Rat×Rat)}{j:Nat}(u:j<l.length):(mL l).take (j+1)=(mL l).take j++[edg l j]:=by rw [Ĭ,ñ (by rw [nD];exact u)];unfold mL;simp
theorem sU {l:zA (Rat×Rat)}(h:bo 6 cP V p n l)(hg:Pg l):À 149 #[dB p n c] V λr W=>∃q m e,r=dB q m e/\bo 14 iI W q m (mL l):=by obtain rfl:=h.len;have h6:=hg.len;refine Dh V _ ⟨λz V'=>∃j:Nat,z.2.2.2=(j:Int)/\j<=l.length/\GR 14 iI V' z.1 z.2.1 z.2.2.1 ((mL l).take j),λz=>l.length-z.2.2.2.toNat,⟨(0,0,[],0),σ,0,rfl,á _,GR.nil⟩,?_⟩;rintro ⟨C,z2,vs,z4⟩ V1 t ⟨j,u,qA,i⟩;dsimp only at u i;subst u;have D:=i.len;rw [è,nD] at D;refine ⟨rfl,λd=>?_,λd V4 F bk s=>?_⟩;{have d:(j:Int)<l.length:=Á d;have k:j<l.length:=ω;have w:i64.wrap ((j:Int)+1)=((j+1:Nat):Int):=by{rw [ao ω];rfl};have hm:(((j+1:Nat):Int)).tmod (l.length:Int)=(((j+1)%l.length:Nat):Int):=by{rw [Wj3]};have o:=Pg.nxt k;dsimp only;rw [w,hm];rw [Ü,Ü];have v:=h.le t λ_ _ g=>cP.le g t;obtain ⟨x,G,H,I,J,K,L,M,O,P,Q,R,U,W,X,a,Y,Z,a1,a2,a3,a4,a5,gu⟩:=oJ cP.shape v k;obtain ⟨-,B1,P1,N1,C1,P2,N2,C2,B2,P3,N3,C3,P4,N4,C4,b,s,A0,A1,A2,A3,A4,A5,gw⟩:=oJ cP.shape v o;have S:=hg.at_ k;have T:=hg.at_ o;have N:=hg.ne j k;have E:edg l j=(mS l[j].1 l[j].2 l[(j+1)%l.length].1 l[(j+1)%l.length].2,Mu l[j].1 l[j].2 l[(j+1)%l.length].1 l[(j+1)%l.length].2):=by{unfold edg;rw [gJ k,gJ o]};rw [gJ k] at S;rw [gJ o] at T;rw [gJ k,gJ o] at N;refine ⟨x,⟨ω,ω⟩,G,H,I,J,K,L,M,O,P,Q,R,U,W,X,a,Y,Z,a1,a2,a3,a4,a5,ω,x,⟨ω,ω⟩,B1,P1,N1,C1,P2,N2,C2,B2,P3,N3,C3,P4,N4,C4,b,s,A0,A1,A2,A3,A4,A5,λV2 y=>(yN (cP.le gu y) (cP.le gw y) S.1 S.2 T.1 T.2 ω).s ?_⟩;rintro r A l3 ⟨-,m2⟩;obtain ⟨f,rfl,B⟩:=m2 N;have g0:iI A f (edg l j):=by{rw [E];exact B};obtain ⟨_,_,_,_,_,_,_,_,_,_,_,_,_,_,_,_,_,_,_,_,_,_,_,_,_,_,rfl⟩:=JZ B;refine ⟨_,_,_,_,_,_,_,_,_,_,_,_,_,_,_,_,_,_,_,_,_,_,_,_,_,_,_,_,_,rfl,ω,i.le,i.cap,rfl,JB,λsp c' h1 h2=>⟨(C+1,c',_,((j+1:Nat):Int)),by dsimp only;omega,σ,j+1,rfl,k,?_⟩⟩;dsimp only;rw [O_ k];exact (i.s (V':=A) λ_ _ g=>iI.le g au).snoc rfl g0 φ h1 h2};{have d:¬(j:Int)<l.length:=Â d;obtain rfl:j=l.length:=ω;rw [show (mL l).take l.length=mL l by rw [<-nD l];exact ď] at i;obtain rfl:=i.len;exact ⟨_,_,_,rfl,bo.bq s (i.row.le λ_ _ g=>iI.le g F) φ i.le⟩}
theorem yi {L:zA (zA (Rat×Rat))}(h:bo 1 Dw V p n L)(hn:L.length<=1000)(Z:∀l∈L,Pg l):À 82 #[dB p n c] V λr W=>∃q m e,r=dB q m e/\bo 1 (M_ eI) W q m L:=by obtain rfl:=h.len;refine HW V _ ⟨λz V'=>∃j:Nat,z.2.2.2=(j:Int)/\j<=L.length/\GR 1 (M_ eI) V' z.1 z.2.1 z.2.2.1 (L.take j),λz=>L.length-z.2.2.2.toNat,⟨(0,0,[],0),σ,0,rfl,á _,GR.nil⟩,?_⟩;rintro ⟨y,N,O,P⟩ Q i ⟨j,o,R,b⟩;dsimp only at o b;subst o;have A:=b.len;rw [è] at A;refine ⟨rfl,λa=>?_,λa S s T B=>?_⟩;{have a:(j:Int)<L.length:=Á a;have d:j<L.length:=ω;have w:i64.wrap ((j:Int)+1)=((j+1:Nat):Int):=by{rw [ao ω];rfl};dsimp only;rw [Ü,w];obtain ⟨C,D,E,F,f,g⟩:=GQ (h.le i λ_ _ k=>Dw.le k i) d;have k:=Z _ (ó d);have U:=k.len;refine ⟨C,⟨ω,ω⟩,D,E,F,f,λV2 W=>(uO (k:=10) ra ω (λx G=>k.sm x G)).s ?_⟩;rintro r H X ⟨t,u,v,rfl,I⟩;refine ⟨t,u,v,rfl,ω,b.le,b.cap,rfl,ZD,λsp J K M=>⟨(y+1,J,_,((j+1:Nat):Int)),by dsimp only;omega,σ,j+1,rfl,d,?_⟩⟩;dsimp only;rw [Ĭ,ñ d];exact (b.s (V':=H) λ_ _ g=>M_.s g (λ_ _ k=>eI.le k au) au).snoc rfl ⟨t,u,v,rfl,I⟩ φ K M};{have a:¬(j:Int)<L.length:=Â a;obtain rfl:j=L.length:=ω;rw [ď] at b;obtain rfl:=b.len;exact ⟨_,_,_,rfl,bo.bq B (b.row.le λ_ _ g=>M_.s g (λ_ _ k=>eI.le k s) s) φ b.le⟩}
theorem uU {L:zA (zA (Rat×Rat))}(fill:Int)(h:bo 1 (M_ eI) V p n L)(hn:L.length<=1000)(hL:∀l∈L,Pg l):À 81 #[dB p n c,Ô .i64 fill] V λr W=>∃p n c q m e,r=qvK #[dB p n c,Ô .i64 fill,dB q m e]/\bo 1 Dw W p n L:=by
 obtain rfl:=h.len
 refine EF V _ ⟨λz V'=>∃(j:Nat)(ls:zA L3),z.2.2.2.1=(j:Int)/\j<=L.length/\z.2.2.2.2.2.2.1=fill/\GR 6 bP V' z.1 z.2.1 z.2.2.1 ls/\ls.length<=6*j/\(∀l∈ls,Bd l)/\GR 1 Dw V' z.2.2.2.2.1 z.2.2.2.2.2.1 z.2.2.2.2.2.2.2.2.2.2 (L.take j),λz=>L.length-z.2.2.2.1.toNat,
  ⟨(0,0,[],0,0,0,fill,none,0,0,[]),σ,0,[],rfl,á _,rfl,GR.nil,ψ,(λl h=>nomatch h),GR.nil⟩,?_⟩
 rintro ⟨Z,z2,vs,z4,B,r2,z7,z8,z9,C,us⟩ V1 D ⟨j,ls,Q,qA,R,v,E,S,t⟩;dsimp only at Q R v t;subst Q R;have zl:=v.len;have rl:=t.len;rw [è] at rl;dsimp only;rw [Ü];refine ⟨rfl,λs=>?_,λs V7 l7 bk F=>?_⟩
 ·have s:=Á s;have A:j<L.length:=ω
  have w:i64.wrap ((j:Int)+1)=((j+1:Nat):Int):=by rw [ao ω];rfl
  rw [w];have ⟨ps,q1,m1,e1,G,g⟩:=GQ (h.le D λ_ _ k=>M_.s k (λ_ _ k=>eI.le k D) D) A;have k:=hL _ (ó A);have k6:=k.len;refine ⟨ps,⟨ω,ω⟩,q1,m1,e1,G,λV2 l2=>(IG ra ω (λx T=>⟨(k.sm x T).1.s ω,(k.sm x T).2.s ω⟩)).s ?_⟩;rintro r V3 l3 ⟨H,I,J,rfl,gp⟩;refine ⟨H,I,J,rfl,ω,t.le,t.cap,rfl,ZD,λsp U h1 h2 V4 l4=>(sU ra k).s ?_⟩;rintro r W l5 ⟨q3,m3,e3,rfl,ge⟩
  have r5:GR 1 Dw W (B+1) U (us.take (B*1)++([dB H I J]:zA un)++sp) (L.take (j+1)):=by rw [Ĭ,ñ A];exact (t.s λ_ _ g=>Dw.le g au).snoc rfl ⟨H,I,J,rfl,ra⟩ φ h1 h2
  obtain rfl:=ge.len;have el:=nD L[j]
  refine ⟨q3,_,e3,rfl,λz V'=>∃(i:Nat)(ms:zA L3),z.2.2.2=(i:Int)/\i<=(mL L[j]).length/\W.Le V'/\GR 6 bP V' z.1 z.2.1 z.2.2.1 ms/\ms.length<=6*j+i/\∀l∈ms,Bd l,λz=>(mL L[j]).length-z.2.2.2.toNat,
   ⟨(Z,z2,vs,0),σ,0,ls,rfl,á _,Ó.Le.refl _,v.s λ_ _ g=>bP.le g au,E,S⟩,?_⟩
  rintro ⟨X,y2,ws,y4⟩ V6 l6 ⟨i,ms,f4,NB,Y,o,hm,y⟩;dsimp only at f4 o;subst f4;have yl:=o.len;dsimp only;rw [Ü];refine ⟨rfl,λf=>?_,λf=>?_⟩
  ·have f:=Á f;have u:i<(mL L[j]).length:=ω;have w':i64.wrap ((i:Int)+1)=((i+1:Nat):Int):=by{rw [ao ω];rfl};rw [w'];obtain ⟨K,b1,p1,n1,c1,b2,p2,n2,c2,b3,p3,n3,c3,b,s1,s2,s3,s4,s5,s6,d,t1,t2,t3,t4,t5,t6,a,ha,a0,a1,a2,a3,a4,a5,a6,a7,a8,a9,Nc,Nf,M,OE,gl,-⟩:=GS ra u;refine ⟨K,⟨ω,ω⟩,b1,p1,n1,c1,b2,p2,n2,c2,b3,p3,n3,c3,b,s1,s2,s3,s4,s5,s6,d,t1,t2,t3,t4,t5,t6,_,_,a,ha,a0,a1,a2,a3,a4,a5,a6,a7,a8,a9,Nc,Nf,M,OE,ω,o.le,o.cap,rfl,PM,λb0 N h3 h4=>⟨(X+1,N,_,((i+1:Nat):Int)),by dsimp only;omega,σ,i+1,ms++[(mL L[j])[i].1],rfl,u,Y,o.snoc rfl gl φ h3 h4,by simp;omega,λl O=>(ø.1 O).elim (y l) λO=>by rw [ö.1 O];exact (k.Xf _ (ó u)).bd⟩⟩
  ·have f:=Â f;exact ⟨(X,y2,ws,((j+1:Nat):Int),B+1,U,z7,z8,z9,C,_),by dsimp only;omega,σ,j+1,ms,rfl,A,rfl,o,ω,y,r5.s λ_ _ g=>Dw.le g Y⟩
 ·have s:=Â s;obtain rfl:j=L.length:=ω;rw [ď] at t;obtain rfl:=v.len;refine (mh (bo.bq F (v.row.le λ_ _ g=>bP.le g l7) φ v.le) ω S).s ?_;rintro r V8 l8 ⟨q,m,e,rfl,-⟩;obtain rfl:=t.len;exact ⟨q,m,e,rfl,λ_ V9 l9 W9 P=>⟨_,_,_,_,_,_,rfl,bo.bq P (t.row.le λ_ _ g=>Dw.le g au) φ t.le⟩⟩
theorem GR.app {α:Type}{sz:Nat}{R:ut->un->α->Prop}{vs:zA un}{l:zA α}(h:GR sz R V n c vs l){xs:zA un}{ms:zA α}(z:é sz R V xs ms)(D:xs.length=ms.length*sz)(E:0<sz){sp:zA un}{u:Nat}(F:n+ms.length<=u)(y:u*sz<=(n+ms.length)*sz+sp.length):GR sz R V (n+ms.length) u (vs.take (n*sz)++xs++sp) (l++ms):=by have a:=h.len;have b:=h.cap;have d:n*sz<=c*sz:=Ā _ h.le;refine ⟨by rw [ë,a],F,?_,?_⟩;{have ht:(vs.take (n*sz)).length=n*sz:=by{rw [è];omega};rw [ë,ë,ht,D];rw [đ] at y;exact y};{rw [a];exact d_ h.row z E}
theorem Fz {m:L3}{fs:zA (L3×Sp)}{q:L3->Prop}(h:∀f∈fs,q f.1):∀u∈lF m fs,q u.1:=λu hu=>by
 have ⟨f,b,a⟩:=ĕ.1 hu;unfold po at a;split at a
 ·rw [ö.1 a];exact h f b
 ·cases a
theorem BZ {m:L3}{fs:zA (L3×Sp)}{j:Nat}(u:j<fs.length):lF m (fs.take (j+1))=lF m (fs.take j)++po fs[j].1 fs[j].2 m:=by unfold lF;rw [Ĭ,ñ u];show List.flatMap _ (_++[fs[j]])=_;rw [ŧ,ē,Wq5,þ]
theorem Hg {xs:zA un}{l:zA (L3×Sp)}(h:é 14 iI V xs l)(u:xs.length=l.length*14):∀v∈xs,v.oneCell'=true:=λv a=>by
 have ⟨m,hm,e⟩:=Qb5.1 a;exact eO h φ (λ_ _=>Hf) (m:=m) ω (by rw [<-e];exact ñ hm)
theorem II {q:L3->Prop}:∀(k:Nat) {fs:zA (L3×Sp)} {c:zA L3} {L:zA (zA (Rat×Rat))} {V:ut} {lp cp r0p r2p:OA} {ln lc cn cc r0n r0c r2n r2c:Nat} {fill:Int},fs.length<=k->bo 14 iI V lp ln fs->(∀f∈fs,WW f)->(∀f∈fs,q f.1)->bo 6 bP V cp cn c->(∀m∈c,jO m)->c.length+k<=980->bo 1 Dw V r0p r0n L->Pgs L ->À 150 #[qvK #[dB r0p r0n r0c,Ô .i64 fill,dB r2p r2n r2c],dB lp ln lc,dB cp cn cc] V λr W=>∃o t,r=qyQ o/\RW W o t/\t.dJ q/\t.depth<=k:=by
 intro k
 induction k using Nat.strongRecOn with
 | ind k ih=>
  intro fs c L V lp cp r0p r2p ln lc cn cc r0n r0c r2n r2c fill hk hf Z hq hc kc f4 hL hP;obtain rfl:=hf.len;obtain rfl:=hc.len;have hC:∀{W:ut},V.Le W->bo 6 bP W cp c.length c:=λg=>hc.le g λ_ _ k=>bP.le k g;have hR:∀{W:ut},V.Le W->bo 1 Dw W r0p r0n L:=λg=>hL.le g λ_ _ k=>Dw.le k g;refine HV V _ ⟨λh0 V1 l1=>(sS (hC l1) (λm h=>(kc m h).2) (λm h=>(kc m h).1)).s ?_,λh0=>?_⟩
  ·rintro r V2 l2 ⟨u,p,rfl,g,s1,s2⟩;have g0:cP V2 u p:=g;obtain ⟨_,_,_,_,_,_,_,_,_,_,_,_,_,_,rfl⟩:=g0.shape;refine ⟨_,_,_,_,_,_,_,_,_,_,_,_,_,_,_,rfl,λV3 l3=>(Lq (hR au) hP ra ⟨s1.s ω,s2.s ω⟩).s ?_⟩;rintro r V4 l4 ⟨b,rfl⟩;refine ⟨b,rfl,λV5 l5=>(cO b).s ?_⟩;rintro r V6 l6 ⟨o,rfl,g⟩;exact ⟨o,rfl,λV7 l7=>⟨o,_,rfl,g.le l7,trivial,á _⟩⟩
  have B:0<fs.length:=by have:=Â h0;omega
  obtain ⟨f0,e,rfl⟩:∃f0 e,fs=f0::e:=by cases fs with
   | nil=>simp at B
   | cons f r=>exact ⟨f,r,rfl⟩
  have D:=Z f0 (č ..);obtain ⟨ps,b1,p1,n1,c1,b2,p2,n2,c2,b3,p3,n3,c3,_,_,_,_,_,_,_,_,_,_,_,_,_,_,a,ha,a0,a1,a2,a3,a4,a5,_,_,_,_,_,_,_,_,G,-⟩:=GS hf B;have G:bP V (qvK #[Õ b1,dB p1 n1 c1,Õ b2,dB p2 n2 c2,Õ b3,dB p3 n3 c3]) f0.1:=G;have ea:=ha;have az:a.add 0=a:=by simp [Addr.add]
  have i:jO f0.1:=⟨D.ok,D.bd⟩;refine ⟨ps,⟨ω,ω⟩,by rw [ea];rfl,b1,p1,n1,c1,b2,p2,n2,c2,b3,p3,n3,c3,a,by rw [ea];show some (a.add 0)=_;rw [az],a0,a1,a2,a3,a4,a5,?_⟩
  refine ⟨λz V'=>∃j:Nat,z.2.2.2.2.2.2=(j:Int)/\j<=(f0::e).length/\GR 14 iI V' z.1 z.2.1 z.2.2.1 (lF f0.1 ((f0::e).take j))/\GR 14 iI V' z.2.2.2.1 z.2.2.2.2.1 z.2.2.2.2.2.1 (lF (Ö f0.1) ((f0::e).take j)),λz=>(f0::e).length-z.2.2.2.2.2.2.toNat,
   ⟨(0,0,[],0,0,[],0),σ,0,rfl,á _,GR.nil,GR.nil⟩,?_⟩
  rintro ⟨z1,z2,vs,y1,y2,us,z4⟩ V8 l8 ⟨j,e4,qA,v,y⟩;dsimp only at e4 v y;subst e4;have zl:=v.len;have yl:=y.len;have H:∀m:L3,(lF m ((f0::e).take j)).length<=(f0::e).length:=λm=>ü (rT _ _) (by rw [è];omega);have f5:=H f0.1;have f6:=H (Ö f0.1);dsimp only;rw [Ü];refine ⟨rfl,λn=>?_,λn=>?_⟩
  ·have n:=Á n;have I:j<(f0::e).length:=ω;have w:i64.wrap ((j:Int)+1)=((j+1:Nat):Int):=by{rw [ao ω];rfl};rw [w];have E:=Z _ (ó I);obtain ⟨a6,d1,q1,m1,e1,d2,q2,m2,e2,d3,q3,m3,e3,d,s1,s2,s3,s4,s5,s6,t0,t1,t2,t3,t4,t5,t6,a',a7,a8,a9,b0,b4,b5,b6,b7,b8,b9,c0,J,K,M,N,c6,c8⟩:=GS ra I;refine ⟨a6,⟨ω,ω⟩,d1,q1,m1,e1,d2,q2,m2,e2,d3,q3,m3,e3,d,s1,s2,s3,s4,s5,s6,t0,t1,t2,t3,t4,t5,t6,_,_,a',a7,a8,a9,b0,b4,b5,b6,b7,b8,b9,c0,J,K,M,N,λV9 l9=>(DJ (l:=(f0::e)[j].1) (s:=(f0::e)[j].2) ⟨_,_,_,_,_,_,_,_,_,_,_,_,_,_,_,_,_,_,_,_,_,_,_,_,_,_,rfl,bP.le c6 l9,mb.le c8 l9⟩ (bP.le G au) (iV E.ok) E.bd i.2 E.gd.1 ⟨E.sz.1.s ω,E.sz.2.s ω⟩).s ?_⟩;rintro r fo c9 ⟨p4,n4,c4,p5,n5,c5,rfl,k1,k2⟩;rw [TU E.gd] at k1 k2;obtain rfl:=k1.len;obtain rfl:=k2.len;have ⟨xs,x1,A,O⟩:=cV k1 φ;have ⟨ws,w1,F,w3⟩:=cV k2 φ;have o1:=xI (f0::e)[j].1 (f0::e)[j].2 f0.1;have o2:=xI (f0::e)[j].1 (f0::e)[j].2 (Ö f0.1);have BA:=l9.m c9;refine ⟨p4,_,c4,p5,_,c5,rfl,xs,x1,A,ω,v.le,v.cap,A,Hg O A,λsp c' u1 u2=>⟨ws,w1,F,ω,y.le,y.cap,F,Hg w3 F,λsp' d0 u3 u4=>⟨(z1+_,c',_,y1+_,d0,_,((j+1:Nat):Int)),by dsimp only;omega,σ,j+1,rfl,I,?_,?_⟩⟩⟩;{rw [BZ I];exact (v.s λ_ _ g=>iI.le g BA).app O A φ u1 u2};{rw [BZ I];exact (y.s λ_ _ g=>iI.le g BA).app w3 F φ u3 u4}
  have n:=Â n;obtain rfl:j=(f0::e).length:=ω
  rw [ď] at v y;have ⟨f1,f2⟩:=Mc (f:=f0) (fs:=e) (iV D.ok);have sm:(lF f0.1 (f0::e)).length<k/\(lF (Ö f0.1) (f0::e)).length<k:=by simp only [Ą] at hk;omega
  obtain ⟨k',rfl⟩:∃k',k=k'+1:=⟨k-1,ω⟩;have ⟨xs,x1,A,O⟩:=cV (hC l8) φ;have ln:∀m:L3,(c++[m]).length=(0+c.length)+1:=λm=>by rw [ë];simp
  have P:∀m,jO m->∀x∈c++[m],jO x:=λm hm x hx=>(ø.1 hx).elim (kc x) λh=>by rw [ö.1 h];exact hm
  refine ⟨xs,x1,A,ω,Ù _,ψ,A,vM O A,λQS J5 d4 c3 u1 u2=>⟨ω,u1,by simp;omega,rfl,PM,λNj J9 d5 c7 u3 u4 fg dy UJ e8 d6 d7=>?_⟩⟩;have L1:=bo.eN d7 (qO (V:=fg) (ys:=[_,_,_,_,_,_]) (sp:=d4) (sp':=d5) rfl (O.le λ_ _ g=>bP.le g dy) A rfl ra);rw [ln] at L1;obtain rfl:=v.len;refine (ih k' ω ω (bo.bq d6 (v.row.le λ_ _ g=>iI.le g dy) φ v.le) (JG Z i.2) (Fz hq) L1 (P _ i) (by rw [ln];omega) (hR au) hP).s ?_;rintro r gT dX ⟨o1,t1,rfl,w1,d8,f7⟩;have C:=dy.m dX;obtain ⟨d9,Z4,Uv,Q⟩:=cV (hC (l8.m C)) φ;refine ⟨o1,rfl,d9,Z4,Uv,ω,Ù _,ψ,Uv,vM Q Uv,λe9 f8 R f9 e0 g3 iL dS=>(gX (bP.le G au)).s ?_⟩;rintro r lR gj gr;have H3:bP lR r (Ö f0.1):=gr;obtain ⟨_,_,_,_,_,_,_,_,_,_,_,_,rfl⟩:=bG H3;refine wqQ ⟨rfl,ω,e0,by simp;omega,rfl,PM,λf3 g4 S g5 g6 g7 lS gC e5 e6 T U=>?_⟩;have Xz:=dS.m (gj.m gC);have X:=C.m Xz;have Y:=bo.eN U (qO (V:=lS) (ys:=[_,_,_,_,_,_]) (sp:=R) (sp':=S) rfl (Q.le λ_ _ g=>bP.le g Xz) Uv rfl ra);rw [ln] at Y;obtain rfl:=y.len;refine (ih k' ω ω (bo.bq T (y.row.le λ_ _ g=>iI.le g X) φ y.le) (JG Z i.2.rev) (Fz hq) Y (P _ (mz i)) (by rw [ln];omega) (hR au) hP).s ?_;rintro r kH fy ⟨o2,t2,rfl,F,e7,g8⟩;refine ⟨o2,rfl,λlT ij bk hb=>⟨_,.node f0.1 t1 t2,rfl,Og hb (bP.le G au) (w1.le au) (F.le ij),⟨hq _ (č ..),d8,e7⟩,by simp only [Tr.depth];omega⟩⟩
theorem wY {fs:zA (L3×Sp)}(h:bo 14 iI V p n fs)(hn:fs.length<=10000)(hs:∀f∈fs,ch f.1=true/\iJ 1000000 f.1/\f.2.sz 1000000)(he:∀x∈fs.flatMap eG,Sz 100000000 x.1/\Sz 100000000 x.2):À 18 #[dB p n c] V λr W=>∃q m e,r=dB q m e/\bo 6 cP W q m (jz (fs.flatMap eG)):=by obtain rfl:=h.len;refine wB V _ ⟨λz V'=>∃j:Nat,z.2.2.2=(j:Int)/\j<=fs.length/\GR 6 cP V' z.1 z.2.1 z.2.2.1 ((fs.take j).flatMap eG),λz=>fs.length-z.2.2.2.toNat,⟨(0,0,[],0),σ,0,rfl,á _,GR.nil⟩,?_⟩;rintro ⟨S,z2,vs,z4⟩ V1 M ⟨j,N,qA,b⟩;dsimp only at N b;subst N;have zl:=b.len;have el:=nF (fs.take j);rw [è] at el;refine ⟨rfl,λa=>?_,λa V4 T bk U=>?_⟩;{have a:(j:Int)<fs.length:=Á a;have d:j<fs.length:=ω;have w:i64.wrap ((j:Int)+1)=((j+1:Nat):Int):=by{rw [ao ω];rfl};dsimp only;rw [Ü,w];obtain ⟨is,W,X,Y,Z,fb,fp,fn,fe,gb,gp,gn,gc,o,t,u,y,A,B,C,D,E,Y9,F,G,Xp,H,ad,ha,a0,a1,a2,a3,a4,a5,a6,a7,a8,a9,Nc,Nf,I,OE,J,K⟩:=LV (h.le M λ_ _ g=>iI.le g M) d;have ⟨ok,s1,s2⟩:=hs _ (ó d);refine ⟨is,⟨ω,ω⟩,W,X,Y,Z,fb,fp,fn,fe,gb,gp,gn,gc,o,t,u,y,A,B,C,D,E,Y9,F,G,Xp,H,_,_,ad,ha,a0,a1,a2,a3,a4,a5,a6,a7,a8,a9,Nc,Nf,I,OE,λV2 O=>(Gl (l:=fs[j].1) (s:=fs[j].2) ⟨_,_,_,_,_,_,_,_,_,_,_,_,_,_,_,_,_,_,_,_,_,_,_,_,_,_,rfl,bP.le J O,mb.le K O⟩ (iV ok) s1 s2).s ?_⟩;rintro r V3 l3 ⟨P,m2,e2,rfl,i⟩;have i:bo 6 cP V3 P m2 (eG fs[j]):=by{have e:RM fs[j].1 fs[j].2=eG fs[j]:=rfl;rw [<-e];exact i};obtain rfl:=i.len;have step:(fs.take (j+1)).flatMap eG=(fs.take j).flatMap eG++eG fs[j]:=by{rw [<-ŀ d,ŧ];simp};have L:=nF (fs.take (j+1));rw [step,ë,è] at L;obtain ⟨xs,x1,k,Q⟩:=cV i φ;refine ⟨P,_,e2,rfl,xs,x1,k,ω,b.le,b.cap,k,λv hv=>?_,λsp c' h1 h2=>⟨(S+_,c',_,((j+1:Nat):Int)),by dsimp only;omega,σ,j+1,rfl,d,?_⟩⟩;{have ⟨m,hm,e⟩:=Qf4 hv;exact eO Q φ (λ_ _=>Of) (k▸hm) (by rw [ñ hm,e])};rw [step];exact (b.s λ_ _ g=>cP.le g au).app Q k φ h1 h2};{have a:¬(j:Int)<fs.length:=Â a;obtain rfl:j=fs.length:=ω;rw [ď] at b;obtain rfl:=b.len;refine (pZ (bo.bq U (b.row.le λ_ _ g=>cP.le g T) φ b.le) ω he).s ?_;rintro r V5 l5 ⟨q,m,e,rfl,g⟩;exact ⟨q,m,e,rfl,λ_ V6 R=>⟨q,m,e,rfl,g.le R λ_ _ g=>cP.le g R⟩⟩}
theorem cV_or {a b:Rat×Rat}(h:¬AB a b<0)(n:¬(a.1=b.1/\a.2=b.2)):AB b a<0:=Qj0 λg=>n (by rw [Yu h g];exact ⟨rfl,rfl⟩)
theorem cV_tr {a b c:Rat×Rat}(h:AB a b<0)(u:AB b c<0):AB a c<0:=by rw [AD] at *;grind
theorem Rs:∀{r:zA (Rat×Rat)} {p:Rat×Rat},(p::r).Pairwise (λx y=>¬AB y x<0)->(qh eV p r).Pairwise (λx y=>AB x y<0)/\(∀x∈qh eV p r,AB p x<0)/\∀x,x∈p::qh eV p r↔x∈p::r
 | [],p,_=>⟨List.Pairwise.nil,(λx h=>by cases h),λx=>Wk0⟩
 | a::r,p,h=>by
  have ⟨u,z⟩:=ħ.1 h;have ⟨i1,i2,i3⟩:=Rs z;unfold qh;by_cases e:a=p
  ·subst e;have:eV a a=true:=by simp [eV]
   grind
  ·have n:¬(a.1=p.1/\a.2=p.2):=λg=>e (Wj7 g.1 g.2);have:eV a p=false:=by simpa [eV] using n
   have b:=cV_or (u a ψ) n;grind [List.pairwise_cons.2,cV_tr]
theorem Yx {m:zA (Rat×Rat)}(h:m.Pairwise (λx y=>¬AB y x<0)):(ie eV m).Pairwise (λx y=>AB x y<0)/\∀x,x∈ie eV m↔x∈m:=by (cases m with|nil=>exact ⟨List.Pairwise.nil,λx=>Wk0⟩|cons p r=>{have ⟨a,b,c⟩:=Rs h;exact ⟨ħ.2 ⟨b,a⟩,c⟩})
theorem WT {m l:zA (Rat×Rat)}(pm:m.Perm l)(u:m.Pairwise λx y=>¬AB y x<0):ie eV m=jz l:=by have ⟨c,i⟩:=Yx u;have ⟨d,j⟩:=Cq l;have c:(ie eV m).Pairwise Jq:=c.imp λh=>Ag.2 (AD.1 h);have f:∀{l:zA (Rat×Rat)},l.Pairwise Jq->l.Nodup:=λh=>h.imp λh e=>by{subst e;exact SD h};exact List.Perm.eq_of_pairwise (le:=Jq) (λa b _ _ h g=>Å (SE h g) SD) c d ((List.perm_ext_iff_of_nodup (f c) (f d)).2 λx=>by rw [i,j,pm.mem_iff])
theorem Wu {fs:zA (L3×Sp)}(h:bo 14 Yg V p n fs):F3 V p n fs:=⟨h.len,λi a=>by
 obtain ⟨b,c,xs,-,d,e⟩:=h.at_ i a;exact ⟨b,c,xs,d,e⟩⟩
section
variable {t:Tr} (ht:∀k ∈ t.di,ch k=true) {p:Rat × Rat} {m:List (Rat × Rat)}
include ht
theorem F_ok {f:L3×Sp}(u:f∈dh (kn t (aY t.di))):ch f.1=true:=((mem_F ht (m:=f.1) (s:=f.2)).1 u).1
end
end
end Go.Proofs.Tryz
