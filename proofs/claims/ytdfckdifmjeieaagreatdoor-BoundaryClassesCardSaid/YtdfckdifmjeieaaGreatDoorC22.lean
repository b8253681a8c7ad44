import Derived.Test.YtdfckdifmjeieaaGreatDoorC21
set_option linter.all false
open Go.IntKind (i64 u64 u32)
open Go.IntKind renaming i64→Ŵ
open Go.Value renaming slice→yG,agg→hF,bool→dB,pointer→qvJ,tuple→å,int→Ô
namespace Go.Proofs.Tryz
open Go.Eng Go.Big
section
variable{l:L3}{V:Ó}{cp p:OA}{S c ls:List L3}{cc cn:Nat}{q x:Rat}
def Qp {s:Sp}(h:s.a=false):s.JY.length=1:=by unfold Sp.JY;rw [h];rfl
def Qg {s:Sp}(h:s.b=false):s.Iv.length=1:=by unfold Sp.Iv;rw [h];rfl
def QJ:∀{l:zA Sp},vr l->(∀s∈l,s.a=false)->2*l.length<=fe l+1
 | [],_,_=>ä _
 | [s],_,h=>by
  have:=Qp (h s (ą ..));rw [tj,í,Qc5];omega
 | s::z::r,h,u=>by
  have c:=QJ h.tail λx b=>u x (ø _ b);have d:=Qp (u s (ą ..));have e:=Qg (h.Nu (ą ..)).1;rw [tj,í,Ċ];omega
def reg_fe:∀{l:zA Sp},vr l->2*l.length<=fe l+2
 | [],_=>ä _
 | [s],_=>by rw [Qc5];omega
 | s::z::r,h=>by
  have u:=QJ h.tail λx a=>(h.Nu a).2.1;have b:=Qg (h.Nu (ą ..)).1;rw [tj,í,Ċ];omega
def R_ (A:zA Sp):(Û 1 A []).length<=A.length+1:=by have a:=reg_fe (comb_reg 1 A []);have b:=Ye 1 A [];have c:=UH A;have d:fe []=0:=rfl;omega
def Cw {α:Type}(p:α->ut):∀l:zA α,(l.filter p).length+(l.filter λx=>!p x).length=l.length
 | []=>rfl
 | x::r=>by
  have u:=Cw p r;rw [List.filter_cons,List.filter_cons];cases p x<;>simp<;>omega
def Lz:∀(L:zA L3)(l:zA (L3×Sp)),L.Pairwise rL->(L.map λm=>(aK m l).length).sum<=l.length
 | [],_,_=>ä _
 | m::L,l,h=>by
  have ⟨u,y⟩:=į.1 h
  have e:(L.map λa=>(aK a l).length)=L.map λa=>(aK a (l.filter λx=>!decide (x.1=m))).length:=by
   refine Ř λa hm=>?_;unfold aK;rw [List.filter_filter];congr 2;refine List.filter_congr λx _=>?_;by_cases c:x.1=a
   ·have:¬x.1=m:=λe=>wP (show rL m m from by have:=u a hm;rw [<-c,e] at this;exact this);simp [c,this];rw [c] at this;simpa using this
   ·simp [c]
  have b:=Lz L (l.filter λx=>!decide (x.1=m)) y;have f:=Cw (λx:L3×Sp=>decide (x.1=m)) l;rw [Ĺ,Wk7,e];have g:(aK m l).length=(l.filter λx=>decide (x.1=m)).length:=by unfold aK;rw [Ě]
  omega
def Ol (l:zA L3):(gS l).length<=l.length:=by
 have:∀(l o:zA L3),(l.foldl (λo x=>ke x o) o).length<=o.length+l.length:=by
  intro l
  induction l with
  | nil=>exact λo=>Ù _
  | cons y r u=>intro o;have a:=u (ke y o);have b:=CI y o;rw [Ť,Ċ];omega
 have:=this l [];simpa [gS] using this
def G8 (l:zA (L3×Sp)):(fG l).length<=2*l.length:=by
 have b:=Lz (gS (l.map Prod.fst)) l (cI _).1;have a:=Ol (l.map Prod.fst);rw [Ě] at a;unfold fG;generalize gS (l.map Prod.fst)=L at *
 have c:(L.flatMap λm=>(Û 1 (aK m l) []).map λs=>(m,s)).length<=(L.map λm=>(aK m l).length).sum+L.length:=by
  clear b a
  induction L with
  | nil=>exact Ù _
  | cons m r u=>
   have:=R_ (aK m l);rw [Ġ,í,Ě,Ĺ,Wk7,Ċ];omega
 omega
def U4 {l:zA (L3×Sp)}{k m:Nat}(hm:1<=m)(h:∀f∈l,ZY f.1 f.2/\jg k f.1/\f.2.sz m):∀f∈fG l,ZY f.1 f.2/\jg k f.1/\f.2.sz m:=λf a=>by
 have ⟨m,hm,a⟩:=č.1 a;obtain ⟨s,b,rfl⟩:=þ.1 a;obtain ⟨g,c,rfl⟩:=þ.1 (((cI _).2 _).1 hm);refine ⟨⟨(h g c).1.1,(comb_reg ..).1 s b⟩,(h g c).2.1,P6 ξ (λu hu=>?_) (λu hu=>by cases hu) s b⟩;obtain ⟨x,d,rfl⟩:=þ.1 hu;exact (h x (ń.1 d).1).2.2
def KE {A:zA Sp}(h:vr A):Û 1 A []=A:=by refine reg_eq (à (A++[])) (comb_reg ..) h λt ht=>?_;rw [comb_inB 1 _ _ ht,inB_nil];unfold ĥ;simp
def DC (C:L3->zA Sp)(m:L3):∀L:zA L3,L.Pairwise rL->aK m (L.flatMap λu=>(C u).map λs=>(u,s))=if m∈L then C m else []
 | [],_=>rfl
 | k::L,h=>by
  have ⟨y,z⟩:=į.1 h
  have b:aK m ((k::L).flatMap λu=>(C u).map λs=>(u,s))=aK m ((C k).map λs=>(k,s))++aK m (L.flatMap λu=>(C u).map λs=>(u,s)):=by
   unfold aK;rw [Ġ,Qt4,ś]
  rw [b,(DC C m L z)];by_cases c:m=k
  ·subst c;rw [Ã λhm=>wP (y m hm),Ä (ą ..),ć];unfold aK;rw [Qs2.2 λx a=>by obtain ⟨s,-,rfl⟩:=þ.1 a;exact Ç rfl,Wq2];exact List.map_id _
  ·have e:aK m ((C k).map λs=>(k,s))=[]:=by{unfold aK;rw [Qp3.2 λx a=>by obtain ⟨s,-,rfl⟩:=þ.1 a;simp;exact λh=>c h.symm];rfl};rw [e,Œ];by_cases d:m∈L;{rw [Ä d,Ä (ø _ d)]};rw [Ã d,Ã λh=>by rcases ç.1 h with h|h;exact c h;exact d h]
def wU (h:bY l=true):bY (Õ l)=true:=by unfold bY Õ cj at *;simp only [Ũ] at *;simpa using h
def Qh (x:L3):∀(O:zA L3)(j:Nat),j<=O.length->(∀(y:Nat)(h:y<O.length),y<j->ao.iB (ao.aD O[y]) (ao.aD x)<0)->(∀h:j<O.length,¬ao.iB (ao.aD O[j]) (ao.aD x)<0) ->rE x O=if ∃h:j<O.length,O[j]=x then O else O.take j++x::O.drop j
 | [],j,E,_,_=>by
  rw [Ã (λ⟨h,_⟩=>Å h (ţ _))];simp [rE]
 | u::r,0,_,_,hge=>by
  have z:¬ao.iB (ao.aD u) (ao.aD x)<0:=hge (Ww1 _);unfold rE;rw [Ã z];by_cases e:u=x
  ·rw [Ä e,Ä ⟨Ww1 _,e⟩]
  ·rw [Ã e,Ã (λ⟨_,h⟩=>e h)];rfl
 | u::r,j+1,E,hlt,hge=>by
  have z:ao.iB (ao.aD u) (ao.aD x)<0:=hlt 0 (Ww1 _) (Ww1 _);unfold rE;rw [Ä z,Qh x r j (by simpa using E) (λy h a=>hlt (y+1) (by simpa using h) ω) (λh=>hge (by simpa using h))];by_cases c:∃h:j<r.length,r[j]=x
  ·obtain ⟨h,e⟩:=c;rw [Ä ⟨h,e⟩,Ä ⟨by simpa using h,e⟩]
  ·rw [Ã c,Ã (λ⟨h,e⟩=>c ⟨by simpa using h,e⟩)];rfl
def E4 {n c:Nat}(h:bP 6 dH V p n ls)(hb:∀l∈ls,Bd l)(hk:∀l∈ls,bY l=true)(hl:ls.length<=1000):À 119 #[yG p n c] V λr W=>∃q m e,r=å #[yG q m e,dB (decide (ls=[]\/rU ls ls []≠[]))]/\bP 6 dH W q m (rU ls ls []):=by
 obtain rfl:=h.len
 refine Ev V _ ⟨λz V'=>∃(i:Nat)(O:zA L3),z.2.2.2=(i:Int)/\i<=ls.length/\O.length<=i/\(∀q∈O,q∈ls)/\rU ls ls []=rU ls (ls.drop i) O/\GR 6 dH V' z.1 z.2.1 z.2.2.1 O,λz=>ls.length-z.2.2.2.toNat,
  ⟨(0,0,[],0),σ,0,[],rfl,ä _,ä _,(λq H=>by cases H),by rw [Wz5],GR.nil⟩,?_⟩
 rintro ⟨R,N,us,z4⟩ V1 l1 ⟨i,O,e4,Xu,a7,P,o,G⟩;dsimp only at e4 G;subst e4;have Q:=G.len;have A:=G.le;have S:=G.cap;have B:=G.row;refine ⟨rfl,λd=>?_,λd=>?_⟩;rotate_left
 ·have d:¬(i:Int)<ls.length:=Â d;obtain rfl:i=ls.length:=ω;rw [Wq8] at o;have o:rU ls ls []=O:=o;rw [o];subst Q;refine ⟨λC ko T bk hb=>?_,λC ko T bk hb=>?_⟩;{have C:((ls.length:Nat):Int)=0:=by{simpa using C};refine ⟨_,_,N,?_,bP.bR hb (B.le λ_ _ g=>dH.le g T) φ A⟩;rw [Ç (.inl (ĕ.1 ω))]};have C:¬((ls.length:Nat):Int)=0:=by{simpa using C};refine ⟨_,_,N,?_,bP.bR hb (B.le λ_ _ g=>dH.le g T) φ A⟩;congr 5;refine É.2 ⟨λh=>.inr λe=>by rw [e] at h;simp at h,λh=>?_⟩;rcases h with h|h;{rw [h] at C;exact Å rfl C};{have:=Qm4.2 h;omega}
 have d:(i:Int)<ls.length:=Á d;have v:i<ls.length:=ω
 have w:Ŵ.wrap ((i:Int)+1)=((i+1:Nat):Int):=by rw [ay ω];rfl
 dsimp only;rw [Ý,w];refine ldL bN (h.le l1) v λeb ep en ec fb fp fn fe gb gp gn gc hf=>?_;have U:rU ls (ls[i]::ls.drop (i+1)) O=rU ls (ls.drop (i+1)) (if (eY ls[i] ls ã).isSome=true then rE ls[i] O else O):=rfl;rw [(ī v),U] at o;have D:=hb _ (ú v);have W:=ú v;have I:∀q∈O,Bd q:=λq H=>hb q (P q H);clear G;refine λV2 l2=>(wb ra hb hk hl v).s ?_;generalize ls[i]=x at *;rintro r V3 l3 ⟨u,s,rfl,gs,-,-⟩;obtain ⟨_,rfl⟩:=Ź (rZ gs);refine ⟨_,_,_,_,_,_,_,_,_,_,_,_,_,_,_,_,_,rfl,λk=>?_,λk=>?_⟩
 ·rw [Į] at k;rw [k,Ã φ] at o;exact ⟨(R,N,us,((i+1:Nat):Int)),ω,σ,i+1,O,rfl,v,ω,P,o,Q,A,S,B.le λ_ _ g=>dH.le g aA⟩
 rw [ŏ] at k;rw [k,Ä rfl] at o;have K:=hf;refine ⟨λz _=>∃j:Nat,z=(j:Int)/\j<=O.length/\∀(y:Nat)(h:y<O.length),y<j->ao.iB (ao.aD O[y]) (ao.aD x)<0,λz=>O.length-z.toNat,⟨0,σ,0,rfl,ä _,λy _ h=>Å h (ţ y)⟩,?_⟩;rintro z V4 l4 ⟨j,rfl,yH,jl⟩;have wj:Ŵ.wrap ((j:Int)+1)=((j+1:Nat):Int):=by rw [ay ω];rfl
 rw [Ý,wj];have X:=D.iP;have dx:=DO D;refine ⟨rfl,λz _=>z=true↔∃h:j<O.length,ao.iB (ao.aD O[j]) (ao.aD x)<0,⟨λd=>?_,λd=>⟨false,σ,?_⟩⟩,?_⟩
 ·have d:=Á d;have t:j<O.length:=ω;have L:=I _ (ú t);have Y:=L.iP;have dj:=DO L;obtain ⟨b1,Z,n1,c1,b2,p2,n2,c2,b3,p3,n3,c3,gH,NZ,hr⟩:=Jd B t;refine ⟨ų,A,b1,Z,n1,c1,b2,p2,n2,c2,b3,p3,n3,c3,⟨gH,NZ⟩,λV5 l5=>(fQ (hr.le aA) Y.1 Y.2.1 Y.2.2 ω).s λr V6 l6 E=>RP.ex E λ_ _ E _ _=>λV7 l7=>(fQ (RL.le K aA) X.1 X.2.1 X.2.2 ω).s λr V8 l8 F=>RP.ex F λ_ _ F _ _=>λV9 l9=>(EW (a:=ao.aD O[j]) (b:=ao.aD x) (E.le aA) (F.le l9) dj.1 dj.2 dx.1 dx.2).s λr fD a1 rfl=>⟨_,rfl,decide (ao.iB (ao.aD O[j]) (ao.aD x)<0),σ,by dsimp only;rw [Ñ];exact ⟨λh=>⟨t,h⟩,λ⟨_,h⟩=>h⟩⟩⟩
 ·have d:=Â d;exact ⟨π,λ⟨h,_⟩=>Å h ω⟩
 rintro z V7 l7 U1;refine ⟨rfl,λk=>?_,λk=>?_⟩
 ·have ⟨t,a2⟩:=U1.1 k;refine ⟨((j+1:Nat):Int),ω,σ,j+1,rfl,t,λy h a8=>?_⟩;by_cases e:y=j;{subst e;exact a2};exact jl y h ω
 have a3:∀h:j<O.length,¬ao.iB (ao.aD O[j]) (ao.aD x)<0:=λh h'=>by have:=U1.2 ⟨h,h'⟩;rw [k] at this;cases this
 have f:=Qh x O j yH jl a3;have a4:∀q∈rE x O,q∈ls:=λq H=>(wJ.1 H).elim (λe=>e▸W) (P q);refine ⟨λz _=>z=true↔∃h:j<O.length,O[j]=x,⟨λd=>?_,λd=>⟨false,σ,?_⟩⟩,?_⟩
 ·have d:=Á d;have t:j<O.length:=ω;obtain ⟨b1,Z,n1,c1,b2,p2,n2,c2,b3,p3,n3,c3,gH,NZ,hr⟩:=Jd B t;refine ⟨ų,A,b1,Z,n1,c1,b2,p2,n2,c2,b3,p3,n3,c3,⟨gH,NZ⟩,λV8 l8=>(mM (hr.le aA) (RL.le K aA) (I _ (ú t)).iP D.iP).s λr V9 l9 rfl=>⟨_,rfl,(j9 O[j] x==(0:Int)),σ,by dsimp only;rw [KD,Ñ];exact ⟨λh=>⟨t,h⟩,λ⟨_,h⟩=>h⟩⟩⟩
 ·have d:=Â d;exact ⟨π,λ⟨h,_⟩=>Å h ω⟩
 rintro z fD a1 CG;refine ⟨rfl,λk=>?_,λk eX dq bk hb J=>?_⟩
 ·have hex:=CG.1 k;rw [Ä hex] at f;rw [f] at o;exact ⟨(R,N,us,((i+1:Nat):Int)),ω,σ,i+1,O,rfl,v,ω,P,o,Q,A,S,B.le λ_ _ g=>dH.le g aA⟩
 ·have a5:¬∃h:j<O.length,O[j]=x:=λh=>by{have:=CG.2 h;rw [k] at this;cases this};rw [Ã a5] at f;obtain ⟨xs,ys,x1,x2,x3,y1,y2,y3,r1,r2,r3,r4,r5⟩:=Bo (V:=eX) (GR.s ⟨Q,A,S,B⟩ λ_ _ g=>dH.le g aA) φ (λ_ _=>xi) hb (es:=[_,_,_,_,_,_]) rfl ra (j:=j);refine ⟨ų,ų,ų,xs,x1,x2,ω,Ù _,Ù 6,x2,x3,λa9 J2 sp c' h1 h2=>?_⟩;show ∃_,_;rw [r1,r2];(refine ⟨ys,y1,y2,Ù _,y3,ω,ω,r3,r4,λa6 M h3 h4=>⟨(j+(1+(R-j)),M,_,((i+1:Nat):Int)),ω,Ų,i+1,rE x O,rfl,v,?_,a4,o,?_⟩⟩);{rw [f,í,ë,Ċ,Ĵ];omega};show GR 6 dH _ _ _ _ (rE x O);rw [f];exact r5 a6 M h3 h4
theorem jN {K:Nat}{lp:OA}{ln lc:Nat}{pv vv:um}{p v:Rat×Rat}(h:bP 6 dH V lp ln ls)(hb:∀l∈ls,Bd l)(hl:ls.length<=1000)(hp:RP V pv p.1 p.2)(hv:RP V vv v.1 v.2)(s1:Sz K p.1)(s2:Sz K p.2)(s3:Sz 6000 v.1)(s4:Sz 6000 v.2)(hK:1000<=K/\K<=300000000:=by omega):À 15 #[yG lp ln lc,pv,vv] V λr W=>RP W r (p.1+ls.foldl (ao.wT p v) 1*v.1) (p.2+ls.foldl (ao.wT p v) 1*v.2)/\Sz (7*K+40000) (p.1+ls.foldl (ao.wT p v) 1*v.1)/\Sz (7*K+40000) (p.2+ls.foldl (ao.wT p v) 1*v.2):=by have hn:=h.len;subst hn;have o:=hp;have a1:=hv;obtain ⟨_,rfl,-⟩:=Ÿ hp;obtain ⟨_,rfl,-⟩:=Ÿ hv;(refine FO V _ λV1 l1=>(dN 1 ω).s λr V2 l2 B=>RQ.ex B λ_ B=>⟨λz V'=>∃i:Nat,z.1=(i:Int)/\i<=ls.length/\RQ V' (hF #[dB z.2.1,yG z.2.2.1 z.2.2.2.1 z.2.2.2.2.1,yG z.2.2.2.2.2.1 z.2.2.2.2.2.2.1 z.2.2.2.2.2.2.2]) ((ls.take i).foldl (ao.wT p v) 1)/\Sz (6*K+30000) ((ls.take i).foldl (ao.wT p v) 1),λz=>(ls.length-z.1).toNat,⟨(0,_,_,_,_,_,_,_),Ų,0,rfl,ä _,B,BA.s ω⟩,?_⟩;rintro ⟨z,zb,zp,zn,t,zq,zm,ze⟩ V3 l3 ⟨i,e,hi,gs,d⟩;dsimp only at e gs ⊢;subst e;have a2:=(l1.m l2).m l3;refine ⟨θ,λa=>?_,λa a3 IA=>?_⟩);{have a:i<ls.length:=by{have:=Á a;omega};have w1:Ŵ.wrap ((i:Int)+1)=((i+1:Nat):Int):=ŵ;rw [w1,Ý];refine ldL (R:=dH) bN ra a λb1 p1 n1 c1 b2 p2 n2 c2 b3 p3 n3 c3 f=>?_;have C:=hb _ (ú a);have sl:=C.iP;have H:=VG (p:=p) (v:=v) a 1;generalize ls[i]=A at *;generalize (ls.take i).foldl (ao.wT p v) 1=s at *;have next:∀{W:un} {b:ut} {q1 q2:OA} {m1 d1 m2 d2:Nat} {s':Rat},RQ W (hF #[dB b,yG q1 m1 d1,yG q2 m2 d2]) s'->Sz (6*K+30000) s'->ao.wT p v s A=s'->∃i':Nat,((i+1:Nat):Int)=(i':Int)/\i'<=ls.length/\RQ W (hF #[dB b,yG q1 m1 d1,yG q2 m2 d2]) ((ls.take i').foldl (ao.wT p v) 1)/\Sz (6*K+30000) ((ls.take i').foldl (ao.wT p v) 1):=λj c e=>⟨i+1,rfl,a,by rw [H,e];exact j,by rw [H,e];exact c⟩;have t1:Sz (K+7000) (p.1+((1:Int):Rat)*v.1):=(s1.add (BA.mul s3)).s ω;have t2:Sz (K+7000) (p.2+((1:Int):Rat)*v.2):=(s2.add (BA.mul s4)).s ω;refine λV4 l4=>(dN 1 ω).s ?_;rintro r V5 l5 g;obtain ⟨_,rfl⟩:=Ŷ g.shape;have tP:=l4.m l5;refine qxQ ⟨rfl,λV6 l6=>(fP ra ra ra s1 s2 (BA.s ω) s3 s4 ω).s ?_⟩;rintro r V7 l7 u;obtain ⟨_,rfl,-⟩:=Ÿ u;have Ql:=tP.m (l6.m l7);refine qxW ⟨rfl,λV8 l8=>(jO (k:=K+7000) (f.le aA) (u.le l8) (sl.1.s ω) (sl.2.1.s ω) (sl.2.2.s ω) t1 t2).s ?_⟩;rintro r V9 l9 I;have a4:RQ V9 r (aw A (p.1+((1:Int):Rat)*v.1) (p.2+((1:Int):Rat)*v.2)):=I;obtain ⟨_,rfl⟩:=Ŷ I.shape;have U_:=Ql.m aA;refine qxQ ⟨rfl,λfD a5=>(jO (k:=K+7000) (f.le aA) (o.le aA) (sl.1.s ω) (sl.2.1.s ω) (sl.2.2.s ω) (s1.s ω) (s2.s ω)).s ?_⟩;rintro r eX dq J;have a6:RQ eX r (aw A p.1 p.2):=J;obtain ⟨_,rfl⟩:=Ŷ J.shape;have L:=sz_v C (p:=((p.1+((1:Int):Rat)*v.1),(p.2+((1:Int):Rat)*v.2))) t1 t2;have w:=sz_v C s1 s2;refine qxQ ⟨rfl,λgQ eJ=>(iH ra ra L w).s ?_⟩;rintro r ji fk gc;have ec:aw A (p.1+((1:Int):Rat)*v.1) (p.2+((1:Int):Rat)*v.2)-aw A p.1 p.2=ao.nv A v:=by{have:=ao.jX A p v 1;have e1:((1:Int):Rat)=1:=rfl;rw [e1,this];grind};have t:=L.sub w;dsimp only at t;rw [ec] at gc t;obtain ⟨_,rfl⟩:=Ŷ gc.shape;refine qxQ ⟨rfl,λlH M=>(ou ra).s ?_⟩;rintro r mJ N rfl;have O:=((U_.m aA).m aA).m (M.m N);(refine ⟨_,rfl,λq=>⟨(((i+1:Nat):Int),_,_,_,_,_,_,_),ω,Ų,next (gs.le O) d ?_⟩,λq ko P=>(I9 (x:=p.1) (y:=p.2) (f.le aA) (o.le aA) ⟨sl.1.s (ÿ ω (Ù K)),sl.2.1.s ω,sl.2.2.s ω⟩ s1 s2).s ?_⟩);{unfold ao.wT;rw [Ä (.inl (ao.bJ.1 (Ë.1 q)))]};have q:ao.nv A v≠0:=λe=>by{rw [ao.bJ.2 e] at q;cases q};rintro r nk kf rfl;have Q:=O.m (P.m kf);(refine ⟨_,rfl,λv0=>⟨(((i+1:Nat):Int),_,_,_,_,_,_,_),ω,Ų,next (gs.le Q) d ?_⟩,λv0 nq iF=>(jO (k:=K+7000) (f.le aA) (o.le aA) (sl.1.s ω) (sl.2.1.s ω) (sl.2.2.s ω) (s1.s ω) (s2.s ω)).s ?_⟩);{unfold ao.wT;rw [Ä (.inr (ao.bJ.1 (Ë.1 v0)))]};have v0:aw A p.1 p.2≠0:=λe=>by{rw [ao.bJ.2 e] at v0;cases v0};have D:¬(ao.nv A v=0\/aw A p.1 p.2=0):=λh=>h.elim q v0;rintro r qM lD S;have E:RQ qM r (aw A p.1 p.2):=S;obtain ⟨_,rfl⟩:=Ŷ S.shape;refine qxQ ⟨rfl,λuJ kN=>(jx (E.le kN) (gc.le (M.m (N.m (P.m aA)))) (λe=>q (š.1 e)) w t ω).s ?_⟩;rintro r tM rI gt;obtain ⟨_,rfl⟩:=Ŷ gt.shape;have F:=(w.mul (iG t)).neg;refine qxQ ⟨rfl,λvO oX=>(NL ra).s λr vP oY m=>RQ.ex m λ_ m=>λEL G=>(ou ra).s ?_⟩;rintro r Na T rfl;have n:=(Q.m aA).m (G.m T);have U:-(aw A p.1 p.2*(ao.nv A v)⁻¹)*((2:Int):Rat)⁻¹=-(aw A p.1 p.2*(ao.nv A v)⁻¹)*(1/2):=by{rw [show ((2:Int):Rat)⁻¹=1/2 by decide +kernel]};have X:Sz (6*K+30000) (-(aw A p.1 p.2*(ao.nv A v)⁻¹)*((2:Int):Rat)⁻¹):=(F.mul (iG (Fj (z:=2)))).s ω;(refine ⟨_,rfl,λj Rk Ng=>(uT (m.le (G.m aA)) F).s ?_,λj=>⟨(((i+1:Nat):Int),_,_,_,_,_,_,_),ω,Ų,next (gs.le n) d ?_⟩⟩);{have j:=ao.mr.1 (Á j);rintro r XF CO gh;obtain ⟨_,rfl⟩:=Ŷ gh.shape;have Y:=n.m aA;refine qxQ ⟨rfl,λXG La=>(e_ ra ra X d).s ?_⟩;rintro r Z_ Iz rfl;(refine ⟨_,rfl,λc TD Nh=>(uT (m.le (G.m (T.m aA))) F).s ?_,λc=>⟨(((i+1:Nat):Int),_,_,_,_,_,_,_),ω,Ų,next (gs.le aA) d ?_⟩⟩);{have c:=sZ.1 (Á c);rintro r a7 G_ Z;obtain ⟨_,rfl⟩:=Ŷ Z.shape;(refine qxQ ⟨rfl,(((i+1:Nat):Int),_,_,_,_,_,_,_),ω,Ų,next Z X ?_⟩;rw [U] at c ⊢;unfold ao.wT;rw [Ã D,Ä ⟨j,c⟩])};have c:¬_:=λh=>Â c (sZ.2 h);rw [U] at c;unfold ao.wT;rw [Ã D,Ã λh=>c h.2]};have j:¬_:=λh=>Â j (ao.mr.2 h);unfold ao.wT;rw [Ã D,Ã λh=>j h.1]};have a:i=ls.length:=by{have:=Â a;omega};subst a;rw [Ī] at gs d;generalize ls.foldl (ao.wT p v) 1=s at *;refine (fP ra ra ra s1 s2 d (s3.s ω) (s4.s ω) ω).s λr TE Bp u=>RP.ex u λ_ _ u _ _=>λa8 Lb=>⟨ra,(s1.add (d.mul s3)).s ω,(s2.add (d.mul s4)).s ω⟩
def xj {vs:zA um}(h:è 6 dH V vs ls)(u:vs.length=ls.length*6):∀v∈vs,v.oneCell'=true:=by intro v a;have ⟨m,hm,e⟩:=Qb5.1 a;exact gK h φ (λ_ _=>xi) (m:=m) ω (by rw [<-e];exact ñ hm)
def Fb (ls:List L3):Bool:=decide (ls=[]\/∃l∈ls,(eY l ls ã).isSome=true)
def QN (V:un):RP V (hF #[dB false,yG none 0 0,yG none 0 0,dB false,yG none 0 0,yG none 0 0]) 0 0:=wqQ ⟨rfl,rq0 _,rq0 _⟩
def ug (h:bP 6 dH V cp cn ls)(hb:∀l∈ls,Bd l)(hk:∀l∈ls,bY l=true)(hl:ls.length<=1000:=by omega):À 118 #[yG cp cn cc] V λr W=>∃u p,r=å #[u,dB (Fb ls)]/\RP W u (Prod.fst p) (Prod.snd p)/\Sz 500000000 (Prod.fst p)/\Sz 500000000 (Prod.snd p):=by have N:=h.len;subst N;refine Ew V _ ⟨λb O l1=>?_,λb=>⟨λz _=>∃i:Nat,z=(i:Int)/\i<=ls.length/\∀(k:Nat)(g:k<ls.length),k<i->(eY ls[k] ls ã).isSome=false,λz=>(ls.length-z).toNat,⟨0,σ,0,rfl,ä _,λk _ g=>Å g (ţ k)⟩,?_⟩⟩;{have e:ls=[]:=ĕ.1 (by have:=Á b;omega);refine ⟨_,(0,0),?_,QN O,DP _,DP _⟩;rw [show Fb ls=true from Ç (.inl e)]};have b:ls.length≠0:=λe=>by{rw [e] at b;cases b};rintro z V2 y ⟨i,rfl,hi,A⟩;refine ⟨θ,λa=>?_,λa P gV=>?_⟩;rotate_left;{have e:i=ls.length:=by{have:=Â a;omega};subst e;refine ⟨_,(0,0),?_,QN P,DP _,DP _⟩;rw [show Fb ls=false from È ?_];rintro (g|⟨l,Q,B⟩);{rw [g] at b;exact b rfl};obtain ⟨k,C,rfl⟩:=Qb5.1 Q;rw [A k C C] at B;cases B};have a:i<ls.length:=by{have:=Á a;omega};have R:Ŵ.wrap ((i:Int)+1)=((i+1:Nat):Int):=ŵ;rw [R,Ý];have f:∀{W:un},V.Le W->bP 6 dH W cp ls.length ls:=λg=>h.le g;refine ldL bN (f y) a λb1 p1 n1 c1 b2 p2 n2 c2 b3 p3 n3 c3 c=>?_;have D:=hb _ (ú a);have hm:=ú a;have sl:=D.iP;have nz:=fY (hk _ (ú a));have j:=DO D;have m:(eY ls[i] ls ã).isSome=false->∀(k:Nat)(g:k<ls.length),k<i+1->(eY ls[k] ls ã).isSome=false:=λe k g S=>by{by_cases T:k=i;{subst T;exact e};exact A k g ω};refine λV3 U=>(wb (f aA) hb hk hl a).s ?_;generalize ls[i]=L at *;rintro r V4 X ⟨u,s,rfl,gs,E,-⟩;obtain ⟨_,rfl⟩:=Ź (rZ gs);have Y:=U.m X;refine ⟨_,_,_,_,_,_,_,_,_,_,_,_,_,_,_,_,_,rfl,λn V5 l5=>(fQ (c.le aA) sl.1 sl.2.1 sl.2.2 ω).s ?_,λn=>⟨((i+1:Nat):Int),ω,σ,i+1,rfl,a,m n⟩⟩;rintro r V6 l6 Z;obtain ⟨_,rfl,Ap,o⟩:=Ÿ Z;refine qxW ⟨rfl,λV7 F=>(q_ ra E).s ?_⟩;rintro r V8 G H;obtain ⟨_,rfl⟩:=Ŷ H.shape;have q:=Q_ E;have La:=(Y.m aA).m aA;refine qxQ ⟨rfl,λV9 t=>(Zl (c.le aA) (H.le t) nz (sl.up (K:=200010) ω) q).s λr fD d I=>RP.ex I λ_ _ I _ _=>λeX J=>(lP (o.le ((F.m G).m ((t.m d).m J))) j.2 ω).s λr gQ eJ go=>RQ.ex go λ_ go=>λji M=>(jN (p:=(dm L s.oO,du L s.oO)) (v:=(-(-((L.1:Int):Rat)),((L.2.1:Int):Rat))) (f (y.m (((La.m aA).m aA).m M))) hb hl ra ⟨_,_,_,_,_,_,_,_,_,_,_,_,rfl,ra,Ap.le ((F.m G).m ((t.m d).m ((J.m eJ).m M)))⟩ ((DM (sl.up (K:=200010) ω) q).s (show _<=60000000 by omega)) ((DN (sl.up (K:=200010) ω) q).s (show _<=60000000 by omega)) (Sz.s j.2.neg ω) (Sz.s j.1 ω)).s ?_⟩;rintro r lH iL ⟨gp,w,x⟩;obtain ⟨_,rfl,-⟩:=Ÿ gp;refine qxW ⟨rfl,λmJ iE=>⟨_,(_,_),?_,ra,w.s ω,x.s ω⟩⟩;rw [show Fb ls=true from Ç (.inr ⟨L,hm,n⟩)]
def Dg (ls:List L3)(m:L3):Int:=if Fb (ls++[m])=true/\Fb (ls++[Õ m])=true then 0 else if Fb (ls++[m])=true then 1 else -1
def zD {V:un}{b c:Nat}{vs:zA um}(hw:V.w.heap[b]?=some (.cells vs.toArray 54 (0,0)))(y:è 6 dH V vs ls)(z:ls.length<=c)(E:ls≠[])(F:∀l∈ls,Bd l)(M:∀l∈ls,bY l=true)(N:ls.length<=1000):À 118 #[yG (some ⟨b,0,none⟩) ls.length c] (V.au [b]) λr W=>∃b1 p O c1 Z n2 c2 b2 q n3 c3 q' n4 c4,r=å #[hF #[dB b1,yG p O c1,yG Z n2 c2,dB b2,yG q n3 c3,yG q' n4 c4],dB (Fb ls)]/\W.w.heap[b]?=some (.cells vs.toArray 54 (0,0)):=by have d:=(Qr4.1 hw).1;have f:=Qm4.2 E;have l0:V.Le ((V.au [b]).bare b):=λa v h=>⟨λj=>h.1 j.1,h.2⟩;have i:=bP.bR (V:=(V.au [b]).bare b) (λ_=>⟨λh=>h.2 rfl,hw⟩) (y.le λ_ _ g=>dH.le g l0) φ z;have e:mA b c=some ⟨b,0,none⟩:=by{unfold mA;rw [Ã ω]};rw [e] at i;refine (ae.bare (V:=V.au [b]) d (ug i F M N)).s ?_;rintro r V' _ ⟨k,u,p,rfl,m,-⟩;obtain ⟨_,rfl,-⟩:=Ÿ m;exact qxW ⟨rfl,k.m hw⟩
def rX {V:un}{xs ys sp sp':zA um}{m:L3}{n:Nat}(u:n=ls.length)(h:è 6 dH V xs ls)(z:xs.length=n*6)(y:ys.length=6)(hm:dH V (.agg ys.toArray) m):è 6 dH V ((([]:zA um).take (0*6)++xs++sp).take ((0+n)*6)++ys++sp') (ls++[m]):=by subst u;have e:([]:zA um).take (0*6)++xs++sp=xs++sp:=ψ;rw [e,ĉ];have a:è 6 dH V (xs++sp) ls:=by{have:=eI (V:=V) (vs:=[]) (ls:=[]) (sp:=sp) (è.nil) h φ;simpa using this};exact eI a (row_one y hm) φ
def uh (h:bP 6 dH V cp cn ls)(hb:∀l∈ls,Bd l)(hk:∀l∈ls,bY l=true)(hl:ls.length<=999){lv:um}{m:L3}(hm:dH V lv m)(bm:Bd m)(om:bY m=true):À 64 #[yG cp cn cc,lv] V λr W=>r=Ô Ŵ (Dg ls m):=by have F:=h.len;subst F;have j:=hm;obtain ⟨_,rfl⟩:=Ÿ (bN hm);have ⟨xs,G,f,s⟩:=cW h φ;have one:∀{W:un} {xs:zA um},è 6 dH W xs ls->xs.length=ls.length*6->∀v∈xs,v.oneCell'=true:=λk t=>xj k t;have H:∀l∈ls++[m],Bd l:=λl h=>(ü.1 h).elim (hb l) λh=>by{rw [õ.1 h];exact bm};have I:∀l∈ls++[m],bY l=true:=λl h=>(ü.1 h).elim (hk l) λh=>by{rw [õ.1 h];exact om};have J:∀l∈ls++[Õ m],Bd l:=λl h=>(ü.1 h).elim (hb l) λh=>by{rw [õ.1 h];exact bm.rev};have K:∀l∈ls++[Õ m],bY l=true:=λl h=>(ü.1 h).elim (hk l) λh=>by{rw [õ.1 h];exact yO om};have c:∀x:L3,(ls++[x]).length=(0+ls.length)+1:=λx=>by{rw [í];simp};refine Ex V _ ⟨xs,G,f,ω,Ù _,ψ,f,one s f,λNv J5 n c3 k t=>⟨ω,k,by simp;omega,rfl,SP,λRu J9 p c7 L g4=>λu w XT M h1=>?_⟩⟩;have y:=zD (V:=u) M (rX (V:=u) (ys:=[_,_,_,_,_,_]) (sp:=n) (sp':=p) rfl (s.le λ_ _ g=>dH.le g w) f rfl ra) (by rw [c];exact L) ψ H I (by rw [c];omega);rw [c] at y;refine y.s ?_;rintro r V2 N ⟨_,_,_,_,_,_,_,_,_,_,_,_,_,_,rfl,O⟩;have P:V.Le V2.shut:=λb o g=>N b o (w b o g);obtain ⟨ys,Q,i,z⟩:=cW (h.le P) φ;refine wqK ⟨rfl,_,O,ys,Q,i,ω,Ù _,ψ,i,one z i,λA R d S T g6 V3 l3=>(j7 (dH.le j aA)).s ?_⟩;rintro r U l4 X;have Y:dH U r (Õ m):=X;obtain ⟨_,rfl⟩:=Ÿ (bN Y);refine wqQ ⟨rfl,ω,T,by simp;omega,rfl,SP,λB Z e a3 g7 g8 C l5 D e5 h5=>?_⟩;have E:=zD (V:=C) e5 (rX (V:=C) (ys:=[_,_,_,_,_,_]) (sp:=d) (sp':=e) rfl (z.le λ_ _ g=>dH.le g aA) i rfl ra) (by rw [c];exact g7) ψ J K (by rw [c];omega);rw [c] at E;refine E.s ?_;rintro r V6 l6 ⟨_,_,_,_,_,_,_,_,_,_,_,_,_,_,rfl,w6⟩;refine wqK ⟨rfl,_,w6,λa=>⟨λq V7 l7=>?_,λq=>⟨λ_ V8 l8=>?_,(λh=>by rw [a] at h;cases h)⟩⟩,λa=>⟨(λh=>by rw [a] at h;cases h),λ_ eX dq=>?_⟩⟩;{unfold Dg;rw [Ä ⟨a,q⟩]};{unfold Dg;rw [Ã (λh=>by rw [q] at h;cases h.2),Ä a]};unfold Dg;rw [Ã (λh=>by rw [a] at h;cases h.1),Ã (λh=>by rw [a] at h;cases h)]
def Ja (c:zA L3):∀(r o:zA L3),(rU c r o).length<=r.length+o.length
 | [],o=>by unfold rU;simp
 | l::r,o=>by
  unfold rU;split
  ·have:=Ja c r (rE l o)
   have a:∀o:zA L3,(rE l o).length<=o.length+1:=λo=>by
    induction o with
    | nil=>simp [rE]
    | cons x r u=>unfold rE;split<;>(try split)<;>simp<;>omega
   have:=a o;simp only [Ċ];omega
  ·have:=Ja c r o;simp only [Ċ];omega
def Jb (c:zA L3):∀(r o:zA L3),∀x∈rU c r o,x∈r\/x∈o
 | [],o,x,h=>.inr h
 | l::r,o,x,h=>by
  unfold rU at h;rcases Jb c r _ x h with g|g
  ·exact .inl (ø _ g)
  ·split at g
   ·rcases wJ.1 g with rfl|g
    ·exact .inl (ą ..)
    ·exact .inr g
   ·exact .inr g
def QP {x y:Tr}(h:RW V p (.node l x y)):∃(b1:ut)(u:OA)(z c1:Nat)(b2:ut)(E:OA)(F M:Nat)(b3:ut)(N:OA)(O Z:Nat)(pl pr:OA)(a:Addr),p.isSome=true/\af p 2=some a/\∀W:un,V.Le W ->(∃a,af p 0=some a/\W.at a (dB false))/\(W.at (a.add 0) (dB b1)/\W.at (a.add 1) (yG u z c1)/\W.at (a.add 2) (dB b2)/\W.at (a.add 3) (yG E F M)/\W.at (a.add 4) (dB b3)/\W.at (a.add 5) (yG N O Z))/\(∃a,af p 8=some a/\W.at a (qvJ pl))/\(∃a,af p 9=some a/\W.at a (qvJ pr))/\dH W (hF #[dB b1,yG u z c1,dB b2,yG E F M,dB b3,yG N O Z]) l/\RW W pl x/\RW W pr y:=by obtain ⟨e,f,b1,u,z,c1,b2,E,F,M,b3,N,O,Z,pl,pr,rfl,c,k,m,d⟩:=h;refine ⟨b1,u,z,c1,b2,E,F,M,b3,N,O,Z,pl,pr,(⟨e,0,none⟩:Addr).add 2,rfl,rfl,λW g=>?_⟩;have b:∀(i j:Nat) v,i+j<10->([dB false,dB f,dB b1,yG u z c1,dB b2,yG E F M,dB b3,yG N O Z,qvJ pl,qvJ pr]:zA um)[i+j]?=some v->W.at (((⟨e,0,none⟩:Addr).add i).add j) v:=by{intro i j v _ n;rw [HK,add_zero'];exact dM (xs:=[_,_,_,_,_,_,_,_,_,_]) (g _ _ c) n};exact ⟨yR (g _ _ c) 0 rfl,⟨b 2 0 _ ω rfl,b 2 1 _ ω rfl,b 2 2 _ ω rfl,b 2 3 _ ω rfl,b 2 4 _ ω rfl,b 2 5 _ ω rfl⟩,yR (g _ _ c) 8 rfl,yR (g _ _ c) 9 rfl,k.le g,m.le g,d.le g⟩
def QO {u:Nat}{i b1:ut}{z:OA}{E c1:Nat}{b2:ut}{F:OA}{M N:Nat}{b3:ut}{O:OA}{Z c3:Nat}{pl pr:OA}{x y:Tr}(h:V.bo u (.cells #[dB false,dB i,dB b1,yG z E c1,dB b2,yG F M N,dB b3,yG O Z c3,qvJ pl,qvJ pr] 88 (0,0)))(hl:dH V (hF #[dB b1,yG z E c1,dB b2,yG F M N,dB b3,yG O Z c3]) l)(hx:RW V pl x)(hy:RW V pr y):RW V (some ⟨u,0,none⟩) (.node l x y):=
 ⟨u,i,b1,z,E,c1,b2,F,M,N,b3,O,Z,c3,pl,pr,rfl,h,hl,hx,hy⟩
def SB (l:L3):Tr->Tr->Tr
 | .leaf i,.leaf j=>if i=j then .leaf i else .node l (.leaf i) (.leaf j)
 | x,y=>.node l x y
def K9 {x y:Tr}(h:x.rH=false\/y.rH=false):SB l x y=.node l x y:=by
 cases x with
 | leaf i=>cases y with
  | leaf j=>rcases h with h|h<;>cases h
  | node=>rfl
 | node=>rfl
def we {v:um}{q:OA}{x y:Tr}(hl:dH V v l)(Z:RW V p x)(hy:RW V q y):À 65 #[v,qvJ p,qvJ q] V λr W=>∃o,r=qvJ o/\RW W o (SB l x y):=by
 obtain ⟨b1,m,n,t,b2,u,w,z,b3,A,B,C,rfl⟩:=bN hl
 have c:∀{W:un} {b:Nat},V.Le W->W.bo b (.cells #[dB false,dB false,dB b1,yG m n t,dB b2,yG u w z,dB b3,yG A B C,qvJ p,qvJ q] 88 (0,0))->(x.rH=false\/y.rH=false\/∃i j,x=.leaf i/\y=.leaf j/\i≠j)->∃o,Value.pointer (some ⟨b,0,none⟩)=qvJ o/\RW W o (SB l x y):=λg h k=>by refine ⟨_,rfl,?_⟩;have e:SB l x y=.node l x y:=by{rcases k with k|k|⟨i,j,rfl,rfl,k⟩;{exact K9 (.inl k)};{exact K9 (.inr k)};show (if i=j then _ else _)=_;rw [Ã k]};rw [e];exact QO h (dH.le hl g) (Z.le g) (hy.le g)
 have rd:∀{p:OA} {x:Tr},RW V p x->p.isSome=true/\∃a,af p 0=some a/\V.at a (dB x.rH):=λ{p x} h=>by (cases x with|leaf i=>{obtain ⟨s,D,-⟩:=m_ h;exact ⟨s,D⟩}|node l x y=>{obtain ⟨_,_,_,_,_,_,_,_,_,_,_,_,_,_,_,s,-,H⟩:=QP h;exact ⟨s,(H V (Ó.Le.refl V)).1⟩})
 have ⟨s1,E⟩:=rd Z;have ⟨s2,F⟩:=rd hy;refine F6 V _ ⟨s1,s1,_,E,λd=>⟨s2,s2,_,F,λf=>?_,λf R G b I=>c G I (.inr (.inl f))⟩,λd S J b K=>c J K (.inl d)⟩
 obtain ⟨i,rfl⟩:∃i,x=.leaf i:=by cases x with
  | leaf i=>exact ⟨i,rfl⟩
  | node=>cases d
 obtain ⟨j,rfl⟩:∃j,y=.leaf j:=by cases y with
  | leaf j=>exact ⟨j,rfl⟩
  | node=>cases f
 obtain ⟨-,-,L⟩:=m_ Z;obtain ⟨-,-,M⟩:=m_ hy;refine ⟨s1,s1,i,L,s2,s2,j,M,λh N O=>⟨p,rfl,?_⟩,λh V2 P b Q=>c P Q (.inr (.inr ⟨i,j,rfl,rfl,by simpa using h⟩))⟩;have e:i=j:=by simpa using h
 show RW N p (if i=j then _ else _);rw [Ä e];exact Z.le O
def IK:Tr->Tr
 | .leaf i=>.leaf (!i)
 | .node l x y=>.node l (IK x) (IK y)
def mO:∀(t:Tr) {V:un} {p:OA},RW V p t->À 26 #[qvJ p] V λr W=>∃q,r=qvJ q/\RW W q (IK t)
 | .leaf i,V,p,h=>by
  have ⟨s,e0,e1⟩:=m_ h;refine xQ V _ ⟨s,s,_,e0,λ_=>⟨s,s,i,e1,λL M=>(cS (!i)).s ?_⟩,π⟩;rintro r V2 N ⟨q,rfl,g⟩;exact ⟨q,rfl,λO f=>⟨q,rfl,g.le f⟩⟩
 | .node l x y,V,p,h=>by
  obtain ⟨b1,P,Q,R,b2,S,T,U,b3,W,X,Y,pl,j,a,s,k,H⟩:=QP h;obtain ⟨z,⟨a0,m,n,o,u,v⟩,w,A,-,-,-⟩:=H V (Ó.Le.refl V);refine xQ V _ ⟨s,s,_,z,π,λ_=>⟨s,s,_,_,_,_,_,_,_,_,_,_,_,_,a,k,a0,m,n,o,u,v,s,s,pl,w,s,s,j,A,λB b=>(mO x (H B b).2.2.2.2.2.1).s ?_⟩⟩;rintro r Z c ⟨C,rfl,D⟩;refine ⟨C,rfl,λE d=>(mO y (H E (b.m (c.m d))).2.2.2.2.2.2).s ?_⟩;rintro r V7 F ⟨G,rfl,I⟩;refine ⟨G,rfl,λJ e bk K=>⟨_,rfl,QO K (H J (b.m (c.m (d.m (F.m e))))).2.2.2.2.1 (D.le aA) (I.le e)⟩⟩
def xT (c:List L3)(l:L3):List L3:=rU (c++[l]) (c++[l]) []
def BD (u:∀m∈c,lG m)(y:lG l):(∀m∈xT c l,lG m)/\(xT c l).length<=c.length+1:=by refine ⟨λm hm=>?_,?_⟩;{rcases Jb _ _ _ m hm with g|g;{rcases ü.1 g with g|g;{exact u m g};rw [õ.1 g];exact y};cases g};{have:=Ja (c++[l]) (c++[l]) [];simp at this;unfold xT;omega}
def kS {v:um}(M:bP 6 dH V cp cn c)(N:∀m∈c,lG m)(hn:c.length<=990)(O:dH V v l)(Z:lG l):À 66 #[yG cp cn cc,v] V λr W=>∃q n d,r=yG q n d/\bP 6 dH W q n (xT c l):=by obtain rfl:=M.len;obtain ⟨_,rfl⟩:=Ÿ (bN O);have ⟨xs,o,a,f⟩:=cW M φ;have i:∀m∈c++[l],lG m:=λm h=>(ü.1 h).elim (N m) λh=>by{rw [õ.1 h];exact Z};have j:(c++[l]).length=(0+c.length)+1:=by{rw [í];simp};refine F7 V _ ⟨xs,o,a,ω,Ù _,ψ,a,xj f a,λx y b z p A=>⟨ω,p,by simp;omega,rfl,SP,λB C e D E F s t G u=>?_⟩⟩;have k:=bP.fX u (rX (V:=s) (ys:=[_,_,_,_,_,_]) (sp:=b) (sp':=e) rfl (f.le λ_ _ g=>dH.le g t) a rfl ra);rw [j] at k;refine (E4 k (λm h=>(i m h).2) (λm h=>(i m h).1) (by rw [j];omega)).s ?_;rintro r V2 H ⟨q,n,d,rfl,g⟩;exact ⟨q,n,d,_,rfl,λJ I w=>⟨q,n,d,rfl,g.le w⟩⟩
def vu:Tr->List L3->Tr
 | .leaf i,_=>.leaf i
 | .node l x y,c=>if Dg c l=1 then vu x c else if Dg c l=-1 then vu y c else SB l (vu x (xT c l)) (vu y (xT c (Õ l)))
theorem pY (h:lG l):lG (Õ l):=⟨yO h.1,h.2.rev⟩
def dI:∀(t:Tr) {V:un} {p cp:OA} {cn cc:Nat} {c:zA L3},RW V p t->t.dG lG->bP 6 dH V cp cn c->(∀m∈c,lG m)->c.length+t.depth<=990 ->À 63 #[qvJ p,yG cp cn cc] V λr W=>∃q,r=qvJ q/\RW W q (vu t c)
 | .leaf i,V,p,cp,cn,cc,c,h,_,_,_,_=>by
  obtain ⟨s,e0,-⟩:=m_ h;exact nj V _ ⟨s,s,_,e0,λ_ V1 Q=>⟨p,rfl,h.le Q⟩,π⟩
 | .node l x y,V,p,cp,cn,cc,c,h,ha,hc,kc,hd=>by
  obtain ⟨e,I,J⟩:=ha;simp only [Tr.depth] at hd;obtain ⟨b1,p1,n1,c1,b2,p2,n2,c2,b3,p3,n3,c3,pl,K,a,s,v,H⟩:=QP h;obtain ⟨z,⟨a0,f,j,k,n,o⟩,w,A,-,-,-⟩:=H V (Ó.Le.refl V);have u:∀{W:un},V.Le W->bP 6 dH W cp cn c:=λg=>hc.le g;refine nj V _ ⟨s,s,_,z,π,λ_=>⟨s,s,_,_,_,_,_,_,_,_,_,_,_,_,a,v,a0,f,j,k,n,o,λV2 B=>(uh (u B) (λm h=>(kc m h).2) (λm h=>(kc m h).1) ω (H V2 B).2.2.2.2.1 e.2 e.1).s ?_⟩⟩;rintro r R S rfl;have L3:=B.m S;obtain ⟨-,⟨a0,f,j,k,n,o⟩,w,A,-,-,-⟩:=H R L3;refine ⟨_,rfl,λb=>⟨s,s,pl,w,λT l4=>(dI x (H T aA).2.2.2.2.2.1 I (u aA) kc ω).s ?_⟩,λb=>⟨λd=>⟨s,s,K,A,λU l7=>(dI y (H U aA).2.2.2.2.2.2 J (u aA) kc ω).s ?_⟩,λd=>?_⟩⟩
  ·have b:Dg c l=1:=by simpa using b
   rintro r X Y ⟨q,rfl,g⟩;exact ⟨q,rfl,λZ C=>⟨q,rfl,by unfold vu;rw [Ä b];exact g.le C⟩⟩
  ·have b:¬Dg c l=1:=by simpa using b
   have d:Dg c l=-1:=by simpa using d
   rintro r X Y ⟨q,rfl,g⟩;exact ⟨q,rfl,λZ C=>⟨q,rfl,by unfold vu;rw [Ã b,Ä d];exact g.le C⟩⟩
  ·have b:¬Dg c l=1:=by simpa using b
   have d:¬Dg c l=-1:=by simpa using d
   have ⟨w1,w2⟩:=BD kc e;have ⟨w3,w4⟩:=BD kc (pY e);refine ⟨s,s,_,_,_,_,_,_,_,_,_,_,_,_,a,v,a0,f,j,k,n,o,s,s,pl,w,s,s,_,_,_,_,_,_,_,_,_,_,_,_,a,v,a0,f,j,k,n,o,s,s,K,A,s,s,_,_,_,_,_,_,_,_,_,_,_,_,a,v,a0,f,j,k,n,o,λfD D=>(kS (u aA) kc ω (H fD aA).2.2.2.2.1 e).s ?_⟩;rintro r eX dq ⟨q1,m1,d1,rfl,h1⟩;refine ⟨q1,m1,d1,rfl,λgQ eJ=>(dI x (H gQ aA).2.2.2.2.2.1 I ra w1 ω).s ?_⟩;rintro r ji fk ⟨o1,rfl,t1⟩;have E:=L3.m (D.m (dq.m (eJ.m fk)));refine ⟨o1,rfl,λlH L=>(j7 (H lH aA).2.2.2.2.1).s ?_⟩;rintro r mJ M gr;have N6:dH mJ r (Õ l):=gr;obtain ⟨_,rfl⟩:=Ÿ (bN N6);have F:=E.m (L.m M);refine wqQ ⟨rfl,λko N=>(kS (u aA) kc ω ra (pY e)).s ?_⟩;rintro r nk kf ⟨q2,m2,d2,rfl,h2⟩;have G:=F.m (N.m kf);refine ⟨q2,m2,d2,rfl,λnq iF=>(dI y (H nq aA).2.2.2.2.2.2 J ra w3 ω).s ?_⟩;rintro r qM lD ⟨o2,rfl,t2⟩;refine ⟨o2,rfl,λuJ O=>(we (H uJ ((G.m aA).m O)).2.2.2.2.1 (t1.le (L.m (M.m (N.m aA))) ) (t2.le O)).s ?_⟩;rintro r tM rI ⟨P,rfl,t3⟩;exact ⟨P,rfl,λvO oX=>⟨P,rfl,by unfold vu;rw [Ã b,Ã d];exact t3.le oX⟩⟩
def lQ (t:Tr)(h:RW V p t)(u:t.dG lG)(y:t.depth<=990:=by omega):À 22 #[qvJ p] V λr W=>∃q,r=qvJ q/\RW W q (vu t []):=by refine AY V _ λc a=>(dI t (h.le a) u (bP.nil (p:=none)) (λm h=>by cases h) (by simpa using y)).s ?_;rintro r V2 d ⟨q,rfl,g⟩;exact ⟨q,rfl,λe b=>⟨q,rfl,g.le b⟩⟩
def Tz (C:Rat×Rat->Prop):Prop:=∀p q,C p->C q->∀s:Rat,0<s->s<1->C (p.1+s*(q.1-p.1),p.2+s*(q.2-p.2))
def Dt (C:Rat×Rat->Prop)(l:L3)(x:Rat×Rat):Prop:=C x/\0<aw l x.1 x.2
theorem Tz.sd {C:Rat×Rat->Prop}(h:Tz C)(l:L3):Tz (Dt C l):=λp q ⟨d,f⟩ ⟨g,i⟩ s c s1=>by
 refine ⟨h p q d g s c s1,?_⟩;have e:aw l (p.1+s*(q.1-p.1)) (p.2+s*(q.2-p.2))=(1-s)*aw l p.1 p.2+s*aw l q.1 q.2:=by unfold aw;grind
 have a:=ŕ (show 0<1-s by grind) f;have b:=ŕ c i;rw [e];grind
def M9:(Rat×Rat->Prop)->Tr->Prop
 | _,.leaf _=>True
 | C,.node l x y=>(∃q,Dt C l q)/\(∃q,Dt C (Õ l) q)/\M9 (Dt C l) x/\M9 (Dt C (Õ l)) y
def Ou (l:L3):Tr->Nat
 | .leaf _=>0
 | .node m x y=>(if m=l\/m=Õ l then 1 else 0)+(Ou l x+Ou l y)
theorem betw {u y p:Rat}(h:u<p/\p<y\/y<p/\p<u):∃s:Rat,0<s/\s<1/\p=u+s*(y-u):=by have c:y-u≠0:=χ;have e:=Qm1 _ c;refine ⟨(p-u)*(y-u)⁻¹,?_,?_,χ⟩<;>{rcases h with ⟨d,f⟩|⟨d,f⟩;{have i:=Qt8.2 (show 0<y-u by grind);have a:=ŕ (show 0<p-u by grind) i;have b:=ŕ (show 0<y-p by grind) i;grind};have g:=Qm1 _ (show u-y≠0 by grind);have i:=Qt8.2 (show 0<u-y by grind);have a:=ŕ (show 0<u-p by grind) i;have b:=ŕ (show 0<p-y by grind) i;have:(y-u)⁻¹=-(u-y)⁻¹:=χ;rw [this];grind}
theorem Tz.line {C:Rat×Rat->Prop}(h:Tz C){u y p:Rat}(z:C (dm l u,du l u))(E:C (dm l y,du l y))(F:u<p/\p<y\/y<p/\p<u):C (dm l p,du l p):=by obtain ⟨s,a,s1,rfl⟩:=betw F;have:=h _ _ z E s a s1;have b:dm l u+s*(dm l y-dm l u)=dm l (u+s*(y-u)):=by{unfold dm;grind};have c:du l u+s*(du l y-du l u)=du l (u+s*(y-u)):=by{unfold du;grind};grind
theorem OD (h:Nz l){y:Rat}(u:aw l x y=0):dm l (ig l x y)=x/\du l (ig l x y)=y:=by have a:=Qm1 _ h.norm;unfold aw at u;unfold dm du ig;unfold gP at *;constructor<;>grind
theorem Tz.meets {C:Rat×Rat->Prop}(h:Tz C)(ol:bY l=true){p q:Rat×Rat}(u:Dt C l p)(y:Dt C (Õ l) q):∃z,C (dm l z,du l z):=by obtain ⟨a,v1⟩:=u;obtain ⟨d,v2⟩:=y;rw [val_rev] at v2;have f:aw l p.1 p.2-aw l q.1 q.2≠0:=χ;have e:=Qm1 _ f;have i:=Qt8.2 (show 0<aw l p.1 p.2-aw l q.1 q.2 by grind);have b:=ŕ v2 i;have c:=h p q a d (aw l p.1 p.2*(aw l p.1 p.2-aw l q.1 q.2)⁻¹) (ŕ v1 i) χ;generalize E:aw l p.1 p.2*(aw l p.1 p.2-aw l q.1 q.2)⁻¹=s at *;have v0:aw l (p.1+s*(q.1-p.1)) (p.2+s*(q.2-p.2))=0:=by{have g:aw l (p.1+s*(q.1-p.1)) (p.2+s*(q.2-p.2))=aw l p.1 p.2-s*(aw l p.1 p.2-aw l q.1 q.2):=by{unfold aw;grind};rw [g,<-E];grind};refine ⟨ig l (p.1+s*(q.1-p.1)) (p.2+s*(q.2-p.2)),?_⟩<;>grind [OD,fY]
theorem Lt (ol:bY l=true):∀{t:Tr} {C:Rat×Rat->Prop},M9 C t->Tz C->t.dG (λm=>bY m=true)->Ou l t≠0->∃z,C (dm l z,du l z)
 | .leaf _,C,_,_,_,h=>Å rfl h
 | .node m x y,C,⟨⟨N,g1⟩,⟨O,g2⟩,F,M⟩,u,⟨Z,ox,oy⟩,h=>by
  unfold Ou at h;split at h
  ·grind [u.meets,rev_rev]
  ·by_cases k:Ou l x=0
   ·have ⟨z,E⟩:=Lt ol M (u.sd _) oy ω;exact ⟨z,E.1⟩
   ·have ⟨z,E⟩:=Lt ol F (u.sd _) ox k;exact ⟨z,E.1⟩
open Classical in
theorem Oz (ol:bY l=true){P:zA Rat}:∀{t:Tr} {C:Rat×Rat->Prop},M9 C t->Tz C->t.dG (λm=>bY m=true)->Crs l P t->Ou l t<=1+P.countP λp=>decide (C (dm l p,du l p))
 | .leaf _,C,_,_,_,_=>ä _
 | .node m x y,C,⟨⟨q1,g1⟩,⟨q2,g2⟩,N,O⟩,M,⟨om,ox,oy⟩,⟨Z,cx,cy⟩=>by
  unfold Ou;have ne:∀{z:Rat},aw l (dm l z) (du l z)=0:=λ{z}=>(uM (fY ol) z).1
  have sub:∀k:L3,P.countP (λp=>decide (Dt C k (dm l p,du l p)))<=P.countP λp=>decide (C (dm l p,du l p)):=λk=>List.countP_mono_left λp _ h=>by
   simp only [Ñ] at h ⊢;exact h.1
  split
  ·rename_i e
   have zero:∀{k:L3} {t:Tr},(k=l\/k=Õ l)->M9 (Dt C k) t->t.dG (λm=>bY m=true)->Ou l t=0:=λ{k t} r h o=>by
    by_cases z:Ou l t=0
    ·exact z
    ·obtain ⟨w,-,hw⟩:=Lt ol h (M.sd _) o z;rcases r with rfl|rfl
     ·rw [ne] at hw;exact Å hw φ
     ·rw [val_rev,ne] at hw;exact Å hw φ
   rw [zero e N ox,zero (by rcases e with rfl|rfl;exact .inr rfl;exact .inl (rev_rev _)) O oy];omega
  ·have A:=Oz ol N (M.sd _) ox cx;have B:=Oz ol O (M.sd _) oy cy;have s1:=sub m;have s2:=sub (Õ m);by_cases s:Ou l x=0
   ·omega
   ·by_cases u:Ou l y=0
    ·omega
    ·obtain ⟨d,v,b1⟩:=Lt ol N (M.sd _) ox s;obtain ⟨i,D,b2⟩:=Lt ol O (M.sd _) oy u;rw [val_rev] at b2;rw [qk] at b1 b2;have j:Ü m l≠0:=λh=>by rw [h] at b1 b2;grind
     have E:Ü m l*Ö m l=-ku m l:=by
      unfold Ö;grind
     have F:d<Ö m l/\Ö m l<i\/i<Ö m l/\Ö m l<d:=by rcases cY (Ü m l) with ⟨g,_⟩|⟨g,_⟩|⟨g,_⟩;{exact Å g j};{right;have t1:Ü m l*(d-Ö m l)>0:=χ;have t2:Ü m l*(Ö m l-i)>0:=χ;exact ⟨by have:=(Qp8 g).1 t2;grind,by have:=(Qp8 g).1 t1;grind⟩};left;have K:-Ü m l>0:=χ;have t1:-Ü m l*(Ö m l-d)>0:=χ;have t2:-Ü m l*(i-Ö m l)>0:=χ;grind [Rat.mul_pos_iff_of_pos_left]
     have L:aw m (dm l (Ö m l)) (du l (Ö m l))=0:=by rw [qk,E];grind
     have n:0<P.countP λc=>decide (c=Ö m l):=Qs1.2 ⟨_,Z j,ψ⟩
     have H:=cnt3 (f:=λp=>decide (Dt C m (dm l p,du l p))) (g:=λp=>decide (Dt C (Õ m) (dm l p,du l p))) (h:=λc=>decide (c=Ö m l)) (k:=λp=>decide (C (dm l p,du l p))) (λc=>by
      by_cases e:c=Ö m l
      ·subst e;have G:¬Dt C m (dm l (Ö m l),du l (Ö m l)):=λh=>by{have:=h.2;dsimp only at this;grind};have I:¬Dt C (Õ m) (dm l (Ö m l),du l (Ö m l)):=λh=>by{have:=h.2;dsimp only at this;rw [val_rev] at this;grind};simp [G,I,(M.line v D F)]
      ·by_cases a:Dt C m (dm l c,du l c)
       ·have b:¬Dt C (Õ m) (dm l c,du l c):=λh=>by{have q:=h.2;have J:=a.2;dsimp only at q J;rw [val_rev] at q;grind};simp [a,b,e,a.1]
       ·by_cases b:Dt C (Õ m) (dm l c,du l c)
        ·simp [a,b,e,b.1]
        ·simp [a,b,e]) P
     omega
theorem WV {α:Type}{f g:α->Nat}:∀{S:zA α},(∀x∈S,f x<=g x)->(S.map f).sum<=(S.map g).sum
 | [],_=>Ù _
 | x::S,h=>by
  have:=h x (ą ..);have:=WV (S:=S) λy a=>h y (ø _ a);grind
def sum_add {α:Type}{f g:α->Nat}:∀S:zA α,(S.map λx=>f x+g x).sum=(S.map f).sum+(S.map g).sum
 | []=>rfl
 | x::S=>by simp only [Ĺ,Wk7,sum_add S];omega
def HA {α:Type}{k:Nat}:∀S:zA α,(S.map λ_=>k).sum=S.length*k
 | []=>ψ
 | x::S=>by simp only [Ĺ,Wk7,HA S,Ċ,Đ];omega
theorem Dx:∀{t:Tr},t.dG (·∈ S)->t.size<=(S.map λl=>Ou l t).sum
 | .leaf _,_=>ä _
 | .node m x y,⟨hm,u,z⟩=>by
  have A:=Dx u;have B:=Dx z
  have e:(S.map λl=>Ou l (.node m x y)).sum=(S.map λl=>if m=l\/m=Õ l then 1 else 0).sum+((S.map λl=>Ou l x).sum+(S.map λl=>Ou l y).sum):=by
   rw [<-sum_add,<-sum_add];rfl
  have one:1<=(S.map λl=>if m=l\/m=Õ l then 1 else 0).sum:=by
   clear A B e u z
   induction S<;>grind
  grind [Tr.size]
def NU {t:Tr}(h:t.dG (·∈ S)):Crs l (S.map λm=>Ö m l) t:=h.imp λm hm _=>þ.2 ⟨m,hm,rfl⟩
def WK {t:Tr}{C:Rat×Rat->Prop}(h:M9 C t)(y:Tz C)(ht:t.dG (·∈ S))(u:∀l∈S,bY l=true):t.size<=S.length*(1+S.length):=by refine ÿ (Dx ht) ?_;rw [<-HA (k:=1+S.length) S];exact WV λl a=>ÿ (Oz (u l a) h y (ht.imp λm hm=>u m hm) (NU ht)) (Nat.add_le_add_left (ÿ (List.countP_le_length ..) (by rw [Ě];exact Ù _)) 1)
def M9.jn {C:Rat×Rat->Prop}{x y:Tr}(h:M9 C (.node l x y)):M9 C (SB l x y):=by unfold SB;split;{split;{trivial};exact h};exact h
def dG.jn {q:L3->Prop}{x y:Tr}(h:(Tr.node l x y).dG q):(SB l x y).dG q:=by unfold SB;split;{split;{trivial};exact h};exact h
def dep_jn {x y:Tr}:(SB l x y).depth<=(Tr.node l x y).depth:=by unfold SB;split;{split;{exact ä _};exact Ù _};exact Ù _
def Yj (c:zA L3):Tz (ao.pos c):=by
 induction c with
 | nil=>exact λp q _ _ s _ _ m hm=>nomatch hm
 | cons l c u=>
  have e:ao.pos (l::c)=Dt (ao.pos c) l:=by funext q;refine propext ⟨λh=>⟨λm hm=>h m (ø _ hm),h l (ą ..)⟩,λh m hm=>?_⟩;rcases ç.1 hm with rfl|hm;{exact h.2};exact h.1 m hm
  rw [e];exact u.sd l
def IY {q:Rat×Rat}:ao.pos (c++[l]) q↔Dt (ao.pos c) l q:=
 ⟨λh=>⟨λm hm=>h m (Ĕ _ hm),h l ψ⟩,λh m hm=>(ü.1 hm).elim (h.1 m) λg=>by rw [õ.1 g];exact h.2⟩
theorem Dn:∀(r out:zA L3)(x:L3),x∈rU c r out↔x∈out\/x∈r/\(eY x c ã).isSome=true
 | [],out,x=>by simp [rU]
 | l::r,out,x=>by
  unfold rU;rw [Dn];split<;>grind [wJ]
theorem QD (u:∀m∈c,bY m=true)(y:bY l=true)(h:∃q,Dt (ao.pos c) l q):ao.pos (xT c l)=Dt (ao.pos c) l:=by have b:∀m∈c++[l],bY m=true:=χ;obtain ⟨q,a⟩:=h;have a:=IY.2 a;funext x;refine propext (Iff.trans ⟨λg=>ao.ess (dif_of b a) a λm hm e=>g m ((Dn _ _ _).2 (.inr ⟨hm,(P8 (fY (b m hm))).2 e⟩)),λg m hm=>?_⟩ IY);rcases (Dn _ _ _).1 hm with h|⟨h,-⟩;{cases h};exact g m h
def YH (u:∀m∈ls,bY m=true)(h:Fb ls=true):∃q,ao.pos ls q:=by rcases Á h with rfl|⟨l,a,b⟩;{exact ⟨(0,0),λm hm=>nomatch hm⟩};obtain ⟨p,c,d⟩:=(P8 (fY (u l a))).1 b;obtain ⟨q,e,-⟩:=ao.es_pos (nz_d (u l a)) c d [] (λm hm=>nomatch hm);exact ⟨q,e⟩
theorem Zh (z:∀m∈c,bY m=true)(u:bY l=true)(ne:∃q,ao.pos c q)(y:Dg c l≠1)(E:Dg c l≠-1):(∃q,Dt (ao.pos c) l q)/\∃q,Dt (ao.pos c) (Õ l) q:=by have add:∀{m:L3},bY m=true->(Fb (c++[m])=true->∃q,Dt (ao.pos c) m q):=λ{m} hm h=>by{have ⟨q,a⟩:=YH (λx b=>(ü.1 b).elim (z x) λh=>by rw [õ.1 h];exact hm) h;exact ⟨q,IY.1 a⟩};unfold Dg at y E;split at y;{rename_i g;exact ⟨add u g.1,add (yO u) g.2⟩};grind
structure M_ (q:L3->Prop) (d:Nat) (C:Rat×Rat->Prop) (t:Tr):Prop where
 prp:M9 C t
 all:t.dG q
 dep:t.depth<=d
theorem M_.node {q:L3->Prop}{d:Nat}{x y:Tr}(E:∀m∈c,bY m=true)(F:bY l=true)(M:q l)(ne:∃q,ao.pos c q)(N:Dg c l≠1)(O:Dg c l≠-1)(u:(∃q,ao.pos (xT c l) q)->M_ q d (ao.pos (xT c l)) x)(z:(∃q,ao.pos (xT c (Õ l)) q)->M_ q d (ao.pos (xT c (Õ l))) y):M_ q (d+1) (ao.pos c) (SB l x y):=by have ⟨a,b⟩:=Zh E F ne N O;rw [QD E F a] at u;rw [QD E (yO F) b] at z;have u:=u a;have z:=z b;refine ⟨M9.jn ⟨a,b,u.prp,z.prp⟩,dG.jn ⟨M,u.all,z.all⟩,ÿ dep_jn ?_⟩<;>grind [u.dep,z.dep,Tr.depth]
theorem BE (u:∀m∈c,bY m=true)(y:bY l=true):∀m∈xT c l,bY m=true:=λm hm=>by rcases Jb _ _ _ m hm with g|g<;>grind
def M_.s {q:L3->Prop}{d e:Nat}{C:Rat×Rat->Prop}{t:Tr}(h:M_ q d C t)(u:d<=e):M_ q e C t:=⟨h.prp,h.all,ÿ h.dep u⟩
def vw {q:L3->Prop}(u:∀l,q l->bY l=true):∀{t:Tr} {c:zA L3},t.dG q->(∀m∈c,bY m=true)->(∃x,ao.pos c x)->M_ q t.depth (ao.pos c) (vu t c)
 | .leaf i,c,_,_,_=>⟨trivial,trivial,Ù _⟩
 | .node l x y,c,⟨ql,qx,qy⟩,z,ne=>by
  have E:=u l ql;unfold vu;simp only [Tr.depth];split
  ·exact (vw u qx z ne).s ω
  ·split
   ·exact (vw u qy z ne).s ω
   ·rename_i a b;refine (M_.node (d:=max x.depth y.depth) z E ql ne a b (λg=>(vw u qx (BE z E) g).s ω) (λg=>(vw u qy (BE z (yO E)) g).s ω)).s ω
def M9.not:∀{t:Tr} {C:Rat×Rat->Prop},M9 C t->M9 C (IK t)
 | .leaf _,_,_=>trivial
 | .node _ _ _,_,⟨a,b,c,d⟩=>⟨a,b,M9.not c,M9.not d⟩
def dG.not {q:L3->Prop}:∀{t:Tr},t.dG q->(IK t).dG q
 | .leaf _,_=>trivial
 | .node _ _ _,⟨a,b,c⟩=>⟨a,dG.not b,dG.not c⟩
def Ii:∀t:Tr,(IK t).depth=t.depth
 | .leaf _=>rfl
 | .node _ x y=>by simp only [IK,Tr.depth,Ii x,Ii y]
def M_.not {q:L3->Prop}{d:Nat}{C:Rat×Rat->Prop}{t:Tr}(h:M_ q d C t):M_ q d C (IK t):=⟨h.prp.not,dG.not h.all,by rw [Ii];exact h.dep⟩
def rO (op:Int):Tr->Tr->List L3->Tr
 | .leaf i,b,c=>if op=1/\i=true then .leaf true else if (op=2\/op=3)/\i=false then .leaf false else if (op=3\/op=4)/\i=true then IK (vu b c) else vu b c
 | .node l x y,b,c=>if Dg c l=1 then rO op x b c else if Dg c l=-1 then rO op y b c else SB l (rO op x b (xT c l)) (rO op y b (xT c (Õ l)))
theorem C6 {q:L3->Prop}(z:∀l,q l->bY l=true){op:Int}{b:Tr}(E:b.dG q):∀{a:Tr} {c:zA L3},a.dG q->(∀m∈c,bY m=true)->(∃x,ao.pos c x)->M_ q (a.depth+b.depth) (ao.pos c) (rO op a b c)
 | .leaf i,c,_,u,ne=>by
  have R:M_ q ((Tr.leaf i).depth+b.depth) (ao.pos c) (vu b c):=(vw z E u ne).s ω;unfold rO;split
  ·exact ⟨trivial,trivial,ä _⟩
  ·split
   ·exact ⟨trivial,trivial,ä _⟩
   grind [R.not]
 | .node l x y,c,⟨ql,qx,qy⟩,u,ne=>by
  have e:=z l ql;unfold rO;simp only [Tr.depth];split
  ·exact (C6 z E qx u ne).s ω
  ·split
   ·exact (C6 z E qy u ne).s ω
   ·rename_i f h;refine (M_.node (d:=max x.depth y.depth+b.depth) u e ql ne f h (λg=>(C6 z E qx (BE u e) g).s ω) (λg=>(C6 z E qy (BE u (yO e)) g).s ω)).s ω
def Nr:∀t:Tr,t.dG (·∈ t.cQ)
 | .leaf _=>trivial
 | .node l x y=>⟨ą ..,(Nr x).imp λ_ h=>ø _ (Ĕ _ h),(Nr y).imp λ_ h=>ø _ (ĝ _ h)⟩
def Sa:Û 1 [] []=[]:=KE ⟨λ_ h=>(nomatch h),List.Pairwise.nil⟩
def DD {m:L3}{l:zA (L3×Sp)}(h:m∉l.map Prod.fst):aK m l=[]:=by unfold aK;rw [Qp3.2 λx a=>?_];rfl;intro e;exact h (þ.2 ⟨x,a,Á e⟩)
def Ht (m:L3)(a b:zA (L3×Sp)):aK m (a++b)=aK m a++aK m b:=by unfold aK;rw [Qt4,ś]
def Hv (m L:L3)(t:Tr):aK m (uu t L)=if L=m then uc m t else []:=by unfold uu;by_cases h:L=m;{subst h;rw [Ä rfl];unfold aK;rw [Qs2.2 λx a=>by obtain ⟨s,-,rfl⟩:=þ.1 a;exact Ç rfl,Wq2];exact List.map_id _};rw [Ã h];refine DD λg=>h ?_;obtain ⟨x,a,rfl⟩:=þ.1 g;obtain ⟨s,-,rfl⟩:=þ.1 a;rfl
def KC (h:bY l=true):bF (Õ l)=bF l:=by have nz:=fY h;unfold Nz at nz;unfold bF;by_cases c:l.1<0\/l.1=0/\l.2.1<0;{rw [Ä c,Ã (by unfold Õ;dsimp only;omega)]};rw [Ã c,Ä (by unfold Õ;dsimp only;omega),rev_rev]
def Hu (t:Tr)(m:L3):∀{D:zA L3},D.Pairwise rL->(∀l∈D,bY l=true/\bF l=l)->aK m (vd t D)=if bF m∈D then uc m t else []
 | [],_,_=>rfl
 | l::D,h,u=>by
  have ⟨y,z⟩:=į.1 h;have ⟨o,c⟩:=u l (ą ..);have e:vd t (l::D)=(uu t l++uu t (Õ l))++vd t D:=rfl;rw [e,Ht,Ht,Hv,Hv,(Hu t m z λx f=>u x (ø _ f))];have out:bF m=l->bF m∉D:=λg k=>wP (show rL l l by have:=y _ k;rwa [g] at this);by_cases a:l=m
  ·subst a;rw [Ä rfl,Ã (rev_ne o),Ã (out c),Ä (by rw [c];exact ą ..)];simp
  ·rw [Ã a];by_cases b:Õ l=m
   ·subst b;have g:bF (Õ l)=l:=by rw [KC o,c]
    rw [Ä rfl,Ã (out g),Ä (by rw [g];exact ą ..)];simp
   ·rw [Ã b]
    have g:bF m≠l:=λg=>by
     rcases rk m with k|k<;>rw [k] at g
     ·exact a g.symm
     ·exact b (by rw [<-g,rev_rev])
    by_cases d:bF m∈D
    ·rw [Ä d,Ä (ø _ d)];rfl
    ·rw [Ã d,Ã λk=>by rcases ç.1 k with k|k;exact g k;exact d k];rfl
def GM (m:L3)(t:Tr):List Rat:=t.cQ.map λk=>Ö k m
def Ut (m:L3)(t:Tr):Crs m (GM m t) t:=NU (Tr.lu λ_ h=>h)
def Jv {m:L3}(u:bY m=true){v w:Rat×Rat}:∀{t:Tr},(∀k∈t.cQ,bY k=true/\k≠m/\k≠Õ m/\Ö k m≠q)->ao.gX t (dm m q,du m q) v=ao.gX t (dm m q,du m q) w
 | .leaf _,_=>rfl
 | .node k a b,h=>by
  have ⟨ok,y,z,E⟩:=h k (ą ..);have d:aw k (dm m q) (du m q)≠0:=by rcases IM ok u (t:=q) (Ne.symm E) with g|g|g;exact Å g y;exact Å g z;exact g
  have s:∀x,ao.tD k (dm m q,du m q) x=(aw k (dm m q) (du m q)).num.sign:=λx=>by
   unfold ao.tD;rw [Ã λe=>d (ao.bJ.1 e)]
  unfold ao.gX;rw [s,s,(Jv u (v:=v) (w:=w) (t:=a) λx c=>h x (ø _ (Ĕ _ c))),(Jv u (v:=v) (w:=w) (t:=b) λx c=>h x (ø _ (ĝ _ c)))]
theorem TX {m:L3}(u:bY m=true){t:Tr}(ht:∀k∈t.cQ,bY k=true)(h:bF m∉t.cQ.map bF):uc m t=[]:=by refine reg_eq (GM m t) (comb_reg ..) ⟨λ_ h=>(nomatch h),List.Pairwise.nil⟩ λq b=>?_;have ne:∀k∈t.cQ,k≠m/\k≠Õ m:=λk a=>⟨λe=>h (þ.2 ⟨k,a,by rw [e]⟩),λe=>h (þ.2 ⟨k,a,by rw [e,KC u]⟩)⟩;rw [VL (Ut m t) u (Tr.lu ht) b,Jv u (v:=jo m true) (w:=jo m false) λk a=>⟨ht k a,(ne k a).1,(ne k a).2,λe=>b (þ.2 ⟨k,a,e⟩)⟩];cases (ao.gX t (dm m q,du m q) (jo m false)).1<;>rfl
def QX {t:Tr}(ht:∀k∈t.cQ,bY k=true)(m:L3):aK m (vd t (bq t.cQ))=if bY m=true then uc m t else []:=by
 have ⟨d1,d2⟩:=iD t.cQ
 rw [Hu t m d1 λl b=>by
  obtain ⟨k,a,rfl⟩:=þ.1 ((d2 l).1 b);exact ⟨IP (ht k a),KB k⟩]
 by_cases o:bY m=true
 ·rw [Ä o];by_cases c:bF m∈bq t.cQ;{rw [Ä c]};rw [Ã c,TX o ht λk=>c ((d2 _).2 k)]
 ·rw [Ã o,Ã λc=>o ?_];have ⟨k,a,e⟩:=þ.1 ((d2 _).1 c);have:=IP (ht k a);rw [e] at this;rcases rk m with g|g<;>rw [g] at this;{exact this};rw [<-rev_rev m];exact wU this
def Me (m:L3)(l:zA (L3×Sp)):aK m (fG l)=Û 1 (aK m l) []:=by show aK m ((gS (l.map Prod.fst)).flatMap λm=>(Û 1 (aK m l) []).map λs=>(m,s))=_;rw [DC (λm=>Û 1 (aK m l) []) m _ (cI _).1];split;{rfl};rename_i h;rw [DD λg=>h (((cI _).2 m).2 g),Sa]
def hasR (l:List Sp)(q:Rat):Prop:=∃s∈l,(s.a=true\/s.lo<=q)/\(s.b=true\/q<s.hi)
def hasL (l:List Sp)(q:Rat):Prop:=∃s∈l,(s.a=true\/s.lo<q)/\(s.b=true\/q<=s.hi)
theorem UM (q:Rat):∀Z:zA Rat,∃e:Rat,e>0/\∀z∈Z,z<=q\/q+e<=z
 | []=>⟨1,χ,λz h=>by cases h⟩
 | z::Z=>by
  have ⟨e,u,he⟩:=UM q Z;by_cases h:z<=q
  ·exact ⟨e,u,λy a=>by
    rcases ç.1 a with rfl|a
    ·exact .inl h
    ·exact he y a⟩
  ·by_cases g:e<=z-q
   ·exact ⟨e,u,λy a=>by
     rcases ç.1 a with rfl|a
     ·exact .inr χ
     ·exact he y a⟩
   ·exact ⟨z-q,χ,λy a=>by
     rcases ç.1 a with rfl|a
     ·exact .inr χ
     ·have:=he y a;grind⟩
theorem gap_l (q:Rat)(Z:zA Rat):∃e:Rat,e>0/\∀z∈Z,q<=z\/z<=q-e:=by have ⟨e,a,he⟩:=UM (-q) (Z.map λz=>-z);exact ⟨e,a,λz b=>by have:=he (-z) (þ.2 ⟨z,b,rfl⟩);grind⟩
def GS (l:List Sp):List Rat:=l.flatMap λs=>[s.lo,s.hi]
def s_ {l:zA Sp}{s:Sp}(h:s∈l):s.lo∈GS l/\s.hi∈GS l:=⟨č.2 ⟨s,h,ψ⟩,č.2 ⟨s,h,ψ⟩⟩
theorem near_r {l:zA Sp}{e:Rat}(he:∀z∈GS l,z<=q\/q+e<=z)(u:q<x)(y:x<q+e):ì l x=true↔hasR l q:=by rw [jR];constructor;{rintro ⟨s,c,d,f⟩;have a:=he _ (s_ c).1;exact ⟨s,c,d.imp id λh=>χ,f.imp id λh=>χ⟩};rintro ⟨s,c,d,f⟩;have b:=he _ (s_ c).2;exact ⟨s,c,d.imp id λh=>χ,f.imp id λh=>χ⟩
theorem near_l {l:zA Sp}{e:Rat}(he:∀z∈GS l,q<=z\/z<=q-e)(u:x<q)(y:q-e<x):ì l x=true↔hasL l q:=by rw [jR];constructor;{rintro ⟨s,c,d,f⟩;have b:=he _ (s_ c).2;exact ⟨s,c,d.imp id λh=>χ,f.imp id λh=>χ⟩};rintro ⟨s,c,d,f⟩;have a:=he _ (s_ c).1;exact ⟨s,c,d.imp id λh=>χ,f.imp id λh=>χ⟩
theorem HS (l:L3)(q s:Rat):dm l (q+s)=dm l q+s*(ao.aD l).1/\du l (q+s)=du l q+s*(ao.aD l).2:=by unfold dm du ao.aD;grind
theorem QT (t:Tr)(p d:Rat×Rat):∃e:Rat,e>0/\∀s:Rat,0<s->s<=e->∀n,ao.gX t (p.1+s*d.1,p.2+s*d.2) n=ao.mG t p d n:=by obtain ⟨b,-,he⟩:=ao.yN (p:=p) (v:=d) (ls:=t.cQ) (s:=1) χ;refine ⟨_,b,λs a c n=>ao.tI λm hm=>⟨λz=>?_,λz=>?_⟩⟩;{rw [ao.jX];exact he m hm s a c z};rw [ao.jX,z,show (0:Rat)+s*ao.nv m d=s*ao.nv m d by grind,ao.Jh a]
theorem Ml {a b:Rat}(u:a>0)(y:b>0):∃x:Rat,x>0/\x<=a/\x<b:=by by_cases h:a<b;{exact ⟨a,u,χ,h⟩};exact ⟨b*(1/2),χ,χ,χ⟩
section
variable{l:L3}(ol:bY l=true){t:Tr}(ht:∀k ∈ t.cQ,bY k=true)(q:Rat)
include ol ht
theorem bd_r:hasR (uc l t) q↔(ao.mG t (dm l q,du l q) (ao.aD l) (jo l true)).1=true/\(ao.mG t (dm l q,du l q) (ao.aD l) (jo l false)).1=false:=by have ⟨i,d,a⟩:=QT t (dm l q,du l q) (ao.aD l);have ⟨j,e,b⟩:=UM q (GS (uc l t)++GM l t);have ⟨s,c,s1,s2⟩:=Ml d e;have f:q+s∉GM l t:=λh=>by{have:=b _ (ĝ _ h);grind};rw [<-near_r (λz g=>b z (Ĕ _ g)) (show q<q+s by grind) χ,VL (Ut l t) ol (Tr.lu ht) f,(HS l q s).1,(HS l q s).2,a s c s1,a s c s1];simp
theorem bd_l:hasL (uc l t) q↔(ao.mG t (dm l q,du l q) (-(ao.aD l).1,-(ao.aD l).2) (jo l true)).1=true/\(ao.mG t (dm l q,du l q) (-(ao.aD l).1,-(ao.aD l).2) (jo l false)).1=false:=by have ⟨j,b,c⟩:=QT t (dm l q,du l q) (-(ao.aD l).1,-(ao.aD l).2);have ⟨k,d,a⟩:=gap_l q (GS (uc l t)++GM l t);have ⟨s,f,s1,s2⟩:=Ml b d;have g:q+-s∉GM l t:=λh=>by{have:=a _ (ĝ _ h);grind};have e:∀n,ao.gX t (dm l (q+-s),du l (q+-s)) n=ao.mG t (dm l q,du l q) (-(ao.aD l).1,-(ao.aD l).2) n:=λn=>by{rw [<-c s f s1 n,(HS l q (-s)).1,(HS l q (-s)).2];congr 2<;>grind};rw [<-near_l (λz i=>a z (Ĕ _ i)) (show q+-s<q by grind) χ,VL (Ut l t) ol (Tr.lu ht) g,e,e];simp
end
def Qv (l:L3):jo l true=ao.mw (ao.aD l)/\jo l false=(-(ao.mw (ao.aD l)).1,-(ao.mw (ao.aD l)).2):=by unfold jo ao.mw ao.aD;simp
theorem jE {p d n d' n':Rat×Rat}{c k:Rat}(y:c>0)(E:k>0)(F:d'=(c*d.1,c*d.2))(M:n'=(k*n.1,k*n.2)):∀t:Tr,ao.mG t p d' n'=ao.mG t p d n
 | .leaf _=>rfl
 | .node l a b=>by
  have e:∀(z u:Rat×Rat)(m:Rat),m>0->u=(m*z.1,m*z.2)->(ao.nv l u).num.sign=(ao.nv l z).num.sign:=λz u m f h=>by
   rw [show ao.nv l u=m*ao.nv l z by subst h;unfold ao.nv;grind,ao.Jh f]
  unfold ao.mG ao.sd3;rw [e d d' c y F,e n n' k E M,jE y E F M a,jE y E F M b]
def wM (t:Tr)(p u:Rat×Rat):Bool:=(ao.mG t p u (ao.mw u)).1
def Au (t:Tr)(p u:Rat×Rat):Bool:=(ao.mG t p u (-(ao.mw u).1,-(ao.mw u).2)).1
theorem vj {l:L3}(ol:bY l=true){t:Tr}(ht:∀k∈t.cQ,bY k=true){p u:Rat×Rat}(z:aw l p.1 p.2=0){c:Rat}(y:c>0)(hu:u=(c*(ao.aD l).1,c*(ao.aD l).2)):hasR (uc l t) (ig l p.1 p.2)↔wM t p u=true/\Au t p u=false:=by have ⟨a,b⟩:=OD (fY ol) z;have ⟨d,e⟩:=Qv l;rw [bd_r ol ht,a,b];unfold wM Au;rw [jE (n:=jo l true) y y hu (by rw [d,hu];unfold ao.mw;simp;grind),jE (n:=jo l false) y y hu (by rw [e,hu];unfold ao.mw;simp;grind)]
theorem GJ {l:L3}(ol:bY l=true){t:Tr}(ht:∀k∈t.cQ,bY k=true){p u:Rat×Rat}(z:aw l p.1 p.2=0){c:Rat}(y:c>0)(hu:u=(-(c*(ao.aD l).1),-(c*(ao.aD l).2))):hasL (uc l t) (ig l p.1 p.2)↔wM t p u=false/\Au t p u=true:=by have ⟨a,b⟩:=OD (fY ol) z;have ⟨e,f⟩:=Qv l;rw [bd_l ol ht,a,b];unfold wM Au;rw [(jE (p:=p) (d:=(-(ao.aD l).1,-(ao.aD l).2)) (d':=u) (n:=jo l false) (n':=ao.mw u) y y (by rw [hu];simp;grind) (by rw [f,hu];unfold ao.mw;simp;grind) t),(jE (p:=p) (d:=(-(ao.aD l).1,-(ao.aD l).2)) (d':=u) (n:=jo l true) (n':=(-(ao.mw u).1,-(ao.mw u).2)) y y (by rw [hu];simp;grind) (by rw [e,hu];unfold ao.mw;simp;grind) t)];exact and_comm
end
section
def Cn (l:L3):ao.aD (Õ l)=(-(ao.aD l).1,-(ao.aD l).2):=by unfold ao.aD Õ;simp
def NV {m:L3}(u:bY m=true):ao.nz (ao.aD m):=by have:=fY u;unfold ao.nz ao.aD;by_cases h:m.2.1=0;{right;have:m.1≠0:=λe=>this ⟨e,h⟩;have:(m.1:Rat)≠0:=by{exact_mod_cast this};grind};refine .inl λe=>h ?_;have e:(m.2.1:Rat)=0:=e;exact_mod_cast e
def Zp {t:Tr}(ht:∀k∈t.cQ,bY k=true)(p:Rat×Rat):∃D,D.Perm (rB p (bq t.cQ))/\ao.HH D/\ao.XB D t p/\∀u∈D,∃m:L3,bY m=true/\aw m p.1 p.2=0/\u=ao.aD m:=by have ⟨d1,d2⟩:=iD t.cQ;have b:∀l∈bq t.cQ,bY l=true/\bF l=l:=λl a=>by{obtain ⟨k,c,rfl⟩:=þ.1 ((d2 l).1 a);exact ⟨IP (ht k c),KB k⟩};have ⟨D,pm,d⟩:=Tc (rB p (bq t.cQ));refine ⟨D,pm,UA b (d1.imp λ{x y} g (e:x=y)=>by subst e;exact wP g) pm d,λl a z=>Uz pm (M:=[l]) (λm hm=>by rw [õ.1 hm];exact ⟨z,(d2 _).2 (þ.2 ⟨l,a,rfl⟩)⟩) l (õ.2 rfl),λu hu=>?_⟩;obtain ⟨l,a,z,e|e⟩:=oB (pm.mem_iff.1 hu);{exact ⟨l,(b l a).1,z,e⟩};exact ⟨Õ l,wU (b l a).1,by rw [val_rev,z];grind,by rw [Cn,e]⟩
def SJ {m:L3}{s:Sp}{l:zA (L3×Sp)}:(m,s)∈l↔s∈aK m l:=by unfold aK;rw [þ];constructor;{intro h;exact ⟨_,ń.2 ⟨h,Ç rfl⟩,rfl⟩};rintro ⟨⟨a,b⟩,h,rfl⟩;have ⟨c,d⟩:=ń.1 h;rw [<-(Á d)];exact c
def Qr {t:Tr}(ht:∀k∈t.cQ,bY k=true){m:L3}{s:Sp}:(m,s)∈fG (vd t (bq t.cQ))↔bY m=true/\s∈uc m t:=by rw [SJ,Me,QX ht];split;{rename_i o;rw [KE (show vr (uc m t) from comb_reg ..)];exact ⟨λh=>⟨o,h⟩,λh=>h.2⟩};rename_i o;exact ⟨λh=>(nomatch h),λh=>Å h.1 o⟩
def spn_lt {s:Sp}(h:s.good):s.a=true\/s.b=true\/s.lo<s.hi:=by have ⟨t,c,d⟩:=Bi.1 h.2;rcases c with c|c;{exact .inl c};rcases d with d|d;{exact .inr (.inl d)};exact .inr (.inr χ)
end
section
namespace ao
def LY {D:zA V2}(h:HH D){v:V2}(y:∀r∈D,cr r v≠0)(E:D≠[]):∃(i:Nat)(u:V2),D[i]?=some u/\XE D u v:=by obtain ⟨i,u,w,b,-,d,-,-,f,j⟩:=ZE h y E;refine ⟨i,u,b,λr a=>?_⟩;have n:=y r a;have p:=f r a;have q:=j r a;have s:=cJ u r;have e:=sq_pos (h.nz u (Ď b));refine ⟨λg=>χ,λg=>χ,λz=>?_,n⟩;have id:cr r v*dt u u=cr u v*dt r u:=by{have:cr r v*dt u u-cr u v*dt r u=cr r u*dt u v:=by{unfold cr dt;grind};grind};constructor;{intro g;have:=mp d g;by_cases c:cr r v>0;{exact c};{have:=mp (show -cr r v>0 by grind) e;grind}};intro g;have:=mp d (show -dt r u>0 by grind);by_cases c:cr r v<0;{exact c};{have:=mp (show cr r v>0 by grind) e;grind}
end ao
def R8 {t:Tr}(ht:∀k∈t.cQ,bY k=true){p:Rat×Rat}{c:Int}(Z:jI t p c):c=1↔∃m:L3,bY m=true/\aw m p.1 p.2=0/\wM t p (ao.aD m)≠Au t p (ao.aD m):=by
 obtain ⟨D,-,d,q,G⟩:=Zp ht p;have H:ao.Rg D (ao.dW t p):=λl M=>q l (ao.oK M).2 (ao.oK M).1;have sm:=Hp d;have gen:=ao.Bw d sm;have e:=Z D _ d sm H
 have Vh:∀{x:Rat×Rat},(∀r∈D,ao.cr r x≠0)->∃y∈qB D,ao.gX t p y=ao.gX t p x:=λ{x} f=>by have ⟨y,n,s⟩:=ao.QW d sm f;exact ⟨y,n,(ao.sF (H.gen f) (H.same s)).1⟩
 generalize qB D=S at *
 have T:c=1↔ao.anyS t p S=true/\ao.qH t p S=false:=by rw [e];unfold R7;cases ao.anyS t p S<;>cases ao.qH t p S<;>simp
 rw [T];unfold ao.anyS ao.qH;rw [Qc2,List.all_eq_false];constructor
 ·rintro ⟨⟨x,f,B⟩,y,n,C⟩
  have o:D≠[]:=λh=>by rcases sm with ⟨-,rfl⟩|⟨U,-⟩;{rw [õ.1 f] at B;rw [õ.1 n] at C;exact C B};exact U h
  refine Qv0 λno=>?_
  have eq:∀u∈D,wM t p u=Au t p u:=λu hu=>by obtain ⟨m,I,z,rfl⟩:=G u hu;exact Qv0 λg=>no ⟨m,I,z,g⟩
  have all:∀(i:Nat)(u w:Rat×Rat),D[0]?=some w->D[i]?=some u->wM t p u=wM t p w:=by
   intro i
   induction i with
   | zero=>intro u w J v;rw [J] at v;cases v;rfl
   | succ i ih=>
    intro u w J v;have li:=(đ.1 v).1;have g:=ih D[i] w J (ñ ω);rw [<-g,eq u (Ď v)];unfold wM Au;rw [ao.Uo d q (ñ ω) (by rw [ė li];exact v)]
  have ⟨i,u,N,hu⟩:=ao.LY d (gen x f) o;have ⟨j,w,O,hw⟩:=ao.LY d (gen y n) o;have A:=d.nz u (Ď N);have V:=d.nz w (Ď O);obtain ⟨z,P⟩:∃z,D[0]?=some z:=⟨_,ñ (Qm4.2 o)⟩;rw [ao.xE d.nz q A hu] at B;rw [ao.xE d.nz q V hw] at C;have a:=all i u z P N;have b:=all j w z P O;unfold wM at a b;rw [a] at B;rw [b] at C;exact C B
 ·rintro ⟨m,I,z,ne⟩;have A:=NV I;have ⟨x,f⟩:=ao.O8 d.nz A;have ⟨y,n⟩:=ao.W6 d.nz A;have ex:=ao.xE d.nz q A f;have W:=ao.Mj d.nz q A n;obtain ⟨K,mx,E⟩:=Vh λr L=>(f r L).2.2.2;obtain ⟨Q,R,F⟩:=Vh λr L=>(n r L).2.2.2;rw [ex] at E;rw [W] at F;unfold wM Au at ne;rw [<-E,<-F] at ne;by_cases g:(ao.gX t p K).1=true;{exact ⟨⟨K,mx,g⟩,Q,R,λh=>ne (by rw [g,h])⟩};exact ⟨⟨Q,R,by simp_all⟩,K,mx,g⟩
def onF (p:Rat×Rat)(f:L3×Sp):Prop:=aw f.1 p.1 p.2=0/\(f.2.a=true\/f.2.lo<=ig f.1 p.1 p.2)/\(f.2.b=true\/ig f.1 p.1 p.2<=f.2.hi)
section
variable{t:Tr}(ht:∀k ∈ t.cQ,bY k=true)
include ht
theorem cls_on {p:Rat×Rat}{c:Int}(y:jI t p c):c=1↔∃f∈fG (vd t (bq t.cQ)),onF p f:=by rw [R8 ht y];constructor;{rintro ⟨m,d,z,ne⟩;cases h:wM t p (ao.aD m);{have e:Au t p (ao.aD m)=true:=by{rw [h] at ne;simpa using ne.symm};have l:aw (Õ m) p.1 p.2=0:=by{rw [val_rev,z];grind};obtain ⟨s,i,a,b⟩:=(GJ (wU d) ht l (u:=ao.aD m) (c:=1) χ (by rw [Cn];simp)).2 ⟨h,e⟩;exact ⟨(Õ m,s),(Qr ht).2 ⟨wU d,i⟩,l,a.imp id Rat.le_of_lt,b⟩};have e:Au t p (ao.aD m)=false:=by{rw [h] at ne;simpa using ne.symm};obtain ⟨s,i,a,b⟩:=(vj d ht z (c:=1) χ ψ).2 ⟨h,e⟩;exact ⟨(m,s),(Qr ht).2 ⟨d,i⟩,z,a,b.imp id Rat.le_of_lt⟩};rintro ⟨⟨m,s⟩,n,z,a,b⟩;obtain ⟨d,i⟩:=(Qr ht).1 n;dsimp only at z a b;have g:=spn_lt ((comb_reg 3 _ _).1 s i);by_cases k:s.b=true\/ig m p.1 p.2<s.hi;{obtain ⟨j,e⟩:=(vj d ht z (u:=ao.aD m) (c:=1) χ ψ).1 ⟨s,i,a,k⟩;exact ⟨m,d,z,by rw [j,e];simp⟩};obtain ⟨j,e⟩:=(GJ d ht z (u:=ao.aD (Õ m)) (c:=1) χ (by rw [Cn];simp)).1 ⟨s,i,χ,b⟩;exact ⟨Õ m,wU d,by rw [val_rev,z];grind,by rw [j,e];simp⟩
theorem Uj {f:L3×Sp}(y:f∈fG (vd t (bq t.cQ)))(q:Rat)(a:f.2.a=true\/f.2.lo<q)(b:f.2.b=true\/q<f.2.hi):onF (dm f.1 q,du f.1 q) f/\wM t (dm f.1 q,du f.1 q) (ao.aD f.1)=true/\Au t (dm f.1 q,du f.1 q) (ao.aD f.1)=false:=by
 obtain ⟨d,g⟩:=(Qr ht).1 y;have ⟨z,e⟩:=uM (fY d) q;refine ⟨⟨z,a.imp id λh=>?_,b.imp id λh=>?_⟩,(vj d ht z (u:=ao.aD f.1) (c:=1) χ ψ).1 ⟨f.2,g,a.imp id λh=>?_,b.imp id λh=>?_⟩⟩;all_goals dsimp only;rw [e];grind
end
def Hf {t:Tr}{p d n:Rat×Rat}(y:ao.nz d)(E:n=ao.mw d\/n=(-(ao.mw d).1,-(ao.mw d).2)){s s':Rat}(F:s>0)(s1:s'>0)(M:∀l∈bq t.cQ,ao.J6 l p d s)(ht:∀k∈t.cQ,bY k=true)(u:∀l∈bq t.cQ,ao.J6 l (p.1+s*d.1,p.2+s*d.2) n s'){c:Int}(N:jI t (p.1+s*d.1+s'*n.1,p.2+s*d.2+s'*n.2) c):c=if (ao.mG t p d n).1 then 2 else 0:=by have key:=Lk F M;rw [SN s1 u (λl e=>?_) N,ao.tI key];have ⟨z,hm⟩:=ao.oK e;have ⟨a,b⟩:=key l hm;dsimp only at z;by_cases v:aw l p.1 p.2=0;{have b:=b v;rw [z] at b;have k:ao.cr (ao.aD l) d=0:=by{rw [<-ao.Lq];exact ao.bJ.1 b.symm};have:=ao.KR (NV (ht l hm)) y k;rw [ao.Lq];rcases E with rfl|rfl;{rw [ao.uZ];exact this};rw [show ao.cr (ao.aD l) (-(ao.mw d).1,-(ao.mw d).2)=-ao.cr (ao.aD l) (ao.mw d) by unfold ao.cr;grind,ao.uZ];grind};have a:=a v;rw [z] at a;exact Å (ao.bJ.1 a.symm) v
end
end Go.Proofs.Tryz
namespace Go.Proofs.Tryz
open Go.Eng Go.Big
variable{v:Value}{V:Ó}{c k n:Nat}{vs:List Value}{A B:List Sp}{p:OA}
def Vf (V:un):V.Le V.shut:=λ_ _ h=>h
def dC:qp:=(0,0,0)
def cC (a b:qp):Int:=dw a.1 b.1
theorem ordC:Ŏ cC:=⟨λa b h=>by unfold cC at *;rcases cz a.1 b.1 with ⟨c,e⟩|⟨c,e⟩|⟨c,e⟩<;>rcases cz b.1 a.1 with ⟨y,u⟩|⟨y,u⟩|⟨y,u⟩<;>rw [e] at h<;>rw [u]<;>grind,
 λa b d h f=>by unfold cC at *;rcases cz a.1 b.1 with ⟨c,e⟩|⟨c,e⟩|⟨c,e⟩<;>rcases cz b.1 d.1 with ⟨y,u⟩|⟨y,u⟩|⟨y,u⟩<;>rcases cz a.1 d.1 with ⟨E,z⟩|⟨E,z⟩|⟨E,z⟩<;>rw [e] at h<;>rw [u] at f<;>rw [z]<;>grind⟩
def RC (V:Ó)(v:Value)(c:qp):Prop:=∃(x y:Int)(p:OA),v=.agg #[.int Ŵ x,.int Ŵ y,.pointer p,.int Ŵ c.2.1,.int Ŵ c.2.2]/\RR V (.agg #[.int Ŵ x,.int Ŵ y,.pointer p]) c.1/\Sz 1000000 c.1
def RC.le {V V':un}{c:qp}(h:RC V v c)(l:V.Le V'):RC V' v c:=by obtain ⟨x,y,p,e,b,a⟩:=h;exact ⟨x,y,p,e,ra,a⟩
def RC.shape {c:qp}(h:RC V v c):∃(x y:Int)(p:OA)(a b:Int),v=hF #[Ô Ŵ x,Ô Ŵ y,qvJ p,Ô Ŵ a,Ô Ŵ b]:=by obtain ⟨x,y,p,e,-⟩:=h;exact ⟨x,y,p,_,_,e⟩
def RU {w:um}{a b:qp}(h:RC V v a)(u:RC V w b):À 248 #[v,w] V λr W=>r=Ô Ŵ (cC a b):=by obtain ⟨x,y,p,rfl,f,d⟩:=h;obtain ⟨g,i,j,rfl,e,c⟩:=u;refine D9 V _ λk l=>(iS ra ra d c).s ?_;rintro r V2 m rfl;exact ⟨_,rfl,λn o=>rfl⟩
structure SR (V:Ó) (n:Nat) (vs:List Value) (l:List qp):Prop where
 row:è 5 RC V vs l
 len:n=l.length
 kM:l.length<4000
def SR.le {V V':un}{l:zA qp}(h:SR V n vs l)(e:V.Le V'):SR V' n vs l:=⟨h.row.le λ_ _ g=>RC.le g e,h.len,h.kM⟩
def SR.get {l:zA qp}(h:SR V n vs l){k:Nat}(u:k<l.length):∃(x y:Int)(p:OA)(a b:Int),((0+k*5)+5<=vs.length/\(vs.drop (0+k*5)).take 5=[Ô Ŵ x,Ô Ŵ y,qvJ p,Ô Ŵ a,Ô Ŵ b])/\RC V (hF #[Ô Ŵ x,Ô Ŵ y,qvJ p,Ô Ŵ a,Ô Ŵ b]) (l.getD k dC):=by obtain ⟨xs,-,c,f,g⟩:=h.row.get (d:=dC) u φ;obtain ⟨x,y,p,a,b,e⟩:=c.shape;have e:=Æ Array.toList (Value.agg.inj e);subst e;rw [ĉ];exact ⟨x,y,p,a,b,⟨f,g⟩,c⟩
def RC.cells {c:qp}(h:RC V v c):∃xs:zA um,v=.agg xs.toArray/\xs.length=5/\∀x∈xs,x.oneCell'=true:=by obtain ⟨_,_,_,_,_,rfl⟩:=h.shape;exact ⟨_,rfl,rfl,ħ.1 rfl⟩
theorem Ny {lb:Nat}{l:zA qp}(hw:V.w.heap[lb]?=some (.cells vs.toArray 328 (0,0)))(z:V.X lb)(h:SR V n vs l):À 247 #[yG (some ⟨lb,0,none⟩) n c,.func (.func 248) #[] #[]] V λr W=>r=å #[]/\∃u l',W.w.heap[lb]?=some (.cells u.toArray 328 (0,0))/\SR W n u l'/\l'.Perm l/\l'.Pairwise λx y=>x.1<=y.1:=by have kM:=h.kM;refine (DB (R:=RC) (cf:=cC) Hq aggC sizC RC.le RC.cells ordC RU φ hw z h.row h.len).s λr V' i ⟨rfl,u,l',e,row,pm,g⟩=>⟨rfl,u,l',e,⟨row,h.len.m pm.length_eq.symm,by rw [pm.length_eq];exact kM⟩,pm,g.imp λ{a b} d=>?_⟩;unfold cC at d;rcases cz b.1 a.1 with ⟨f,e⟩|⟨f,e⟩|⟨f,e⟩<;>rw [e] at d<;>grind
def BW:À 247 #[yG none 0 0,.func (.func 248) #[] #[]] V λr W=>r=å #[]:=
 (tF Hq).s λ_ _ _ h=>h.1
def qQ (m:Nat):Prop:=∀(V:Ó)(lb n c:Nat)(vs:List Value)(l:List qp),l.length=m->V.w.heap[lb]?=some (.cells vs.toArray 328 (0,0))->V.X lb->SR V n vs l ->
 À 247 #[.slice (some ⟨lb,0,none⟩) n c,.func (.func 248) #[] #[]] V λr W=>r=.tuple #[]/\∃u l',W.w.heap[lb]?=some (.cells u.toArray 328 (0,0))/\SR W n u l'/\l'.Perm l/\l'.Pairwise λx y=>x.1<=y.1
def Jj (m:Nat):qQ m:=λ_ _ _ _ _ _ _ hw a h=>Ny hw a h
def GG {V:un}{u z E:Nat}{x y:Int}{acc:ut->ut->ut}(hw:V.w.heap[u]?=some (.cells #[.func (.func E) #[] #[]] 286 (0,0)))(N:V.X u)(F:V.w.heap[z]?=some (.cells #[Ô Ŵ x,Ô Ŵ y] 326 (0,0)))(M:V.X z)(hne:u≠z)(O:∀a b (W:un),À E #[dB a,dB b] W λr _=>r=dB (acc a b)):À 249 #[qvJ (some ⟨u,0,none⟩),qvJ (some ⟨z,0,none⟩)] V λr W=>r=dB (acc (decide ((0:Int)<x)) (decide ((0:Int)<y)))/\W.w.heap[u]?=some (.cells #[.func (.func E) #[] #[]] 286 (0,0))/\W.w.heap[z]?=some (.cells #[Ô Ŵ x,Ô Ŵ y] 326 (0,0)):=by refine D_ u z E x y V _ hw N F M hne ⟨φ,φ,λc f=>(O _ _ c).s ?_⟩;rintro r V2 g rfl;exact ⟨_,rfl,λh i d e=>⟨rfl,d,e⟩⟩
def QB (A:List Sp)(k:Nat)(m:Int):List Value:=if k=0 then [.int Ŵ m,.int Ŵ 0] else if k=1 then [.int Ŵ (nV A),.int Ŵ m] else []
def Za {m:Int}(u:k<2):(QB A k m)[0+k*1]?=some (Ô Ŵ m):=by obtain rfl|rfl:k=0\/k=1:=ω;{rfl};rfl
def Zb {m:Int}(u:k<2):(QB A k m).length=2:=by obtain rfl|rfl:k=0\/k=1:=ω;{rfl};rfl
def Zc {m u:Int}(y:k<2):(QB A k m).set (0+k*1) (Ô Ŵ u)=QB A k u:=by obtain rfl|rfl:k=0\/k=1:=ω;{rfl};rfl
def Y9 {a b:zA Sp}:nV (a++b)=nV a+nV b:=by
 induction a with
 | nil=>simp [nV]
 | cons s r u=>simp only [Qc1,nV];omega
def IV:∀{a:zA Sp},0<=nV a/\nV a<=a.length
 | []=>⟨Wx6 _,Wx6 _⟩
 | s::r=>by
  have ⟨u,y⟩:=IV (a:=r);simp only [nV,Ċ];split<;>omega
theorem Yb {c:qp}:c∈ru A B->(c.2.1=0\/c.2.1=1)/\(c.2.2=1\/c.2.2=-1):=by intro h;have one:∀{k:Int} {s:Sp},c∈kF k s->c.2.1=k/\(c.2.2=1\/c.2.2=-1):=λ{k s} h=>by{rcases ü.1 h with h|h;{split at h;{cases h};rw [õ.1 h];exact ⟨rfl,.inl rfl⟩};split at h;{cases h};rw [õ.1 h];exact ⟨rfl,.inr rfl⟩};rcases ü.1 h with h|h<;>grind
def Jl {k:Int}:∀{l:zA qp},(∀c∈l,c.2.2=1\/c.2.2=-1)->-(l.length:Int)<=i_ k l/\i_ k l<=l.length
 | [],_=>⟨Wx6 _,Wx6 _⟩
 | c::r,h=>by
  have ⟨u,y⟩:=Jl (k:=k) (l:=r) λx a=>h x (by simp [a]);have:=h c ψ;simp only [i_,Ċ];split<;>omega
def Lx (A B:List Sp)(l:List qp):List Value:=[.int Ŵ (nV A+i_ 0 l),.int Ŵ (nV B+i_ 1 l)]
def osX (A B:List Sp)(l:List qp)(k:Int):Int:=if k=0 then nV A+i_ 0 l else nV B+i_ 1 l
def Zd {l:zA qp}{k:Int}(u:k=0\/k=1):(Lx A B l)[0+k.toNat*1]?=some (Ô Ŵ (osX A B l k)):=by rcases u with rfl|rfl<;>rfl
def Ze {l:zA qp}{c:qp}(u:c.2.1=0\/c.2.1=1):(Lx A B l).set (0+c.2.1.toNat*1) (Ô Ŵ (osX A B l c.2.1+c.2.2))=Lx A B (l++[c]):=by unfold Lx osX;rw [DH,DH];simp only [i_];rcases u with h|h<;>rw [h];{simp [Int.add_assoc]};simp [Int.add_assoc]
structure CR (V:Ó) (n c:Nat) (vs:List Value) (l:List qp):Prop where
 len:n=l.length
 le:n<=c
 cap:c*5<=vs.length
 row:è 5 RC V vs l
 ne:vs≠[]->l≠[]
theorem CR.snoc {l:zA qp}(h:CR V n c vs l){x y:Int}{q:Rat}(z:RR V (hF #[Ô Ŵ x,Ô Ŵ y,qvJ p]) q)(E:Sz 1000000 q)(k d:Int){sp:zA um}{u:Nat}(F:n+1<=u)(M:u*5<=(n+1)*5+sp.length):CR V (n+1) u (vs.take (n*5)++([Ô Ŵ x,Ô Ŵ y,qvJ p,Ô Ŵ k,Ô Ŵ d]:zA um)++sp) (l++[(q,k,d)]):=by have b:=h.len;have e:=h.cap;have f:=h.le;refine ⟨by rw [í,b];rfl,F,?_,?_,λ_=>ψ⟩;{have ht:(vs.take (n*5)).length=n*5:=by{rw [ë];omega};grind};{have:=h.row.snoc (sp:=sp) (xs:=[Ô Ŵ x,Ô Ŵ y,qvJ p,Ô Ŵ k,Ô Ŵ d]) (a:=(q,k,d)) rfl ⟨x,y,p,rfl,z,E⟩ φ;grind}
structure IR (V:Ó) (n c:Nat) (vs:List Value) (l:List Sp):Prop where
 len:n=l.length
 le:n<=c
 cap:c*8<=vs.length
 row:è 8 kn V vs l
def IR.s {V':un}{l:zA Sp}(h:IR V n c vs l)(e:V.Le V'):IR V' n c vs l:=⟨h.len,h.le,h.cap,h.row.le λ_ _ g=>kn.le g e⟩
def IR.nil:IR V 0 0 [] []:=⟨rfl,Ù _,Ù _,è.nil⟩
theorem IR.snoc {l:zA Sp}(h:IR V n c vs l){u y:Int}{z E:Int}{q:OA}{s:Sp}(N:RR V (hF #[Ô Ŵ u,Ô Ŵ y,qvJ p]) s.lo)(F:RR V (hF #[Ô Ŵ z,Ô Ŵ E,qvJ q]) s.hi){sp:zA um}{M:Nat}(O:n+1<=M)(Z:M*8<=(n+1)*8+sp.length):IR V (n+1) M (vs.take (n*8)++([Ô Ŵ u,Ô Ŵ y,qvJ p,Ô Ŵ z,Ô Ŵ E,qvJ q,dB s.a,dB s.b]:zA um)++sp) (l++[s]):=by have d:=h.len;have e:=h.cap;have f:=h.le;refine ⟨by rw [í,d];rfl,O,?_,?_⟩;{have ht:(vs.take (n*8)).length=n*8:=by{rw [ë];omega};grind [List.length_cons]};{have:=h.row.snoc (sp:=sp) (xs:=[Ô Ŵ u,Ô Ŵ y,qvJ p,Ô Ŵ z,Ô Ŵ E,qvJ q,dB s.a,dB s.b]) (a:=s) rfl (qyJ ⟨rfl,N,F⟩) φ;grind}
def one5 {x y:Int}{a b:Int}:∀v∈([Ô Ŵ x,Ô Ŵ y,qvJ p,Ô Ŵ a,Ô Ŵ b]:zA um),v.oneCell'=true:=by intro v hm;simp only [ç,ě,Ì] at hm;rcases hm with rfl|rfl|rfl|rfl|rfl<;>rfl
def one8 {u y:Int}{z E:Int}{q:OA}{a b:ut}:∀v∈([Ô Ŵ u,Ô Ŵ y,qvJ p,Ô Ŵ z,Ô Ŵ E,qvJ q,dB a,dB b]:zA um),v.oneCell'=true:=by intro v hm;simp only [ç,ě,Ì] at hm;rcases hm with rfl|rfl|rfl|rfl|rfl|rfl|rfl|rfl<;>rfl
def LK (A B:List Sp)(k:Nat):List Sp:=if k=0 then A else B
def bsK (A B:List Sp)(k:Nat):List qp:=if k=0 then [] else if k=1 then A.flatMap (kF 0) else ru A B
def osA (A B:List Sp)(k:Nat):List Value:=if k=2 then Lx A B [] else QB A k 0
def Ki {A B:zA Sp}(u:k<2):bsK A B k++(LK A B k).flatMap (kF k)=bsK A B (k+1):=by obtain rfl|rfl:k=0\/k=1:=ω;{rfl};rfl
def VV (u:k<2):QB A k (nV (LK A B k))=osA A B (k+1):=by obtain rfl|rfl:k=0\/k=1:=ω;{rfl};simp [QB,osA,Lx,LK,i_]
end Go.Proofs.Tryz
