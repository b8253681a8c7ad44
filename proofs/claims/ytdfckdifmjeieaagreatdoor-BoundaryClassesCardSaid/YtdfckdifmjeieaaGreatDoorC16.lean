import Derived.Test.YtdfckdifmjeieaaGreatDoorC15
set_option linter.all false
open Go.IntKind (i64 u64 u32)
open Go.IntKind renaming i64→Ŵ
open Go.Value renaming slice→yG,agg→hF,bool→dB,pointer→qvJ,tuple→å,int→Ô
open Go.Eng Go.Big
namespace Go.Proofs.Tryz
variable{V:Ó}{p:OA}{c n tb:Nat}{b:Bool}{at_:Int}
def RQ.ofNat {x:Nat}(h:RN V p n c x)(u:b=decide ((x:Int)<0)):RQ V (hF #[dB b,yG p n c,yG none 0 0]) ((x:Int):Rat):=
 uA (z:=(x:Int)) (d:=1) rfl rfl h RD.nil u
def RQ.int {q:Rat}{u:OA}{n' z:Nat}(h:RQ V (hF #[dB b,yG p n c,yG u n' z]) q):RI V (hF #[dB b,yG p n c]) q.num:=by obtain ⟨d,f,g,i,j,k,e,a,l⟩:=h;cases e;exact ⟨_,_,_,rfl,a⟩
def RQ.den {q:Rat}{u:OA}{n' z:Nat}(h:RQ V (hF #[dB b,yG p n c,yG u n' z]) q):RD V u n' z (An q.den):=by obtain ⟨d,f,g,i,j,k,e,l,a⟩:=h;cases e;exact a
def qD (px py qx qy:Rat):Rat×Rat×Rat:=
 let a:=-(qy-py);let b:=qx-px;let c:=-(a*px+b*py)
 let f:Rat:=(((a.den*b.den*c.den:Nat):Int):Rat)
 (a*f,b*f,c*f)
def sz_nat {k:Nat}(h:n<2^k)(u:0<k:=by omega):Sz k (((n:Nat):Int):Rat):=by refine ⟨?_,?_⟩;{show ((n:Nat):Int).natAbs<_;simpa using h};show 1<2^k;exact Qf0 ω
def kE {u w:um}{px py qx qy:Rat}(hp:RP V u px py)(hq:RP V w qx qy){k:Nat}(s1:Sz k px)(s2:Sz k py)(s3:Sz k qx)(s4:Sz k qy)(hk1:1<=k)(hk:64*k+64<2^38:=by omega):À 59 #[u,w] V λr W=>((qD px py qx qy).1.num=0/\(qD px py qx qy).2.1.num=0->∃l,r=å #[l,dB false]/\RL W l 0 0 0)/\(¬((qD px py qx qy).1.num=0/\(qD px py qx qy).2.1.num=0)->∃l,r=å #[l,dB true]/\RL W l ((qD px py qx qy).1.num/(cj (qD px py qx qy).1.num (qD px py qx qy).2.1.num (qD px py qx qy).2.2.num:Int)) ((qD px py qx qy).2.1.num/(cj (qD px py qx qy).1.num (qD px py qx qy).2.1.num (qD px py qx qy).2.2.num:Int)) ((qD px py qx qy).2.2.num/(cj (qD px py qx qy).1.num (qD px py qx qy).2.1.num (qD px py qx qy).2.2.num:Int))):=by have T:=hp;have U:=hq;obtain ⟨W,X,Y,Z,n2,c2,p3,n3,c3,p4,n4,c4,rfl,m,n⟩:=hp;obtain ⟨q1,m1,e1,q2,m2,e2,q3,m3,e3,q4,m4,e4,rfl,-,-⟩:=hq;refine zk V _ λV1 l1=>(qZ ra ra s3 s4 s1 s2 hk1).s ?_;rintro r V2 l2 ⟨a1,a2,a3,a4,a5,a6,a7,a8,a9,XK,XL,a0,rfl,o,hd⟩;have c:=s3.sub s1;have Ok:=l1.m l2;refine qxW ⟨rfl,λV3 y=>(oq (qy-py) (by have ⟨_,_,_,_,_,_,e,z,h2⟩:=hd.le y;cases e;exact z) (RQ.den ra)).s ?_⟩;rintro r V4 J t;obtain ⟨b1,b2,b3,b4,b5,b6,rfl⟩:=t.shape;have d:=(s4.sub s2).neg;have p:qD px py qx qy=(-(qy-py)*((((-(qy-py)).den*(qx-px).den*(-(-(qy-py)*px+(qx-px)*py)).den:Nat):Int):Rat),(qx-px)*((((-(qy-py)).den*(qx-px).den*(-(-(qy-py)*px+(qx-px)*py)).den:Nat):Int):Rat),(-(-(qy-py)*px+(qx-px)*py))*((((-(qy-py)).den*(qx-px).den*(-(-(qy-py)*px+(qx-px)*py)).den:Nat):Int):Rat)):=rfl;rw [p];generalize -(qy-py)=A at *;generalize qx-px=B at *;replace o:=o.le (y.m J);replace m:=m.le (Ok.m (y.m J));replace n:=n.le aA;refine qxQ ⟨rfl,λV5 l5=>(bK ra ra d s1 ω).s λr V6 l6 K=>RQ.ex K λ_ K=>λV7 l7=>(bK ra ra c s2 ω).s λr V8 l8 L=>RQ.ex L λ_ L=>λV9 l9=>(eF ra ra (d.mul s1) (c.mul s2) ω).s ?_⟩;rintro r fD D q;have v:=((d.mul s1).add (c.mul s2)).neg;obtain ⟨i1,i2,i3,i4,i5,i6,rfl⟩:=q.shape;refine qxQ ⟨rfl,λeX N=>(oq (A*px+B*py) (by have ⟨_,_,_,_,_,_,e,z,h2⟩:=q.le N;cases e;exact z) (RQ.den ra)).s ?_⟩;rintro r gQ eJ O;generalize -(A*px+B*py)=C at *;obtain ⟨j1,j2,j3,j4,j5,j6,rfl⟩:=O.shape;have P:=l5.m (l6.m (l7.m (l8.m (l9.m (D.m (N.m eJ))))));replace t:=t.le P;replace o:=o.le P;refine qxQ ⟨rfl,λji fk=>(dV A _ (RQ.den ra)).s ?_⟩;rintro r lH iL ⟨k1,k2,k3,rfl,b0⟩;refine ⟨_,_,_,rfl,λmJ iE=>(dV B _ (RQ.den ra)).s ?_⟩;rintro r ko gV ⟨k4,k5,k6,rfl,b7⟩;obtain ⟨-,da,-⟩:=dF d;obtain ⟨-,db,-⟩:=dF c;obtain ⟨-,dc,-⟩:=dF v;refine ⟨_,_,_,rfl,λnk kf=>(dE ra ra).s ?_⟩;rintro r nq iF ⟨k7,k8,k9,rfl,E⟩;rw [ag,ag] at E;refine ⟨_,_,_,rfl,λqM lD=>(dV C _ (RQ.den ra)).s ?_⟩;rintro r uJ kN ⟨b8,b9,c0,rfl,c5⟩;have c6:=kV (a:=A.den) (b:=B.den);refine ⟨_,_,_,rfl,λtM rI=>(dE ra ra).s ?_⟩;rintro r vO oX ⟨c7,c8,c9,rfl,F⟩;rw [ag,ag] at F;have j:=sz_nat (cD (cD d.2 c.2) v.2);generalize A.den*B.den*C.den=M at *;refine ⟨_,_,_,rfl,λvP oY=>(yr ra).s ?_⟩;rintro r EL tO ⟨d0,d1,d2,rfl,G⟩;have H:=RQ.ofNat G rfl;have Q:=fk.m aA;refine qyK ⟨rfl,λNa qI=>(bK (t.le aA) (H.le qI) d j ω).s λr Rk Ng f=>RQ.ex f λ_ f=>λXF CO=>(bK (o.le aA) (H.le aA) c j ω).s λr XG La g=>RQ.ex g λ_ g=>λZ_ Iz=>(bK (O.le aA) (H.le aA) v j ω).s λr TD Nh i=>RQ.ex i λ_ i=>λd3 G_=>(EZ (RQ.int (f.le aA)) (RQ.int (g.le aA)) (RQ.int (i.le G_)) (ÿ (dF (d.mul j)).1 ω) (ÿ (dF (c.mul j)).1 ω) (ÿ (dF (v.mul j)).1 ω)).s ?_⟩;rintro r d4 IA ⟨z1,z2⟩;by_cases x:(A*((M:Int):Rat)).num=0/\(B*((M:Int):Rat)).num=0;{obtain ⟨l,rfl,y1,y2,y3,y4,y5,y6,y7,y8,y9,rfl,R,I,S⟩:=z1 x;exact ⟨_,_,_,_,_,_,_,_,_,_,_,_,_,rfl,λTE s=>⟨λ_=>⟨_,rfl,_,_,_,_,_,_,_,_,_,rfl,ra,I.le s,ra⟩,λh=>Å x h⟩⟩};obtain ⟨l,rfl,y1,y2,y3,y4,y5,y6,y7,y8,y9,rfl,R,I,S⟩:=z2 x;exact ⟨_,_,_,_,_,_,_,_,_,_,_,_,_,rfl,λTE s=>⟨λh=>Å h x,λ_=>⟨_,rfl,_,_,_,_,_,_,_,_,_,rfl,R.le s,I.le s,S.le s⟩⟩⟩
theorem ZS (x y u w:Int):qD (x:Rat) (y:Rat) ((x:Rat)+((1:Int):Rat)*(u:Rat)) ((y:Rat)+((1:Int):Rat)*(w:Rat))=(((-w:Int):Rat),((u:Int):Rat),((w*x-u*y:Int):Rat)):=by have a:(x:Rat)+((1:Int):Rat)*(u:Rat)=((x+u:Int):Rat):=by{rw [<-Qg0,<-Qt2,Wk5]};have b:(y:Rat)+((1:Int):Rat)*(w:Rat)=((y+w:Int):Rat):=by{rw [<-Qg0,<-Qt2,Wk5]};rw [a,b];have c:-(((y+w:Int):Rat)-(y:Rat))=((-w:Int):Rat):=by{rw [<-Wv1,<-Qd6];congr 1;omega};have d:((x+u:Int):Rat)-(x:Rat)=((u:Int):Rat):=by{rw [<-Wv1];congr 1;omega};have e:-(((-w:Int):Rat)*(x:Rat)+((u:Int):Rat)*(y:Rat))=((w*x-u*y:Int):Rat):=χ;have f:(((((-w:Int):Rat).den*((u:Int):Rat).den*((w*x-u*y:Int):Rat).den:Nat):Int):Rat)=1:=rfl;unfold qD;grind
def CU (a b c:Int):L3:=(a/(cj a b c:Int),b/(cj a b c:Int),c/(cj a b c:Int))
def small (z:Int)(k:Nat):Bool:=decide (z.natAbs<=k)
def Vj:∀i:Fin 9,∀j:Fin 9,∀k:Fin 65,(i.1=4/\j.1=4)\/(bY (CU ((i.1:Int)-4) ((j.1:Int)-4) ((k.1:Int)-32))&&small (CU ((i.1:Int)-4) ((j.1:Int)-4) ((k.1:Int)-32)).1 32&&small (CU ((i.1:Int)-4) ((j.1:Int)-4) ((k.1:Int)-32)).2.1 32&&small (CU ((i.1:Int)-4) ((j.1:Int)-4) ((k.1:Int)-32)).2.2 32)=true:=κ
def bd32 (k:Nat)(u:6<=k){z:Int}(h:z.natAbs<=32):z.natAbs<2^k:=ş h (Ľ (by decide:32<2^6) (ķ φ u))
def bd32' (k:Nat)(u:6<=k){x:L3}(z:x.1.natAbs<=32)(E:x.2.1.natAbs<=32)(F:x.2.2.natAbs<=32):x.1.natAbs<2^k/\x.2.1.natAbs<2^k/\x.2.2.natAbs<2^k:=⟨bd32 k u z,bd32 k u E,bd32 k u F⟩
def YY {a b c:Int}(u:-4<=a/\a<=4)(z:-4<=b/\b<=4)(E:-32<=c/\c<=32)(h:¬(a=0/\b=0):=by omega):bY (CU a b c)=true/\Bd (CU a b c):=by have:=Vj ⟨(a+4).toNat,ω⟩ ⟨(b+4).toNat,ω⟩ ⟨(c+32).toNat,ω⟩;dsimp only at this;rw [show (((a+4).toNat:Nat):Int)-4=a from by omega,show (((b+4).toNat:Nat):Int)-4=b from by omega,show (((c+32).toNat:Nat):Int)-32=c from by omega] at this;rcases this with d|d;{omega};simp only [Č,small,Ñ] at d;exact ⟨d.1.1.1,bd32' 1000 φ d.1.1.2 d.1.2 d.2⟩
def Vu {x y:Int}(u:-4<=x/\x<=4)(z:-4<=y/\y<=4):-16<=x*y/\x*y<=16:=by have:(x*y).natAbs<=4*4:=by{rw [Ń];exact Qg7 ω ω};omega
def xV {v:um}{a b c:Int}(h:RL V v a b c):∃(b1:ut)(u:OA)(z c1:Nat)(b2:ut)(E:OA)(F M:Nat)(b3:ut)(N:OA)(O Z:Nat),v=hF #[dB b1,yG u z c1,dB b2,yG E F M,dB b3,yG N O Z]:=by obtain ⟨p,n,s,d,f,g,q,m,e,rfl,-⟩:=h;exact wqQ rfl
def JV (V:Ó)(p:OA)(n:Nat):Prop:=∀i,i<n->∃(a:Addr)(x:Int),af p (i*1)=some a/\V.at a (.int Ŵ x)
def JV.le {V V':un}(h:JV V p n)(l:V.Le V'):JV V' p n:=λi b=>by
 have ⟨a,x,e,c⟩:=h i b;exact ⟨a,x,e,l.at c⟩
def gY (V:Ó)(tb:Nat)(p:OA)(n c:Nat)(at_:Int):Prop:=V.w.heap[tb]?=some (.cells #[.slice p n c,.int Ŵ at_] 81 (0,0))
def eE {V:un}(k:Int)(z:JV V p n)(O:n<=400)(hw:gY V tb p n c at_)(E:V.X tb)(F:0<=at_)(M:0<k)(N:k<=1000000:=by omega):À 20 #[qvJ (some ⟨tb,0,none⟩),Ô Ŵ k] V λr W=>∃x at',r=Ô Ŵ x/\0<=x/\x<k/\0<=at'/\gY W tb p n c at':=by refine vL tb p n c at_ k V _ hw E ⟨λg m o e=>⟨0,at_,rfl,ω,M,F,e⟩,λg=>?_⟩;have g:at_<n:=by{have:=Â g;omega};obtain ⟨i,rfl⟩:∃i:Nat,at_=i:=⟨at_.toNat,ω⟩;have ⟨a,x,d,f⟩:=z i ω;have h:p.isSome=true:=by{(cases p with|none=>simp [af] at d|some a=>rfl)};have q:(x.tmod k).natAbs<k.natAbs:=by{rw [Int.natAbs_tmod];exact ę _ ω};have j:Ŵ.wrap ((i:Int)+1)=((i+1:Nat):Int):=ŵ;rw [Ý,j];have l:Ŵ.wrap (x.tmod k+k)=x.tmod k+k:=ay ω;refine ⟨h,ų,x,⟨a,d,f⟩,ω,λb V2 s e=>⟨x.tmod k+k,_,by rw [l],?_,?_,?_,e⟩,λb t u e=>⟨_,_,rfl,?_,?_,?_,e⟩⟩;{omega};{have:=Á b;omega};{omega};{have:=Â b;omega};{omega};omega
def c_P {V:un}(M:JV V p n)(N:n<=400)(hw:gY V tb p n c at_)(O:V.X tb)(Z:0<=at_):À 68 #[qvJ (some ⟨tb,0,none⟩)] V λr W=>∃(x y at':Int),RP W r (x:Rat) (y:Rat)/\(-4<=x/\x<=4)/\(-4<=y/\y<=4)/\0<=at'/\gY W tb p n c at':=by refine A6 tb p n c at_ V _ hw O λj g a k l=>(eE (V:=j.au [a]) 9 (M.le λb o h=>g b o h) N k ⟨ψ,l⟩ Z ω).s ?_;rintro r V2 m ⟨x,z,rfl,A,B,t1,d⟩;refine ⟨_,rfl,_,_,_,_,d,λq s t u v=>(eE (V:=q.au [t]) 9 (M.le λb o h=>s b o (m b o (g b o h))) N u ⟨ψ,v⟩ t1 ω).s ?_⟩;rintro r C D ⟨y,e,rfl,E,F,t2,f⟩;refine ⟨_,rfl,_,_,_,_,f,λG H=>?_⟩;rw [ay (x:=x-4) ω,ay (x:=y-4) ω];refine (dO (x-4) (y-4) ω ω ω).s λr I J i=>RP.ex i λ_ _ i _ _=>λK L w=>⟨x-4,y-4,e,ra,ų,ų,t2,w⟩
theorem RQ.zero {V:un}:RQ V (hF #[dB false,yG none 0 0,yG none 0 0]) ((0:Int):Rat):=⟨none,0,0,none,0,0,rfl,RD.nil,RD.nil⟩
def RP.zero {V:un}:RP V (hF #[dB false,yG none 0 0,yG none 0 0,dB false,yG none 0 0,yG none 0 0]) ((0:Int):Rat) ((0:Int):Rat):=
 ⟨none,0,0,none,0,0,none,0,0,none,0,0,rfl,RQ.zero,RQ.zero⟩
def Fj {z:Int}(h:-40<=z/\z<=40:=by omega):Sz 10 (z:Rat):=Jp ω
def c_V {V:un}(Z:JV V p n)(hn:n<=400)(hw:gY V tb p n c at_)(hx:V.X tb)(h0:0<=at_):À 69 #[qvJ (some ⟨tb,0,none⟩)] V λr W=>∃(x y at':Int),RP W r (x:Rat) (y:Rat)/\(-4<=x/\x<=4)/\(-4<=y/\y<=4)/\¬(x=0/\y=0)/\0<=at'/\gY W tb p n c at':=by refine A8 tb p n c at_ V _ hw hx λl m a q s=>(c_P (V:=l.au [a]) (Z.le λb o h=>m b o h) hn q ⟨ψ,s⟩ h0).s ?_;rintro r V2 M ⟨x,y,j,d,e,f,t1,i⟩;obtain ⟨t,u,v,w,z,A,B,C,D,E,F,G,rfl,-⟩:=id d;refine qxW ⟨rfl,_,_,_,_,i,λN k=>(pM (d.le λb o h=>k b o h) RP.zero (Fj) (Fj) (Fj) (Fj)).s ?_⟩;rintro r O H rfl;refine ⟨_,rfl,λg P Q=>(dO 1 0 ω ω ω).s ?_,λg R I J=>⟨x,y,j,d.le λb o h=>I b o (H b o (k b o h)),e,f,?_,t1,J⟩⟩;{rintro r S T K;obtain ⟨t,u,v,w,z,A,B,C,D,E,F,G,rfl,-⟩:=id K;exact qxW ⟨rfl,λU W L=>⟨1,0,j,ra,ų,ų,ω,t1,L⟩⟩};rintro ⟨rfl,rfl⟩;simp at g
def c_L {V:un}(hr:JV V p n)(hn:n<=400)(hw:gY V tb p n c at_)(hx:V.X tb)(h0:0<=at_):À 23 #[qvJ (some ⟨tb,0,none⟩)] V λr W=>∃(x:L3)(at':Int),RL W r x.1 x.2.1 x.2.2/\bY x=true/\Bd x/\0<=at'/\gY W tb p n c at':=by refine AZ tb p n c at_ V _ hw hx λL C f M N=>(c_P (V:=L.au [f]) (hr.le λb o h=>C b o h) hn M ⟨ψ,N⟩ h0).s ?_;rintro r V2 O ⟨x,y,Gi,P,g,i,t1,j⟩;obtain ⟨p1,D,c1,p2,E,c2,p3,F,c3,p4,n4,c4,rfl,-⟩:=id P;refine qxW ⟨rfl,_,_,_,_,j,λV3 G=>(dN 1 ω).s λr Q H I=>RQ.ex I λ_ I=>λR q d S T=>(c_V (V:=R.au [d]) (hr.le λb o h=>q b o (H b o (G b o (O b o (C b o h))))) hn S ⟨ψ,T⟩ t1).s ?_⟩;rintro r U J ⟨u,w,s,W,t,e,Y,t2,v⟩;obtain ⟨q1,Z,d1,q2,m2,d2,q3,m3,d3,q4,m4,d4,rfl,-⟩:=id W;refine qxW ⟨rfl,_,_,_,_,v,λz A=>?_⟩;have CO:V2.Le z:=λb o h=>A b o (J b o (q b o (H b o (G b o h))));have a0:Q.Le z:=λb o h=>A b o (J b o (q b o h));have a1:U.Le z:=λb o h=>A b o h;refine (fP ra ra ra (k:=10) (m:=10) (Fj) (Fj) (Fj) (Fj) (Fj) ω).s ?_;rintro r V8 l8 hs;obtain ⟨s1,i1,j1,s2,i2,j2,s3,i3,j3,s4,i4,j4,rfl,-⟩:=id hs;have f1:(x:Rat)+((1:Int):Rat)*(u:Rat)=((x+u:Int):Rat):=by{rw [<-Qg0,<-Qt2,Wk5]};have f2:(y:Rat)+((1:Int):Rat)*(w:Rat)=((y+w:Int):Rat):=by{rw [<-Qg0,<-Qt2,Wk5]};refine qxW ⟨rfl,λV9 l9=>(kE ra ra (k:=10) (Fj) (Fj) (by rw [f1];exact Fj) (by rw [f2];exact Fj) ω).s ?_⟩;rintro r fD a2 ⟨-,h⟩;rw [ZS] at h;have D:((-w:Int):Rat).num=-w:=rfl;have E:((u:Int):Rat).num=u:=rfl;have F:((w*x-u*y:Int):Rat).num=w*x-u*y:=rfl;dsimp only at h;rw [D,E,F] at h;obtain ⟨l,rfl,K⟩:=h ω;have Z:=Vu e g;have m2:=Vu t i;have ⟨k1,k2⟩:=YY (a:=-w) (b:=u) (c:=w*x-u*y) ω ω ω;obtain ⟨b1,u1,v1,w1,b2,u2,v2,w2,b3,u3,v3,w3,rfl⟩:=(xV K);exact ⟨_,_,_,_,_,_,_,_,_,_,_,_,_,rfl,λeX dq B=>⟨CU (-w) u (w*x-u*y),s,K.le dq,k1,k2,t2,B⟩⟩
def RW (V:Ó):OA->Tr->Prop
 | p,.leaf i=>∃(b:Nat)(u z c4 c5 c6 c7 c8 c9:Value),p=some ⟨b,0,none⟩/\V.bo b (.cells #[.bool true,.bool i,u,z,c4,c5,c6,c7,c8,c9] 88 (0,0))
 | p,.node l x y=>∃(b:Nat)(i:Bool)(b1:Bool)(E:OA)(F c1:Nat)(b2:Bool)(M:OA)(N u:Nat)(b3:Bool)(O:OA)(Z z:Nat)(pl pr:OA),p=some ⟨b,0,none⟩ /\
   V.bo b (.cells #[.bool false,.bool i,.bool b1,.slice E F c1,.bool b2,.slice M N u,.bool b3,.slice O Z z,.pointer pl,.pointer pr] 88 (0,0)) /\
   RL V (.agg #[.bool b1,.slice E F c1,.bool b2,.slice M N u,.bool b3,.slice O Z z]) l.1 l.2.1 l.2.2/\RW V pl x/\RW V pr y
def RW.le {V V':un}(h:V.Le V'):∀{t:Tr} {p:OA},RW V p t->RW V' p t
 | .leaf i,p,⟨b,u,z,F,M,N,O,Z,c9,e,E⟩=>⟨b,u,z,F,M,N,O,Z,c9,e,h _ _ E⟩
 | .node l x y,p,⟨b,i,b1,p1,n1,c1,b2,p2,n2,u,b3,p3,n3,z,pl,pr,e,E,hl,hx,hy⟩=>⟨b,i,b1,p1,n1,c1,b2,p2,n2,u,b3,p3,n3,z,pl,pr,e,h _ _ E,hl.le h,RW.le h hx,RW.le h hy⟩
def cS (i:ut):À 24 #[dB i] V λr W=>∃p,r=qvJ p/\RW W p (.leaf i):=
 F5 V _ λc d b a=>⟨_,rfl,b,_,_,_,_,_,_,_,_,rfl,a⟩
def lG (x:L3):Prop:=bY x=true/\Bd x
def c_Tree:∀(k:Nat) {V:un} {tb:Nat} {p:OA} {n c:Nat} {at_:Int},k<=10->JV V p n->n<=400->gY V tb p n c at_->V.X tb->0<=at_ ->À 25 #[qvJ (some ⟨tb,0,none⟩),Ô Ŵ (k:Int)] V λr W=>∃q t at',r=qvJ q/\RW W q t/\t.dG lG/\t.size<2^k/\0<=at'/\gY W tb p n c at':=by
 intro k
 induction k with
 | zero=>
  intro V tb p n c at_ _ d e hw w y;refine mD tb p n c at_ _ V _ hw w ⟨λg V1 l1 z e1 h1=>(eE (V:=V1.au [z]) 2 (d.le λb o h=>l1 b o h) e e1 ⟨ψ,h1⟩ y ω).s ?_,λg=>by simp at g⟩;rintro r V2 l2 ⟨x,Z,rfl,-,-,t1,f⟩;refine ⟨_,rfl,_,_,_,_,f,λV3 l3=>(cS _).s ?_⟩;rintro r V4 l4 ⟨q,rfl,A⟩;exact ⟨_,rfl,λV5 l5 e5=>⟨_,_,Z,rfl,A.le l5,trivial,by simp [Tr.size],t1,e5⟩⟩
 | succ k ih=>
  intro V tb p n c at_ hk d e hw w y;refine mD tb p n c at_ _ V _ hw w ⟨λg=>by rw [Ë] at g;omega,λ_ V6 l6 B e6 h6=>(eE (V:=V6.au [B]) 4 (d.le λb o h=>l6 b o h) e e6 ⟨ψ,h6⟩ y ω).s ?_⟩;rintro r V7 l7 ⟨x,Z,rfl,-,-,t1,f⟩;have i:V.Le V7:=λb o h=>l7 b o (l6 b o h);refine ⟨_,rfl,_,_,_,_,f,λg V8 l8 XT e8 h8=>(eE (V:=V8.au [XT]) 2 (d.le λb o h=>l8 b o (i b o h)) e e8 ⟨ψ,h8⟩ t1 ω).s ?_,λg ji fk l C D=>(c_L (V:=ji.au [l]) (d.le λb o h=>fk b o (i b o h)) e C ⟨ψ,D⟩ t1).s ?_⟩
  ·rintro r V9 l9 ⟨x,m,rfl,-,-,t2,j⟩;refine ⟨_,rfl,_,_,_,_,j,λfD a0=>(cS _).s ?_⟩;rintro r eX dq ⟨q,rfl,A⟩;exact ⟨_,rfl,λgQ eJ E=>⟨_,_,m,rfl,A.le eJ,trivial,by simpa [Tr.size] using ĵ _,t2,E⟩⟩
  ·rintro r lH iL ⟨ln,m,hl,F,G,t2,j⟩;obtain ⟨b1,u1,v1,w1,b2,u2,v2,w2,b3,u3,v3,w3,rfl⟩:=(xV hl);have a:V.Le lH:=λb o h=>iL b o (fk b o (i b o h));have wk:Ŵ.wrap (((k+1:Nat):Int)-1)=(k:Int):=ŵ;refine wqQ ⟨rfl,_,_,_,_,j,λmJ H XV I J=>?_⟩;rw [wk];refine ((ih (V:=mJ.au [XV]) ω (d.le λb o h=>H b o (a b o h)) e I ⟨ψ,J⟩ t2).s ?_);rintro r ko gV ⟨qa,ta,a1,rfl,K,L,a2,t3,M⟩;have s:V.Le ko:=λb o h=>gV b o (H b o (a b o h));refine ⟨_,rfl,_,_,_,_,M,λnk N u O P=>(ih (V:=nk.au [u]) ω (d.le λb o h=>N b o (s b o h)) e O ⟨ψ,P⟩ t3).s ?_⟩;rintro r nq iF ⟨qb,Q,R,rfl,S,T,a3,t4,U⟩;refine ⟨_,rfl,_,_,_,_,U,λqM W v Y hb=>⟨_,.node ln ta Q,R,rfl,⟨v,_,_,_,_,_,_,_,_,_,_,_,_,_,_,_,rfl,hb,?_,?_,?_⟩,⟨⟨F,G⟩,L,T⟩,?_,t4,Y⟩⟩;{exact hl.le λb o h=>W b o (iF b o (N b o (gV b o (H b o h))))};{exact RW.le (V:=ko) (V':=qM) (λb o h=>W b o (iF b o (N b o h))) K};{exact RW.le (V:=nq) (V':=qM) (λb o h=>W b o h) S};simp only [Tr.size];rw [Ĩ];omega
def Tr.depth:Tr->Nat
 | .leaf _=>0
 | .node _ a b=>1+max a.depth b.depth
def oA:∀t:Tr,t.depth<=t.size
 | .leaf _=>Ù _
 | .node _ a b=>by have:=oA a;have:=oA b;simp only [Tr.depth,Tr.size];omega
def Vp {a b:Nat}(u:a<=1000000)(z:b<=1000000:=by omega):Ŵ.wrap ((1:Int)+ct (a:Int) (b:Int))=((1+max a b:Nat):Int):=by have:ct (a:Int) (b:Int)=((max a b:Nat):Int):=by{unfold ct;split<;>omega};rw [this,ay ω];omega
def qT:∀(t:Tr) {V:un} {p:OA},RT V p t->t.size<=1000000->À 74 #[qvJ p] V λr W=>r=Ô Ŵ (t.depth:Int)
 | .leaf i,V,p,h,u=>by
  refine sJ V _ λF l1=>(cu (h.le l1)).s ?_;rintro r V2 z rfl;exact ⟨_,rfl,λ_ O Z=>rfl,π⟩
 | .node ln a b,V,p,h,u=>by
  refine sJ V _ λF l1=>(cu (h.le l1)).s ?_;rintro r V2 z rfl;obtain ⟨bb,x1,x2,x3,y1,y2,y3,z1,z2,z3,pl,M,i,rfl,E,hl,N,hbb⟩:=h.le (l1.m z);have s1:=oA a;have s2:=oA b;simp only [Tr.size] at u;refine ⟨_,rfl,π,λ_=>⟨rfl,rfl,pl,yR E 9 rfl,rfl,rfl,M,yR E 10 rfl,λd c=>(qT a (N.le c) ω).s λr e f rfl=>⟨_,rfl,λg j=>(qT b (hbb.le aA) ω).s λr k l rfl=>⟨_,rfl,λm n=>by rw [Vp ω];rfl⟩⟩⟩⟩
def lo1:Tr->Int
 | .leaf i=>if i then 0 else 1
 | .node ..=>0
def m_ {i:ut}(h:RW V p (.leaf i)):p.isSome=true/\(∃a,af p 0=some a/\V.at a (dB true))/\∃a,af p 1=some a/\V.at a (dB i):=by obtain ⟨b,d,e,f,g,j,k,l,m,rfl,c⟩:=h;exact ⟨rfl,yR c 0 rfl,yR c 1 rfl⟩
end Go.Proofs.Tryz
namespace Go.Eng
theorem BK (a:Addr)(m n:Nat):(a.add m).add n=a.add (m+n):=by grind [Addr.add]
variable{α:Type}{sz:Nat}{R:Ó->Value->α->Prop}{V V':Ó}
structure è (sz:Nat) (R:Ó->Value->α->Prop) (V:Ó) (vs:List Value) (al:List α):Prop where
 at_:∀(i:Nat)(h:i<al.length),∃xs:List Value,xs.length=sz/\R V (.agg xs.toArray) al[i]/\∀j x,xs[j]?=some x->vs[i*sz+j]?=some x
structure bP (sz:Nat) (R:Ó->Value->α->Prop) (V:Ó) (p:OA) (n:Nat) (al:List α):Prop where
 len:n=al.length
 at_:∀(i:Nat)(h:i<al.length),∃ad,af p (i*sz)=some ad/\∃xs:List Value,xs.length=sz/\R V (.agg xs.toArray) al[i]/\∀j x,xs[j]?=some x->V.at (ad.add j) x
def è.nil {vs:zA um}:è sz R V vs []:=⟨λi h=>Å h (ţ i)⟩
def bP.nil {p:OA}:bP sz R V p 0 []:=⟨rfl,λi h=>Å h (ţ i)⟩
def Via (_:V.Le V')(p:Prop):Prop:=p
def via {l:V.Le V'}(m:∀{A B:un},A.Le B->∀v a,R A v a->R B v a):Via l (∀v a,R V v a->R V' v a):=m l
def è.le {vs:zA um}{al:zA α}(h:è sz R V vs al)(m:∀v a,R V v a->R V' v a:=by exact λ_ _ g=>.le g aA):è sz R V' vs al:=
 ⟨λi b=>by have ⟨xs,c,d,e⟩:=h.at_ i b;exact ⟨xs,c,m _ _ d,e⟩⟩
def bP.le {p:OA}{n:Nat}{al:zA α}(h:bP sz R V p n al)(l:V.Le V')(m:Via l (∀v a,R V v a->R V' v a):=by exact via λl _ _ g=>.le g l):bP sz R V' p n al:=
 ⟨h.len,λi b=>by have ⟨c,d,xs,e,f,k⟩:=h.at_ i b;exact ⟨c,d,xs,e,m _ _ f,λj x o=>l.at (k j x o)⟩⟩
def bf {p:OA}{j:Nat}{ad:Addr}(h:af p j=some ad):p.isSome=true:=by (cases p with|none=>{cases h}|some a=>rfl)
section
variable{p:OA}{n:Nat}{al:List α}
def ldP (sh:∀{V v a},R V v a->∃(z:ut)(E:OA)(F M:Nat)(N:OA)(O Z:Nat)(x7:ut)(x8:OA)(x9 u:Nat)(A_:OA)(M5 M6:Nat),v=hF #[dB z,yG E F M,yG N O Z,dB x7,yG x8 x9 u,yG A_ M5 M6])(h:bP 6 R V p n al){i:Nat}(hi:i<al.length){K:ut->OA->Nat->Nat->OA->Nat->Nat->ut->OA->Nat->Nat->OA->Nat->Nat->Prop}(k:∀z E F M N O Z x7 x8 x9 u A_ M5 M6,R V (hF #[dB z,yG E F M,yG N O Z,dB x7,yG x8 x9 u,yG A_ M5 M6]) al[i]->K z E F M N O Z x7 x8 x9 u A_ M5 M6):p.isSome=true/\(0<=(i:Int)/\(i:Int)<(n:Int))/\∃(z:ut)(E:OA)(F M:Nat)(N:OA)(O Z:Nat)(x7:ut)(x8:OA)(x9 u:Nat)(A_:OA)(M5 M6:Nat)(ad:Addr),af p (i*6)=some ad/\V.at (ad.add 0) (dB z)/\V.at (ad.add 1) (yG E F M)/\V.at (ad.add 2) (yG N O Z)/\V.at (ad.add 3) (dB x7)/\V.at (ad.add 4) (yG x8 x9 u)/\V.at (ad.add 5) (yG A_ M5 M6)/\K z E F M N O Z x7 x8 x9 u A_ M5 M6:=by obtain rfl:=h.len;obtain ⟨ad,c,xs,-,d,b⟩:=h.at_ i hi;have ⟨_,_,_,_,_,_,_,_,_,_,_,_,_,_,e⟩:=sh d;have e:=Æ Array.toList (Value.agg.inj e);subst e;exact ⟨bf c,ų,_,_,_,_,_,_,_,_,_,_,_,_,_,_,ad,c,b 0 _ rfl,b 1 _ rfl,b 2 _ rfl,b 3 _ rfl,b 4 _ rfl,b 5 _ rfl,k _ _ _ _ _ _ _ _ _ _ _ _ _ _ d⟩
def ldL (sh:∀{V v a},R V v a->∃(z:ut)(E:OA)(F M:Nat)(N:ut)(O:OA)(Z x7:Nat)(x8:ut)(x9:OA)(u A_:Nat),v=hF #[dB z,yG E F M,dB N,yG O Z x7,dB x8,yG x9 u A_])(h:bP 6 R V p n al){i:Nat}(hi:i<al.length){K:ut->OA->Nat->Nat->ut->OA->Nat->Nat->ut->OA->Nat->Nat->Prop}(k:∀z E F M N O Z x7 x8 x9 u A_,R V (hF #[dB z,yG E F M,dB N,yG O Z x7,dB x8,yG x9 u A_]) al[i]->K z E F M N O Z x7 x8 x9 u A_):p.isSome=true/\(0<=(i:Int)/\(i:Int)<(n:Int))/\∃(z:ut)(E:OA)(F M:Nat)(N:ut)(O:OA)(Z x7:Nat)(x8:ut)(x9:OA)(u A_:Nat)(ad:Addr),af p (i*6)=some ad/\V.at (ad.add 0) (dB z)/\V.at (ad.add 1) (yG E F M)/\V.at (ad.add 2) (dB N)/\V.at (ad.add 3) (yG O Z x7)/\V.at (ad.add 4) (dB x8)/\V.at (ad.add 5) (yG x9 u A_)/\K z E F M N O Z x7 x8 x9 u A_:=by obtain rfl:=h.len;obtain ⟨ad,c,xs,-,d,b⟩:=h.at_ i hi;have ⟨_,_,_,_,_,_,_,_,_,_,_,_,e⟩:=sh d;have e:=Æ Array.toList (Value.agg.inj e);subst e;exact ⟨bf c,ų,_,_,_,_,_,_,_,_,_,_,_,_,ad,c,b 0 _ rfl,b 1 _ rfl,b 2 _ rfl,b 3 _ rfl,b 4 _ rfl,b 5 _ rfl,k _ _ _ _ _ _ _ _ _ _ _ _ d⟩
def ldS {u w:α->ut}(sh:∀{V v a},R V v a->∃(F:ut)(M:OA)(N O:Nat)(Z:OA)(x5 x6:Nat)(x7:ut)(x8:OA)(x9 E:Nat)(A_:OA)(M5 M6:Nat),v=hF #[dB F,yG M N O,yG Z x5 x6,dB x7,yG x8 x9 E,yG A_ M5 M6,dB (u a),dB (w a)])(h:bP 8 R V p n al){i:Nat}(hi:i<al.length){K:ut->OA->Nat->Nat->OA->Nat->Nat->ut->OA->Nat->Nat->OA->Nat->Nat->ut->ut->Prop}(k:∀F M N O Z x5 x6 x7 x8 x9 E A_ M5 M6,R V (hF #[dB F,yG M N O,yG Z x5 x6,dB x7,yG x8 x9 E,yG A_ M5 M6,dB (u al[i]),dB (w al[i])]) al[i]->K F M N O Z x5 x6 x7 x8 x9 E A_ M5 M6 (u al[i]) (w al[i])):p.isSome=true/\(0<=(i:Int)/\(i:Int)<(n:Int))/\∃(F:ut)(M:OA)(N O:Nat)(Z:OA)(x5 x6:Nat)(x7:ut)(x8:OA)(x9 E:Nat)(A_:OA)(M5 M6:Nat)(y z:ut)(ad:Addr),af p (i*8)=some ad/\V.at (ad.add 0) (dB F)/\V.at (ad.add 1) (yG M N O)/\V.at (ad.add 2) (yG Z x5 x6)/\V.at (ad.add 3) (dB x7)/\V.at (ad.add 4) (yG x8 x9 E)/\V.at (ad.add 5) (yG A_ M5 M6)/\V.at (ad.add 6) (dB y)/\V.at (ad.add 7) (dB z)/\K F M N O Z x5 x6 x7 x8 x9 E A_ M5 M6 y z:=by obtain rfl:=h.len;obtain ⟨ad,c,xs,-,d,b⟩:=h.at_ i hi;have ⟨_,_,_,_,_,_,_,_,_,_,_,_,_,_,e⟩:=sh d;have e:=Æ Array.toList (Value.agg.inj e);subst e;exact ⟨bf c,ų,_,_,_,_,_,_,_,_,_,_,_,_,_,_,_,_,ad,c,b 0 _ rfl,b 1 _ rfl,b 2 _ rfl,b 3 _ rfl,b 4 _ rfl,b 5 _ rfl,b 6 _ rfl,b 7 _ rfl,k _ _ _ _ _ _ _ _ _ _ _ _ _ _ d⟩
end
variable{vs:List Value}
theorem è.eH {al:zA α}(h:è sz R V vs al)(u:0<sz):al.length*sz<=vs.length:=by by_cases a:al.length=0;{rw [a];omega};obtain ⟨xs,d,-,b⟩:=h.at_ (al.length-1) ω;have c:sz-1<xs.length:=ω;have:=(đ.1 (b (sz-1) _ (ñ c))).1;have e:al.length*sz=(al.length-1)*sz+sz:=by{obtain ⟨m,hm⟩:∃m,al.length=m+1:=⟨al.length-1,ω⟩;grind [Nat.succ_mul]};omega
theorem è.snoc {al:zA α}(h:è sz R V vs al){xs sp:zA um}{a:α}(z:xs.length=sz)(E:R V (.agg xs.toArray) a)(u:0<sz):è sz R V (vs.take (al.length*sz)++xs++sp) (al++[a]):=by have n:=h.eH u;have o:(vs.take (al.length*sz)).length=al.length*sz:=by{rw [ë];omega};refine ⟨λi c=>?_⟩;rw [í,Qc5] at c;by_cases e:i=al.length;{grind [Nat.add_sub_cancel_left]};have b:i<al.length:=ω;have ⟨d,f,g,p⟩:=h.at_ i b;refine ⟨d,f,by rw [Qs5 b];exact g,λj x k=>?_⟩;have l:=(đ.1 k).1;have m:i*sz+j<al.length*sz:=by{have:(i+1)*sz<=al.length*sz:=Ă _ b;rw [Ş] at this;omega};grind
theorem bP.fX {u:Nat}{ty:TypeId}{m:Nat×Nat}{al:zA α}(z:V.bo u (.cells vs.toArray ty m))(h:è sz R V vs al):bP sz R V (some ⟨u,0,none⟩) al.length al:=by refine ⟨rfl,λi a=>?_⟩;have ⟨xs,b,c,d⟩:=h.at_ i a;refine ⟨⟨u,i*sz,none⟩,by simp [af,add_zero'],xs,b,c,λj x f=>?_⟩;have e:(⟨u,i*sz,none⟩:Addr).add j=⟨u,i*sz+j,none⟩:=by{rw [<-add_zero',BK,add_zero']};grind [dM]
theorem bP.bR {u c:Nat}{ty:TypeId}{m:Nat×Nat}{al:zA α}(F:vs≠[]->V.bo u (.cells vs.toArray ty m))(h:è sz R V vs al)(z:0<sz)(E:al.length<=c):bP sz R V (mA u c) al.length al:=by (cases al with|nil=>exact bP.nil|cons a r=>{have b:vs≠[]:=λe=>by{have:=h.eH z;grind [Nat.succ_mul]};have:mA u c=some ⟨u,0,none⟩:=by{unfold mA;rw [Ã];rw [Ċ] at E;omega};grind [bP.fX]})
end Go.Eng
namespace Go.Eng
open Go.Proofs.Tryz
variable{α:Type}{sz:Nat}{R:Ó->Value->α->Prop}{V V':Ó}{d:α}
theorem è.get {vs:zA um}{al:zA α}(h:è sz R V vs al){i:Nat}(hi:i<al.length)(u:0<sz):∃xs:zA um,xs.length=sz/\R V (.agg xs.toArray) (al.getD i d)/\i*sz+sz<=vs.length/\(vs.drop (i*sz)).take sz=xs:=by have ⟨xs,a,b,c⟩:=h.at_ i hi;have e:=h.eH u;have:(i+1)*sz<=al.length*sz:=Ă _ hi;rw [Ş] at this;refine ⟨xs,a,by simpa [hi] using b,ω,?_⟩;apply Qh1;intro j;rw [Ĳ];split;{grind};grind
def è.put {vs:zA um}{al:zA α}(h:è sz R V vs al){i:Nat}(hi:i<al.length)(z:0<sz){xs:zA um}{a:α}(u:xs.length=sz)(E:R V (.agg xs.toArray) a):è sz R V (bI vs (i*sz) xs) (al.set i a):=by have r:=h.eH z;have l:∀k,k<al.length->k*sz+sz<=vs.length:=λk d=>by{have:(k+1)*sz<=al.length*sz:=Ă _ d;rw [Ş] at this;omega};have m:=l i hi;rw [mq];have f:(vs.take (i*sz)).length=i*sz:=by{rw [ë];omega};refine ⟨λk d=>?_⟩;rw [Qg1] at d;by_cases e:k=i;{subst e;refine ⟨xs,u,by simpa using E,λj x b=>?_⟩;have c:=(đ.1 b).1;rw [Ĝ,ň ω,f,Qn2,ĳ c];exact b};have ⟨n,o,p,g⟩:=h.at_ k d;refine ⟨n,o,by rw [List.getElem_set_ne (λq=>e q.symm)];exact p,λj x b=>?_⟩;have c:=(đ.1 b).1;by_cases lt:k<i;{have:(k+1)*sz<=i*sz:=Ă _ lt;rw [Ş] at this;rw [Ĝ,ĳ ω,Ĳ,Ä ω];exact g j x b};{have:(i+1)*sz<=k*sz:=Ă _ ω;rw [Ş] at this;rw [ň (by rw [í];omega),í,f,u,Qn9];rw [show i*sz+sz+(k*sz+j-(i*sz+sz))=k*sz+j by omega];exact g j x b}
def r_ {vs xs:zA um}{o:Nat}(h:o+xs.length<=vs.length):(bI vs o xs).length=vs.length:=by rw [mq h];simp only [í,ë,Ĵ];omega
def è.swap {vs:zA um}{al:zA α}(h:è sz R V vs al){i j:Nat}(hi:i<al.length)(z:j<al.length)(u:0<sz){xs ys:zA um}(E:xs.length=sz)(F:ys.length=sz)(M:R V (.agg xs.toArray) (al.getD i d))(N:R V (.agg ys.toArray) (al.getD j d)):è sz R V (bI (bI vs (i*sz) ys) (j*sz) xs) (Jm d al i j):=by have:=h.put hi u F N;exact this.put (by simpa using z) u E M
end Go.Eng
namespace Go.Proofs.Tryz
section
variable{α:Type}(e:α->α->Bool)
def pO:α->List α->List α
 | _,[]=>[]
 | p,a::r=>if e a p then pO a r else a::pO a r
def fh:List α->List α
 | []=>[]
 | a::r=>a::pO e a r
variable{e}
def GL {d:α}:∀{r:zA α} {p a:α},pO e p (r++[a])=pO e p r++if e a ((p::r).getD r.length d) then [] else [a]
 | [],p,a=>by simp [pO]
 | b::r,p,a=>by
  have u:=GL (d:=d) (r:=r) (p:=b) (a:=a);have c:(p::b::r).getD (b::r).length d=(b::r).getD r.length d:=rfl;rw [c,Qc1];simp only [pO];split
  ·exact u
  ·rw [u];rfl
def lB {d:α}{l:zA α}{k:Nat}(u:k+1<l.length:=by omega):fh e (l.take (k+2))=fh e (l.take (k+1))++if e (l.getD (k+1) d) (l.getD k d) then [] else [l.getD (k+1) d]:=by (cases l with|nil=>simp at u|cons a r=>{have b:k<r.length:=by{simpa using u};have c:(a::r).take (k+2)=a::(r.take k++[r[k]]):=by{rw [List.take_succ_cons,ť b]};have f:(a::r).take (k+1)=a::r.take k:=List.take_succ_cons;rw [c,f];simp only [fh];rw [GL (d:=d)];have g:(a::r).getD (k+1) d=r[k]:=by{rw [Wx7,Ę,ñ b];rfl};have h:(a::r.take k).getD (r.take k).length d=(a::r).getD k d:=by{have i:(r.take k).length=k:=by{rw [ë];omega};rw [i];(cases k with|zero=>rfl|succ k=>{rw [Wx7,Wx7,Ę,Ę,Ĳ,Ä ω]})};rw [g,h,Qc1]})
def Ck:∀{r:zA α} {p:α},∀x∈pO e p r,x∈r
 | [],p,x,h=>h
 | b::r,p,x,h=>by
  unfold pO at h;split at h
  ·exact ø _ (Ck x h)
  ·rcases ç.1 h with rfl|h
   ·exact ą ..
   ·exact ø _ (Ck x h)
def Un {l:zA α}:∀x∈fh e l,x∈l:=by (cases l with|nil=>exact λx h=>h|cons a r=>{intro x h;rcases ç.1 h with rfl|h;{exact ą ..};exact ø _ (Ck x h)})
theorem KI:∀{r:zA α} {p:α},(pO e p r).length<=r.length
 | [],p=>Ù _
 | b::r,p=>by
  have:=KI (r:=r) (p:=b);grind [pO]
def wh {l:zA α}:(fh e l).length<=l.length:=by (cases l with|nil=>exact Ù _|cons a r=>{have:=KI (e:=e) (r:=r) (p:=a);simp [fh];omega})
def P7 {d:α}{l:zA α}{k:Nat}(u:k+1<l.length)(he:e (l.getD (k+1) d) (l.getD k d)=true):(fh e l).length<l.length:=by
 have key:∀j,k+2+j<=l.length->(fh e (l.take (k+2+j))).length<k+2+j:=by
  intro j
  induction j with
  | zero=>
   intro _;rw [ġ,lB (d:=d) u,he,Ä rfl,ć];have:=wh (e:=e) (l:=l.take (k+1));rw [ë] at this;omega
  | succ j z=>
   intro a;have:=z ω;rw [show k+2+(j+1)=k+1+j+2 by omega,lB (d:=d),í,show k+1+j+1=k+2+j by omega];split<;>simp<;>omega
 have:=key (l.length-(k+2)) ω
 rwa [show k+2+(l.length-(k+2))=l.length by omega,Ī] at this
def wo {l:zA α}(h:l.length<=1:=by omega):fh e l=l:=by
 match l,h with
 | [],_=>rfl
 | [a],_=>rfl
 | _::_::_,h=>simp at h
end
end Go.Proofs.Tryz
namespace Go.Eng
open Go.Proofs.Tryz
section
variable{α:Type}{sz:Nat}{R:Ó->Value->α->Prop}{V:Ó}{d:α}
def è.P0 {vs u:zA um}{al:zA α}(h:è sz R V vs al){k:Nat}(z:k<=al.length)(E:0<sz):è sz R V (vs.take (k*sz)++u) (al.take k):=by have l:=h.eH E;refine ⟨λi b=>?_⟩;rw [ë] at b;have ⟨xs,c,d,e⟩:=h.at_ i ω;refine ⟨xs,c,by rw [Qt9];exact d,λj x a=>?_⟩;have f:=(đ.1 a).1;have g:(i+1)*sz<=k*sz:=Ă _ ω;have m:k*sz<=al.length*sz:=Ă _ z;rw [Ş] at g;rw [ĳ (by rw [ë];omega),Ĳ,Ä ω];exact e j x a
end
end Go.Eng
namespace Go.Proofs.Tryz
variable{l p v w:Value}{Xx di gW ir iu l_1 q x y zV zW:Rat}{V:Ó}{c k n:Nat}{a:Int}
def RA (V:Ó)(v:Value)(q:Rat):Prop:=∃p n c u n' z,v=.agg #[.bool (decide (q.num<0)),.slice p n c,.slice u n' z]/\RD V p n c (ai q.num.natAbs)/\RD V u n' z (ai q.den)
def RA.le {V V':un}(h:RA V v q)(l:V.Le V'):RA V' v q:=by obtain ⟨p,n,c,a,b,d,e,f,g⟩:=h;exact ⟨p,n,c,a,b,d,e,ra,ra⟩
def B4 (b:ut){p q:OA}{m e:Nat}{xs ys:zA Nat}(z:RD V p n c xs)(E:RD V q m e ys)(hm:xs.length<=2^40)(u:ys.length<=2^40:=by omega):À 105 #[hF #[dB b,yG p n c,yG q m e]] V λr W=>RR W r (mkRat (bO b xs) (val ys)):=by refine Pb V _ λd f=>(dD b ra ra hm u).s λr V2 g h=>RR.ex h λ_ h=>λi a=>h.le a
def Gt (h:RA V v q)(u:Sz k q)(z:k<=2^40):À 105 #[v] V λr W=>RR W r q:=by obtain ⟨p,n,c,d,e,f,rfl,a,b⟩:=h;have g:=ah u.1;have i:=ah u.2;refine (B4 _ a b ω).s ?_;rintro r V' _ h;rw [aM,ag,Qr7] at h;exact h
def HZ (h:RR V v q)(z:Sz k q)(E:k<=2^40):À 191 #[v] V λr W=>RA W r q:=by obtain ⟨a,b,c,rfl⟩:=h.shape;refine Fl V _ λd e=>(il ra z E).s ?_;rintro r V2 f ⟨g,i,j,rfl,l⟩;refine qyK ⟨rfl,λm n=>(gC ra z E).s ?_⟩;rintro r o p ⟨s,t,u,rfl,w⟩;exact ⟨_,_,_,rfl,λx y=>⟨_,_,_,_,_,_,rfl,ra,ra⟩⟩
def PU (hx:RR V v x)(hy:RR V w y){k m:Nat}(hk:Sz k x)(hm:Sz m y)(hkm:k+m<2^40):À 207 #[v,w] V λr W=>RR W r (x*y):=by obtain ⟨C,D,E,rfl⟩:=hx.shape;obtain ⟨F,s1,s2,rfl⟩:=hy.shape;have f:=Wj9 x y;have b1:(x.num*y.num).natAbs<2^(k+m):=by{rw [Ń,Ė];exact Wq7 hk.1 hm.1};have b2:x.den*y.den<2^(k+m):=by{rw [Ė];exact Wq7 hk.2 hm.2};have q1:=ah hk.1;have q2:=ah hk.2;have q3:=ah hm.1;have q4:=ah hm.2;have q5:=ah b1;have q6:=ah b2;refine Fm V _ ⟨λG=>⟨λ_ _=>True,⟨λH=>?_,λ_=>⟨(),σ,trivial⟩⟩,λ_ V8 I _=>⟨rfl,λJ i=>?_⟩⟩,λ_ J K=>?_⟩;{rcases hx with ⟨ex,A⟩|⟨a,b,p,n,c,L,M,N,ex,-,-,-,-,-,A⟩;{rcases hy with ⟨g,B⟩|⟨a,b,p,n,c,L,M,N,g,-,-,-,-,-,B⟩;{simp only [Value.agg.injEq,Qf8,œ,Value.int.injEq,Value.pointer.injEq,Î,Í] at ex g;obtain ⟨rfl,rfl,rfl⟩:=ex;obtain ⟨rfl,rfl,rfl⟩:=g;obtain ⟨j,O⟩:=A;obtain ⟨l,P⟩:=B;have Q:Ŵ.wrap ((x.den:Int)-1+1)=x.den:=ŵ;have R:Ŵ.wrap ((y.den:Int)-1+1)=y.den:=ŵ;rw [Q,R];intro V1 l1;refine (iT _ _ j l).s ?_;rintro r V2 l2 ⟨z1,rfl,o⟩;refine ⟨_,_,rfl,λV3 l3=>(iT _ _ ω).s ?_⟩;rintro r V4 l4 ⟨z2,rfl,q⟩;refine ⟨_,_,rfl,λt1=>⟨λt2 V5 l5=>?_,λ_=>⟨(),σ,trivial⟩⟩,λ_=>⟨(),σ,trivial⟩⟩;have t1:=Á t1;have t2:=Á t2;rw [o t1,q t2];have S:((x.den:Int)*(y.den:Int))=((x.den*y.den:Nat):Int):=(Ś ..).symm;rw [S] at t2 ⊢;refine (ue _ _ t1 (by rwa [ĩ] at t2) (ō x.den_nz y.den_nz)).s ?_;rintro r V6 l6 s;rw [<-f] at s;obtain ⟨n,d,p,rfl⟩:=s.shape;exact ⟨_,_,_,rfl,λV7 T=>s.le T⟩};simp only [Value.agg.injEq,Qf8,œ,Value.int.injEq,Value.pointer.injEq,Î,Í] at g;obtain ⟨rfl,rfl,rfl⟩:=g;cases H};simp only [Value.agg.injEq,Qf8,œ,Value.int.injEq,Value.pointer.injEq,Î,Í] at ex;obtain ⟨rfl,rfl,rfl⟩:=ex;cases G};{have K:=I.m i;refine (il ra hk).s ?_;rintro r U t ⟨W,X,Y,rfl,Z⟩;refine qyK ⟨rfl,λeX dq=>(il ra hm).s ?_⟩;rintro r gQ eJ ⟨p2,n2,c2,rfl,g2⟩;refine qyK ⟨rfl,λji fk=>(jK _ _ ra ra).s ?_⟩;rintro r lH iL h;rw [aM,aM] at h;obtain ⟨p3,n3,c3,rfl,g3⟩:=h;refine qyK ⟨rfl,λmJ iE=>(gC ra hk).s ?_⟩;rintro r ko gV ⟨p4,n4,c4,rfl,g4⟩;refine ⟨_,_,_,rfl,λnk kf=>(gC ra hm).s ?_⟩;rintro r nq iF ⟨p5,n5,c5,rfl,g5⟩;refine ⟨_,_,_,rfl,λqM lD=>(jv ra ra).s ?_⟩;rintro r uJ kN ⟨p6,n6,c6,rfl,u⟩;rw [ag,ag] at u;refine ⟨_,_,_,rfl,λtM rI=>(dD _ ra ra ω).s ?_⟩;rintro r vO oX e;rw [aM,ag,<-f] at e;obtain ⟨n,d,p,rfl⟩:=e.shape;exact ⟨_,_,_,rfl,λvP z=>e.le z⟩};skip;refine (il ra hk).s ?_;rintro r U t ⟨W,X,Y,rfl,Z⟩;refine qyK ⟨rfl,λeX dq=>(il ra hm).s ?_⟩;rintro r gQ eJ ⟨p2,n2,c2,rfl,g2⟩;refine qyK ⟨rfl,λji fk=>(jK _ _ ra ra).s ?_⟩;rintro r lH iL h;rw [aM,aM] at h;obtain ⟨p3,n3,c3,rfl,g3⟩:=h;refine qyK ⟨rfl,λmJ iE=>(gC ra hk).s ?_⟩;rintro r ko gV ⟨p4,n4,c4,rfl,g4⟩;refine ⟨_,_,_,rfl,λnk kf=>(gC ra hm).s ?_⟩;rintro r nq iF ⟨p5,n5,c5,rfl,g5⟩;refine ⟨_,_,_,rfl,λqM lD=>(jv ra ra).s ?_⟩;rintro r uJ kN ⟨p6,n6,c6,rfl,u⟩;rw [ag,ag] at u;refine ⟨_,_,_,rfl,λtM rI=>(dD _ ra ra ω).s ?_⟩;rintro r vO oX e;rw [aM,ag,<-f] at e;obtain ⟨n,d,p,rfl⟩:=e.shape;exact ⟨_,_,_,rfl,λvP z=>e.le z⟩
def inv_neg (h:q.num<0):(q⁻¹).num=-(q.den:Int)/\(q⁻¹).den=q.num.natAbs:=by show (Rat.inv q).num=_/\(Rat.inv q).den=_;unfold Rat.inv;rw [dif_pos h];exact ⟨rfl,rfl⟩
def inv_pos {q:Rat}(h:0<q.num:=by omega):(q⁻¹).num=(q.den:Int)/\(q⁻¹).den=q.num.natAbs:=by show (Rat.inv q).num=_/\(Rat.inv q).den=_;unfold Rat.inv;rw [dif_neg ω,dif_pos h];exact ⟨rfl,rfl⟩
def inv_zero (h:q.num=0):q⁻¹=0:=by have:q=0:=š.1 h;subst this;exact Rat.inv_zero
def iG (h:Sz k q):Sz k q⁻¹:=by rcases Qr3 q.num 0 with a|a|a;{have ⟨b,c⟩:=inv_neg a;refine ⟨?_,?_⟩;{rw [b,Ũ];exact h.2};rw [c];exact h.1};{rw [inv_zero a];exact ⟨ĵ _,ş (Qg6 q.den_nz) h.2⟩};have ⟨b,c⟩:=inv_pos a;exact ⟨by rw [b];exact h.2,by rw [c];exact h.1⟩
def sz (h:Sz k q:=by (apply Sz.s;(focus repeat' first|assumption|apply Sz.add|apply Sz.sub|apply Sz.mul|apply Sz.neg|apply iG);omega)):Sz k q:=h
def PT (h:RR V v q)(Z:Sz k q)(hk:k<=2^40:=by omega):À 214 #[v] V λr W=>RR W r q⁻¹:=by rcases h with ⟨rfl,hw⟩|⟨a,b,p,n,c,o,s,t,rfl,y,z,A,B,E,hw⟩;{obtain ⟨l,m⟩:=hw;have F:=q.den_nz;refine uF V _ ⟨π,λ_=>⟨λg G H=>?_,λg=>⟨λj I J=>?_,λj K L=>?_⟩⟩⟩;{have g:=Á g;have ⟨f,i⟩:=inv_neg g;refine .inl ⟨?_,?_⟩;{rw [f,i,ay (x:=(q.den:Int)-1+1) ω,ay (x:=0-q.num) ω,ay (x:=0-((q.den:Int)-1+1)) ω,ay ω];congr 4;{omega};congr 1;omega};unfold Wd;rw [f,i,Ũ];exact ⟨m,l⟩};{have j:q.num=0:=by{simpa using j};rw [inv_zero j];exact .inl ⟨rfl,φ,φ⟩};have g:=Â g;have j:q.num≠0:=by{simpa using j};have ⟨f,i⟩:=inv_pos (q:=q);refine .inl ⟨?_,?_⟩;{rw [f,i,ay (x:=(q.den:Int)-1+1) ω,ay ω];congr 4;{omega};congr 1;omega};unfold Wd;rw [f,i];exact ⟨m,l⟩};obtain ⟨rfl,M⟩:=B.inv;have N:=ah Z.1;have O:=ah Z.2;refine uF V _ ⟨λ_=>⟨rfl,rfl,rfl,decide (q.num<0),⟨a.add 0,by simp [af,Addr.add],y⟩,rfl,rfl,o,s,t,⟨a.add 2,rfl,A⟩,rfl,rfl,rfl,p,n,c,⟨a.add 1,by simp [af,Addr.add],z⟩,λP Q=>(dD _ ra ra ω).s ?_⟩,λd=>nomatch d⟩;rintro r V2 R h;have e:mkRat (bO (decide (q.num<0)) (ai q.den)) (val (ai q.num.natAbs))=q⁻¹:=by{rw [ag];have C:bO (decide (q.num<0)) (ai q.den)=if q.num<0 then -(q.den:Int) else (q.den:Int):=by{unfold bO;rw [ag];by_cases g:q.num<0<;>simp [g]};rw [C];rcases Qr3 q.num 0 with d|d|d;{have ⟨f,i⟩:=inv_neg d;rw [Ä d,<-f,<-i,Qr7]};{rw [inv_zero d,d];simp};have ⟨f,i⟩:=inv_pos d;rw [Ã ω,<-f,<-i,Qr7]};rw [e] at h;obtain ⟨u,v,w,rfl⟩:=h.shape;exact ⟨_,_,_,rfl,λS D=>h.le D⟩
def Be (u:RR V v x)(z:RR V w y){k m:Nat}(E:Sz k x)(hm:Sz m y)(hkm:k+m<2^40):À 181 #[v,w] V λr W=>RR W r (x*y⁻¹):=by obtain ⟨c,d,e,rfl⟩:=u.shape;obtain ⟨f,s1,s2,rfl⟩:=z.shape;refine Fo V _ λh i=>(PT ra hm).s λr V2 j b=>RR.ex b λ_ b=>λl n=>(PU ra ra E (iG hm) hkm).s λr o p a=>RR.ex a λ_ a=>λq g=>a.le g
def kt (V:Ó)(v:Value)(x y:Rat):Prop:=∃(u z:Int)(p:OA)(E F:Int)(q:OA),v=.agg #[.int Ŵ u,.int Ŵ z,.pointer p,.int Ŵ E,.int Ŵ F,.pointer q] /\
 RR V (.agg #[.int Ŵ u,.int Ŵ z,.pointer p]) x/\RR V (.agg #[.int Ŵ E,.int Ŵ F,.pointer q]) y
def kt.le {V V':un}(h:kt V v x y)(l:V.Le V'):kt V' v x y:=by obtain ⟨a,b,p,c,d,q,e,g,f⟩:=h;exact ⟨a,b,p,c,d,q,e,ra,f.le l⟩
def kt.ex {r:um}{K:Int->Int->OA->Int->Int->OA->Prop}(g:kt V r x y)(h:∀t u:Int×Int×OA,kt V (hF #[Ô Ŵ t.1,Ô Ŵ t.2.1,qvJ t.2.2,Ô Ŵ u.1,Ô Ŵ u.2.1,qvJ u.2.2]) x y->RR V (hF #[Ô Ŵ t.1,Ô Ŵ t.2.1,qvJ t.2.2]) x->RR V (hF #[Ô Ŵ u.1,Ô Ŵ u.2.1,qvJ u.2.2]) y->K t.1 t.2.1 t.2.2 u.1 u.2.1 u.2.2):∃a b c d e f,r=hF #[Ô Ŵ a,Ô Ŵ b,qvJ c,Ô Ŵ d,Ô Ŵ e,qvJ f]/\K a b c d e f:=by obtain ⟨_,rfl,i,j⟩:=Ŷ g;exact qyJ ⟨rfl,h (_,_,_) (_,_,_) g i j⟩
def st {p:Prop}(h:p:=by repeat' (intro V l;first|exact RR.le ξ aA|refine (qyJ ⟨rfl,RR.le ξ aA,RR.le ξ aA⟩)|refine ⟨_,_,_,_,_,_,_,_,_,rfl,RR.le ξ aA,RR.le ξ aA,RR.le ξ aA⟩|(apply ae.s;(with_reducible first|apply H0 (k:=549755813887) (m:=549755813887)|apply PU (k:=549755813887) (m:=549755813887)|apply PV (k:=549755813887) (m:=549755813887)|apply Be (k:=549755813887) (m:=549755813887)|apply pz (k:=2^40));(any_goals exact RR.le ξ aA);(any_goals first|exact sz|decide);intro r W m g;refine RR.ex g λa h=>?_))):p:=h
def vV {q:um}(u:kt V p ir iu)(z:kt V q zV zW){k:Nat}(E:Sz k ir)(F:Sz k iu)(M:Sz k zV)(N:Sz k zW)(O:2*k+1<2^38):À 160 #[p,q] V λr W=>kt W r ((ir)+(zV)) ((iu)+(zW)):=by obtain ⟨_,rfl,_,_⟩:=Ŷ u;obtain ⟨_,rfl,_,_⟩:=Ŷ z;exact FC V _ st
def EE (u:Sz k ir)(z:Sz k iu)(E:Sz k zV)(F:Sz k zW):Sz (2*k+1) ((ir)+(zV)):=sz
def EF (u:Sz k ir)(z:Sz k iu)(E:Sz k zV)(F:Sz k zW):Sz (2*k+1) ((iu)+(zW)):=sz
def qW {c:um}{c_0:Rat}(u:kt V p ir iu)(z:RR V c c_0){k:Nat}(E:Sz k ir)(F:Sz k iu)(sc_0:Sz k c_0)(M:2*k+1<2^38):À 213 #[p,c] V λr W=>kt W r ((ir)*(c_0)) ((iu)*(c_0)):=by obtain ⟨_,rfl,_,_⟩:=Ŷ u;obtain ⟨_,_,_,rfl⟩:=z.shape;exact AK V _ st
def ES (u:kt V p ir iu)(z:Sz k ir)(E:Sz k iu)(F:1*k+1<2^38:=by omega):À 161 #[p] V λr W=>kt W r (-(iu)) (ir):=by obtain ⟨_,rfl,_,_⟩:=Ŷ u;exact D6 V _ st
def pG {q:um}(u:kt V p ir iu)(z:kt V q zV zW){k:Nat}(E:Sz k ir)(F:Sz k iu)(M:Sz k zV)(N:Sz k zW)(O:4*k+3<2^38):À 170 #[p,q] V λr W=>RR W r (((ir)*(zV))+((iu)*(zW))):=by obtain ⟨_,rfl,_,_⟩:=Ŷ u;obtain ⟨_,rfl,_,_⟩:=Ŷ z;exact FD V _ st
def sU {k:Nat}(u:Sz k ir)(z:Sz k iu)(E:Sz k zV)(F:Sz k zW):Sz (4*k+3) (((ir)*(zV))+((iu)*(zW))):=sz
def qV {q:um}(u:kt V p ir iu)(z:kt V q zV zW)(E:Sz k ir)(F:Sz k iu)(M:Sz k zV)(N:Sz k zW)(O:4*k+3<2^38:=by omega):À 158 #[p,q] V λr W=>RR W r (((ir)*(zW))-((iu)*(zV))):=by obtain ⟨_,rfl,_,_⟩:=Ŷ u;obtain ⟨_,rfl,_,_⟩:=Ŷ z;exact AJ V _ st
def oW (u:Sz k ir)(z:Sz k iu)(E:Sz k zV)(F:Sz k zW):Sz (4*k+3) (((ir)*(zW))-((iu)*(zV))):=sz
def pF (u:zz V l di l_1 gW){k:Nat}(z:Sz k di)(E:Sz k l_1)(F:Sz k gW)(M:1*k+1<2^38):À 166 #[l] V λr W=>kt W r (l_1) (-(di)):=by obtain ⟨_,rfl,_,_,_⟩:=ŷ u;exact FB V _ st
def kz (u:zz V l di l_1 gW){k:Nat}(z:Sz k di)(E:Sz k l_1)(F:Sz k gW)(M:1*k+1<2^38):À 169 #[l] V λr W=>kt W r (di) (l_1):=by obtain ⟨_,rfl,_,_,_⟩:=ŷ u;exact yY V _ st
def yj (u:zz V l di l_1 gW)(z:Sz k di)(E:Sz k l_1)(F:Sz k gW)(M:1*k+1<2^38):À 77 #[l] V λr W=>zz W r (-(di)) (-(l_1)) (-(gW)):=by obtain ⟨_,rfl,_,_,_⟩:=ŷ u;exact xM V _ st
def iO {p:Prop}(h:p:=by repeat' (intro V l;first|exact RR.le ξ aA|refine (qyJ ⟨rfl,RR.le ξ aA,RR.le ξ aA⟩)|(apply ae.s;(with_reducible first|apply H0 (k:=549755813887) (m:=549755813887)|apply Be (k:=549755813887) (m:=549755813887)|apply pz (k:=2^40)|apply vV (k:=137438953471)|apply qW (k:=137438953471)|apply pG (k:=68719476735)|apply pF (k:=274877906942)|apply kz (k:=274877906942)|apply_assumption);(any_goals first|exact RR.le ξ aA|exact kt.le ξ aA|exact zz.le ξ aA);(any_goals first|exact sz|decide);intro r W m g;(first|refine RR.ex g λa h=>?_|refine kt.ex g λa b h i j=>?_)))):p:=h
def qU (u:zz V l di l_1 gW)(z:kt V p ir iu){k:Nat}(E:Sz k di)(F:Sz k l_1)(M:Sz k gW)(N:Sz k ir)(O:Sz k iu)(Z:5*k+4<2^38:=by omega):À 179 #[l,p] V λr W=>RR W r ((((di)*(ir))+((l_1)*(iu)))+(gW)):=by obtain ⟨_,rfl,_,_,_⟩:=ŷ u;obtain ⟨_,rfl,_,_⟩:=Ŷ z;exact AH V _ iO
def oV {k:Nat}(u:Sz k di)(z:Sz k l_1)(E:Sz k gW)(F:Sz k ir)(M:Sz k iu):Sz (5*k+4) ((((di)*(ir))+((l_1)*(iu)))+(gW)):=sz
def EP (u:zz V l di l_1 gW)(z:Sz k di)(E:Sz k l_1)(F:Sz k gW)(M:10*k+9<2^38:=by omega):À 283 #[l] V λr W=>kt W r ((di)*((-(gW))*(((di)*(di))+((l_1)*(l_1)))⁻¹)) ((l_1)*((-(gW))*(((di)*(di))+((l_1)*(l_1)))⁻¹)):=by obtain ⟨_,rfl,_,_,_⟩:=ŷ u;exact D3 V _ iO
def qF (u:Sz k di)(z:Sz k l_1)(E:Sz k gW):Sz (10*k+9) ((di)*((-(gW))*(((di)*(di))+((l_1)*(l_1)))⁻¹)):=sz
def qG (u:Sz k di)(z:Sz k l_1)(E:Sz k gW):Sz (10*k+9) ((l_1)*((-(gW))*(((di)*(di))+((l_1)*(l_1)))⁻¹)):=sz
def F8 (u:Sz k di)(z:Sz k l_1)(E:Sz k gW)(st_0:Sz k Xx):Sz (20*k+19) (((di)*((-(gW))*(((di)*(di))+((l_1)*(l_1)))⁻¹))+((l_1)*(Xx))):=sz
def F9 (u:Sz k di)(z:Sz k l_1)(E:Sz k gW)(st_0:Sz k Xx):Sz (20*k+19) (((l_1)*((-(gW))*(((di)*(di))+((l_1)*(l_1)))⁻¹))+((-(di))*(Xx))):=sz
def B7 (u:zz V l di l_1 gW)(z:kt V p ir iu)(E:Sz k di)(F:Sz k l_1)(M:Sz k gW)(N:Sz k ir)(O:Sz k iu)(Z:8*k+7<2^38):À 114 #[l,p] V λr W=>RR W r ((((l_1)*(ir))+((-(di))*(iu)))*(((l_1)*(l_1))+((-(di))*(-(di))))⁻¹):=by obtain ⟨_,rfl,_,_,_⟩:=ŷ u;obtain ⟨_,rfl,_,_⟩:=Ŷ z;exact AG V _ iO
def zx (u:Sz k di)(z:Sz k l_1)(E:Sz k gW)(F:Sz k ir)(M:Sz k iu):Sz (8*k+7) ((((l_1)*(ir))+((-(di))*(iu)))*(((l_1)*(l_1))+((-(di))*(-(di))))⁻¹):=sz
def jx (hx:RQ V v x)(hy:RQ V w y)(hy0:y.num≠0){k m:Nat}(hk:Sz k x)(hm:Sz m y)(hkm:k+m<2^38):À 50 #[v,w] V λr W=>RQ W r (x*y⁻¹):=by obtain ⟨p,n,c,f,g,j,rfl,l,o⟩:=hx;obtain ⟨q,i,e,s,t,u,rfl,z,A⟩:=hy;have a:=iG hm;have O:=ah hk.1;have P:=ah hk.2;have Q:=ah hm.1;have R:=ah a.1;have d:(y⁻¹).num=(if decide (y.num<0)=true then -((y.den:Nat):Int) else ((y.den:Nat):Int))/\(y⁻¹).den=y.num.natAbs:=by{rcases Int.lt_or_gt_of_ne hy0 with h|h;{rw [Ä (Ç h)];exact inv_neg h};rw [Ã (λB=>by have:=Á B;omega)];exact inv_pos h};have b1:(x.num*(y⁻¹).num).natAbs<2^(k+m):=by{rw [Ń];exact cD hk.1 a.1};refine MM V _ λS T=>(dV y _ ra).s ?_;rintro r V2 U ⟨W,X,Y,rfl,Z⟩;refine ⟨_,_,_,rfl,λV3 l3=>(fO _ ra).s ?_⟩;rw [<-d.1];rintro r V4 l4 ⟨p4,n4,c4,rfl,g4⟩;refine qyK ⟨rfl,λV5 l5=>(oh x.num (y⁻¹).num ra ra).s ?_⟩;rintro r V6 l6 ⟨p6,n6,c6,rfl,g6⟩;refine qyK ⟨rfl,λV7 l7=>(dV x _ ra).s ?_⟩;rintro r V8 l8 ⟨p8,n8,c8,rfl,g8⟩;refine ⟨_,_,_,rfl,λV9 l9=>(dE ra ra).s ?_⟩;rintro r fD C ⟨D,E,F,rfl,b⟩;rw [ag,ag,<-d.2] at b;refine ⟨_,_,_,rfl,λeX dq=>(lO _ ra ra (ÿ (ah b1) ω) (ÿ (ah (cD hk.2 a.2)) ω) (ō x.den_nz (y⁻¹).den_nz)).s ?_⟩;rw [(Wj9 x y⁻¹)];rintro r vO oX ⟨G,H,I,J,K,L,rfl,M,N⟩;exact qxQ ⟨rfl,λvP oY=>⟨_,_,_,_,_,_,rfl,ra,ra⟩⟩
def R3 (z:Int){p:OA}(h:RD V p n c (ai z.natAbs)):À 46 #[hF #[dB (decide (z<0)),yG p n c]] V λr W=>RQ W r (z:Rat):=
 PC V _ λa b=>uA (z:=z) (d:=1) rfl rfl ra RD.nil rfl
def lP (h:RQ V v q){k:Nat}(_s:Sz k q)(_hk:k<=2^40):À 16 #[v] V λr W=>RQ W r (-q):=by obtain ⟨p,n,c,d,e,f,rfl,a,b⟩:=h;exact oq q a b
def cw {z:Int}{p:OA}(h:RD V p n c (ai z.natAbs)){k:Nat}(_s:Sz k (z:Rat))(_hk:k<=2^40):À 46 #[hF #[dB (decide (z<0)),yG p n c]] V λr W=>RQ W r (z:Rat):=R3 z h
def sr {p:Prop}(h:p:=by repeat' (intro V l;first|exact RQ.le ξ aA|refine (wqQ ⟨rfl,RQ.le ξ aA,RQ.le ξ aA⟩)|(apply ae.s;(with_reducible first|apply eF (k:=137438953471) (m:=137438953471)|apply bK (k:=137438953471) (m:=137438953471)|apply jx (k:=137438953471) (m:=137438953471)|apply lP (k:=2^40)|apply cw (k:=2^40));(any_goals first|with_reducible assumption|exact RQ.le ξ aA|exact RD.le ξ aA|exact RP.le ξ aA|exact RL.le ξ aA);(any_goals first|exact sz|decide);intro r W m g;(first|refine RQ.ex g λa h=>?_|refine RP.ex g λa b h i j=>?_)))):p:=h
def fQ {di l_1 gW:Int}(u:RL V l di l_1 gW){k:Nat}(z:Sz k ((di:Int):Rat))(E:Sz k ((l_1:Int):Rat))(F:Sz k ((gW:Int):Rat))(M:1*k+1<2^38):À 14 #[l] V λr W=>RP W r ((l_1:Int):Rat) (-((di:Int):Rat)):=by obtain ⟨_,rfl,_,_,_⟩:=ŷ u;exact JK V _ sr
def Kw {q:um}(u:RP V p ir iu)(z:RP V q zV zW){k:Nat}(E:Sz k ir)(F:Sz k iu)(M:Sz k zV)(N:Sz k zW)(O:4*k+3<2^38):À 91 #[p,q] V λr W=>RQ W r (((ir)*(zV))+((iu)*(zW))):=by obtain ⟨_,rfl,_,_⟩:=Ÿ u;obtain ⟨_,rfl,_,_⟩:=Ÿ z;exact JL V _ sr
def jO {di l_1 gW:Int}(u:RL V l di l_1 gW)(z:RP V p ir iu){k:Nat}(E:Sz k ((di:Int):Rat))(F:Sz k ((l_1:Int):Rat))(M:Sz k ((gW:Int):Rat))(N:Sz k ir)(O:Sz k iu)(Z:8*k+8<2^38:=by omega):À 47 #[l,p] V λr W=>RQ W r (((((di:Int):Rat)*(ir))+(((l_1:Int):Rat)*(iu)))+((gW:Int):Rat)):=by obtain ⟨_,rfl,_,_,_⟩:=ŷ u;obtain ⟨_,rfl,_,_⟩:=Ÿ z;exact Ep V _ sr
def sr2 {p:Prop}(h:p:=by repeat' (intro V l;first|exact RQ.le ξ aA|refine (wqQ ⟨rfl,RQ.le ξ aA,RQ.le ξ aA⟩)|(apply ae.s;(with_reducible first|apply eF (k:=137438953471) (m:=137438953471)|apply bK (k:=137438953471) (m:=137438953471)|apply jx (k:=137438953471) (m:=137438953471)|apply lP (k:=2^40)|apply cw (k:=2^40)|apply fQ (k:=274877906942)|apply Kw (k:=68719476735)|apply fP (k:=130000000000) (m:=70000000000));(any_goals first|with_reducible assumption|exact RQ.le ξ aA|exact RD.le ξ aA|exact RP.le ξ aA|exact RL.le ξ aA);(any_goals first|exact sz|decide);intro r W m g;(first|refine RQ.ex g λa h=>?_|refine RP.ex g λa b h i j=>?_)))):p:=h
def E0 {di l_1 gW:Int}(u:RL V l di l_1 gW)(z:RP V p ir iu)(E:((((l_1:Int):Rat)*((l_1:Int):Rat))+((-((di:Int):Rat))*(-((di:Int):Rat)))).num≠0)(F:Sz k ((di:Int):Rat))(M:Sz k ((l_1:Int):Rat))(N:Sz k ((gW:Int):Rat))(O:Sz k ir)(Z:Sz k iu)(hk:8*k+7<2^38):À 229 #[l,p] V λr W=>RQ W r ((((ir)*((l_1:Int):Rat))+((iu)*(-((di:Int):Rat))))*((((l_1:Int):Rat)*((l_1:Int):Rat))+((-((di:Int):Rat))*(-((di:Int):Rat))))⁻¹):=by obtain ⟨_,rfl,_,_,_⟩:=ŷ u;obtain ⟨_,rfl,_,_⟩:=Ÿ z;exact En V _ sr2
def vX {di l_1 gW:Int}(u:RL V l di l_1 gW)(z:((((l_1:Int):Rat)*((l_1:Int):Rat))+((-((di:Int):Rat))*(-((di:Int):Rat)))).num≠0){k:Nat}(E:Sz k ((di:Int):Rat))(F:Sz k ((l_1:Int):Rat))(M:Sz k ((gW:Int):Rat))(N:10*k+8<2^38:=by omega):À 37 #[l] V λr W=>RP W r ((-(((gW:Int):Rat)*((((l_1:Int):Rat)*((l_1:Int):Rat))+((-((di:Int):Rat))*(-((di:Int):Rat))))⁻¹))*((di:Int):Rat)) ((-(((gW:Int):Rat)*((((l_1:Int):Rat)*((l_1:Int):Rat))+((-((di:Int):Rat))*(-((di:Int):Rat))))⁻¹))*((l_1:Int):Rat)):=by obtain ⟨_,rfl,_,_,_⟩:=ŷ u;exact FM V _ sr2
def NO {di l_1 gW:Int}{t:um}(z:RL V l di l_1 gW)(E:RQ V t Xx)(u:((((l_1:Int):Rat)*((l_1:Int):Rat))+((-((di:Int):Rat))*(-((di:Int):Rat)))).num≠0)(F:Sz k ((di:Int):Rat))(M:Sz k ((l_1:Int):Rat))(N:Sz k ((gW:Int):Rat))(st_0:Sz k Xx)(O:18*k+16<2^38):À 10 #[l,t] V λr W=>RP W r (((-(((gW:Int):Rat)*((((l_1:Int):Rat)*((l_1:Int):Rat))+((-((di:Int):Rat))*(-((di:Int):Rat))))⁻¹))*((di:Int):Rat))+(Xx)*((l_1:Int):Rat)) (((-(((gW:Int):Rat)*((((l_1:Int):Rat)*((l_1:Int):Rat))+((-((di:Int):Rat))*(-((di:Int):Rat))))⁻¹))*((l_1:Int):Rat))+(Xx)*(-((di:Int):Rat))):=by obtain ⟨_,rfl,_,_,_⟩:=ŷ z;obtain ⟨_,rfl⟩:=Ŷ E.shape;refine MV V _ λc d=>(vX (k:=27487790692) ra u sz sz sz φ).s λr W m g=>RP.ex g λa b h i j=>?_;exact sr2
def RA.shape (h:RA V v q):∃b p n c u n' z,v=hF #[dB b,yG p n c,yG u n' z]:=by obtain ⟨p,n,c,u,n',z,e,-⟩:=h;exact qxQ e
def Tq (V:Ó)(v:Value)(x y:Rat):Prop:=∃b p n c u n' z d q m e E F M,v=.agg #[.bool b,.slice p n c,.slice u n' z,.bool d,.slice q m e,.slice E F M] /\
 RA V (.agg #[.bool b,.slice p n c,.slice u n' z]) x/\RA V (.agg #[.bool d,.slice q m e,.slice E F M]) y
def Tq.le {V V':un}(h:Tq V v x y)(l:V.Le V'):Tq V' v x y:=by obtain ⟨b,p,n,c,a,f,g,d,q,m,e,i,j,k,rfl,o,r⟩:=h;exact qxW ⟨rfl,ra,ra⟩
def B8 (h:Tq V v x y)(s1:Sz k x)(s2:Sz k y)(M:k<=2^40:=by omega):À 44 #[v] V λr W=>kt W r x y:=by obtain ⟨b,p,n,c,g,i,j,d,q,m,e,l,o,s,rfl,t,u⟩:=h;refine MA V _ λw z=>(Gt ra s1 M).s λr V2 A a=>RR.ex a λ_ a=>λB C=>(Gt ra s2 M).s λr D E f=>RR.ex f λ_ f=>λF G=>⟨_,_,_,_,_,_,rfl,ra,ra⟩
def ER (F:zz V l di l_1 gW)(M:kt V p ir iu)(N:Sz k di)(s1:Sz k l_1)(s2:Sz k gW)(s3:Sz k ir)(s4:Sz k iu)(O:16*k+16<2^38):À 112 #[l,p] V λr W=>r=Ô Ŵ (di*ir+l_1*iu+gW).num.sign:=by have b:=F;have c:=M;obtain ⟨d,e,f,g,h,i,j,m,n,rfl,-,-,-⟩:=F;obtain ⟨o,q,s,t,u,v,rfl,-,-⟩:=M;refine D5 V _ λw x=>(qU ra ra N s1 s2 s3 s4).s λr V2 y a=>RR.ex a λ_ a=>λz A=>(eO ra (oV N s1 s2 s3 s4)).s ?_;rintro r B C rfl;exact ⟨_,rfl,λD E=>rfl⟩
def qY (h:RQ V v q)(s:Sz k q)(Z:k<=2^40:=by omega):À 45 #[v] V λr W=>RA W r q:=by obtain ⟨p,n,c,a,b,d,rfl,e,f⟩:=h;have g:=ah s.1;have i:=ah s.2;refine JH V _ λj l=>(mL ⟨_,_,_,rfl,ra⟩).s ?_;rintro r V2 m ⟨o,t,u,rfl,w⟩;refine qyK ⟨rfl,λx y=>(dV q _ ra).s ?_⟩;rintro r z A ⟨B,C,D,rfl,E⟩;refine ⟨_,_,_,rfl,λF G=>(zG ra).s ?_⟩;rintro r H I ⟨J,K,L,rfl,M⟩;exact ⟨_,_,_,rfl,λN O=>⟨_,_,_,_,_,_,rfl,ra,ra⟩⟩
def j8 (h:RP V v x y)(s1:Sz k x)(s2:Sz k y)(F:k<=2^40:=by omega):À 13 #[v] V λr W=>Tq W r x y:=by obtain ⟨a,b,c,d,e,f,g,i,j,l,m,n,rfl,q,s⟩:=h;refine JQ V _ λt u=>(qY ra s1 F).s ?_;rintro r V2 w o;obtain ⟨_,_,_,_,_,_,_,rfl⟩:=o.shape;refine qxQ ⟨rfl,λz A=>(qY ra s2 F).s ?_⟩;rintro r B C p;obtain ⟨_,_,_,_,_,_,_,rfl⟩:=p.shape;exact qxQ ⟨rfl,λD E=>⟨_,_,_,_,_,_,_,_,_,_,_,_,_,_,rfl,ra,ra⟩⟩
def EV (M:RA V v x)(N:RA V w y)(s:Sz k x)(O:k<=2^40:=by omega):À 151 #[v,w] V λr W=>r=dB (decide (x=y)):=by obtain ⟨p,n,c,f,i,j,rfl,l,o⟩:=M;obtain ⟨q,m,e,t,u,z,rfl,A,B⟩:=N;have C:=ah s.1;have D:=ah s.2;refine Ei V _ λE a=>(jL (l.le a) (A.le a)).s ?_;rintro r V2 b rfl;refine ⟨_,rfl,λg F d=>(uf (o.le (a.m (b.m d))) (B.le (a.m (b.m d)))).s ?_,λg G H=>?_⟩;{have g:=Á g;rintro r I J rfl;refine ⟨_,rfl,λK L=>?_⟩;have e:ai x.den=ai y.den↔x=y:=⟨λh=>Rat.ext g (by have:=Æ val h;rwa [ag,ag] at this),λh=>by rw [h]⟩;rw [show decide (ai x.den=ai y.den)=decide (x=y) from by rw [É];exact e]};have g:=Â g;rw [È (λh=>g (by rw [h]))]
def num_mul {r:Rat}{f:Nat}(u:f≠0)(h:r*((f:Nat):Int)=(a:Rat)):r.num*f=a*r.den:=by rw [<-Qr7 r,<-Qh7 f,<-Qh7 a,Wx8,Wj0 (by simpa using r.den_nz) ω] at h;simpa using h
def CB {r s:Rat}{f:Nat}{b:Int}(u:f≠0)(z:r*((f:Nat):Int)=(a:Rat))(E:s*((f:Nat):Int)=(b:Rat)):eW r s*((f:Nat):Int)=(((Nat.gcd a.natAbs b.natAbs:Nat):Int):Rat):=by have c:r.num.natAbs*f=a.natAbs*r.den:=by{have:=Æ Int.natAbs (num_mul u z);rwa [Ń,Ń,ĩ,ĩ] at this};have d:s.num.natAbs*f=b.natAbs*s.den:=by{have:=Æ Int.natAbs (num_mul u E);rwa [Ń,Ń,ĩ,ĩ] at this};have e:Nat.gcd (r.num.natAbs*s.den) (s.num.natAbs*r.den)*f=Nat.gcd a.natAbs b.natAbs*(r.den*s.den):=by{rw [<-Nat.gcd_mul_right,<-Nat.gcd_mul_right];congr 1;{rw [Nat.mul_right_comm,c,ņ]};rw [Nat.mul_right_comm,d,ņ,ļ s.den]};unfold eW;rw [<-Qh7 ((f:Nat):Int),Wx8,<-Qh7 ((Nat.gcd a.natAbs b.natAbs:Nat):Int),Wj0 (by simpa using ō r.den_nz s.den_nz) ω];have:=Æ (Nat.cast (R:=Int)) e;simpa using this
theorem rP (q:Rat)(m:Nat):q*(((q.den*m:Nat):Int):Rat)=((q.num*m:Int):Rat):=by have e:q*(((q.den:Nat):Int):Rat)=((q.num:Int):Rat):=by{have h:=q.den_nz;have a:mkRat q.num q.den*mkRat ((q.den:Nat):Int) 1=mkRat q.num 1:=by{grind [Rat.mkRat_mul_mkRat,Rat.mkRat_eq_iff]};grind [Rat.mkRat_self,Rat.mkRat_one]};rw [Ś,Qg0,<-Wk3,e,<-Qg0]
theorem Ix {g:Nat}(u:g≠0)(h:(g:Int)∣a):((a/(g:Int):Int):Rat)=(a:Rat)/((g:Int):Rat):=by obtain ⟨k,rfl⟩:=h;have b:((g:Int):Rat)≠0:=by{exact_mod_cast u};rw [Qh3 _ ω,Qg0,Rat.div_def,Wv2 ((g:Int):Rat),Wk3,Qm1 _ b,Rat.mul_one]
def C5 (a b c:Rat):L3:=
 let f:Nat:=a.den*b.den*c.den
 CU (a*((f:Int):Rat)).num (b*((f:Int):Rat)).num (c*((f:Int):Rat)).num
theorem tv {a b c:Rat}(h:¬(a=0/\b=0)):let g:=eW (eW a b) c
  g≠0/\a*g⁻¹=((C5 a b c).1:Rat)/\b*g⁻¹=((C5 a b c).2.1:Rat)/\c*g⁻¹=((C5 a b c).2.2:Rat):=by intro g;have m:=ō (ō a.den_nz b.den_nz) c.den_nz;have i:a*(((a.den*b.den*c.den:Nat):Int):Rat)=((a.num*(b.den*c.den:Nat):Int):Rat):=by{rw [ņ,rP]};have j:b*(((a.den*b.den*c.den:Nat):Int):Rat)=((b.num*(a.den*c.den:Nat):Int):Rat):=by{rw [ļ a.den,ņ,rP]};have k:c*(((a.den*b.den*c.den:Nat):Int):Rat)=((c.num*(a.den*b.den:Nat):Int):Rat):=by{rw [ļ (a.den*b.den),rP]};have hm:C5 a b c=CU (a.num*(b.den*c.den:Nat)) (b.num*(a.den*c.den:Nat)) (c.num*(a.den*b.den:Nat)):=by{unfold C5;dsimp only;rw [i,j,k,Qh5,Qh5,Qh5]};have d:=CB m (CB m i j) k;rw [hm];have s:a.num*(b.den*c.den:Nat)=0↔a=0:=by{grind [Int.mul_eq_zero,Rat.num_eq_zero]};have t:b.num*(a.den*c.den:Nat)=0↔b=0:=by{grind [Int.mul_eq_zero,Rat.num_eq_zero]};generalize a.num*(b.den*c.den:Nat)=A at *;generalize b.num*(a.den*c.den:Nat)=B at *;generalize c.num*(a.den*b.den:Nat)=C at *;generalize a.den*b.den*c.den=f at *;have n:Nat.gcd ((Nat.gcd A.natAbs B.natAbs:Nat):Int).natAbs C.natAbs=cj A B C:=by{unfold cj;rw [ĩ]};rw [n] at d;change g*((f:Int):Rat)=_ at d;have o:cj A B C≠0:=by{intro e;have:=Qh8.1 e;grind};have l:((cj A B C:Int):Rat)≠0:=by{exact_mod_cast o};have p:g≠0:=by{intro e;rw [e,Rat.zero_mul] at d;exact l d.symm};have q:((cj A B C:Nat):Int)∣A:=Qp7.1 (by rw [ĩ];exact Qt1 (Ņ _ _) (Ņ _ _));have r:((cj A B C:Nat):Int)∣B:=Qp7.1 (by rw [ĩ];exact Qt1 (Ņ _ _) (Ţ _ _));have dC:((cj A B C:Nat):Int)∣C:=Qp7.1 (by rw [ĩ];exact Ţ _ _);have key:∀{x:Rat} {X:Int},x*((f:Int):Rat)=(X:Rat)->((cj A B C:Nat):Int)∣X->x*g⁻¹=((X/(cj A B C:Int):Int):Rat):=by{grind [Ix]};exact ⟨p,key i q,key j r,key k dC⟩
theorem Y3 {a b c:Rat}(h:¬(a=0/\b=0)):¬((C5 a b c).1=0/\(C5 a b c).2.1=0):=by obtain ⟨i,d,e,-⟩:=tv (c:=c) h;rintro ⟨f,g⟩;rw [f] at d;rw [g] at e;grind
def B_ (n:Int)(d:Nat)(F:-1000<=n)(M:n<=1000)(E:d≠0)(N:d<=1000:=by omega):À 109 #[Ô Ŵ n,Ô Ŵ (d:Int)] V λr W=>RQ W r (mkRat n d):=by refine MN V _ λl o=>(Gy n ω).s ?_;rintro r V2 q ⟨p,m,c,rfl,g⟩;rw [bw ω];refine qyK ⟨rfl,λs b=>(fg d).s ?_⟩;rintro r t e ⟨u,v,w,rfl,f⟩;refine ⟨_,_,_,rfl,λx a=>(lO n (g.le (b.m (e.m a))) (f.le a) (ÿ (ah (k:=10)) ω) (ÿ (ah (k:=10)) ω) E).s ?_⟩;rintro r y z h;have i:=h;obtain ⟨_,rfl⟩:=Ŷ h.shape;exact qxQ ⟨rfl,λA j=>i.le j⟩
def ZM:∀x:Fin 9,Sz 10 (mkRat (2*((x.1:Int)-4)+1) 2)/\Sz 10 (mkRat (3*((x.1:Int)-4)+1) 3):=by unfold Sz;decide +kernel
def c_Q {V:un}{tb:Nat}{p:OA}{at_:Int}(Z:JV V p n)(hn:n<=400)(hw:gY V tb p n c at_)(hx:V.X tb)(h0:0<=at_):À 56 #[qvJ (some ⟨tb,0,none⟩)] V λr W=>∃(q:Rat)(at':Int),RQ W r q/\Sz 10 q/\0<=at'/\gY W tb p n c at':=by refine A7 tb p n c at_ V _ hw hx λw l g z A=>(eE (V:=w.au [g]) 9 (Z.le λb o h=>l b o h) hn z ⟨ψ,A⟩ h0 ω).s ?_;rintro r V2 B ⟨x,K,rfl,L,M,t1,j⟩;refine ⟨_,rfl,_,_,_,_,j,λC D E F G=>(eE (V:=C.au [E]) 6 (Z.le λb o h=>D b o (B b o (l b o h))) hn F ⟨ψ,G⟩ t1 ω).s ?_⟩;rintro r N O ⟨y,a,rfl,P,Q,t2,k⟩;obtain ⟨i,rfl⟩:∃i:Nat,x=i:=⟨x.toNat,ω⟩;have ⟨m,s⟩:=ZM ⟨i,ω⟩;dsimp only at m s;have H:Ŵ.wrap ((i:Int)-4)=(i:Int)-4:=ay ω;have I:Ŵ.wrap (Ŵ.wrap (2*((i:Int)-4))+1)=2*((i:Int)-4)+1:=by{rw [ay (x:=2*((i:Int)-4)) ω,ay ω]};have J:Ŵ.wrap (Ŵ.wrap (3*((i:Int)-4))+1)=3*((i:Int)-4)+1:=by{rw [ay (x:=3*((i:Int)-4)) ω,ay ω]};rw [H,I,J];refine ⟨_,rfl,_,_,_,_,k,λ_ R S=>(B_ (2*((i:Int)-4)+1) 2 ω ω ω).s ?_,λ_=>⟨λ_ T U=>(B_ (3*((i:Int)-4)+1) 3 ω ω ω).s ?_,λ_ W Y=>(dN ((i:Int)-4) ω).s ?_⟩⟩;{rintro r t u h;have d:=h;obtain ⟨_,rfl⟩:=Ŷ h.shape;exact qxQ ⟨rfl,λv e f=>⟨_,a,d.le e,m,t2,f⟩⟩};{rintro r t u h;have d:=h;obtain ⟨_,rfl⟩:=Ŷ h.shape;exact qxQ ⟨rfl,λv e f=>⟨_,a,d.le e,s,t2,f⟩⟩};rintro r t u h;have d:=h;obtain ⟨_,rfl⟩:=Ŷ h.shape;exact qxQ ⟨rfl,λv e f=>⟨_,a,d.le e,Fj,t2,f⟩⟩
def X4 {V:un}{tb:Nat}{p:OA}{at_:Int}(hr:JV V p n)(hn:n<=400)(hw:gY V tb p n c at_)(hx:V.X tb)(h0:0<=at_):À 54 #[qvJ (some ⟨tb,0,none⟩)] V λr W=>∃(x y:Rat)(at':Int),RP W r x y/\Sz 10 x/\Sz 10 y/\0<=at'/\gY W tb p n c at':=by refine tZ tb p n c at_ V _ hw hx λw t d z A=>(c_Q (V:=w.au [d]) (hr.le λb o h=>t b o h) hn z ⟨ψ,A⟩ h0).s ?_;rintro r V2 B ⟨x,L,C,D,t1,e⟩;obtain ⟨M,N,O,P,Q,R,rfl,f,g⟩:=C;refine qxQ ⟨rfl,_,_,_,_,e,λE u i F G=>(c_Q (V:=E.au [i]) (hr.le λb o h=>u b o (B b o (t b o h))) hn F ⟨ψ,G⟩ t1).s ?_⟩;rintro r H I ⟨y,j,k,J,t2,l⟩;obtain ⟨S,T,U,W,Y,Z,rfl,m,q⟩:=k;have v:∀{s:un},H.shut.Le s->V2.Le s:=λa b o h=>a b o (I b o (u b o h));exact qxQ ⟨rfl,_,_,_,_,l,λs a K=>⟨x,y,j,⟨_,_,_,_,_,_,_,_,_,_,_,_,rfl,⟨_,_,_,_,_,_,rfl,f.le (v a),g.le (v a)⟩,⟨_,_,_,_,_,_,rfl,m.le λb o h=>a b o h,q.le λb o h=>a b o h⟩⟩,D,J,t2,K⟩⟩
def H7 {di l_1 gW:Int}(Z:RL V l di l_1 gW)(hp:RP V p ir iu)(s0:Sz k ((di:Int):Rat))(s1:Sz k ((l_1:Int):Rat))(s2:Sz k ((gW:Int):Rat))(s3:Sz k ir)(s4:Sz k iu)(hk:16*k+16<2^38):À 49 #[l,p] V λr W=>r=Ô Ŵ ((di:Rat)*ir+(l_1:Rat)*iu+(gW:Rat)).num.sign:=by have c:=Z;have d:=hp;obtain ⟨e,f,g,h,i,j,m,n,o,rfl,-,-,-⟩:=Z;obtain ⟨q,s,t,u,v,w,x,y,z,A,a,b,rfl,-,-⟩:=hp;refine FQ V _ λB C=>(jO ra ra s0 s1 s2 s3 s4).s ?_;rintro r V2 D ⟨E,F,G,H,I,J,rfl,K,L⟩;refine qxQ ⟨rfl,λM N=>(sW _ ra).s ?_⟩;rintro r O P rfl;exact ⟨_,rfl,λQ R=>rfl⟩
def j7 {a b c:Int}(Z:RL V l a b c):À 67 #[l] V λr W=>RL W r (-a) (-b) (-c):=by obtain ⟨d,e,f,g,h,i,j,k,m,rfl,n,o,p⟩:=Z;refine JN V _ λq s=>(jZ a ra).s ?_;rintro r V2 t ⟨u,v,w,rfl,x⟩;refine qyK ⟨rfl,λy z=>(jZ b ra).s ?_⟩;rintro r A B ⟨C,D,E,rfl,F⟩;refine qyK ⟨rfl,λG H=>(jZ c ra).s ?_⟩;rintro r I J ⟨K,L,M,rfl,N⟩;exact qyK ⟨rfl,λO P=>⟨_,_,_,_,_,_,_,_,_,rfl,ra,ra,ra⟩⟩
end Go.Proofs.Tryz
namespace Go.Eng
def RR.zero (V:un):RR V (hF #[Ô Ŵ 0,Ô Ŵ 0,qvJ none]) 0:=.inl ⟨rfl,by unfold Wd;decide⟩
end Go.Eng
namespace Go.Proofs.Tryz
structure Sp where
 lo:Rat
 hi:Rat
 a:Bool
 b:Bool
def Sp.can (s:Sp):Prop:=(s.a=true->s.lo=0)/\(s.b=true->s.hi=0)
def Sp.sz (k:Nat)(s:Sp):Prop:=Sz k s.lo/\Sz k s.hi
def Sp.zero:Sp:=⟨0,0,false,false⟩
variable{v:Value}{s:Sp}{l:L3}{V:Ó}
def jg (k:Nat)(l:L3):Prop:=Sz k (l.1:Rat)/\Sz k (l.2.1:Rat)/\Sz k (l.2.2:Rat)
def kn (V:Ó)(v:Value)(s:Sp):Prop:=∃(u z:Int)(p:OA)(E F:Int)(q:OA),v=.agg #[.int Ŵ u,.int Ŵ z,.pointer p,.int Ŵ E,.int Ŵ F,.pointer q,.bool s.a,.bool s.b] /\
 RR V (.agg #[.int Ŵ u,.int Ŵ z,.pointer p]) s.lo/\RR V (.agg #[.int Ŵ E,.int Ŵ F,.pointer q]) s.hi
def kn.le {V V':un}(h:kn V v s)(l:V.Le V'):kn V' v s:=by obtain ⟨a,b,p,c,d,q,e,f,g⟩:=h;exact ⟨a,b,p,c,d,q,e,ra,ra⟩
def vQ (V:Ó)(v:Value)(l:L3):Prop:=zz V v (l.1:Rat) (l.2.1:Rat) (l.2.2:Rat)
def vQ.le {V V':un}(h:vQ V v l)(e:V.Le V'):vQ V' v l:=zz.le h e
def BG (V:Ó)(v:Value)(l:L3)(s:Sp):Prop:=∃(u z:Int)(p:OA)(E F:Int)(q:OA)(M N:Int)(r:OA)(u1 u2:Int)(t:OA)(O Z:Int)(o:OA),
 v=.agg #[.int Ŵ u,.int Ŵ z,.pointer p,.int Ŵ E,.int Ŵ F,.pointer q,.int Ŵ M,.int Ŵ N,.pointer r,.int Ŵ u1,.int Ŵ u2,.pointer t,.int Ŵ O,.int Ŵ Z,.pointer o,.bool s.a,.bool s.b] /\
 vQ V (.agg #[.int Ŵ u,.int Ŵ z,.pointer p,.int Ŵ E,.int Ŵ F,.pointer q,.int Ŵ M,.int Ŵ N,.pointer r]) l /\
 kn V (.agg #[.int Ŵ u1,.int Ŵ u2,.pointer t,.int Ŵ O,.int Ŵ Z,.pointer o,.bool s.a,.bool s.b]) s
def BG.le {V V':un}(h:BG V v l s)(e:V.Le V'):BG V' v l s:=by obtain ⟨a,b,p,c,d,q,f,g,r,i,j,t,k,m,o,rfl,n,u⟩:=h;exact ⟨a,b,p,c,d,q,f,g,r,i,j,t,k,m,o,rfl,n.le e,u.le e⟩
def Rj (V:Ó)(v:Value)(b:Bool)(xs ys:List Nat):Prop:=∃p n c u n' z,v=.agg #[.bool b,.slice p n c,.slice u n' z]/\RD V p n c xs/\RD V u n' z ys
def Rj.le {V V':un}{b:ut}{xs ys:zA Nat}(h:Rj V v b xs ys)(l:V.Le V'):Rj V' v b xs ys:=by obtain ⟨p,n,c,a,d,f,e,g,i⟩:=h;exact ⟨p,n,c,a,d,f,e,ra,ra⟩
def Rj.nil:Rj V (hF #[dB false,yG none 0 0,yG none 0 0]) false [] []:=qyJ ⟨rfl,RD.nil,RD.nil⟩
def RE (V:Ó)(v:Value)(q:Rat)(no:Bool):Prop:=(no=true->Rj V v false [] [])/\(no=false->RA V v q)
def RE.le {V V':un}{q:Rat}{no:ut}(h:RE V v q no)(l:V.Le V'):RE V' v q no:=⟨λe=>(h.1 e).le l,λe=>(h.2 e).le l⟩
def RSp (V:Ó)(v:Value)(s:Sp):Prop:=∃b p n c u n' z d q m e E F M,v=.agg #[.bool b,.slice p n c,.slice u n' z,.bool d,.slice q m e,.slice E F M,.bool s.a,.bool s.b] /\
 RE V (.agg #[.bool b,.slice p n c,.slice u n' z]) s.lo s.a/\RE V (.agg #[.bool d,.slice q m e,.slice E F M]) s.hi s.b
def RSp.le {V V':un}(h:RSp V v s)(l:V.Le V'):RSp V' v s:=by obtain ⟨b,p,n,c,a,f,g,d,q,m,e,i,j,k,rfl,o,r⟩:=h;exact qxW ⟨rfl,ra,ra⟩
def Xk (V:Ó)(v:Value)(l:L3)(s:Sp):Prop:=∃b1 u z c1 b2 E F M b3 N O Z b p n c p' n' c' d q m e q' m' e',
 v=.agg #[.bool b1,.slice u z c1,.bool b2,.slice E F M,.bool b3,.slice N O Z,.bool b,.slice p n c,.slice p' n' c',.bool d,.slice q m e,.slice q' m' e',.bool s.a,.bool s.b] /\
 RL V (.agg #[.bool b1,.slice u z c1,.bool b2,.slice E F M,.bool b3,.slice N O Z]) l.1 l.2.1 l.2.2/\RSp V (.agg #[.bool b,.slice p n c,.slice p' n' c',.bool d,.slice q m e,.slice q' m' e',.bool s.a,.bool s.b]) s
def Xk.le {V V':un}(h:Xk V v l s)(e:V.Le V'):Xk V' v l s:=by obtain ⟨b1,i,j,k,b2,o,r,t,b3,u,w,x,b,p,n,c,y,z,A,d,q,m,f,B,C,D,rfl,a,g⟩:=h;exact ⟨_,_,_,_,_,_,_,_,_,_,_,_,_,_,_,_,_,_,_,_,_,_,_,_,_,_,rfl,a.le e,g.le e⟩
def t_ (V:Ó)(v:Value)(s:Sp):Prop:=∃b p n c u n' z d q m e E F M,v=.agg #[.bool b,.slice p n c,.slice u n' z,.bool d,.slice q m e,.slice E F M,.bool s.a,.bool s.b] /\
 RQ V (.agg #[.bool b,.slice p n c,.slice u n' z]) s.lo/\RQ V (.agg #[.bool d,.slice q m e,.slice E F M]) s.hi
def t_.le {V V':un}(h:t_ V v s)(l:V.Le V'):t_ V' v s:=by obtain ⟨b,p,n,c,a,f,g,d,q,m,e,i,j,k,rfl,o,r⟩:=h;exact qxW ⟨rfl,ra,ra⟩
def RF (V:Ó)(v:Value)(l:L3)(s:Sp):Prop:=∃b1 u z c1 b2 E F M b3 N O Z b p n c p' n' c' d q m e q' m' e',
 v=.agg #[.bool b1,.slice u z c1,.bool b2,.slice E F M,.bool b3,.slice N O Z,.bool b,.slice p n c,.slice p' n' c',.bool d,.slice q m e,.slice q' m' e',.bool s.a,.bool s.b] /\
 RL V (.agg #[.bool b1,.slice u z c1,.bool b2,.slice E F M,.bool b3,.slice N O Z]) l.1 l.2.1 l.2.2/\t_ V (.agg #[.bool b,.slice p n c,.slice p' n' c',.bool d,.slice q m e,.slice q' m' e',.bool s.a,.bool s.b]) s
def RF.le {V V':un}(h:RF V v l s)(e:V.Le V'):RF V' v l s:=by obtain ⟨b1,i,j,k,b2,o,r,t,b3,u,w,x,b,p,n,c,y,z,A,d,q,m,f,B,C,D,rfl,a,g⟩:=h;exact ⟨_,_,_,_,_,_,_,_,_,_,_,_,_,_,_,_,_,_,_,_,_,_,_,_,_,_,rfl,a.le e,g.le e⟩
def Dr {a b c:Int}(h:RL V v a b c):∃b1 u z c1 b2 E F M b3 N O Z,v=hF #[dB b1,yG u z c1,dB b2,yG E F M,dB b3,yG N O Z]:=by obtain ⟨_,_,_,_,_,_,_,_,_,e,-⟩:=h;exact wqQ e
def xk {x y:Rat}(h:RP V v x y):∃b1 u z c1 E F M b3 N O Z p4 n4 c4,v=hF #[dB b1,yG u z c1,yG E F M,dB b3,yG N O Z,yG p4 n4 c4]:=by obtain ⟨_,_,_,_,_,_,_,_,_,_,_,_,e,-⟩:=h;exact qxW e
def aw (l:L3)(x y:Rat):Rat:=(l.1:Rat)*x+(l.2.1:Rat)*y+(l.2.2:Rat)
def gP (l:L3):Rat:=(l.1:Rat)*(l.1:Rat)+(l.2.1:Rat)*(l.2.1:Rat)
def ig (l:L3)(x y:Rat):Rat:=((l.2.1:Rat)*x-(l.1:Rat)*y)*(gP l)⁻¹
def dm (l:L3)(t:Rat):Rat:=(l.2.1:Rat)*t-(l.1:Rat)*(l.2.2:Rat)*(gP l)⁻¹
def du (l:L3)(t:Rat):Rat:=-((l.1:Rat)*t)-(l.2.1:Rat)*(l.2.2:Rat)*(gP l)⁻¹
def Õ (l:L3):L3:=(-l.1,-l.2.1,-l.2.2)
def Sp.has (s:Sp)(t:Rat):Bool:=(s.a||decide (dw s.lo t<=0))&&(s.b||decide (dw s.hi t≥0))
def Sp.emp (s:Sp):Bool:=!s.a&&!s.b&&decide (dw s.lo s.hi≥0)
variable{l p:Value}{V:Ó}{L:L3}{px py qx qy x y:Rat}{k:Nat}
def Iu (l:L3)(s:Sp)(x y:Rat):Bool:=decide (aw l x y=0)&&s.has (ig l x y)
def Nz (l:L3):Prop:=¬(l.1=0/\l.2.1=0)
def sq_nonneg (x:Int):0<=x*x:=by rw [<-Int.natAbs_mul_self];exact Int.natCast_nonneg _
def VD (l:L3):gP l=((l.1*l.1+l.2.1*l.2.1:Int):Rat):=by unfold gP;simp
def Nz.norm {l:L3}(h:Nz l):gP l≠0:=by rw [VD];have d:=sq_nonneg l.1;have f:=sq_nonneg l.2.1;have a:l.1*l.1+l.2.1*l.2.1≠0:=by{intro e;have b:l.1*l.1=0:=ω;have c:l.2.1*l.2.1=0:=ω;exact h ⟨(Wx9.1 b).elim id id,(Wx9.1 c).elim id id⟩};exact_mod_cast a
theorem Lp {q:Rat}(h:q≠0):q.num≠0:=λe=>h (š.1 e)
theorem YP (u:vQ V l L)(z:kt V p x y)(sl:jg k L)(s1:Sz k x)(s2:Sz k y)(E:8*k+7<2^38:=by omega):À 114 #[l,p] V λr W=>RR W r (ig L x y):=by refine (B7 u z sl.1 sl.2.1 sl.2.2 s1 s2 E).s ?_;rintro r V2 a g;have e:ig L x y=(((L.2.1:Rat)*x+(-(L.1:Rat))*y)*((L.2.1:Rat)*(L.2.1:Rat)+(-(L.1:Rat))*(-(L.1:Rat)))⁻¹):=by{unfold ig gP;grind};rw [e];exact g
theorem Js (sl:jg k L)(s1:Sz k x)(s2:Sz k y):Sz (8*k+7) (ig L x y):=by have e:ig L x y=(((L.2.1:Rat)*x+(-(L.1:Rat))*y)*((L.2.1:Rat)*(L.2.1:Rat)+(-(L.1:Rat))*(-(L.1:Rat)))⁻¹):=by{unfold ig gP;grind};rw [e];exact zx sl.1 sl.2.1 sl.2.2 s1 s2
theorem DM (sl:jg k L)(s1:Sz k x):Sz (20*k+19) (dm L x):=by have a:dm L x=((L.1:Rat)*((-(L.2.2:Rat))*((L.1:Rat)*(L.1:Rat)+(L.2.1:Rat)*(L.2.1:Rat))⁻¹))+((L.2.1:Rat)*x):=by{unfold dm gP;grind};rw [a];exact F8 sl.1 sl.2.1 sl.2.2 s1
theorem DN (sl:jg k L)(s1:Sz k x):Sz (20*k+19) (du L x):=by have a:du L x=((L.2.1:Rat)*((-(L.2.2:Rat))*((L.1:Rat)*(L.1:Rat)+(L.2.1:Rat)*(L.2.1:Rat))⁻¹))+((-(L.1:Rat))*x):=by{unfold du gP;grind};rw [a];exact F9 sl.1 sl.2.1 sl.2.2 s1
def kZ (q:Rat):q.num.sign=0↔q=0:=by rw [Qm8,š]
def Oj {L:L3}(u:vQ V l L)(z:kt V p x y)(sl:jg k L)(s1:Sz k x)(s2:Sz k y)(E:16*k+16<2^38:=by omega):À 112 #[l,p] V λr W=>r=Ô Ŵ (aw L x y).num.sign:=ER u z sl.1 sl.2.1 sl.2.2 s1 s2 E
def lC {L:L3}(u:vQ V l L)(sl:jg k L)(z:1*k+1<2^38:=by omega):À 77 #[l] V λr W=>vQ W r (Õ L):=by refine (yj u sl.1 sl.2.1 sl.2.2 z).s ?_;rintro r V2 a g;unfold vQ Õ;simpa using g
def jg.rev (h:jg k L):jg k (Õ L):=by unfold jg Õ;exact ⟨h.1.neg,h.2.1.neg,h.2.2.neg⟩
theorem OQ (h:Nz L):((((L.2.1:Int):Rat)*((L.2.1:Int):Rat))+((-((L.1:Int):Rat))*(-((L.1:Int):Rat)))).num≠0:=by grind [gP,Lp,h.norm]
theorem Bu (u:RL V l L.1 L.2.1 L.2.2)(z:RP V p x y)(E:Nz L)(sl:jg k L)(s1:Sz k x)(s2:Sz k y)(F:8*k+7<2^38:=by omega):À 229 #[l,p] V λr W=>RQ W r (ig L x y):=by refine (E0 u z (OQ E) sl.1 sl.2.1 sl.2.2 s1 s2 F).s ?_;rintro r V2 a g;have e:ig L x y=((((x)*((L.2.1:Int):Rat))+((y)*(-((L.1:Int):Rat))))*((((L.2.1:Int):Rat)*((L.2.1:Int):Rat))+((-((L.1:Int):Rat))*(-((L.1:Int):Rat))))⁻¹):=by{unfold ig gP;grind};rw [e];exact g
theorem Zl {t:um}(u:RL V l L.1 L.2.1 L.2.2)(z:RQ V t x)(E:Nz L)(sl:jg k L)(s1:Sz k x)(F:18*k+16<2^38:=by omega):À 10 #[l,t] V λr W=>RP W r (dm L x) (du L x):=by refine (NO u z (OQ E) sl.1 sl.2.1 sl.2.2 s1 F).s ?_;rintro r V2 c g;have a:dm L x=(((-(((L.2.2:Int):Rat)*((((L.2.1:Int):Rat)*((L.2.1:Int):Rat))+((-((L.1:Int):Rat))*(-((L.1:Int):Rat))))⁻¹))*((L.1:Int):Rat))+(x)*((L.2.1:Int):Rat)):=by{unfold dm gP;grind};have b:du L x=(((-(((L.2.2:Int):Rat)*((((L.2.1:Int):Rat)*((L.2.1:Int):Rat))+((-((L.1:Int):Rat))*(-((L.1:Int):Rat))))⁻¹))*((L.2.1:Int):Rat))+(x)*(-((L.1:Int):Rat))):=by{unfold du gP;grind};rw [a,b];exact g
def I9 {x y:Rat}(u:RL V l L.1 L.2.1 L.2.2)(z:RP V p x y){k:Nat}(sl:jg k L)(s1:Sz k x)(s2:Sz k y)(E:16*k+16<2^38:=by omega):À 49 #[l,p] V λr W=>r=Ô Ŵ (aw L x y).num.sign:=H7 u z sl.1 sl.2.1 sl.2.2 s1 s2 E
def sz_gI {a b c:Rat}(u:Sz k a)(z:Sz k b)(sc:Sz k c):Sz (3*k+2) (eW (eW a b) c)⁻¹:=
 iG (Sz.s (ik (ik u z) sc) ω)
def ZN {a b c:Rat}{k:Nat}(u:Sz k a)(z:Sz k b)(sc:Sz k c)(h:¬(a=0/\b=0)):jg (4*k+3) (C5 a b c):=by obtain ⟨-,e,f,g⟩:=tv (c:=c) h;have d:=sz_gI u z sc;unfold jg;rw [<-e,<-f,<-g];exact ⟨Sz.s (Sz.mul u d) ω,Sz.s (Sz.mul z d) ω,Sz.s (Sz.mul sc d) ω⟩
def nP (px py qx qy:Rat):L3:=C5 (-(qy-py)) (qx-px) (-(-(qy-py)*px+(qx-px)*py))
theorem xD (h:¬(px=qx/\py=qy)):¬(-(qy-py)=0/\qx-px=0):=by rintro ⟨a,b⟩;exact h ⟨χ,χ⟩
def Rc (h:¬(px=qx/\py=qy)):Nz (nP px py qx qy):=Y3 (xD h)
def Jt (s1:Sz k px)(s2:Sz k py)(s3:Sz k qx)(s4:Sz k qy)(h:¬(px=qx/\py=qy)):jg (40*k+40) (nP px py qx qy):=by have a:Sz (2*k+1) (-(qy-py)):=Sz.s (s4.sub s2).neg ω;have b:Sz (2*k+1) (qx-px):=Sz.s (s3.sub s1) ω;have c:Sz (8*k+8) (-(-(qy-py)*px+(qx-px)*py)):=Sz.s ((a.mul s1).add (b.mul s2)).neg ω;have:=ZN (k:=8*k+8) (Sz.s a ω) (Sz.s b ω) c (xD h);exact ⟨Sz.s this.1 ω,Sz.s this.2.1 ω,Sz.s this.2.2 ω⟩
def OZ (px py qx qy:Rat):Sp:=⟨ig (nP px py qx qy) px py,ig (nP px py qx qy) qx qy,false,false⟩
end Go.Proofs.Tryz
