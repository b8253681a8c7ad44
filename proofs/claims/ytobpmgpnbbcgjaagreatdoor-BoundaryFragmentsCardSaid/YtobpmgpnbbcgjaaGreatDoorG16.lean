import Derived.Test.YtobpmgpnbbcgjaaGreatDoorG15
import Derived.Test.YtobpmgpnbbcgjaaGreatDoorG8
set_option linter.all false
open Go.IntKind (i64 u64 u32)
open Go.Value renaming slice→dB,agg→qvK,bool→Õ,pointer→qyQ,int→Ô,tuple→æ
open Go.Eng Go.Big
namespace Go.Proofs.Tryz
section
variable{c n tb:Nat}{p:OA}{at_:Int}
theorem wI {V:ut}{v:un}{a b c:Int}(h:RL V v a b c):∃(b1:md)(u:OA)(z c1:Nat)(D:md)(F:OA)(M N:Nat)(O:md)(Z:OA)(n3 c3:Nat),v=qvK #[Õ b1,dB u z c1,Õ D,dB F M N,Õ O,dB Z n3 c3]:=by obtain ⟨p,n,s,d,f,s',q,m,e,rfl,-⟩:=h;exact wqQ rfl
def K0 (V:Ó)(p:OA)(n:Nat):Prop:=∀i,i<n->∃(a:Addr)(x:Int),ae p (i*1)=some a/\V.at a (.int .i64 x)
theorem K0.le {V V':ut}(h:K0 V p n)(l:V.Le V'):K0 V' p n:=λi b=>by
 have ⟨a,x,e,c⟩:=h i b;exact ⟨a,x,e,l.at c⟩
def ka (V:Ó)(tb:Nat)(p:OA)(n c:Nat)(at_:Int):Prop:=V.w.heap[tb]?=some (.cells #[.slice p n c,.int .i64 at_] 72 (0,0))
theorem fC {V:ut}(k:Int)(z:K0 V p n)(O:n<=400)(hw:ka V tb p n c at_)(D:V.X tb)(F:0<=at_)(M:0<k)(N:k<=1000:=by omega):À 7 #[qyQ (some ⟨tb,0,none⟩),Ô .i64 k] V λr W=>∃x at',r=Ô .i64 x/\0<=x/\x<k/\0<=at'/\ka W tb p n c at':=by refine uz tb p n c at_ k V _ hw D ⟨λg m o e=>⟨0,at_,rfl,ω,M,F,e⟩,λg=>?_⟩;have g:at_<n:=by{have:=Â g;omega};obtain ⟨i,rfl⟩:∃i:Nat,at_=i:=⟨at_.toNat,ω⟩;have ⟨a,x,d,f⟩:=z i ω;have h:p.isSome=true:=by{(cases p with|none=>simp [ae] at d|some a=>rfl)};have q:(x.tmod k).natAbs<k.natAbs:=by{rw [Int.natAbs_tmod];exact Ě _ ω};have j:i64.wrap ((i:Int)+1)=((i+1:Nat):Int):=by{rw [ao ω];omega};rw [Ü,j];have l:i64.wrap (x.tmod k+k)=x.tmod k+k:=ao ω;refine ⟨h,⟨ω,ω⟩,x,⟨a,d,f⟩,ω,λb V2 s e=>⟨x.tmod k+k,_,by rw [l],?_,?_,?_,e⟩,λb t u e=>⟨_,_,rfl,?_,?_,?_,e⟩⟩;{omega};{have:=Á b;omega};{omega};{have:=Â b;omega};{omega};{omega}
theorem c_P {V:ut}(M:K0 V p n)(N:n<=400)(hw:ka V tb p n c at_)(O:V.X tb)(Z:0<=at_):À 75 #[qyQ (some ⟨tb,0,none⟩)] V λr W=>∃(x y at':Int),RP W r (x:Rat) (y:Rat)/\(-4<=x/\x<=4)/\(-4<=y/\y<=4)/\0<=at'/\ka W tb p n c at':=by refine zR tb p n c at_ V _ hw O λj g a k l=>(fC (V:=j.ar [a]) 9 (M.le λb o h=>g b o h) N k ⟨ψ,l⟩ Z ω).s ?_;rintro r V2 m ⟨x,z,rfl,A,B,t1,d⟩;refine ⟨_,rfl,_,_,_,_,d,λq s t u v=>(fC (V:=q.ar [t]) 9 (M.le λb o h=>s b o (m b o (g b o h))) N u ⟨ψ,v⟩ t1 ω).s ?_⟩;rintro r C D ⟨y,e,rfl,E,F,t2,f⟩;refine ⟨_,rfl,_,_,_,_,f,λG H=>?_⟩;rw [ao (x:=x-4) ω,ao (x:=y-4) ω];refine (dE (x-4) (y-4) ω ω ω).s λr I J i=>RP.ex i λ_ _ i _ _=>λK L w=>⟨x-4,y-4,e,ra,⟨ω,ω⟩,⟨ω,ω⟩,t2,w⟩
theorem RQ.zero {V:ut}:RQ V (qvK #[Õ false,dB none 0 0,dB none 0 0]) ((0:Int):Rat):=⟨none,0,0,none,0,0,rfl,RD.nil,RD.nil⟩
theorem RP.zero {V:ut}:RP V (qvK #[Õ false,dB none 0 0,dB none 0 0,Õ false,dB none 0 0,dB none 0 0]) ((0:Int):Rat) ((0:Int):Rat):=
 ⟨none,0,0,none,0,0,none,0,0,none,0,0,rfl,RQ.zero,RQ.zero⟩
theorem FW {z:Int}(h:-40<=z/\z<=40:=by omega):Sz 10 (z:Rat):=Ht ω
theorem c_V {V:ut}(Z:K0 V p n)(hn:n<=400)(hw:ka V tb p n c at_)(hx:V.X tb)(h0:0<=at_):À 78 #[qyQ (some ⟨tb,0,none⟩)] V λr W=>∃(x y at':Int),RP W r (x:Rat) (y:Rat)/\(-4<=x/\x<=4)/\(-4<=y/\y<=4)/\¬(x=0/\y=0)/\0<=at'/\ka W tb p n c at':=by refine zS tb p n c at_ V _ hw hx λl m a q s=>(c_P (V:=l.ar [a]) (Z.le λb o h=>m b o h) hn q ⟨ψ,s⟩ h0).s ?_;rintro r V2 M ⟨x,y,j,d,e,f,t1,i⟩;obtain ⟨t,u,v,w,z,A,B,C,D,E,F,G,rfl,-⟩:=id d;refine qxZ ⟨rfl,_,_,_,_,i,λN k=>(oB (d.le λb o h=>k b o h) RP.zero (FW) (FW) (FW) (FW)).s ?_⟩;rintro r O H rfl;refine ⟨_,rfl,λg P Q=>(dE 1 0 ω ω ω).s ?_,λg R I J=>⟨x,y,j,d.le λb o h=>I b o (H b o (k b o h)),e,f,?_,t1,J⟩⟩;{rintro r S T K;obtain ⟨t,u,v,w,z,A,B,C,D,E,F,G,rfl,-⟩:=id K;exact qxZ ⟨rfl,λU W L=>⟨1,0,j,ra,⟨ω,ω⟩,⟨ω,ω⟩,ω,t1,L⟩⟩};{rintro ⟨rfl,rfl⟩;simp at g}
theorem c_L {V:ut}(hr:K0 V p n)(hn:n<=400)(hw:ka V tb p n c at_)(hx:V.X tb)(h0:0<=at_):À 25 #[qyQ (some ⟨tb,0,none⟩)] V λr W=>∃(x:L3)(at':Int),RL W r x.1 x.2.1 x.2.2/\ch x=true/\Bd x/\0<=at'/\ka W tb p n c at':=by refine zQ tb p n c at_ V _ hw hx λK B e L M=>(c_P (V:=K.ar [e]) (hr.le λb o h=>B b o h) hn L ⟨ψ,M⟩ h0).s ?_;rintro r V2 N ⟨x,y,Io,O,f,g,t1,i⟩;obtain ⟨p1,C,c1,p2,D,c2,p3,E,c3,p4,n4,c4,rfl,-⟩:=id O;refine qxZ ⟨rfl,_,_,_,_,i,λV3 F=>(dO 1 ω).s λr P G H=>RQ.ex H λ_ H=>λQ j R S T=>(c_V (V:=Q.ar [R]) (hr.le λb o h=>j b o (G b o (F b o (N b o (B b o h))))) hn S ⟨ψ,T⟩ t1).s ?_⟩;rintro r U I ⟨u,w,q,W,s,d,Y,t2,t⟩;obtain ⟨q1,Z,d1,q2,m2,d2,q3,m3,d3,q4,m4,d4,rfl,-⟩:=id W;refine qxZ ⟨rfl,_,_,_,_,t,λv z=>?_⟩;have GN:V2.Le v:=λb o h=>z b o (I b o (j b o (G b o (F b o h))));have a0:P.Le v:=λb o h=>z b o (I b o (j b o h));have a1:U.Le v:=λb o h=>z b o h;refine (fG ra ra ra (k:=10) (m:=10) (FW) (FW) (FW) (FW) (FW) ω).s ?_;rintro r V8 l8 hs;obtain ⟨s1,i1,j1,s2,i2,j2,s3,i3,j3,s4,i4,j4,rfl,-⟩:=id hs;have f1:(x:Rat)+((1:Int):Rat)*(u:Rat)=((x+u:Int):Rat):=by{rw [<-Qf2,<-Qs4,Wz4]};have f2:(y:Rat)+((1:Int):Rat)*(w:Rat)=((y+w:Int):Rat):=by{rw [<-Qf2,<-Qs4,Wz4]};refine qxZ ⟨rfl,λV9 l9=>(jQ ra ra (k:=10) (FW) (FW) (by rw [f1];exact FW) (by rw [f2];exact FW) ω).s ?_⟩;rintro r fo a2 ⟨-,h⟩;rw [WO] at h;have C:((-w:Int):Rat).num=-w:=rfl;have D:((u:Int):Rat).num=u:=rfl;have E:((w*x-u*y:Int):Rat).num=w*x-u*y:=rfl;dsimp only at h;rw [C,D,E] at h;obtain ⟨l,rfl,J⟩:=h ω;have Z:=SM d f;have m2:=SM s g;have ⟨k1,k2⟩:=VK (a:=-w) (b:=u) (c:=w*x-u*y) ω ω ω;obtain ⟨b1,u1,v1,w1,b2,u2,v2,w2,b3,u3,v3,w3,rfl⟩:=(wI J);exact ⟨_,_,_,_,_,_,_,_,_,_,_,_,_,rfl,λfg dy A=>⟨BH (-w) u (w*x-u*y),q,J.le dy,k1,k2,t2,A⟩⟩
end
section
def Gk {V:ut}{l p:un}{l_0 l_1 l_2:Int}{Z nW:Rat}(hl:RL V l l_0 l_1 l_2)(hp:RP V p Z nW){k:Nat}(s0:Sz k ((l_0:Int):Rat))(s1:Sz k ((l_1:Int):Rat))(s2:Sz k ((l_2:Int):Rat))(s3:Sz k Z)(s4:Sz k nW)(hk:16*k+16<2^38):À 136 #[l,p] V λr W=>r=Ô .i64 ((l_0:Rat)*Z+(l_1:Rat)*nW+(l_2:Rat)).num.sign:=by have c:=hl;have d:=hp;obtain ⟨e,f,g,h,i,j,m,n,o,rfl,-,-,-⟩:=hl;obtain ⟨q,s,t,u,v,w,x,y,z,A,a,b,rfl,-,-⟩:=hp;refine Et V _ λB C=>(jm ra ra s0 s1 s2 s3 s4).s ?_;rintro r V2 D ⟨E,F,G,H,I,J,rfl,K,L⟩;refine qxW ⟨rfl,λM N=>(rG _ ra).s ?_⟩;rintro r O P rfl;exact ⟨_,rfl,λQ R=>rfl⟩
def gX {V:ut}{l:un}{a b c:Int}(Z:RL V l a b c):À 41 #[l] V λr W=>RL W r (-a) (-b) (-c):=by obtain ⟨d,e,f,g,h,i,j,k,m,rfl,n,o,p⟩:=Z;refine HR V _ λq s=>(jD a ra).s ?_;rintro r V2 t ⟨u,v,w,rfl,x⟩;refine qyJ ⟨rfl,λy z=>(jD b ra).s ?_⟩;rintro r A B ⟨C,D,E,rfl,F⟩;refine qyJ ⟨rfl,λG H=>(jD c ra).s ?_⟩;rintro r I J ⟨K,L,M,rfl,N⟩;exact qyJ ⟨rfl,λO P=>⟨_,_,_,_,_,_,_,_,_,rfl,ra,ra,ra⟩⟩
end
end Go.Proofs.Tryz
namespace Go.Eng
theorem RR.zero (V:ut):RR V (qvK #[Ô .i64 0,Ô .i64 0,qyQ none]) 0:=.inl ⟨rfl,by unfold Wd;decide⟩
end Go.Eng
namespace Go.Proofs.Tryz
structure Sp where
 lo:Rat
 hi:Rat
 a:Bool
 b:Bool
def Sp.can (s:Sp):Prop:=(s.a=true->s.lo=0)/\(s.b=true->s.hi=0)
def Sp.sz (k:Nat)(s:Sp):Prop:=Sz k s.lo/\Sz k s.hi
def Sp.zero:Sp:=⟨0,0,false,false⟩
variable{v:Value}{l:L3}
def iJ (k:Nat)(l:L3):Prop:=Sz k (l.1:Rat)/\Sz k (l.2.1:Rat)/\Sz k (l.2.2:Rat)
def f_ (V:Ó)(v:Value)(s:Sp):Prop:=∃(u z:Int)(p:OA)(D F:Int)(q:OA),v=.agg #[.int .i64 u,.int .i64 z,.pointer p,.int .i64 D,.int .i64 F,.pointer q,.bool s.a,.bool s.b] /\
 RR V (.agg #[.int .i64 u,.int .i64 z,.pointer p]) s.lo/\RR V (.agg #[.int .i64 D,.int .i64 F,.pointer q]) s.hi
theorem f_.le {V V':ut}{s:Sp}(h:f_ V v s)(l:V.Le V'):f_ V' v s:=by obtain ⟨a,b,p,c,d,q,e,f,g⟩:=h;exact ⟨a,b,p,c,d,q,e,ra,ra⟩
def wJ (V:Ó)(v:Value)(l:L3):Prop:=xZ V v (l.1:Rat) (l.2.1:Rat) (l.2.2:Rat)
theorem wJ.le {V V':ut}(h:wJ V v l)(e:V.Le V'):wJ V' v l:=xZ.le h e
def zU (V:Ó)(v:Value)(l:L3)(s:Sp):Prop:=∃(u z:Int)(p:OA)(D F:Int)(q:OA)(M N:Int)(r:OA)(u1 u2:Int)(t:OA)(O Z:Int)(o:OA),
 v=.agg #[.int .i64 u,.int .i64 z,.pointer p,.int .i64 D,.int .i64 F,.pointer q,.int .i64 M,.int .i64 N,.pointer r,.int .i64 u1,.int .i64 u2,.pointer t,.int .i64 O,.int .i64 Z,.pointer o,.bool s.a,.bool s.b] /\
 wJ V (.agg #[.int .i64 u,.int .i64 z,.pointer p,.int .i64 D,.int .i64 F,.pointer q,.int .i64 M,.int .i64 N,.pointer r]) l /\
 f_ V (.agg #[.int .i64 u1,.int .i64 u2,.pointer t,.int .i64 O,.int .i64 Z,.pointer o,.bool s.a,.bool s.b]) s
theorem zU.le {V V':ut}{s:Sp}(h:zU V v l s)(e:V.Le V'):zU V' v l s:=by obtain ⟨a,b,p,c,d,q,f,g,r,i,j,t,k,m,o,rfl,n,u⟩:=h;exact ⟨a,b,p,c,d,q,f,g,r,i,j,t,k,m,o,rfl,n.le e,u.le e⟩
def QE (V:Ó)(v:Value)(b:Bool)(xs ys:List Nat):Prop:=∃p n c u z D,v=.agg #[.bool b,.slice p n c,.slice u z D]/\RD V p n c xs/\RD V u z D ys
theorem QE.le {V V':ut}{b:md}{xs ys:zA Nat}(h:QE V v b xs ys)(l:V.Le V'):QE V' v b xs ys:=by obtain ⟨p,n,c,a,d,f,e,g,i⟩:=h;exact ⟨p,n,c,a,d,f,e,ra,ra⟩
theorem QE.nil {V:ut}:QE V (qvK #[Õ false,dB none 0 0,dB none 0 0]) false [] []:=⟨_,_,_,_,_,_,rfl,RD.nil,RD.nil⟩
def RE (V:Ó)(v:Value)(q:Rat)(no:Bool):Prop:=(no=true->QE V v false [] [])/\(no=false->RA V v q)
theorem RE.le {V V':ut}{q:Rat}{no:md}(h:RE V v q no)(l:V.Le V'):RE V' v q no:=⟨λe=>(h.1 e).le l,λe=>(h.2 e).le l⟩
def WZ (V:Ó)(v:Value)(s:Sp):Prop:=∃b p n c u z D d q m e F M N,v=.agg #[.bool b,.slice p n c,.slice u z D,.bool d,.slice q m e,.slice F M N,.bool s.a,.bool s.b] /\
 RE V (.agg #[.bool b,.slice p n c,.slice u z D]) s.lo s.a/\RE V (.agg #[.bool d,.slice q m e,.slice F M N]) s.hi s.b
theorem WZ.le {V V':ut}{s:Sp}(h:WZ V v s)(l:V.Le V'):WZ V' v s:=by obtain ⟨b,p,n,c,a,f,g,d,q,m,e,i,j,k,rfl,o,r⟩:=h;exact qxZ ⟨rfl,ra,ra⟩
def QB (V:Ó)(v:Value)(l:L3)(s:Sp):Prop:=∃b1 u z c1 D F M N O Z n3 c3 b p n c p' n' c' d q m e q' m' e',
 v=.agg #[.bool b1,.slice u z c1,.bool D,.slice F M N,.bool O,.slice Z n3 c3,.bool b,.slice p n c,.slice p' n' c',.bool d,.slice q m e,.slice q' m' e',.bool s.a,.bool s.b] /\
 RL V (.agg #[.bool b1,.slice u z c1,.bool D,.slice F M N,.bool O,.slice Z n3 c3]) l.1 l.2.1 l.2.2/\WZ V (.agg #[.bool b,.slice p n c,.slice p' n' c',.bool d,.slice q m e,.slice q' m' e',.bool s.a,.bool s.b]) s
theorem QB.le {V V':ut}{s:Sp}(h:QB V v l s)(e:V.Le V'):QB V' v l s:=by obtain ⟨i,j,k,o,r,t,u,w,x,y,z,A,b,p,n,c,B,C,D,d,q,m,f,E,F,G,rfl,a,g⟩:=h;exact ⟨_,_,_,_,_,_,_,_,_,_,_,_,_,_,_,_,_,_,_,_,_,_,_,_,_,_,rfl,a.le e,g.le e⟩
def mb (V:Ó)(v:Value)(s:Sp):Prop:=∃b p n c u z D d q m e F M N,v=.agg #[.bool b,.slice p n c,.slice u z D,.bool d,.slice q m e,.slice F M N,.bool s.a,.bool s.b] /\
 RQ V (.agg #[.bool b,.slice p n c,.slice u z D]) s.lo/\RQ V (.agg #[.bool d,.slice q m e,.slice F M N]) s.hi
theorem mb.le {V V':ut}{s:Sp}(h:mb V v s)(l:V.Le V'):mb V' v s:=by obtain ⟨b,p,n,c,a,f,g,d,q,m,e,i,j,k,rfl,o,r⟩:=h;exact qxZ ⟨rfl,ra,ra⟩
def RF (V:Ó)(v:Value)(l:L3)(s:Sp):Prop:=∃b1 u z c1 D F M N O Z n3 c3 b p n c p' n' c' d q m e q' m' e',
 v=.agg #[.bool b1,.slice u z c1,.bool D,.slice F M N,.bool O,.slice Z n3 c3,.bool b,.slice p n c,.slice p' n' c',.bool d,.slice q m e,.slice q' m' e',.bool s.a,.bool s.b] /\
 RL V (.agg #[.bool b1,.slice u z c1,.bool D,.slice F M N,.bool O,.slice Z n3 c3]) l.1 l.2.1 l.2.2/\mb V (.agg #[.bool b,.slice p n c,.slice p' n' c',.bool d,.slice q m e,.slice q' m' e',.bool s.a,.bool s.b]) s
theorem RF.le {V V':ut}{s:Sp}(h:RF V v l s)(e:V.Le V'):RF V' v l s:=by obtain ⟨i,j,k,o,r,t,u,w,x,y,z,A,b,p,n,c,B,C,D,d,q,m,f,E,F,G,rfl,a,g⟩:=h;exact ⟨_,_,_,_,_,_,_,_,_,_,_,_,_,_,_,_,_,_,_,_,_,_,_,_,_,_,rfl,a.le e,g.le e⟩
theorem vL {V:ut}{a b c:Int}(h:RL V v a b c):∃b1 u z c1 D F M N O Z n3 c3,v=qvK #[Õ b1,dB u z c1,Õ D,dB F M N,Õ O,dB Z n3 c3]:=by obtain ⟨_,_,_,_,_,_,_,_,_,e,-⟩:=h;exact wqQ e
theorem gO {V:ut}{x y:Rat}(h:RP V v x y):∃b1 u z c1 D F M N O Z c3 p4 n4 c4,v=qvK #[Õ b1,dB u z c1,dB D F M,Õ N,dB O Z c3,dB p4 n4 c4]:=by obtain ⟨_,_,_,_,_,_,_,_,_,_,_,_,e,-⟩:=h;exact qxZ e
def aC (l:L3)(x y:Rat):Rat:=(l.1:Rat)*x+(l.2.1:Rat)*y+(l.2.2:Rat)
def fM (l:L3):Rat:=(l.1:Rat)*(l.1:Rat)+(l.2.1:Rat)*(l.2.1:Rat)
def ig (l:L3)(x y:Rat):Rat:=((l.2.1:Rat)*x-(l.1:Rat)*y)*(fM l)⁻¹
def cg (l:L3)(t:Rat):Rat:=(l.2.1:Rat)*t-(l.1:Rat)*(l.2.2:Rat)*(fM l)⁻¹
def cj (l:L3)(t:Rat):Rat:=-((l.1:Rat)*t)-(l.2.1:Rat)*(l.2.2:Rat)*(fM l)⁻¹
def Ö (l:L3):L3:=(-l.1,-l.2.1,-l.2.2)
def Sp.emp (s:Sp):Bool:=!s.a&&!s.b&&decide (cY s.lo s.hi≥0)
variable{L l:L3}{a b c px py q qx qy x:Rat}{k:Nat}{V:Ó}{v:Value}
def Nz (l:L3):Prop:=¬(l.1=0/\l.2.1=0)
theorem sq_nonneg (x:Int):0<=x*x:=by rw [<-Int.natAbs_mul_self];exact Int.natCast_nonneg _
theorem SY (l:L3):fM l=((l.1*l.1+l.2.1*l.2.1:Int):Rat):=by unfold fM;simp
theorem Nz.norm (h:Nz l):fM l≠0:=by rw [SY];have d:=sq_nonneg l.1;have f:=sq_nonneg l.2.1;have a:l.1*l.1+l.2.1*l.2.1≠0:=by{intro e;have b:l.1*l.1=0:=ω;have c:l.2.1*l.2.1=0:=ω;exact h ⟨(Wx2.1 b).elim id id,(Wx2.1 c).elim id id⟩};exact_mod_cast a
theorem Jz (h:q≠0):q.num≠0:=λe=>h (Qb6.1 e)
theorem Oq {y:Rat}(sl:iJ k L)(s1:Sz k x)(s2:Sz k y):Sz (8*k+7) (ig L x y):=by have e:ig L x y=((((L.2.1:Rat))*x+(-(L.1:Rat))*y)*(((L.2.1:Rat))*((L.2.1:Rat))+(-(L.1:Rat))*(-(L.1:Rat)))⁻¹):=by{unfold ig fM;grind};rw [e];exact xX sl.1 sl.2.1 sl.2.2 s1 s2
theorem k_At {l t:un}(u:wJ V l L)(z:RR V t x)(sl:iJ k L)(s1:Sz k x)(D:20*k+19<2^38):À 90 #[l,t] V λr W=>pP W r (cg L x) (cj L x):=by refine (IB u z sl.1 sl.2.1 sl.2.2 s1 D).s ?_;rintro r V2 c g;have a:cg L x=((L.1:Rat)*((-(L.2.2:Rat))*((L.1:Rat)*(L.1:Rat)+(L.2.1:Rat)*(L.2.1:Rat))⁻¹))+((L.2.1:Rat)*x):=by{unfold cg fM;grind};have b:cj L x=((L.2.1:Rat)*((-(L.2.2:Rat))*((L.1:Rat)*(L.1:Rat)+(L.2.1:Rat)*(L.2.1:Rat))⁻¹))+((-(L.1:Rat))*x):=by{unfold cj fM;grind};rw [a,b];exact g
theorem qU (sl:iJ k L)(s1:Sz k x):Sz (20*k+19) (cg L x):=by have a:cg L x=((L.1:Rat)*((-(L.2.2:Rat))*((L.1:Rat)*(L.1:Rat)+(L.2.1:Rat)*(L.2.1:Rat))⁻¹))+((L.2.1:Rat)*x):=by{unfold cg fM;grind};rw [a];exact EK sl.1 sl.2.1 sl.2.2 s1
theorem qV (sl:iJ k L)(s1:Sz k x):Sz (20*k+19) (cj L x):=by have a:cj L x=((L.2.1:Rat)*((-(L.2.2:Rat))*((L.1:Rat)*(L.1:Rat)+(L.2.1:Rat)*(L.2.1:Rat))⁻¹))+((-(L.1:Rat))*x):=by{unfold cj fM;grind};rw [a];exact EL sl.1 sl.2.1 sl.2.2 s1
theorem vU (q:Rat):q.num.sign=0↔q=0:=by rw [Qm9,Qb6]
theorem kK {l:un}{L:L3}(u:wJ V l L)(sl:iJ k L)(z:1*k+1<2^38:=by omega):À 87 #[l] V λr W=>wJ W r (Ö L):=by refine (wU u sl.1 sl.2.1 sl.2.2 z).s ?_;rintro r V2 a g;unfold wJ Ö;simpa using g
theorem iJ.rev (h:iJ k L):iJ k (Ö L):=by unfold iJ Ö;exact ⟨h.1.neg,h.2.1.neg,h.2.2.neg⟩
theorem Ml (h:Nz L):((((((L.2.1:Int):Rat)))*((((L.2.1:Int):Rat))))+(((-(((L.1:Int):Rat))))*((-(((L.1:Int):Rat)))))).num≠0:=by grind [fM,Jz,h.norm]
theorem vF {l p:un}{L:L3}{y:Rat}(u:RL V l L.1 L.2.1 L.2.2)(z:RP V p x y)(D:Nz L)(sl:iJ k L)(s1:Sz k x)(s2:Sz k y)(F:8*k+7<2^38:=by omega):À 65 #[l,p] V λr W=>RQ W r (ig L x y):=by refine (DG u z (Ml D) sl.1 sl.2.1 sl.2.2 s1 s2 F).s ?_;rintro r V2 a g;have e:ig L x y=((((x)*((((L.2.1:Int):Rat))))+((y)*((-(((L.1:Int):Rat))))))*((((((L.2.1:Int):Rat)))*((((L.2.1:Int):Rat))))+(((-(((L.1:Int):Rat))))*((-(((L.1:Int):Rat))))))⁻¹):=by{unfold ig fM;grind};rw [e];exact g
theorem PX {l t:un}{L:L3}(u:RL V l L.1 L.2.1 L.2.2)(z:RQ V t x)(D:Nz L)(sl:iJ k L)(s1:Sz k x)(F:18*k+16<2^38:=by omega):À 55 #[l,t] V λr W=>RP W r (cg L x) (cj L x):=by refine (Lp u z (Ml D) sl.1 sl.2.1 sl.2.2 s1 F).s ?_;rintro r V2 c g;have a:cg L x=(((-((((L.2.2:Int):Rat))*((((((L.2.1:Int):Rat)))*((((L.2.1:Int):Rat))))+(((-(((L.1:Int):Rat))))*((-(((L.1:Int):Rat))))))⁻¹))*(((L.1:Int):Rat)))+(x)*(((L.2.1:Int):Rat))):=by{unfold cg fM;grind};have b:cj L x=(((-((((L.2.2:Int):Rat))*((((((L.2.1:Int):Rat)))*((((L.2.1:Int):Rat))))+(((-(((L.1:Int):Rat))))*((-(((L.1:Int):Rat))))))⁻¹))*(((L.2.1:Int):Rat)))+(x)*(-(((L.1:Int):Rat)))):=by{unfold cj fM;grind};rw [a,b];exact g
theorem Cc {l p:un}{x y:Rat}(u:RL V l L.1 L.2.1 L.2.2)(z:RP V p x y){k:Nat}(sl:iJ k L)(s1:Sz k x)(s2:Sz k y)(D:16*k+16<2^38:=by omega):À 136 #[l,p] V λr W=>r=Ô .i64 (aC L x y).num.sign:=Gk u z sl.1 sl.2.1 sl.2.2 s1 s2 D
theorem sz_gI (u:Sz k a)(z:Sz k b)(sc:Sz k c):Sz (3*k+2) (fu (fu a b) c)⁻¹:=
 jW (Sz.s (mc (mc u z) sc) ω)
theorem WI {k:Nat}(u:Sz k a)(z:Sz k b)(sc:Sz k c)(h:¬(a=0/\b=0)):iJ (4*k+3) (BN a b c):=by obtain ⟨-,e,f,g⟩:=rR (c:=c) h;have d:=sz_gI u z sc;unfold iJ;rw [<-e,<-f,<-g];exact ⟨Sz.s (Sz.mul u d) ω,Sz.s (Sz.mul z d) ω,Sz.s (Sz.mul sc d) ω⟩
def mS (px py qx qy:Rat):L3:=BN (-(qy-py)) (qx-px) (-(-(qy-py)*px+(qx-px)*py))
theorem vY (h:¬(px=qx/\py=qy)):¬(-(qy-py)=0/\qx-px=0):=by rintro ⟨a,b⟩;exact h ⟨χ,χ⟩
theorem Ow (h:¬(px=qx/\py=qy)):Nz (mS px py qx qy):=VQ (vY h)
theorem Hv (s1:Sz k px)(s2:Sz k py)(s3:Sz k qx)(s4:Sz k qy)(h:¬(px=qx/\py=qy)):iJ (40*k+40) (mS px py qx qy):=by have a:Sz (2*k+1) (-(qy-py)):=Sz.s (s4.sub s2).neg ω;have b:Sz (2*k+1) (qx-px):=Sz.s (s3.sub s1) ω;have c:Sz (8*k+8) (-(-(qy-py)*px+(qx-px)*py)):=Sz.s ((a.mul s1).add (b.mul s2)).neg ω;have:=WI (k:=8*k+8) (Sz.s a ω) (Sz.s b ω) c (vY h);exact ⟨Sz.s this.1 ω,Sz.s this.2.1 ω,Sz.s this.2.2 ω⟩
def Mu (px py qx qy:Rat):Sp:=⟨ig (mS px py qx qy) px py,ig (mS px py qx qy) qx qy,false,false⟩
def TB (b:Bool)(xs ys:List Nat):Rat:=mkRat (bI b xs) (val ys)
def Zz (b:Bool)(xs ys:List Nat):Bool:=pG b xs&&decide (ah (val ys)=ys)&&!decide (ys=[])&&decide (Nat.gcd (val xs) (val ys)=1)
def zerQ (b:Bool)(xs ys:List Nat):Bool:=!b&&decide (xs=[])&&decide (ys=[])
def endQ (b:Bool)(xs ys:List Nat)(no:Bool):Rat:=if no then 0 else TB b xs ys
def endOk (b:Bool)(xs ys:List Nat)(no:Bool):Bool:=if no then zerQ b xs ys else Zz b xs ys
theorem NP:Zz (decide (q.num<0)) (ah q.num.natAbs) (ah q.den)=true/\TB (decide (q.num<0)) (ah q.num.natAbs) (ah q.den)=q:=by constructor;{unfold Zz;have a:pG (decide (q.num<0)) (ah q.num.natAbs)=true:=by{unfold pG;rw [af];by_cases h:q.num<0;{have:ah q.num.natAbs≠[]:=λe=>by{have:=bR.1 e;omega};simp [this]};{simp [h]}};have b:ah q.den≠[]:=λe=>q.den_nz (bR.1 e);grind [af,q.reduced]};grind [TB,bf,af,Rat.mkRat_self]
theorem La {s:Sp}(h:f_ V v s)(z:s.sz k)(D:2*k<2^40):À 311 #[v] V λr W=>r=Õ s.emp:=by obtain ⟨d,e,p,f,g,q,rfl,j,l⟩:=h;refine zo V _ ⟨λi=>⟨λc m n=>(jg ra ra z.1 z.2).s ?_,λc o t=>?_⟩,λi u w=>?_⟩;{grind [Sp.emp]};{rw [š] at c;simp [Sp.emp,c]};{grind [Sp.emp]}
def FOk (l:L3)(s:Sp):Prop:=ch l=true/\s.can/\s.emp=false
theorem RE.raw {no:md}(h:RE V v q no)(u:no=true->q=0):∃b xs ys,QE V v b xs ys/\endOk b xs ys no=true/\endQ b xs ys no=q/\(∀k,Sz k q->xs.length<=k/\ys.length<=k):=by (cases no with|true=>{exact ⟨false,[],[],h.1 rfl,rfl,by rw [u rfl];rfl,λk _=>⟨á _,á _⟩⟩}|false=>{obtain ⟨p,n,c,f,g,i,rfl,d,e⟩:=h.2 rfl;exact ⟨_,_,_,⟨_,_,_,_,_,_,rfl,d,e⟩,NP.1,NP.2,λk a=>⟨ag a.1,ag a.2⟩⟩})
theorem Re {s:Sp}(h:f_ V v s)(Z:s.sz k)(hk:k<=2^40):À 155 #[v] V λr W=>WZ W r s:=by obtain ⟨i,j,p,l,m,q,rfl,u,w⟩:=h;have t:∀{V:ut} {v:un} {x:Rat} {no:md},RA V v x->(!no)=true->RE V v x no:=λh e=>by{rw [Ľ] at e;subst e;exact ⟨π,λ_=>h⟩};have f:∀{V:ut} {x:Rat} {no:md},(!no)=false->RE V (qvK #[Õ false,dB none 0 0,dB none 0 0]) x no:=λe=>by{rw [š] at e;subst e;exact ⟨λ_=>QE.nil,π⟩};refine D_ V _ ⟨λd y z=>(uI ra Z.1 hk).s ?_,λd=>⟨λc A B=>(uI ra Z.2 hk).s ?_,λc C n=>?_⟩⟩;{rintro r V2 D o;obtain ⟨_,_,_,_,_,_,_,rfl⟩:=o.shape;refine qxW ⟨rfl,λc E F=>(uI ra Z.2 hk).s ?_,λc G H=>?_⟩;{rintro r I J g;obtain ⟨_,_,_,_,_,_,_,rfl⟩:=g.shape;exact qxW ⟨rfl,λK L=>⟨_,_,_,_,_,_,_,_,_,_,_,_,_,_,rfl,t ra d,t ra c⟩⟩};{exact qxZ ⟨rfl,t ra d,f c⟩}};{rintro r M N g;obtain ⟨_,_,_,_,_,_,_,rfl⟩:=g.shape;exact qxW ⟨rfl,λO P=>⟨_,_,_,_,_,_,_,_,_,_,_,_,_,_,rfl,f d,t ra c⟩⟩};{exact qxZ ⟨rfl,f d,f c⟩}
theorem wJ.api {r:un}(h:RL V r ((l.1:Rat)).num ((l.2.1:Rat)).num ((l.2.2:Rat)).num):RL V r l.1 l.2.1 l.2.2:=by simpa using h
theorem Rc {s:Sp}(h:zU V v l s)(sl:iJ k l)(N:s.sz k)(M:k<=2^40):À 85 #[v] V λr W=>QB W r l s:=by obtain ⟨e,f,p,g,i,q,j,m,r,n,u,t,w,x,o,rfl,b,y⟩:=h;refine D8 V _ λz c=>(OV (b.le c) sl.1 sl.2.1 sl.2.2 M).s ?_;rintro r V2 A a;obtain ⟨_,_,_,_,_,_,_,_,_,_,_,_,rfl⟩:=vL a;refine wqQ ⟨rfl,λB C=>(Re ra N M).s ?_⟩;rintro r D E d;obtain ⟨_,_,_,_,_,_,_,_,_,_,_,_,_,_,rfl,-,-⟩:=id d;exact ⟨_,_,_,_,_,_,_,_,_,_,_,_,_,_,_,_,rfl,λF G=>⟨_,_,_,_,_,_,_,_,_,_,_,_,_,_,_,_,_,_,_,_,_,_,_,_,_,_,rfl,(wJ.api a).le au,ra⟩⟩
theorem iV (h:ch l=true):Nz l:=by unfold ch at h;intro e;simp [e.1,e.2] at h
theorem S5 {a b c:Int}(h:¬(a=0/\b=0)):ch (BH a b c)=true:=by have o:0<bZ a b c:=by{apply Nat.pos_of_ne_zero;intro e;have i:=Wx0.1 e;grind};have d:bZ a b c∣a.natAbs:=Qs3 (ņ _ _) (ņ _ _);have f:bZ a b c∣b.natAbs:=Qs3 (ņ _ _) (Ţ _ _);have j:bZ a b c∣c.natAbs:=Ţ _ _;have l:∀{x:Int},bZ a b c∣x.natAbs->((bZ a b c:Nat):Int)∣x:=λh=>Qp1.1 (by rw [ģ];exact h);have g:∀{x:Int},bZ a b c∣x.natAbs->(x/(bZ a b c:Int)).natAbs=x.natAbs/bZ a b c:=λh=>by{rw [Qs7 (l h),ģ]};have m:∀{x:Int},bZ a b c∣x.natAbs->x/(bZ a b c:Int)=0->x=0:=λp e=>by{have ⟨k,r⟩:=l p;grind [Int.mul_ediv_cancel_left]};have e:bZ (a/(bZ a b c:Int)) (b/(bZ a b c:Int)) (c/(bZ a b c:Int))=1:=by{show Nat.gcd (Nat.gcd (a/(bZ a b c:Int)).natAbs (b/(bZ a b c:Int)).natAbs) (c/(bZ a b c:Int)).natAbs=1;rw [g d,g f,g j,Nat.gcd_div d f,Nat.gcd_div (show bZ a b c∣Nat.gcd a.natAbs b.natAbs from ņ _ _) j];exact Nat.div_self o};have n:¬(a/(bZ a b c:Int)=0/\b/(bZ a b c:Int)=0):=λ⟨i,q⟩=>h ⟨m d i,m f q⟩;show (decide (¬(a/(bZ a b c:Int)=0/\b/(bZ a b c:Int)=0))&&decide (bZ (a/(bZ a b c:Int)) (b/(bZ a b c:Int)) (c/(bZ a b c:Int))=1))=true;grind
theorem S6 (h:¬(a=0/\b=0)):ch (BN a b c)=true:=by refine S5 ?_;have d:(((a.den*b.den*c.den:Nat):Int):Rat)≠0:=by{exact_mod_cast (ŏ (ŏ a.den_nz b.den_nz) c.den_nz)};grind [Rat.num_eq_zero]
theorem S7 (h:¬(px=qx/\py=qy)):ch (mS px py qx qy)=true:=S6 (vY h)
theorem K_ {s:Sp}(h:zU V v l s)(sl:iJ k l)(M:s.sz k)(N:20*k+19<2^38:=by omega):À 33 #[v] V λr W=>∃w,r=æ #[w,Õ (!s.a)]/\pP W w (if s.a then 0 else cg l s.lo) (if s.a then 0 else cj l s.lo):=by obtain ⟨g,i,p,j,m,q,n,u,r,x,y,t,z,A,o,rfl,B,d⟩:=h;obtain ⟨_,_,_,_,_,_,e,C,D⟩:=d;simp only [Value.agg.injEq,ş,ł,Value.int.injEq,Value.pointer.injEq,Î,Í] at e;obtain ⟨rfl,rfl,rfl,rfl,rfl,rfl⟩:=e;refine zk V _ ⟨λb E F=>⟨_,by rw [b];rfl,by rw [b];exact ⟨_,_,_,_,_,_,rfl,RR.zero _,RR.zero _⟩⟩,λb V2 G=>(k_At ra ra sl M.1 N).s λr H I c=>pP.ex c λ_ _ c _ _=>λJ f=>⟨_,by rw [b];rfl,by rw [b];exact c.le f⟩⟩
theorem Rd {s:Sp}(h:zU V v l s)(sl:iJ k l)(M:s.sz k)(N:20*k+19<2^38:=by omega):À 34 #[v] V λr W=>∃w,r=æ #[w,Õ (!s.b)]/\pP W w (if s.b then 0 else cg l s.hi) (if s.b then 0 else cj l s.hi):=by obtain ⟨g,i,p,j,m,q,n,u,r,x,y,t,z,A,o,rfl,B,d⟩:=h;obtain ⟨_,_,_,_,_,_,e,C,D⟩:=d;simp only [Value.agg.injEq,ş,ł,Value.int.injEq,Value.pointer.injEq,Î,Í] at e;obtain ⟨rfl,rfl,rfl,rfl,rfl,rfl⟩:=e;refine D9 V _ ⟨λa E F=>⟨_,by rw [a];rfl,by rw [a];exact ⟨_,_,_,_,_,_,rfl,RR.zero _,RR.zero _⟩⟩,λa V2 G=>(k_At ra ra sl M.2 N).s λr H I c=>pP.ex c λ_ _ c _ _=>λJ f=>⟨_,by rw [a];rfl,by rw [a];exact c.le f⟩⟩
def tX (x y:Rat):Rat:=if 0<cY y x then y else x
def tY (x y:Rat):Rat:=if cY y x<0 then y else x
theorem ct (x y:Rat):(x<y/\cY x y=-1)\/(x=y/\cY x y=0)\/(y<x/\cY x y=1):=by grind [Gt.1,fh.1,Gs.1]
theorem Sp.iu {s:Sp}:s.emp=false↔(s.a=true\/s.b=true\/s.lo<s.hi):=by unfold Sp.emp;rcases ct s.lo s.hi with ⟨h,e⟩|⟨h,e⟩|⟨h,e⟩<;>rw [e]<;>cases s.a<;>cases s.b<;>simp<;>grind
def Sp.meet (v w:Sp):Sp:=⟨if v.a then w.lo else if w.a then v.lo else tX v.lo w.lo,if v.b then w.hi else if w.b then v.hi else tY v.hi w.hi,if v.a then w.a else false,if v.b then w.b else false⟩
theorem Sp.BJ {v w:Sp}(D:v.can)(u:w.can):(v.meet w).can:=by unfold Sp.meet;constructor<;>dsimp only;{(cases z:v.a with|false=>{intro h;cases h}|true=>exact λh=>u.1 h)};{(cases z:v.b with|false=>{intro h;cases h}|true=>exact λh=>u.2 h)}
def Sp.qQ (s:Sp):Rat:=if s.a then (if s.b then 0 else s.hi-((1:Int):Rat)) else if s.b then s.lo+((1:Int):Rat) else (s.lo+s.hi)*((2:Int):Rat)⁻¹
theorem Sp.WB {s:Sp}(h:s.emp=false):(s.a=false->s.lo<s.qQ)/\(s.b=false->s.qQ<s.hi):=by rw [Sp.iu] at h;unfold Sp.qQ;cases u:s.a<;>cases z:s.b<;>simp at h⊢<;>grind
def Û (m l:L3):Rat:=((m.1:Rat)*(l.2.1:Rat))+((m.2.1:Rat)*(-(l.1:Rat)))
def jB (m l:L3):Rat:=aC m (cg l 0) (cj l 0)
theorem jY (m l:L3)(t:Rat):aC m (cg l t) (cj l t)=jB m l+Û m l*t:=by unfold jB aC Û cg cj;grind
def Ø (m l:L3):Rat:=-(jB m l*(Û m l)⁻¹)
def bC (l:L3)(s:Sp)(m:L3):Sp:=
 if (Û m l).num.sign==0 then s else if (Û m l).num.sign==1 then s.meet ⟨Ø m l,0,false,true⟩ else s.meet ⟨0,Ø m l,true,false⟩
def cS (l:L3)(s:Sp)(m:L3):Bool:=
 if (Û m l).num.sign==0 then decide ((jB m l).num.sign>0) else !(bC l s m).emp
theorem bW (q:Rat):(q=0/\q.num.sign=0)\/(0<q/\q.num.sign=1)\/(q<0/\q.num.sign=-1):=by have a:=@Jx q;have b:=@Jy q;have c:=@Qb6 q;rcases Qt1 q.num 0 with h|h|h<;>grind
theorem Ry {l:L3}{s:Sp}{m:L3}(he:s.emp=false)(u:cS l s m=true):(bC l s m).emp=false:=by grind [cS,bC]
theorem Rz {l:L3}{s:Sp}{m:L3}(u:s.can):(bC l s m).can:=by unfold bC;split;{exact u};{split;{exact Sp.BJ u ⟨π,λ_=>rfl⟩};{exact Sp.BJ u ⟨λ_=>rfl,π⟩}}
theorem val_rev (m:L3)(x y:Rat):aC (Ö m) x y=-aC m x y:=by unfold aC Ö;simp only [Qs5];grind
def Ý (l m:L3):Rat:=((l.1:Rat)*(m.2.1:Rat))-((l.2.1:Rat)*(m.1:Rat))
def PD (l m:L3):Rat:=(((l.2.1:Rat)*(m.2.2:Rat))-((l.2.2:Rat)*(m.2.1:Rat)))*(Ý l m)⁻¹
def PE (l m:L3):Rat:=(((l.2.2:Rat)*(m.1:Rat))-((l.1:Rat)*(m.2.2:Rat)))*(Ý l m)⁻¹
def Sp.inn (s:Sp)(t:Rat):Prop:=(s.a=true\/s.lo<t)/\(s.b=true\/t<s.hi)
def yX (ss:List Sp)(t:Rat):Prop:=∃s∈ss,s.inn t
def Sp.good (s:Sp):Prop:=s.can/\s.emp=false
def Sp.K7 (s t:Sp):Prop:=s.b=false/\t.a=false/\s.hi<t.lo
def tu (ss:List Sp):Prop:=(∀s∈ss,s.good)/\ss.Pairwise Sp.K7
theorem pick (E:zA Rat):∀l u:Rat,l<u->∃t,l<t/\t<u/\t∉E:=by
 induction E with
 | nil=>exact λl u h=>⟨(l+u)/2,χ,χ,ψ⟩
 | cons e r z=>grind
theorem maxL:∀l:zA Rat,l=[]\/∃m∈l,∀x∈l,x<=m:=by
 intro l
 induction l with
 | nil=>exact .inl rfl
 | cons y r u=>
  rcases u with rfl|⟨m,hm,h⟩
  ·exact .inr ⟨y,ψ,by intro x a;simp at a;grind⟩
  grind
theorem minL:∀l:zA Rat,l=[]\/∃m∈l,∀x∈l,m<=x:=by
 intro l
 induction l with
 | nil=>exact .inl rfl
 | cons y r u=>
  rcases u with rfl|⟨m,hm,h⟩
  ·exact .inr ⟨y,ψ,by intro x a;simp at a;grind⟩
  grind
theorem JK (E D z:zA Rat)(h:∀l∈D,∀u∈z,l<u):∃t,(∀l∈D,l<t)/\(∀u∈z,t<u)/\t∉E:=by have key:∃a b:Rat,a<b/\(∀l∈D,l<=a)/\∀u∈z,b<=u:=by{rcases maxL D with rfl|⟨m,hm,e⟩;{rcases minL z with rfl|⟨n,f,c⟩;{exact ⟨0,1,φ,Ū,Ū⟩};{exact ⟨n-1,n,χ,Ū,c⟩}};{rcases minL z with rfl|⟨n,f,c⟩;{exact ⟨m,m+1,χ,e,Ū⟩};grind}};obtain ⟨a,b,d,e,c⟩:=key;have ⟨t,t1,t2,t3⟩:=pick E a b d;grind
def Sp.H9 (s:Sp):List Rat:=if s.a then [] else [s.lo]
def Sp.GJ (s:Sp):List Rat:=if s.b then [] else [s.hi]
variable{r:List Sp}
theorem Ac {s:Sp}{t:Rat}:s.inn t↔(∀l∈s.H9,l<t)/\∀u∈s.GJ,t<u:=by unfold Sp.inn Sp.H9 Sp.GJ;cases s.a<;>cases s.b<;>simp
theorem mw {s:Sp}{l:Rat}(h:l∈s.H9):s.a=false/\l=s.lo:=by unfold Sp.H9 at h;cases u:s.a<;>simp [u] at h;exact ⟨rfl,h⟩
theorem oI {s:Sp}{l:Rat}(h:l∈s.GJ):s.b=false/\l=s.hi:=by unfold Sp.GJ at h;cases u:s.b<;>simp [u] at h;exact ⟨rfl,h⟩
theorem nJ {s:Sp}(h:s.emp=false)(u:s.a=false)(z:s.b=false):s.lo<s.hi:=by grind [Sp.iu.1]
theorem NZ {s:Sp}(h:s.emp=false)(E:zA Rat):∃t,s.inn t/\t∉E:=by
 have ⟨t,c,d,e⟩:=JK E s.H9 s.GJ (λl a u hu=>by
  obtain ⟨b,rfl⟩:=mw a;obtain ⟨z,rfl⟩:=oI hu;exact nJ h b z)
 grind [Ac.2]
theorem tu.tail {s:Sp}(h:tu (s::r)):tu r:=⟨λx a=>h.1 x (by simp [a]),(ħ.1 h.2).2⟩
theorem tu.K7 {s:Sp}(h:tu (s::r)){x:Sp}(u:x∈r):s.K7 x:=(ħ.1 h.2).1 x u
theorem GX {s:Sp}(h:tu (s::r))(u:s.a=false){t:Rat}(z:t<=s.lo):¬yX (s::r) t:=by rintro ⟨x,b,d,e⟩;rcases ê.1 b with rfl|b;{grind};{have ⟨c,f,g⟩:=h.K7 b;have:=nJ (h.1 s ψ).2 u c;grind}
def nl:List Sp->List Rat
 | []=>[]
 | x::_=>[x.lo]
theorem NO {s:Sp}(h:tu (s::r))(z:s.b=false){t:Rat}(D:s.hi<=t)(u:∀x∈nl r,t<=x):¬yX (s::r) t:=by rintro ⟨x,a,c,d⟩;rcases ê.1 a with rfl|a;{grind};{(cases r with|nil=>{cases a}|cons y r=>{exact GX h.tail (h.K7 ψ).2.1 (u y.lo (by simp [nl])) ⟨x,a,c,d⟩})}
section
variable {s s':Sp} {r r':List Sp} {E:List Rat} (h:tu (s :: r)) (h':tu (s' :: r')) (e:∀t,t ∉ E->yX (s :: r) t->yX (s' :: r') t)
include h h' e
theorem un_a (D:s.a=true):s'.a=true:=by (cases z:s'.a with|true=>rfl|false=>{obtain ⟨t,-,c,d⟩:=JK E [] (s'.lo::s.GJ) (λl b=>by cases b);have:=e t d ⟨s,ψ,.inl D,(Ac.2 ⟨(λl b=>by unfold Sp.H9 at b;rw [Ä D] at b;cases b),λu hu=>c u (by simp [hu])⟩).2⟩;exact Å this (GX h' z (by have:=c s'.lo ψ;grind))})
theorem X5 (D:s.a=false)(z:s'.a=false):¬s.lo<s'.lo:=by
 intro b
 have ⟨t,f,d,g⟩:=JK E [s.lo] (s'.lo::s.GJ) (λl c u hu=>by
  obtain rfl:l=s.lo:=by simpa using c
  rcases ê.1 hu with rfl|hu
  ·exact b
  ·obtain ⟨i,rfl⟩:=oI hu;exact nJ (h.1 s ψ).2 D i)
 have:=e t g ⟨s,ψ,Ac.2 ⟨(λl c=>by obtain ⟨-,rfl⟩:=mw c;exact f _ ψ),λu hu=>d u (by simp [hu])⟩⟩;exact Å this (GX h' z (by have:=d s'.lo ψ;grind))
theorem un_b (D : s.a = false → s'.a = false ∧ s.lo = s'.lo)(F : s.b = true) : s'.b = true := by
  cases z : s'.b with
  | true => rfl
  | false =>
    have g : ∀ u∈nl r', s'.hi<u := λu hu => by
      cases r' with
      | nil => cases hu
      | cons y r' => obtain rfl : u = y.lo := by simpa [nl] using hu
                     exact (h'.K7 ψ).2.2
    obtain ⟨t, d, h, i⟩ := JK E (s'.hi::s.H9) (nl r') (λl c u hu => by
      rcases ê.1 c with rfl|c
      · exact g u hu
      · obtain ⟨f, rfl⟩ := mw c;have := nJ (h'.1 s' ψ).2 (D f).1 z;rw [(D f).2];grind)
    have := e t i ⟨s, by simp, (Ac.2 ⟨(λl c => d l (by simp [c])), (λu hu => by unfold Sp.GJ at hu;rw [Ä F] at hu;cases hu)⟩ : s.inn t)⟩;exact Å this (NO h' z (by have := d s'.hi ψ;grind) (λx j => by have := h x j;grind))
theorem X3 (D : s.a = false → s'.a = false ∧ s.lo = s'.lo)(M : s.b = false)(z : s'.b = false) : ¬s'.hi<s.hi := by
  intro c
  have g : ∀ u∈nl r', s'.hi<u := λu hu => by
    cases r' with
    | nil => cases hu
    | cons y r' => obtain rfl : u = y.lo := by simpa [nl] using hu
                   exact (h'.K7 ψ).2.2
  obtain ⟨t, h, f, i⟩ := JK E [s'.hi] (s.hi::nl r') (λl j u hu => by
    obtain rfl : l = s'.hi := by simpa using j
    rcases ê.1 hu with rfl|hu
    · exact c
    · exact g u hu)
  have m := h s'.hi ψ
  have d : s.inn t := by
    refine ⟨?_, .inr (f s.hi ψ)⟩
    cases F : s.a with
    | true => exact .inl rfl
    | false =>
      have := nJ (h'.1 s' ψ).2 (D F).1 z;exact .inr χ
  exact Å (e t i ⟨s, by simp, d⟩) (NO h' z χ (λx k => by have := f x (by simp [k]);grind))
end
theorem Sp.ext' {s t:Sp}(u:s.a=t.a)(z:s.b=t.b)(D:s.lo=t.lo)(F:s.hi=t.hi):s=t:=by cases s;cases t;simp at *;exact ⟨D,F,u,z⟩
theorem Mn {E:zA Rat}:∀{xs ys:zA Sp},tu xs->tu ys->(∀t,t∉E->(yX xs t↔yX ys t))->xs=ys:=by
 intro xs
 induction xs with
 | nil=>
  intro ys _ f e
  cases ys with
  | nil=>rfl
  | cons s r=>
   have ⟨t,c,i⟩:=NZ (f.1 s ψ).2 E;obtain ⟨x,d,-⟩:=(e t i).2 ⟨s,ψ,c⟩;cases d
 | cons s r M=>
  intro ys d f e
  cases ys with
  | nil=>
   have ⟨t,c,i⟩:=NZ (d.1 s ψ).2 E;obtain ⟨x,d,-⟩:=(e t i).1 ⟨s,ψ,c⟩;cases d
  | cons s' r'=>
   have k:=λt j=>(e t j).1;have l:=λt j=>(e t j).2
   have beq:∀{a b:md},(a=true->b=true)->(b=true->a=true)->a=b:=λ{a b} c i=>by cases a<;>cases b<;>simp at c i ⊢
   have g:=beq (un_a d f k) (un_a f d l)
   have y:s.a=false->s.lo=s'.lo:=λc=>by have A:=X5 d f k c (g▸c);have B:=X5 f d l (g▸c) c;grind
   have z:s.a=false->s'.a=false/\s.lo=s'.lo:=λh=>⟨g▸h,y h⟩;have n:s'.a=false->s.a=false/\s'.lo=s.lo:=λh=>⟨g.symm▸h,(y (g.symm▸h)).symm⟩;have u:=beq (un_b d f k z) (un_b f d l n)
   have C:s.b=false->s.hi=s'.hi:=λc=>by have A:=X3 d f k z c (u▸c);have B:=X3 f d l n (u▸c) c;grind
   have gs:=(d.1 s ψ).1;have o:=(f.1 s' ψ).1
   have es:s=s':=by refine Sp.ext' g u ?_ ?_;{(cases c:s.a with|false=>exact y c|true=>{rw [gs.1 c,o.1 (g▸c)]})};{(cases c:s.b with|false=>exact C c|true=>{rw [gs.2 c,o.2 (u▸c)]})}
   subst es
   have p:∀{q:zA Sp} {t:Rat},tu (s::q)->yX q t->¬s.inn t:=by rintro q t D ⟨x,d,c,i⟩ ⟨v,w⟩;have ⟨F,G,H⟩:=D.K7 d;grind
   rw [M d.tail f.tail (λt j=>⟨λm=>?_,λm=>?_⟩)]
   ·have ⟨x,hm,hi⟩:=k t j (by obtain ⟨x,v,w⟩:=m;exact ⟨x,by simp [v],w⟩);rcases ê.1 hm with rfl|hm;{exact Å hi (p d m)};{exact ⟨x,hm,hi⟩}
   ·have ⟨x,hm,hi⟩:=l t j (by obtain ⟨x,v,w⟩:=m;exact ⟨x,by simp [v],w⟩);rcases ê.1 hm with rfl|hm;{exact Å hi (p f m)};{exact ⟨x,hm,hi⟩}
end Go.Proofs.Tryz
namespace Go.Eng
theorem Av (a:Addr)(m n:Nat):(a.add m).add n=a.add (m+n):=by grind [Addr.add]
variable {α:Type} {sz:Nat} {R:Ó->Value->α->Prop} {V V':Ó}
structure é (sz:Nat) (R:Ó->Value->α->Prop) (V:Ó) (vs:List Value) (al:List α):Prop where
 at_:∀(i:Nat)(h:i<al.length),∃xs:List Value,xs.length=sz/\R V (.agg xs.toArray) al[i]/\∀j x,xs[j]?=some x->vs[i*sz+j]?=some x
structure bo (sz:Nat) (R:Ó->Value->α->Prop) (V:Ó) (p:OA) (n:Nat) (al:List α):Prop where
 len:n=al.length
 at_:∀(i:Nat)(h:i<al.length),∃ad,ae p (i*sz)=some ad/\∃xs:List Value,xs.length=sz/\R V (.agg xs.toArray) al[i]/\∀j x,xs[j]?=some x->V.at (ad.add j) x
theorem é.nil {vs:zA un}:é sz R V vs []:=⟨λi h=>Å h (ŋ i)⟩
theorem bo.nil {p:OA}:bo sz R V p 0 []:=⟨rfl,λi h=>Å h (ŋ i)⟩
theorem é.le {vs:zA un}{al:zA α}(h:é sz R V vs al)(m:∀v a,R V v a->R V' v a):é sz R V' vs al:=
 ⟨λi b=>by have ⟨xs,c,d,e⟩:=h.at_ i b;exact ⟨xs,c,m _ _ d,e⟩⟩
theorem bo.le {p:OA}{n:Nat}{al:zA α}(h:bo sz R V p n al)(l:V.Le V')(m:∀v a,R V v a->R V' v a):bo sz R V' p n al:=
 ⟨h.len,λi b=>by have ⟨c,d,xs,e,f,g⟩:=h.at_ i b;exact ⟨c,d,xs,e,m _ _ f,λj x k=>l.at (g j x k)⟩⟩
theorem é.eM {vs:zA un}{al:zA α}(h:é sz R V vs al)(u:0<sz):al.length*sz<=vs.length:=by by_cases a:al.length=0;{rw [a];omega};{obtain ⟨xs,d,-,b⟩:=h.at_ (al.length-1) ω;have c:sz-1<xs.length:=ω;have:=(Ġ.1 (b (sz-1) _ (ñ c))).1;have e:al.length*sz=(al.length-1)*sz+sz:=by{obtain ⟨m,hm⟩:∃m,al.length=m+1:=⟨al.length-1,ω⟩;grind [Nat.succ_mul]};omega}
theorem é.snoc {vs:zA un}{al:zA α}(h:é sz R V vs al){xs sp:zA un}{a:α}(z:xs.length=sz)(D:R V (.agg xs.toArray) a)(u:0<sz):é sz R V (vs.take (al.length*sz)++xs++sp) (al++[a]):=by have n:=h.eM u;have o:(vs.take (al.length*sz)).length=al.length*sz:=by{rw [è];omega};refine ⟨λi c=>?_⟩;rw [ë,Qc4] at c;by_cases e:i=al.length;{grind [Nat.add_sub_cancel_left]};{have b:i<al.length:=ω;have ⟨d,f,g,p⟩:=h.at_ i b;refine ⟨d,f,by rw [Qr8 b];exact g,λj x k=>?_⟩;have l:=(Ġ.1 k).1;have m:i*sz+j<al.length*sz:=by{have:(i+1)*sz<=al.length*sz:=Ā _ b;rw [Ş] at this;omega};grind}
theorem bo.eN {u:Nat}{ty:TypeId}{m:Nat×Nat}{vs:zA un}{al:zA α}(z:V.aW u (.cells vs.toArray ty m))(h:é sz R V vs al):bo sz R V (some ⟨u,0,none⟩) al.length al:=by refine ⟨rfl,λi a=>?_⟩;have ⟨xs,b,c,d⟩:=h.at_ i a;refine ⟨⟨u,i*sz,none⟩,by simp [ae,add_zero'],xs,b,c,λj x f=>?_⟩;have e:(⟨u,i*sz,none⟩:Addr).add j=⟨u,i*sz+j,none⟩:=by{rw [<-add_zero',Av,add_zero']};grind [dD]
theorem bo.bq {u c:Nat}{ty:TypeId}{m:Nat×Nat}{vs:zA un}{al:zA α}(F:vs≠[]->V.aW u (.cells vs.toArray ty m))(h:é sz R V vs al)(z:0<sz)(D:al.length<=c):bo sz R V (mA u c) al.length al:=by (cases al with|nil=>exact bo.nil|cons a r=>{have b:vs≠[]:=λe=>by{have:=h.eM z;grind [Nat.succ_mul]};have:mA u c=some ⟨u,0,none⟩:=by{unfold mA;rw [Ã];rw [Ą] at D;omega};grind [bo.eN]})
end Go.Eng
namespace Go.Proofs.Tryz
variable{V:Ó}{c k n:Nat}{vs:List Value}{p:OA}{v:Value}{l:L3}{ad:Addr}
structure GR {α:Type} (sz:Nat) (R:Ó->Value->α->Prop) (V:Ó) (n c:Nat) (vs:List Value) (l:List α):Prop where
 len:n=l.length
 le:n<=c
 cap:c*sz<=vs.length
 row:é sz R V vs l
theorem GR.nil {α:Type}{sz:Nat}{R:ut->un->α->Prop}{V:ut}:GR sz R V 0 0 [] []:=⟨rfl,Ù _,ψ,é.nil⟩
theorem GR.s {α:Type}{sz:Nat}{R:ut->un->α->Prop}{V':ut}{l:zA α}(h:GR sz R V n c vs l)(m:∀v a,R V v a->R V' v a):GR sz R V' n c vs l:=⟨h.len,h.le,h.cap,h.row.le m⟩
theorem GR.snoc {α:Type}{sz:Nat}{R:ut->un->α->Prop}{l:zA α}(h:GR sz R V n c vs l){xs:zA un}{a:α}(D:xs.length=sz)(F:R V (.agg xs.toArray) a)(M:0<sz){sp:zA un}{u:Nat}(z:n+1<=u)(N:u*sz<=(n+1)*sz+sp.length):GR sz R V (n+1) u (vs.take (n*sz)++xs++sp) (l++[a]):=by have b:=h.len;have d:=h.cap;have e:n*sz<=c*sz:=Ā _ h.le;refine ⟨by rw [ë,b];rfl,z,?_,?_⟩;{have f:(vs.take (n*sz)).length=n*sz:=by{rw [è];omega};grind};{grind [h.row.snoc]}
theorem row_one {α:Type}{sz:Nat}{R:ut->un->α->Prop}{V:ut}{xs:zA un}{a:α}(u:xs.length=sz)(z:R V (.agg xs.toArray) a):é sz R V xs [a]:=by refine ⟨λi b=>?_⟩<;>grind
theorem Ms {α:Type}{sz:Nat}{R:ut->un->α->Prop}{ls:zA α}(h:é sz R V vs ls)(D:k<=ls.length){xs sp:zA un}{a:α}(z:xs.length=sz)(F:R V (.agg xs.toArray) a)(M:0<sz):é sz R V (vs.take (k*sz)++(xs++(vs.take (ls.length*sz)).drop (k*sz))++sp) (ls.take k++a::ls.drop k):=by have v:=h.eM M;have q:k*sz<=ls.length*sz:=Ā _ D;have t1:(vs.take (k*sz)).length=k*sz:=by{rw [è];omega};have t2:((vs.take (ls.length*sz)).drop (k*sz)).length=ls.length*sz-k*sz:=by{rw [ī,è];omega};have g:(ls.take k).length=k:=by{rw [è];omega};refine ⟨λi r=>?_⟩;rw [Ĕ];by_cases s:i<k;{have c:i<ls.length:=ω;have ⟨l,n,o,p⟩:=h.at_ i c;have e:(ls.take k++a::ls.drop k)[i]=ls[i]:=by{rw [Qr8 ω,Qt2]};refine ⟨l,n,by rw [e];exact o,λj x b=>?_⟩;have d:=(Ġ.1 b).1;have f:i*sz+j<k*sz:=by{have:(i+1)*sz<=k*sz:=Ā _ s;rw [Ş] at this;omega};rw [į ω,Ħ,Ä f];exact p j x b};{by_cases t:i=k;{subst t;have e:(ls.take i++a::ls.drop i)[i]=a:=by{simp [g]};refine ⟨xs,z,by rw [e];exact F,λj x b=>?_⟩;have d:=(Ġ.1 b).1;rw [Ň ω,t1,Qn6,Ĕ,į d];exact b};{have c:i-1<ls.length:=by{rw [ë,g,Ą,ī] at r;omega};have ⟨l,n,o,p⟩:=h.at_ (i-1) c;have e:(ls.take k++a::ls.drop k)[i]=ls[i-1]:=by{rw [Wy3 ω];obtain ⟨m,hm⟩:∃m,i=k+(m+1):=⟨i-k-1,ω⟩;subst hm;simp only [g,Qn6,List.getElem_cons_succ,Qp5];congr 1};refine ⟨l,n,by rw [e];exact o,λj x b=>?_⟩;have d:=(Ġ.1 b).1;obtain ⟨m,hm⟩:∃m,i=k+1+m:=⟨i-k-1,ω⟩;subst hm;have w:(k+1+m)*sz=k*sz+sz+m*sz:=by{rw [đ,đ,Ŋ]};have u:(k+1+m-1)*sz=k*sz+m*sz:=by{rw [show k+1+m-1=k+m by omega,đ]};have:=p j x b;rw [u] at this;have f:k*sz+m*sz+j<ls.length*sz:=by{have:(k+m+1)*sz<=ls.length*sz:=Ā _ ω;rw [đ,đ,Ŋ] at this;omega};rw [Ň ω,t1,Ĕ,Ň ω,z,į ω,Qm4,Ħ,Ä ω];rw [show k*sz+((k+1+m)*sz+j-k*sz-sz)=k*sz+m*sz+j by omega];exact this}}
theorem cV {α:Type}{sz:Nat}{R:ut->un->α->Prop}{ls:zA α}(h:bo sz R V p n ls)(u:0<sz):∃xs:zA un,V.sl p xs/\xs.length=ls.length*sz/\é sz R V xs ls:=by
 have step:∀k,k<=ls.length->∃xs:zA un,V.sl p xs/\xs.length=k*sz/\é sz R V xs (ls.take k):=by
  intro k
  induction k with
  | zero=>exact λ_=>⟨[],λi v b=>by simp at b,ψ,by rw [Qd2];exact é.nil⟩
  | succ k z=>
   intro r;have ⟨xs,d,e,f⟩:=z ω;have ⟨l,g,m,j,o,s⟩:=h.at_ k ω;have q:(ls.take k).length=k:=by rw [è];omega
   refine ⟨xs++m,λi v b=>?_,by rw [ë,e,j,Ş],?_⟩
   ·by_cases c:i<xs.length;{rw [į c] at b;exact d i v b};{rw [Ň ω] at b;(cases p with|none=>{cases g}|some a=>{obtain rfl:=ő (show some (a.add (k*sz))=some l from g);grind [Av]})}
   ·have:=f.snoc (sp:=[]) j o u;rw [q,þ,Ŕ ω] at this;rw [Ĭ,ñ ω];exact this
 have ⟨xs,d,e,f⟩:=step ls.length (Ù _);grind
theorem d_ {α:Type}{sz:Nat}{R:ut->un->α->Prop}{V:ut}{vs xs sp:zA un}{ls ms:zA α}(h:é sz R V vs ls)(h':é sz R V xs ms)(u:0<sz):é sz R V (vs.take (ls.length*sz)++xs++sp) (ls++ms):=by have q:=h.eM u;have o:=h'.eM u;have n:(vs.take (ls.length*sz)).length=ls.length*sz:=by{rw [è];omega};refine ⟨λi p=>?_⟩;by_cases c:i<ls.length;{have ⟨d,f,g,k⟩:=h.at_ i c;refine ⟨d,f,by rw [Qr8 c];exact g,λj x a=>?_⟩;have l:=(Ġ.1 a).1;have b:i*sz+j<ls.length*sz:=by{have:(i+1)*sz<=ls.length*sz:=Ā _ c;rw [Ş] at this;omega};rw [Ĕ,į ω,Ħ,Ä b];exact k j x a};{rw [ë] at p;obtain ⟨m,rfl⟩:∃m,i=ls.length+m:=⟨i-ls.length,ω⟩;have hm:m<ms.length:=ω;have ⟨d,f,g,k⟩:=h'.at_ m hm;refine ⟨d,f,?_,λj x a=>?_⟩;{have e:(ls++ms)[ls.length+m]=ms[m]:=by{rw [Wy3 ω];simp};rw [e];exact g};{have l:=(Ġ.1 a).1;have b:m*sz+j<xs.length:=by{have:(m+1)*sz<=ms.length*sz:=Ā _ hm;rw [Ş] at this;omega};rw [Ĕ,Ň (by rw [n,đ];omega),n,đ,į ω];rw [show ls.length*sz+m*sz+j-ls.length*sz=m*sz+j by omega];exact k j x a}}
theorem eO {α:Type}{sz:Nat}{R:ut->un->α->Prop}{al:zA α}(h:é sz R V vs al)(u:0<sz)(z:∀xs a,R V (.agg (List.toArray xs)) a->∀v∈xs,v.oneCell'=true){m:Nat}(hm:m<al.length*sz)(D:vs[m]?=some v):v.oneCell'=true:=by have ⟨xs,b,e,c⟩:=h.at_ (m/sz) (Nat.div_lt_of_lt_mul (by rw [Ĺ];exact hm));have d:m%sz<xs.length:=by{rw [b];exact Ě _ u};grind [Nat.mul_comm,Nat.div_add_mod,List.getElem_mem]
theorem rM {α:Type}{sz:Nat}{R:ut->un->α->Prop}{V:ut}{F M:Nat}{us:zA un}{O:zA α}(Z:GR sz R V F M us O)(hs:0<sz)(one:∀xs a,R V (.agg (List.toArray xs)) a->∀v∈xs,v.oneCell'=true){N:Nat}{ty:TypeId}{m:Nat×Nat}(hb:us≠[]->V.aW N (.cells us.toArray ty m)){es:zA un}{x:α}(he:es.length=sz)(hx:R V (.agg es.toArray) x){j:Nat}(qA:j<=F:=by omega):∃xs ys:zA un,V.sl (jJ (mA N M) M j sz) xs/\xs.length=(F-j)*sz/\(∀v∈xs,v.oneCell'=true)/\V.sl (mA N M) ys/\ys.length=j*sz/\((mA N M).isNone=true->j=0)/\(∀sp:zA un,aw (es.take (1*sz)++xs++sp) 0 ((1+(F-j))*sz)=es++xs)/\(es++xs).length/sz=1+(F-j)/\(es++xs).length=(1+(F-j))*sz/\(∀v∈es++xs,v.oneCell'=true)/\∀(sp:zA un)(c':Nat),j+(1+(F-j))<=c'->c'*sz<=(j+(1+(F-j)))*sz+sp.length->GR sz R V (j+(1+(F-j))) c' (ys++(es++xs)++sp) (O.take j++x::O.drop j):=by have n:=Z.len;have s:=Z.le;have o:=Z.cap;have p:=Z.row;have A:F*sz<=M*sz:=Ā _ s;have B:j*sz<=F*sz:=Ā _ qA;have C:(F-j)*sz=F*sz-j*sz:=Nat.sub_mul ..;have t:(1+(F-j))*sz=sz+(F-j)*sz:=by{rw [đ,Ŋ]};have t1:(us.take (j*sz)).length=j*sz:=by{rw [è];omega};have t2:((us.take (F*sz)).drop (j*sz)).length=(F-j)*sz:=by{rw [ī,è];omega};have q:∀v∈(us.take (F*sz)).drop (j*sz),v.oneCell'=true:=by{intro v g;have ⟨k,hm,e⟩:=Qb5.1 (Qg2 g);have d:k<F*sz:=by{rw [è] at hm;omega};have:=ñ hm;rw [e,Ħ,Ä d] at this;exact eO p hs one (by rw [<-n];exact d) this};have f:0<M->us≠[]:=λhw e=>by{have:0<M*sz:=Wz3 hw hs;rw [e] at o;simp at o;omega};have i:0<M->mA N M=some ⟨N,0,none⟩:=λhw=>by{unfold mA;rw [Ã ω]};have at_:∀k v,0<M->us[k]?=some v->V.at ⟨N,k,none⟩ v:=λk v hm g=>dD (hb (f hm)) g;have b:(es++(us.take (F*sz)).drop (j*sz)).length=(1+(F-j))*sz:=by{rw [ë,t2,he,t]};refine ⟨(us.take (F*sz)).drop (j*sz),us.take (j*sz),?_,t2,q,?_,t1,?_,λsp=>?_,by rw [b];exact Qf7 _ hs,b,λv u=>(ø.1 u).elim ((one _ _ hx) v) (q v),λsp c' w D=>?_⟩;{intro k v hm;have c:=(Ġ.1 hm).1;rw [t2] at c;rw [Qm4,Ħ,Ä ω] at hm;have y:j<M:=by{rcases Ē j M with h|h;{exact h};{have:F-j=0:=ω;rw [this,Ŗ] at c;omega}};have:=at_ (j*sz+k) v ω hm;refine ⟨⟨N,j*sz,none⟩,?_,?_⟩;{unfold jJ;rw [Ã ω,i ω];simp [ae,add_zero']};{rw [<-add_zero',Av,add_zero'];exact this}};{intro k v hm;have c:=(Ġ.1 hm).1;rw [t1] at c;rw [Ħ,Ä c] at hm;have hw:0<M:=by{rcases Ĵ M with h|h;{have:j=0:=ω;rw [this,Ŗ] at c;omega};{exact h}};exact ⟨⟨N,0,none⟩,i hw,by rw [add_zero'];exact at_ k v hw hm⟩};{intro r;by_cases hw:0<M;{rw [i hw] at r;cases r};{omega}};{have z:es.take (1*sz)=es:=by{rw [Ŋ,<-he,ď]};rw [z];unfold aw;rw [Nat.ble_eq_true_of_le (by rw [ë,b];omega),cond_true,Qt5,Wq2 (by rw [b];exact Ù _),Ŕ (by rw [b];exact Ù _)]};{have l:j<=O.length:=ω;refine ⟨by rw [ë,è,Ą,ī];omega,w,?_,?_⟩;{have E:(j+(1+(F-j)))*sz=j*sz+(1+(F-j))*sz:=đ ..;rw [ë,ë,t1,b];omega};{rw [n];exact Ms p l he hx hs}}
theorem mo (h:QE V v false [] []):À 115 #[v] V λr W=>r=Õ true:=by obtain ⟨p,n,c,q,m,e,rfl,a,b⟩:=h;grind [a.len,b.len,ED]
theorem Gn {w:un}{s:Sp}(h:WZ V v s)(h':WZ V w s)(hs:s.sz k)(hk:k<=2^40):À 48 #[v,w] V λr W=>r=Õ true:=by obtain ⟨lo,hi,a,b⟩:=s;obtain ⟨b1,p,n,c,p',n',c',d,q,m,e,M,N,O,rfl,E,F⟩:=h;obtain ⟨b2,i,j,t,i',j',t',f,o,u,g,P,Q,R,rfl,G,H⟩:=h';dsimp only at E F G H ⊢;refine EA V _ ⟨λ_=>⟨λ_=>?_,(by intro h;simp at h)⟩,(by intro h;simp at h)⟩;have S:∀x:ut,V.Le x->b=true->À 115 #[qvK #[Õ d,dB q m e,dB M N O]] x λr W=>r=Õ true:=λx z l=>mo ((F.1 l).le z);have D:∀x:ut,V.Le x->b=true->À 115 #[qvK #[Õ f,dB o u g,dB P Q R]] x λr W=>r=Õ true:=λx z l=>mo ((H.1 l).le z);have T:∀x:ut,V.Le x->b=false->À 116 #[qvK #[Õ d,dB q m e,dB M N O],qvK #[Õ f,dB o u g,dB P Q R]] x λr W=>r=Õ true:=λx z l=>(jj ((F.2 l).le z) ((H.2 l).le z) hs.2 hk).s λr B _ h=>by{rw [h];simp};(cases a with|true=>{refine ⟨λ_ X C=>(mo ((E.1 rfl).le C)).s ?_,π⟩;rintro r V2 U rfl;refine ⟨_,rfl,λ_ V3 W=>(mo ((G.1 rfl).le (C.m (U.m W)))).s ?_,π⟩;rintro r x z rfl;have L:=C.m (U.m (W.m z));refine ⟨_,rfl,λ_=>⟨λl B A=>(S B (L.m A) l).s ?_,λl=>⟨λ_ B A=>(T B (L.m A) l).s ?_,λy=>by rw [l] at y;cases y⟩⟩,π⟩;{rintro r Y I rfl;refine ⟨_,rfl,λ_ J K=>(D J (L.m (A.m (I.m K))) l).s ?_,π⟩;rintro r Z l8 rfl;exact ⟨_,rfl,λ_ V9 l9=>rfl,π⟩};grind}|false=>{refine ⟨π,λ_=>⟨λ_ X C=>(jj ((E.2 rfl).le C) ((G.2 rfl).le C) hs.1 hk).s ?_,π⟩⟩;rintro r x z rfl;have L:=C.m z;refine ⟨_,rfl,λ_=>⟨λl B A=>(S B (L.m A) l).s ?_,λl=>⟨λ_ B A=>(T B (L.m A) l).s ?_,λy=>by rw [l] at y;cases y⟩⟩,(by intro h;simp at h)⟩;{rintro r Y I rfl;refine ⟨_,rfl,λ_ J K=>(D J (L.m (A.m (I.m K))) l).s ?_,π⟩;rintro r Z l8 rfl;exact ⟨_,rfl,λ_ V9 l9=>rfl,π⟩};grind})
theorem DL {s:Sp}(h:mb V v s)(Z:s.sz k)(hk:k<=2^40):À 117 #[v] V λr W=>WZ W r s:=by obtain ⟨G,p,n,c,H,I,J,d,q,m,e,K,L,M,rfl,z,l⟩:=h;have t:∀{V:ut} {v:un} {x:Rat} {no:md},RA V v x->(!no)=true->RE V v x no:=λh e=>by{rw [Ľ] at e;subst e;exact ⟨π,λ_=>h⟩};have f:∀{V:ut} {x:Rat} {no:md},(!no)=false->RE V (qvK #[Õ false,dB none 0 0,dB none 0 0]) x no:=λe=>by{rw [š] at e;subst e;exact ⟨λ_=>QE.nil,π⟩};refine Dd V _ ⟨λg N o=>(jE (z.le o) Z.1 hk).s ?_,λg=>⟨λa O A=>(jE (l.le A) Z.2 hk).s ?_,λa P B=>?_⟩⟩;{rintro r V2 C u;have i:=u;obtain ⟨_,_,_,_,_,_,_,rfl⟩:=u.shape;refine qxW ⟨rfl,λa Q w=>(jE (l.le (o.m (C.m w))) Z.2 hk).s ?_,λa R D=>?_⟩;{rintro r S E j;have b:=j;obtain ⟨_,_,_,_,_,_,_,rfl⟩:=j.shape;exact qxW ⟨rfl,λT y=>⟨_,_,_,_,_,_,_,_,_,_,_,_,_,_,rfl,t (i.le (w.m (E.m y))) g,t (b.le y) a⟩⟩};{exact qxZ ⟨rfl,t (i.le D) g,f a⟩}};{rintro r U W j;have b:=j;obtain ⟨_,_,_,_,_,_,_,rfl⟩:=j.shape;exact qxW ⟨rfl,λX F=>⟨_,_,_,_,_,_,_,_,_,_,_,_,_,_,rfl,f g,t (b.le F) a⟩⟩};{exact qxZ ⟨rfl,f g,f a⟩}
theorem iJ.ah (h:iJ k l)(u:k<=2^40):(ah l.1.natAbs).length<=2^40/\(ah l.2.1.natAbs).length<=2^40/\(ah l.2.2.natAbs).length<=2^40:=by have d1:=ag (show l.1.natAbs<2^k from h.1.1);have d2:=ag (show l.2.1.natAbs<2^k from h.2.1.1);have d3:=ag (show l.2.2.natAbs<2^k from h.2.2.1);grind
theorem AV {s:Sp}(h:RF V v l s)(sl:iJ k l)(hs:s.sz k)(Z:k<=2^40):À 49 #[v] V λr W=>QB W r l s:=by have ⟨d1,d2,d3⟩:=sl.ah Z;obtain ⟨z,A,B,C,D,E,F,G,H,I,J,K,b,p,n,c,L,M,N,d,q,m,e,O,P,Q,rfl,u,w⟩:=h;refine zM V _ λR g=>(qc (u.le g) d1 d2 d3).s ?_;rintro r V2 x i;have a:=i;obtain ⟨_,_,_,_,_,_,_,_,_,_,_,_,rfl⟩:=vL i;refine wqQ ⟨rfl,λS j=>(DL (w.le (g.m (x.m j))) hs Z).s ?_⟩;rintro r T y o;have f:=o;obtain ⟨_,_,_,_,_,_,_,_,_,_,_,_,_,_,rfl,-,-⟩:=o;exact ⟨_,_,_,_,_,_,_,_,_,_,_,_,_,_,_,_,rfl,λU t=>⟨_,_,_,_,_,_,_,_,_,_,_,_,_,_,_,_,_,_,_,_,_,_,_,_,_,_,rfl,a.le (j.m (y.m t)),f.le t⟩⟩
def FAt (V:Ó)(ad:Addr)(l:L3)(s:Sp):Prop:=∃xs:List Value,QB V (.agg xs.toArray) l s/\∀i x,xs[i]?=some x->V.at (ad.add i) x
theorem FAt.le {V V':ut}{s:Sp}(h:FAt V ad l s)(e:V.Le V'):FAt V' ad l s:=by obtain ⟨xs,a,b⟩:=h;exact ⟨xs,a.le e,λi x c=>e.at (b i x c)⟩
structure F3 (V:Ó) (p:OA) (n:Nat) (fs:List (L3×Sp)):Prop where
 len:n=fs.length
 at_:∀(i:Nat)(h:i<fs.length),∃ad,ae p (i*14)=some ad/\FAt V ad fs[i].1 fs[i].2
theorem F3.le {V V':ut}{fs:zA (L3×Sp)}(h:F3 V p n fs)(e:V.Le V'):F3 V' p n fs:=⟨h.len,λi a=>by have ⟨b,c,d⟩:=h.at_ i a;exact ⟨b,c,d.le e⟩⟩
theorem aK {j:Nat}(h:ae p j=some ad):p.isSome=true:=by (cases p with|none=>{cases h}|some a=>rfl)
theorem Dy {q:OA}{m e:Nat}{fs:zA (L3×Sp)}(hp:F3 V p n fs)(hq:F3 V q m fs)(sz:∀f∈fs,iJ k f.1/\f.2.sz k)(hk:k<=2^40)(hn:fs.length<2^62:=by omega):À 14 #[dB p n c,dB q m e] V λr W=>r=Õ true:=by obtain rfl:=hp.len;obtain rfl:=hq.len;refine zK V _ ⟨(by intro h;simp at h),λ_=>⟨λz V'=>0<=z/\z<=fs.length,λz=>(fs.length-z).toNat,⟨0,σ,ω,ω⟩,?_⟩⟩;rintro z V2 D ⟨z0,z1⟩;refine ⟨rfl,λg=>?_,λg V9 l9=>rfl⟩;have g:=Á g;obtain ⟨i,rfl⟩:∃i:Nat,z=i:=⟨z.toNat,ω⟩;have v:i<fs.length:=ω;rw [Ü];have w:i64.wrap ((i:Int)+1)=(i:Int)+1:=ao ω;rw [w];have ⟨s1,s2⟩:=sz _ (ó v);obtain ⟨y,A,xs,⟨b1,p1,n1,c1,b2,p2,n2,c2,b3,p3,n3,c3,bb,pp,nn,cc,N,O,P,dd,qq,mm,ee,Q,R,S,ex,T,U⟩,l⟩:=(hp.le D).at_ i v;obtain ⟨o,s,ys,⟨W,Tg,X,Y,Z,Wi,Qx,a0,a1,Wj,VS,a2,a3,a4,a5,a6,E,F,G,a7,a8,a9,b0,H,I,J,u,h3,h4⟩,t⟩:=(hq.le D).at_ i v;have ex:=Æ Array.toList (Value.agg.inj ex);have u:=Æ Array.toList (Value.agg.inj u);dsimp only at ex u;subst ex u;have d:=s1.ah hk;rw [A,s];refine ⟨aK A,⟨ω,g⟩,rfl,_,_,_,_,_,_,_,_,_,_,_,_,y.add 0,rfl,l 0 _ rfl,l 1 _ rfl,l 2 _ rfl,l 3 _ rfl,l 4 _ rfl,l 5 _ rfl,aK s,⟨ω,g⟩,rfl,_,_,_,_,_,_,_,_,_,_,_,_,o.add 0,rfl,t 0 _ rfl,t 1 _ rfl,t 2 _ rfl,t 3 _ rfl,t 4 _ rfl,t 5 _ rfl,λV3 B=>(sR (T.le B) (h3.le B) d.1 d.2.1 d.2.2).s ?_⟩;rintro r K l4 rfl;have L:=B.m l4;have a:∀j x,_->K.at ((y.add 6).add j) x:=λj x C=>by{rw [fQ];exact L.at (l (6+j) x C)};have b:∀j x,_->K.at ((o.add 6).add j) x:=λj x C=>by{rw [fQ];exact L.at (t (6+j) x C)};refine ⟨_,rfl,(by intro h;simp at h),λ_=>⟨aK A,⟨ω,g⟩,rfl,_,_,_,_,_,_,_,_,_,_,_,_,_,_,_,_,y.add 6,rfl,a 0 _ rfl,a 1 _ rfl,a 2 _ rfl,a 3 _ rfl,a 4 _ rfl,a 5 _ rfl,a 6 _ rfl,a 7 _ rfl,aK s,⟨ω,g⟩,rfl,_,_,_,_,_,_,_,_,_,_,_,_,_,_,_,_,o.add 6,rfl,b 0 _ rfl,b 1 _ rfl,b 2 _ rfl,b 3 _ rfl,b 4 _ rfl,b 5 _ rfl,b 6 _ rfl,b 7 _ rfl,λV6 M=>(Gn (U.le (L.m M)) (h4.le (L.m M)) s2 hk).s λr V7 l7 rfl=>⟨_,rfl,π,λ_=>⟨(i:Int)+1,by dsimp only;omega,σ,ω,ω⟩⟩⟩⟩
def SAt (V:Ó)(ad:Addr)(s:Sp):Prop:=∃xs:List Value,mb V (.agg xs.toArray) s/\∀i x,xs[i]?=some x->V.at (ad.add i) x
theorem SAt.le {V V':ut}{s:Sp}(h:SAt V ad s)(e:V.Le V'):SAt V' ad s:=by obtain ⟨xs,a,b⟩:=h;exact ⟨xs,a.le e,λi x c=>e.at (b i x c)⟩
structure Na (V:Ó) (p:OA) (n:Nat) (ss:List Sp):Prop where
 len:n=ss.length
 at_:∀(i:Nat)(h:i<ss.length),∃ad,ae p (i*8)=some ad/\SAt V ad ss[i]
theorem Na.le {V V':ut}{ss:zA Sp}(h:Na V p n ss)(e:V.Le V'):Na V' p n ss:=⟨h.len,λi a=>by have ⟨b,c,d⟩:=h.at_ i a;exact ⟨b,c,d.le e⟩⟩
def yQ (a b:Int):Int:=if 0<a/\b<0 then 2 else if (a=0/\b<=0)\/(b=0/\0<=a) then 1 else 0
def Sp.la (s:Sp)(t:Rat):Int:=if s.a then 1 else cY t s.lo
def Sp.lb (s:Sp)(t:Rat):Int:=if s.b then -1 else cY t s.hi
variable{V:Ó}{p:OA}{c i k n y:Nat}{v:Value}{ss:List Sp}{px py q qx qy x:Rat}{ds:List Nat}
def sF:List Sp->Rat->Int
 | [],_=>0
 | s::r,t=>if yQ (s.la t) (s.lb t)≠0 then yQ (s.la t) (s.lb t) else sF r t
theorem DI {t:Rat}(hl:Na V p n ss)(ht:RQ V v t)(hs:∀s∈ss,s.sz k)(st:Sz k t)(hk:2*k<2^38)(hn:ss.length<2^62):À 137 #[dB p n c,v] V λr W=>r=Ô .i64 (sF ss t):=by obtain rfl:=hl.len;obtain ⟨_,_,_,_,_,_,rfl⟩:=ht.shape;refine Db V _ ⟨λz V'=>0<=z/\z<=ss.length/\sF ss t=sF (ss.drop z.toNat) t,λz=>(ss.length-z).toNat,⟨0,σ,ω,ω,rfl⟩,?_⟩;rintro z G q ⟨H,I,g⟩;refine ⟨rfl,λj=>?_,λj J K=>?_⟩;{have j:=Á j;obtain ⟨i,rfl⟩:∃i:Nat,z=i:=⟨z.toNat,ω⟩;have m:i<ss.length:=ω;rw [Ü] at g ⊢;have w:i64.wrap ((i:Int)+1)=(i:Int)+1:=ao ω;rw [w];have o:=hs _ (ó m);obtain ⟨u,d,xs,⟨L,pp,M,N,x,y,A,O,P,Q,R,B,C,D,ex,S,T⟩,f⟩:=(hl.le q).at_ i m;have ex:=Æ Array.toList (Value.agg.inj ex);dsimp only at ex;subst ex;rw [Ĥ m] at g;generalize ss[i]=s at *;simp only [sF] at g;refine ⟨aK d,⟨ω,j⟩,_,_,_,_,_,_,_,_,_,_,_,_,_,_,s.a,s.b,u,by rw [d],f 0 _ rfl,f 1 _ rfl,f 2 _ rfl,f 3 _ rfl,f 4 _ rfl,f 5 _ rfl,f 6 _ rfl,f 7 _ rfl,λz _=>z=s.la t,⟨λh V2 U=>(ew ra ra st o.1).s ?_,λh=>⟨1,σ,?_⟩⟩,?_⟩;{rintro r W X rfl;exact ⟨_,rfl,_,σ,by unfold Sp.la;rw [Ľ] at h;rw [h];rfl⟩};{unfold Sp.la;rw [š] at h;rw [h];rfl};rintro Y Z l4 rfl;refine ⟨rfl,λz _=>z=s.lb t,⟨λh V5 l5=>(ew ra ra st o.2).s ?_,λh=>⟨-1,σ,?_⟩⟩,?_⟩;{rintro r V6 l6 rfl;exact ⟨_,rfl,_,σ,by unfold Sp.lb;rw [Ľ] at h;rw [h];rfl⟩};{unfold Sp.lb;rw [š] at h;rw [h];rfl};rintro zb V7 l7 rfl;generalize s.la t=a at *;generalize s.lb t=b at *;refine ⟨rfl,λz _=>z=decide (0<a/\b<0),⟨λh=>⟨_,σ,?_⟩,λh=>⟨_,σ,?_⟩⟩,?_⟩;{have h:=Á h;simp [h]};{have h:=Â h;simp [h]};rintro z9 V8 l8 rfl;refine ⟨rfl,λh V9 l9=>?_,λh=>⟨λz _=>z=decide ((a=0/\b<=0)\/(b=0/\0<=a)),⟨λd=>⟨λl=>⟨_,σ,?_⟩,λl=>⟨λe=>⟨_,σ,?_⟩,λe=>⟨_,σ,?_⟩⟩⟩,λd=>⟨λe=>⟨_,σ,?_⟩,λe=>⟨_,σ,?_⟩⟩⟩,?_⟩⟩;{have h:=Á h;rw [g];simp [yQ,h]};{simp at d l;simp [d,l]};{simp at d l e;simp [d,e]};{simp at d l e;simp;omega};{simp at d e;simp [d,e]};{simp at d e;simp [d,e]};rintro E fo F rfl;have h:=Â h;refine ⟨rfl,λh' fg dy=>?_,λh'=>⟨(i:Int)+1,by dsimp only;omega,σ,ω,ω,?_⟩⟩;{have h':=Á h';rw [g];have:yQ a b=1:=by{unfold yQ;rw [Ã h,Ä h']};rw [this];rfl};{have h':=Â h';have:yQ a b=0:=by{unfold yQ;rw [Ã h,Ã h']};rw [g,this];show _=sF (ss.drop ((i:Int)+1).toNat) t;grind}};{have j:=Â j;rw [g,show z.toNat=ss.length from by omega,Qr0];rfl}
theorem O7 (x y:Rat):cY y x=- cY x y:=by unfold cY;rw [show y-x=-(x-y) from χ];exact Int.sign_neg _
theorem AP (h:RQ V v q):À 100 #[v] V λr W=>RQ W r (-q):=by obtain ⟨p,n,c,d,e,f,rfl,a,b⟩:=h;exact nt q a b
theorem T5 {px py qx qy:Rat}:((pz px py qx qy).1.num/(bZ (pz px py qx qy).1.num (pz px py qx qy).2.1.num (pz px py qx qy).2.2.num:Int),(pz px py qx qy).2.1.num/(bZ (pz px py qx qy).1.num (pz px py qx qy).2.1.num (pz px py qx qy).2.2.num:Int),(pz px py qx qy).2.2.num/(bZ (pz px py qx qy).1.num (pz px py qx qy).2.1.num (pz px py qx qy).2.2.num:Int))=mS px py qx qy:=by unfold pz mS BN BH;have e:∀x:Rat,(-x).den=x.den:=λx=>rfl;grind
theorem T6:((pz px py qx qy).1.num=0/\(pz px py qx qy).2.1.num=0)↔(px=qx/\py=qy):=by unfold pz;dsimp only;generalize u:(-(qy-py)).den*(qx-px).den*(-(-(qy-py)*px+(qx-px)*py)).den=f;have a:f≠0:=by{rw [<-u];exact ŏ (ŏ (Rat.den_nz _) (Rat.den_nz _)) (Rat.den_nz _)};have b:((f:Int):Rat)≠0:=by{exact_mod_cast a};grind [Rat.num_eq_zero]
theorem PY {u w:un}(D:RP V u px py)(F:RP V w qx qy)(s1:Sz k px)(s2:Sz k py)(s3:Sz k qx)(s4:Sz k qy)(z:1<=k)(M:64*k+64<2^38:=by omega):À 44 #[u,w] V λr W=>(px=qx/\py=qy->∃l,r=æ #[l,Õ false]/\RL W l 0 0 0)/\(¬(px=qx/\py=qy)->∃l,r=æ #[l,Õ true]/\RL W l (mS px py qx qy).1 (mS px py qx qy).2.1 (mS px py qx qy).2.2):=by refine (jQ D F s1 s2 s3 s4 z M).s ?_;rintro r V2 d ⟨a,b⟩;rw [T6] at a b;refine ⟨a,λh=>?_⟩;have ⟨l,c,g⟩:=b h;rw [<-(T5 (px:=px) (py:=py) (qx:=qx) (qy:=qy))];exact ⟨l,c,g⟩
theorem yN {u:un}(M:RP V u px py)(N:RP V v qx qy)(s1:Sz k px)(s2:Sz k py)(s3:Sz k qx)(s4:Sz k qy)(F:1<=k)(O:400*k+400<2^38:=by omega):À 218 #[u,v] V λr W=>(px=qx/\py=qy->∃l,r=æ #[l,Õ false]/\RF W l (0,0,0) Sp.zero)/\(¬(px=qx/\py=qy)->∃l,r=æ #[l,Õ true]/\RF W l (mS px py qx qy) (Mu px py qx qy)):=by have f:=M;have g:=N;obtain ⟨_,_,_,_,_,_,_,_,_,_,_,_,_,_,rfl⟩:=gO M;obtain ⟨_,_,_,_,_,_,_,_,_,_,_,_,_,_,rfl⟩:=gO N;refine xT V _ λn o=>(PY ra ra s1 s2 s3 s4 F).s ?_;rintro r V2 p ⟨i,j⟩;by_cases h:px=qx/\py=qy;{obtain ⟨l,rfl,a⟩:=i h;obtain ⟨_,_,_,_,_,_,_,_,_,_,_,_,rfl⟩:=vL a;have z:∀V:ut,RQ V (qvK #[Õ false,dB none 0 0,dB none 0 0]) 0:=λV=>by{have:=RQ.zero (V:=V);simpa using this};refine ⟨_,_,_,_,_,_,_,_,_,_,_,_,_,rfl,λ_ q s=>⟨λ_=>⟨_,rfl,?_⟩,λh'=>Å h h'⟩,λh=>nomatch h⟩;exact ⟨_,_,_,_,_,_,_,_,_,_,_,_,_,_,_,_,_,_,_,_,_,_,_,_,_,_,rfl,⟨_,_,_,_,_,_,_,_,_,rfl,RD.nil,RD.nil,RD.nil⟩,_,_,_,_,_,_,_,_,_,_,_,_,_,_,rfl,z _,z _⟩};{obtain ⟨l,rfl,a⟩:=j h;have b:=a;have sl:=Hv s1 s2 s3 s4 h;have e:=Ow h;obtain ⟨_,_,_,_,_,_,_,_,_,_,_,_,rfl⟩:=vL a;refine ⟨_,_,_,_,_,_,_,_,_,_,_,_,_,rfl,π,λ_ t w=>(vF ra ra e sl (Sz.s s1 ω) (Sz.s s2 ω)).s λr x y c=>RQ.ex c λ_ c=>λA B=>(vF ra ra e sl (Sz.s s3 ω) (Sz.s s4 ω)).s λr C D d=>RQ.ex d λ_ d=>λE m=>⟨λh'=>Å h' h,λ_=>⟨_,rfl,?_⟩⟩⟩;exact ⟨_,_,_,_,_,_,_,_,_,_,_,_,_,_,_,_,_,_,_,_,_,_,_,_,_,_,rfl,b.le au,_,_,_,_,_,_,_,_,_,_,_,_,_,_,rfl,c.le au,d.le m⟩}
theorem E5 (h:RD V p n c ds)(hm:ds.length<=2^40:=by omega):À 295 #[dB p n c] V λr W=>∃u z c1,r=dB u z c1/\RN W u z c1 (val ds):=by have a:=h.len;refine M4 V _ ⟨aM ds,h.sl,by simp [a],ω,ω,ψ,by simp [a],?_,?_⟩;{intro v e;simp only [aM,ă] at e;obtain ⟨d,-,rfl⟩:=e;rfl};{intro j J sp l f m o q b i;simp only [Ĉ] at i f ⊢;refine (dW (Į h.gg a f i)).s ?_;rintro r V2 s ⟨k,rfl,g⟩;grind [a_,h.gg,g.le]}
theorem O1 (b:md)(h:RD V p n c ds)(hm:ds.length<=2^40:=by omega):À 296 #[qvK #[Õ b,dB p n c]] V λr W=>RI W r (bI b ds):=by refine MZ V _ λe f=>(E5 ra hm).s ?_;rintro r V2 i ⟨j,k,l,rfl,g⟩;refine ⟨_,_,_,rfl,λm o=>(fE b ra).s ?_⟩;rintro r q s ⟨t,u,v,rfl,a⟩;exact qyJ ⟨rfl,λw d=>⟨_,_,_,rfl,a.le d⟩⟩
theorem Si {b:md}(h:cM ds):(ah (bI b ds).natAbs).length<=ds.length:=by rw [fK];exact bH h
theorem O2 {b:md}{xs ys:zA Nat}(h:QE V v b xs ys)(N:xs.length<=2^38)(O:ys.length<=2^38:=by omega):À 264 #[v] V λr W=>RQ W r (TB b xs ys):=by obtain ⟨p,n,c,q,m,e,rfl,i,j⟩:=h;have d1:=Si (b:=b) i.gg;have d2:=bH j.gg;refine M5 V _ λs t=>(E5 ra).s ?_;rintro r V2 u ⟨w,d,x,rfl,g⟩;have f:=g.len;refine ⟨_,_,_,rfl,λa y z=>?_,λa A B=>(O1 b ra).s ?_⟩;{have a:((d:Nat):Int)=0:=by{simpa using a};have:ah (val ys)=[]:=ĝ.1 ω;have:val ys=0:=bR.1 this;unfold TB;grind [Rat.mkRat_zero,RQ.zero]};{have l:val ys≠0:=λe=>by{rw [e] at f;have a:¬((d:Nat):Int)=0:=by{simpa using a};exact a (by rw [f];rfl)};rintro r C D ⟨E,F,G,rfl,H⟩;refine qyJ ⟨rfl,λI J=>(oq _ ra ra ω ω l).s λr K L k=>RQ.ex k λ_ k=>λM o=>k.le o⟩}
theorem RV {l:L3}{s:Sp}(h:QB V v l s):∃b1 u z c1 D F M N O Z n3 c3 b p n c p' n' c' d q m e q' m' e',
 v=qvK #[Õ b1,dB u z c1,Õ D,dB F M N,Õ O,dB Z n3 c3,Õ b,dB p n c,dB p' n' c',Õ d,dB q m e,dB q' m' e',Õ s.a,Õ s.b]:=by obtain ⟨_,_,_,_,_,_,_,_,_,_,_,_,_,_,_,_,_,_,_,_,_,_,_,_,_,_,e,-⟩:=h;exact ⟨_,_,_,_,_,_,_,_,_,_,_,_,_,_,_,_,_,_,_,_,_,_,_,_,_,_,e⟩
theorem WL (s1:Sz k px)(s2:Sz k py)(s3:Sz k qx)(s4:Sz k qy)(h:¬(px=qx/\py=qy)):(Mu px py qx qy).sz (400*k+400):=by have sl:=Hv s1 s2 s3 s4 h;exact ⟨Sz.s (Oq sl (Sz.s s1 ω) (Sz.s s2 ω)) ω,Sz.s (Oq sl (Sz.s s3 ω) (Sz.s s4 ω)) ω⟩
theorem Ou:Sz 2 (((2:Int):Rat)):=⟨by show (2:Int).natAbs<_;decide,by show (1:Nat)<_;decide⟩
theorem jA:Sz 2 (((1:Int):Rat)):=⟨by show (1:Int).natAbs<_;decide,by show (1:Nat)<_;decide⟩
theorem tM (h:RQ V v x)(u:Sz k x)(z:k+2<2^38:=by omega):À 241 #[v] V λr W=>RQ W r (x*((2:Int):Rat)⁻¹):=by obtain ⟨_,_,_,_,_,_,rfl⟩:=h.shape;refine KA V _ λb c=>(dO 2 φ φ).s λr V2 d g=>RQ.ex g λ_ g=>λe f=>(iR ra ra (by show (2:Int)≠0;decide) u Ou z).s λr i j q=>RQ.ex q λ_ q=>λl a=>q.le a
theorem E4 {w:un}{y:Rat}(h:RQ V v x)(h':RQ V w y)(u:Sz k x)(z:Sz k y)(D:4*k+4<2^38:=by omega):À 185 #[v,w] V λr W=>RQ W r ((x+y)*((2:Int):Rat)⁻¹):=by obtain ⟨_,_,_,_,_,_,rfl⟩:=h.shape;obtain ⟨_,_,_,_,_,_,rfl⟩:=h'.shape;refine MT V _ λb c=>(dV ra ra u z ω).s λr V2 d g=>RQ.ex g λ_ g=>λe f=>(tM ra (u.add z)).s λr i j q=>RQ.ex q λ_ q=>λl a=>q.le a
theorem WK {s:Sp}(ss:s.sz k):Sz (2*k+10) s.qQ:=by have z:Sz (2*k+10) (0:Rat):=⟨by show (0:Int).natAbs<_;exact ĺ φ (Nat.one_le_two_pow),Qd7 ω⟩;unfold Sp.qQ;split;{split;{exact z};{exact (ss.2.sub jA).s ω}};{split;{exact (ss.1.add jA).s ω};{exact ((ss.1.add ss.2).mul (jW Ou)).s ω}}
theorem AU {s:Sp}(h:mb V v s)(ss:s.sz k)(Z:4*k+4<2^38:=by omega):À 217 #[v] V λr W=>RQ W r s.qQ:=by obtain ⟨b,p,n,c,u,w,z,d,q,m,e,A,B,C,rfl,M,N⟩:=h;have D:s.a=true->s.b=true->s.qQ=0:=λx y=>by{simp [Sp.qQ,x,y]};have E:s.a=true->s.b=false->s.qQ=s.hi-((1:Int):Rat):=λx y=>by{simp [Sp.qQ,x,y]};have F:s.a=false->s.b=true->s.qQ=s.lo+((1:Int):Rat):=λx y=>by{simp [Sp.qQ,x,y]};have G:s.a=false->s.b=false->s.qQ=(s.lo+s.hi)*((2:Int):Rat)⁻¹:=λx y=>by{simp [Sp.qQ,x,y]};have no:∀{P:Prop},s.a=true->s.a=false->P:=λx y=>by{rw [x] at y;cases y};refine zL V _ ⟨λf=>⟨λi H O=>?_,λi=>⟨λ_ V2 Q=>(dO 1 φ φ).s ?_,λe=>no f e⟩⟩,λf=>⟨λe=>no e f,λ_=>⟨λi R S=>(dO 1 φ φ).s ?_,λi T U=>(E4 ra ra ss.1 ss.2 Z).s ?_⟩⟩⟩;{rw [D f i];have:=RQ.zero (V:=H);simpa using this};{rw [E f i];rintro r I J g;obtain ⟨_,_,_,_,_,_,rfl⟩:=g.shape;refine qxW ⟨rfl,λK L=>(gW ra ra ss.2 jA).s λr l o q=>RQ.ex q λ_ q=>λt j=>q.le j⟩};{rw [F f i];rintro r I J g;obtain ⟨_,_,_,_,_,_,rfl⟩:=g.shape;refine qxW ⟨rfl,λK L=>(dV ra ra ss.1 jA ω).s λr l o q=>RQ.ex q λ_ q=>λt j=>q.le j⟩};{rw [G f i];rintro r l o q;obtain ⟨_,_,_,_,_,_,rfl⟩:=q.shape;exact qxW ⟨rfl,λt j=>q.le j⟩}
theorem gH {w:un}{y D F:Rat}(h:RP V v x y)(h':RP V w D F){k:Nat}(s1:Sz k x)(s2:Sz k y)(s3:Sz k D)(s4:Sz k F)(M:4*k+4<2^38:=by omega):À 148 #[v,w] V λr W=>RQ W r (x*F-y*D):=by obtain ⟨_,_,_,_,_,_,_,_,_,_,_,_,rfl,c,d⟩:=h;obtain ⟨_,_,_,_,_,_,_,_,_,_,_,_,rfl,e,f⟩:=h';refine C6 V _ λi j=>(bE ra ra s1 s4 ω).s λr V2 l g=>RQ.ex g λ_ g=>λm n=>(bE ra ra s2 s3 ω).s ?_;rintro r o p a;obtain ⟨_,_,_,_,_,_,rfl⟩:=a.shape;refine qxW ⟨rfl,λs t=>(gW ra ra (s1.mul s4) (s2.mul s3)).s λr u z q=>RQ.ex q λ_ q=>λA b=>q.le b⟩
theorem Cf {qs:zA Rat}(h:bo 3 RQ V p n qs)(hi:i<qs.length):∃ad b u z c1 D F M,ae p (i*3)=some ad/\RQ V (qvK #[Õ b,dB u z c1,dB D F M]) qs[i]/\V.at (ad.add 0) (Õ b)/\V.at (ad.add 1) (dB u z c1)/\V.at (ad.add 2) (dB D F M):=by obtain ⟨ad,d,xs,-,c,a⟩:=h.at_ i hi;obtain ⟨u,z,c1,D,F,M,e⟩:=c.shape;have e:=Æ Array.toList (Value.agg.inj e);dsimp only at e;subst e;exact ⟨ad,_,u,z,c1,D,F,M,d,c,a 0 _ rfl,a 1 _ rfl,a 2 _ rfl⟩
theorem AW {t:Rat}(M:Na V p n ss)(u:RQ V v t)(z:∀s∈ss,s.sz k)(st:Sz k t)(D:2*k<2^38)(F:ss.length<2^62:=by omega):À 188 #[dB p n c,v] V λr W=>r=Õ (sF ss t==2):=by obtain ⟨_,_,_,_,_,_,rfl⟩:=u.shape;refine KP V _ λa b=>(DI ra ra z st D F).s ?_;rintro r V2 d rfl;exact ⟨_,rfl,λe f=>rfl⟩
def DY (c:List Rat)(i:Nat):List Rat:=(c.getD 0 0-((1:Int):Rat))::(List.range (i-1)).map λk=>(c.getD k 0+c.getD (k+1) 0)*((2:Int):Rat)⁻¹
def aX (c:List Rat):List Rat:=if c.length=0 then [0] else DY c c.length++[c.getD (c.length-1) 0+((1:Int):Rat)]
theorem BV (c:zA Rat)(h:1<=i):(DY c i).length=i:=by unfold DY;simp;omega
theorem PQ (c:zA Rat)(h:1<=i):DY c (i+1)=DY c i++[(c.getD (i-1) 0+c.getD i 0)*((2:Int):Rat)⁻¹]:=by obtain ⟨m,rfl⟩:∃m,i=m+1:=⟨i-1,ω⟩;unfold DY;rw [Qc8,Qc8,List.range_succ,Ń];rfl
theorem jt {c:zA Rat}(h:i<c.length:=by omega):c.getD i 0=c[i]:=by rw [Ė,ñ h];rfl
theorem qe {cs:zA Rat}(h:bo 3 RQ V p n cs)(hn:cs.length<1000000000)(hs:∀q∈cs,Sz k q)(hk:4*k+8<2^38:=by omega):À 101 #[dB p n c] V λr W=>∃q m e,r=dB q m e/\bo 3 RQ W q m (aX cs):=by
 obtain rfl:=h.len;refine zJ V _ ⟨λl T l1 U w=>?_,λl=>?_⟩
 ·have l:cs.length=0:=by{simpa using l};have e:aX cs=[0]:=Ä l;rw [e];refine ⟨_,_,_,rfl,bo.eN w (row_one rfl ?_)⟩;have:=RQ.zero (V:=T);simpa using this
 ·have l:¬cs.length=0:=by simpa using l
  have e:aX cs=DY cs cs.length++[cs.getD (cs.length-1) 0+((1:Int):Rat)]:=Ã l;rw [e];have i0:0<cs.length:=ω
  have ⟨W,b,p1,n1,c1,p2,n2,c2,O,hq,X,Y,Z⟩:=Cf h i0;refine ⟨aK O,⟨ω,ω⟩,_,_,_,_,_,_,_,W,O,X,Y,Z,λV2 l2=>(dO 1 φ φ).s λr V3 l3 g=>RQ.ex g λ_ g=>λV4 l4=>(gW ra ra (hs _ (ó i0)) jA).s ?_⟩;rintro r V5 l5 P;obtain ⟨_,_,_,_,_,_,rfl⟩:=P.shape;have x:=l2.m (l3.m (l4.m l5))
  refine qxW ⟨rfl,λz V'=>∃i:Nat,z.2.2.2=(i:Int)/\1<=i/\i<=cs.length/\z.1=i/\i<=z.2.1/\z.2.1*3<=z.2.2.1.length/\é 3 RQ V' z.2.2.1 (DY cs i),λz=>cs.length-z.2.2.2.toNat,
   ⟨(1,1,_,1),by and_intros<;>first|rfl|decide,1,rfl,Ù _,i0,rfl,Ù _,Ù _,row_one rfl (by rw [jt i0];exact P)⟩,?_⟩
  rintro ⟨a,z2,vs,z4⟩ V6 y ⟨i,Q,i1,NB,R,A,B,C⟩;dsimp only at Q R A B C;subst Q R;have hlen:=BV cs i1;refine ⟨rfl,λd=>?_,λd=>?_⟩
  ·have d:(a:Int)<cs.length:=Á d;have j:a<cs.length:=ω;have o:a-1<cs.length:=ω;have D:i64.wrap ((a:Int)-1)=((a-1:Nat):Int):=by{rw [ao ω];omega};have w2:i64.wrap ((a:Int)+1)=(a:Int)+1:=ao ω;dsimp only;rw [D,w2,Ü,Ü];have ⟨E,b1,p3,n3,c3,p4,n4,c4,f,F,G,s,H⟩:=Cf (h.le au λ_ _ g=>g.le (x.m y)) o;have ⟨I,d1,p5,n5,c5,p6,n6,c6,u,a3,d0,J,d2⟩:=Cf (h.le au λ_ _ g=>g.le (x.m y)) j;refine ⟨aK f,⟨ω,ω⟩,_,_,_,_,_,_,_,E,f,G,s,H,aK u,⟨ω,ω⟩,_,_,_,_,_,_,_,I,u,d0,J,d2,λV7 l7=>(E4 ra ra (hs _ (ó o)) (hs _ (ó j))).s λr V8 l8 t=>RQ.ex t λ_ t=>⟨ω,A,B,rfl,?_,λsp K M h2=>⟨(a+1,K,_,(a:Int)+1),by dsimp only;omega,σ,a+1,rfl,ω,j,rfl,M,?_,?_⟩⟩⟩;{intro v hm;simp only [ê,ę,Ì] at hm;rcases hm with rfl|rfl|rfl<;>rfl};{dsimp only;have ht:(vs.take (a*3)).length=a*3:=by{rw [è];omega};rw [ë,ë,ht];simp only [Ą,İ];omega};{dsimp only;rw [PQ cs i1,jt o,jt j];have:=(C.le (V':=V8) λ_ _ g=>g.le au).snoc (sp:=sp) rfl t φ;rw [hlen] at this;exact this}
  ·have d:¬(a:Int)<cs.length:=Â d;obtain rfl:a=cs.length:=ω;have j:cs.length-1<cs.length:=ω;have D:i64.wrap ((cs.length:Int)-1)=((cs.length-1:Nat):Int):=by{rw [ao ω];omega};dsimp only;rw [D,Ü];have ⟨E,b1,p3,n3,c3,p4,n4,c4,f,F,G,s,H⟩:=Cf (h.le au λ_ _ g=>g.le (x.m y)) j;refine ⟨aK f,⟨ω,ω⟩,_,_,_,_,_,_,_,E,f,G,s,H,λV9 l9=>(dO 1 φ φ).s λr fo N S=>RQ.ex S λ_ S=>λfg dy=>(dV ra ra (hs _ (ó j)) jA ω).s λr gT dX t=>RQ.ex t λ_ t=>⟨ω,A,B,rfl,?_,λsp K M h2 iL dS U w=>?_⟩⟩;{intro v hm;simp only [ê,ę,Ì] at hm;rcases hm with rfl|rfl|rfl<;>rfl};{have L:=l9.m (N.m (dy.m (dX.m dS)));have:=(C.le (V':=iL) λ_ _ g=>g.le L).snoc (sp:=sp) rfl ra φ;rw [hlen] at this;have k:=bo.bq (c:=K) w this φ (by rw [ë,hlen];exact M);rw [ë,hlen] at k;rw [jt j];exact ⟨_,_,_,rfl,k⟩}
def cT (x:Rat):List Rat->List Rat
 | []=>[x]
 | y::r=>if y<x then y::cT x r else if y=x then y::r else x::y::r
theorem NF:∀(o:zA Rat)(k:Nat),k<=o.length->(∀j (h:j<o.length),j<k->o[j]<x)->(∀h:k<o.length,¬o[k]<x) ->cT x o=if (∃h:k<o.length,o[k]=x) then o else o.take k++x::o.drop k:=by
 intro o
 induction o with
 | nil=>grind [cT]
 | cons y r u=>
  intro k g a b
  cases k with
  | zero=>
   have f:¬y<x:=b ψ;unfold cT;rw [Ã f];by_cases e:y=x
   ·rw [Ä e,Ä ⟨ψ,e⟩]
   grind
  | succ k=>
   have f:y<x:=a 0 ψ ω;unfold cT;rw [Ä f,u k (by simpa using g) (λj h i=>a (j+1) (by simpa using h) ω) (λh=>b (by simpa using h))];by_cases e:∃h:k<r.length,r[k]=x
   ·obtain ⟨c,d⟩:=e;rw [Ä ⟨c,d⟩,Ä ⟨by simpa using c,d⟩]
   ·rw [Ã e,Ã (by rintro ⟨c,d⟩;exact e ⟨by simpa using c,d⟩)];rfl
def eX (s:Sp)(o:List Rat):Nat->List Rat
 | 0=>o
 | 1=>if s.a then o else cT s.lo o
 | _=>if s.b then (if s.a then o else cT s.lo o) else cT s.hi (if s.a then o else cT s.lo o)
def à (ss:List Sp):List Rat:=ss.foldl (λo s=>eX s o 2) []
theorem Lw (hi:i<ss.length):à (ss.take (i+1))=eX ss[i] (à (ss.take i)) 2:=by grind [à,List.take_add_one]
theorem Jg:∀{o:zA Rat},q∈cT x o->q=x\/q∈o:=by
 intro o
 induction o with
 | nil=>intro h;simp [cT] at h;exact .inl h
 | cons y r u=>
  unfold cT;grind
theorem lu:∀{o:zA Rat},(cT x o).length<=o.length+1:=by
 intro o
 induction o with
 | nil=>simp [cT]
 | cons y r u=>
  unfold cT;grind
theorem Mz {s:Sp}{o:zA Rat}(u:y<2):eX s o (y+1)=if (if y=0 then s.a else s.b)=true then eX s o y else cT (if y=0 then s.lo else s.hi) (eX s o y):=by have:y=0\/y=1:=ω;rcases this with rfl|rfl<;>rfl
theorem FP {s:Sp}{o:zA Rat}(u:y<=2):(eX s o y).length<=o.length+y:=by have d:=@lu s.lo o;have e:=@lu s.hi (if s.a then o else cT s.lo o);have c:(if s.a then o else cT s.lo o).length<=o.length+1:=by{split<;>omega};have:y=0\/y=1\/y=2:=ω;rcases this with rfl|rfl|rfl;{exact Ù _};{exact c};{show (if s.b=true then (if s.a=true then o else cT s.lo o) else cT s.hi (if s.a=true then o else cT s.lo o)).length<=_;by_cases f:s.b=true<;>grind}
theorem FQ {s:Sp}{o:zA Rat}(u:y<=2)(h:q∈eX s o y):q=s.lo\/q=s.hi\/q∈o:=by have c:q∈(if s.a then o else cT s.lo o)->q=s.lo\/q=s.hi\/q∈o:=by{grind [Jg]};have:y=0\/y=1\/y=2:=ω;rcases this with rfl|rfl|rfl;{exact .inr (.inr h)};{exact c h};{replace h:q∈(if s.b=true then (if s.a=true then o else cT s.lo o) else cT s.hi (if s.a=true then o else cT s.lo o)):=h;by_cases d:s.b=true<;>grind [Jg]}
theorem Fe (ss:zA Sp):(à ss).length<=2*ss.length:=by
 have:∀(ss:zA Sp)(o:zA Rat),(ss.foldl (λo s=>eX s o 2) o).length<=o.length+2*ss.length:=by
  intro ss
  induction ss<;>grind [FP]
 grind [à]
theorem xi (h:q∈à ss):∃s∈ss,q=s.lo\/q=s.hi:=by
 have:∀(ss:zA Sp)(o:zA Rat),q∈(ss.foldl (λo s=>eX s o 2) o)->q∈o\/∃s∈ss,q=s.lo\/q=s.hi:=by
  intro ss
  induction ss with
  | nil=>exact λo h=>.inl h
  | cons s r u=>
   intro o h;rcases u _ h with h|⟨t,a,h⟩
   ·rcases FQ (Ù 2) h with h|h|h<;>grind
   grind
 rcases this ss [] h with h|h
 ·simp at h
 ·exact h
theorem Hh {vs:zA un}{qs:zA Rat}(h:é 3 RQ V vs qs)(hi:i<qs.length):∃b u z c1 D F M,i*3+3<=vs.length/\(vs.drop (i*3)).take 3=[Õ b,dB u z c1,dB D F M]/\RQ V (qvK #[Õ b,dB u z c1,dB D F M]) qs[i]:=by obtain ⟨xs,-,c,a⟩:=h.at_ i hi;obtain ⟨u,z,c1,D,F,M,e⟩:=c.shape;have e:=Æ Array.toList (Value.agg.inj e);subst e;have d:=a 2 _ rfl;have g:=(Ġ.1 d).1;refine ⟨_,u,z,c1,D,F,M,ω,?_,c⟩;apply Qg5;intro j;rw [Ħ];by_cases f:j<3;{rw [Ä f,Qm4];have:j=0\/j=1\/j=2:=ω;rcases this with rfl|rfl|rfl;{exact (a 0 _ rfl)};{exact (a 1 _ rfl)};{exact d}};{rw [Ã f,ţ (by simp;omega)]}
end Go.Proofs.Tryz
