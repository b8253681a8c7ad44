import Derived.Test.YtmamnfmhdcahmaaGreatDoorW15
import Derived.Test.YtmamnfmhdcahmaaGreatDoorW8
set_option linter.all false
open Go.IntKind (i64 u64 u32)
open Go.Value renaming slice→pT,agg→dB,bool→Õ,pointer→qvZ,int→Ô,tuple→æ
open Go.Eng Go.Big
namespace Go.Proofs.Tryz
variable{V:Ó}{c n tb:Nat}{p:OA}{at_:Int}
theorem xG {v a b c}(h:RL V v a b c):∃(b1:ut)(u:OA)(z c1:Nat)(b2:ut)(F:OA)(M N:Nat)(b3:ut)(O:OA)(Z c3:Nat),v=dB #[Õ b1,pT u z c1,Õ b2,pT F M N,Õ b3,pT O Z c3]:=by obtain ⟨p,n,s,d,f,s',q,m,e,rfl,-⟩:=h;exact qxZ rfl
def Mx (V:Ó)(p:OA)(n:Nat):Prop:=∀i,i<n->∃(a:Addr)(x:Int),af p (i*1)=some a/\V.at a (.int .i64 x)
theorem Mx.le {V V'}(h:Mx V p n)(l:V.Le V'):Mx V' p n:=λi b=>by
 have ⟨a,x,e,c⟩:=h i b;exact ⟨a,x,e,l.at c⟩
def kz (V:Ó)(tb:Nat)(p:OA)(n c:Nat)(at_:Int):Prop:=V.w.heap[tb]?=some (.cells #[.slice p n c,.int .i64 at_] 52 (0,0))
theorem gz {V}(k)(z:Mx V p n)(Z:n<=400)(hw:kz V tb p n c at_)(F:V.X tb)(M:0<=at_)(N:0<k)(O:k<=1000:=by omega):À 13 #[qvZ (some ⟨tb,0,none⟩),Jq k] V λr W=>∃x at',r=Jq x/\0<=x/\x<k/\0<=at'/\kz W tb p n c at':=by refine vw tb p n c at_ k V _ hw F ⟨λg m o e=>⟨0,at_,rfl,ω,N,M,e⟩,λg=>?_⟩;have g:at_<n:=by{have:=Â g;omega};obtain ⟨i,rfl⟩:∃i:Nat,at_=i:=⟨at_.toNat,ω⟩;have ⟨a,x,d,f⟩:=z i ω;have h:p.isSome=true:=by{(cases p with|none=>simp [af] at d|some a=>rfl)};have q:(x.tmod k).natAbs<k.natAbs:=by{rw [Int.natAbs_tmod];exact ė _ ω};have j:i64.wrap ((i:Int)+1)=((i+1:Nat):Int):=by{rw [au ω];omega};rw [Ü,j];have l:i64.wrap (x.tmod k+k)=x.tmod k+k:=au ω;refine ⟨h,ū,x,⟨a,d,f⟩,ω,λb V2 s e=>⟨x.tmod k+k,_,by rw [l],?_,?_,?_,e⟩,λb t u e=>⟨_,_,rfl,?_,?_,?_,e⟩⟩;{omega};{have:=Á b;omega};{omega};{have:=Â b;omega};{omega};{omega}
theorem c_P {V}(M:Mx V p n)(N:n<=400)(hw:kz V tb p n c at_)(O:V.X tb)(Z:0<=at_):À 47 #[qvZ (some ⟨tb,0,none⟩)] V λr W=>∃(x y at':Int),RP W r (x:Rat) (y:Rat)/\(-4<=x/\x<=4)/\(-4<=y/\y<=4)/\0<=at'/\kz W tb p n c at':=by refine AP tb p n c at_ V _ hw O λj g a k l=>(gz (V:=j.aw [a]) 9 (M.le λb o h=>g b o h) N k ⟨ψ,l⟩ Z ω).s ?_;rintro r V2 m ⟨x,z,rfl,A,B,t1,d⟩;refine ⟨_,rfl,_,_,_,_,d,λq s t u v=>(gz (V:=q.aw [t]) 9 (M.le λb o h=>s b o (m b o (g b o h))) N u ⟨ψ,v⟩ t1 ω).s ?_⟩;rintro r C D ⟨y,e,rfl,E,F,t2,f⟩;refine ⟨_,rfl,_,_,_,_,f,λG H=>?_⟩;rw [au (x:=x-4) ω,au (x:=y-4) ω];refine (dG (x-4) (y-4) ω ω ω).s λr I J i=>RP.ex i λ_ _ i _ _=>λK L w=>⟨x-4,y-4,e,ra,ū,ū,t2,w⟩
theorem RQ.zero {V}:RQ V (dB #[Õ false,pT none 0 0,pT none 0 0]) ((0:Int):Rat):=⟨none,0,0,none,0,0,rfl,RD.nil,RD.nil⟩
theorem RP.zero {V}:RP V (dB #[Õ false,pT none 0 0,pT none 0 0,Õ false,pT none 0 0,pT none 0 0]) ((0:Int):Rat) ((0:Int):Rat):=
 ⟨none,0,0,none,0,0,none,0,0,none,0,0,rfl,RQ.zero,RQ.zero⟩
theorem GW {z:Int}(h:-40<=z/\z<=40:=by omega):Sz 10 (z:Rat):=IJ ω
theorem c_V {V}(Z:Mx V p n)(hn:n<=400)(hw:kz V tb p n c at_)(hx:V.X tb)(h0:0<=at_):À 50 #[qvZ (some ⟨tb,0,none⟩)] V λr W=>∃(x y at':Int),RP W r (x:Rat) (y:Rat)/\(-4<=x/\x<=4)/\(-4<=y/\y<=4)/\¬(x=0/\y=0)/\0<=at'/\kz W tb p n c at':=by refine AQ tb p n c at_ V _ hw hx λl m a q s=>(c_P (V:=l.aw [a]) (Z.le λb o h=>m b o h) hn q ⟨ψ,s⟩ h0).s ?_;rintro r V2 M ⟨x,y,j,d,e,f,t1,i⟩;obtain ⟨t,u,v,w,z,A,B,C,D,E,F,G,rfl,-⟩:=id d;refine qyJ ⟨rfl,_,_,_,_,i,λN k=>(pC (d.le λb o h=>k b o h) RP.zero (GW) (GW) (GW) (GW)).s ?_⟩;rintro r O H rfl;refine ⟨_,rfl,λg P Q=>(dG 1 0 ω ω ω).s ?_,λg R I J=>⟨x,y,j,d.le λb o h=>I b o (H b o (k b o h)),e,f,?_,t1,J⟩⟩;{rintro r S T K;obtain ⟨t,u,v,w,z,A,B,C,D,E,F,G,rfl,-⟩:=id K;exact qyJ ⟨rfl,λU W L=>⟨1,0,j,ra,ū,ū,ω,t1,L⟩⟩};{rintro ⟨rfl,rfl⟩;simp at g}
theorem c_L {V}(hr:Mx V p n)(hn:n<=400)(hw:kz V tb p n c at_)(hx:V.X tb)(h0:0<=at_):À 16 #[qvZ (some ⟨tb,0,none⟩)] V λr W=>∃(x:L3)(at':Int),RL W r x.1 x.2.1 x.2.2/\bX x=true/\Bd x/\0<=at'/\kz W tb p n c at':=by refine AO tb p n c at_ V _ hw hx λL C f M N=>(c_P (V:=L.aw [f]) (hr.le λb o h=>C b o h) hn M ⟨ψ,N⟩ h0).s ?_;rintro r V2 O ⟨x,y,JD,P,g,i,t1,j⟩;obtain ⟨p1,D,c1,p2,E,c2,p3,F,c3,p4,n4,c4,rfl,-⟩:=id P;refine qyJ ⟨rfl,_,_,_,_,j,λV3 G=>(dR 1 ω).s λr Q H I=>RQ.ex I λ_ I=>λR q d S T=>(c_V (V:=R.aw [d]) (hr.le λb o h=>q b o (H b o (G b o (O b o (C b o h))))) hn S ⟨ψ,T⟩ t1).s ?_⟩;rintro r U J ⟨u,w,s,W,t,e,Y,t2,v⟩;obtain ⟨q1,Z,d1,q2,m2,d2,q3,m3,d3,q4,m4,d4,rfl,-⟩:=id W;refine qyJ ⟨rfl,_,_,_,_,v,λz A=>?_⟩;have Bf:V2.Le z:=λb o h=>A b o (J b o (q b o (H b o (G b o h))));have a0:Q.Le z:=λb o h=>A b o (J b o (q b o h));have a1:U.Le z:=λb o h=>A b o h;refine (fG ra ra ra (k:=10) (m:=10) (GW) (GW) (GW) (GW) (GW) ω).s ?_;rintro r V8 l8 hs;obtain ⟨s1,i1,j1,s2,i2,j2,s3,i3,j3,s4,i4,j4,rfl,-⟩:=id hs;have f1:(x:Rat)+((1:Int):Rat)*(u:Rat)=((x+u:Int):Rat):=by{rw [<-Qf7,<-Qt2,Wk3]};have f2:(y:Rat)+((1:Int):Rat)*(w:Rat)=((y+w:Int):Rat):=by{rw [<-Qf7,<-Qt2,Wk3]};refine qyJ ⟨rfl,λV9 l9=>(kd ra ra (k:=10) (GW) (GW) (by rw [f1];exact GW) (by rw [f2];exact GW) ω).s ?_⟩;rintro r gx a2 ⟨-,h⟩;rw [YK] at h;have D:((-w:Int):Rat).num=-w:=rfl;have E:((u:Int):Rat).num=u:=rfl;have F:((w*x-u*y:Int):Rat).num=w*x-u*y:=rfl;dsimp only at h;rw [D,E,F] at h;obtain ⟨l,rfl,K⟩:=h ω;have Z:=UA e g;have m2:=UA t i;have ⟨k1,k2⟩:=XS (a:=-w) (b:=u) (c:=w*x-u*y) ω ω ω;obtain ⟨b1,u1,v1,w1,b2,u2,v2,w2,b3,u3,v3,w3,rfl⟩:=(xG K);exact ⟨_,_,_,_,_,_,_,_,_,_,_,_,_,rfl,λfu dM B=>⟨CB (-w) u (w*x-u*y),s,K.le dM,k1,k2,t2,B⟩⟩
theorem Hr {l p Z l_1 fK jo jq}(hl:RL V l Z l_1 fK)(hp:RP V p jo jq){k}(s0:Sz k ((Z:Int):Rat))(s1:Sz k ((l_1:Int):Rat))(s2:Sz k ((fK:Int):Rat))(s3:Sz k jo)(s4:Sz k jq)(hk:16*k+16<2^38):À 213 #[l,p] V λr W=>r=Jq ((Z:Rat)*jo+(l_1:Rat)*jq+(fK:Rat)).num.sign:=by have c:=hl;have d:=hp;obtain ⟨e,f,g,h,i,j,m,n,o,rfl,-,-,-⟩:=hl;obtain ⟨q,s,t,u,v,w,x,y,z,A,a,b,rfl,-,-⟩:=hp;refine Fj V _ λB C=>(jF ra ra s0 s1 s2 s3 s4).s ?_;rintro r V2 D ⟨E,F,G,H,I,J,rfl,K,L⟩;refine qyK ⟨rfl,λM N=>(sS _ ra).s ?_⟩;rintro r O P rfl;exact ⟨_,rfl,λQ R=>rfl⟩
theorem jO {l a b c}(Z:RL V l a b c):À 46 #[l] V λr W=>RL W r (-a) (-b) (-c):=by obtain ⟨d,e,f,g,h,i,j,k,m,rfl,o,p,q⟩:=Z;refine Ja V _ λs t=>(jN a ra).s ?_;rintro r V2 u ⟨v,w,x,rfl,y⟩;refine qyW ⟨rfl,λz A=>(jN b ra).s ?_⟩;rintro r B C ⟨D,E,F,rfl,n⟩;refine qyW ⟨rfl,λG H=>(jN c ra).s ?_⟩;rintro r I J ⟨K,L,M,rfl,N⟩;exact qyW ⟨rfl,λO P=>⟨_,_,_,_,_,_,_,_,_,rfl,ra,n.le ax,ra⟩⟩
end Go.Proofs.Tryz
namespace Go.Eng
theorem RR.zero (V):RR V (dB #[Jq 0,Jq 0,qvZ none]) 0:=.inl ⟨rfl,by unfold Wd;decide⟩
end Go.Eng
namespace Go.Proofs.Tryz
structure Sp where
 lo:Rat
 hi:Rat
 a:Bool
 b:Bool
def Sp.can (s:Sp):Prop:=(s.a=true->s.lo=0)/\(s.b=true->s.hi=0)
def Sp.sz (k:Nat)(s:Sp):Prop:=Sz k s.lo/\Sz k s.hi
def Sp.zero:Sp:=⟨0,0,false,false⟩
variable{v:Value}{l:L3}{V:Ó}
def jC (k:Nat)(l:L3):Prop:=Sz k (l.1:Rat)/\Sz k (l.2.1:Rat)/\Sz k (l.2.2:Rat)
def fQ (V:Ó)(v:Value)(s:Sp):Prop:=∃(u z:Int)(p:OA)(F M:Int)(q:OA),v=.agg #[.int .i64 u,.int .i64 z,.pointer p,.int .i64 F,.int .i64 M,.pointer q,.bool s.a,.bool s.b] /\
 RR V (.agg #[.int .i64 u,.int .i64 z,.pointer p]) s.lo/\RR V (.agg #[.int .i64 F,.int .i64 M,.pointer q]) s.hi
theorem fQ.le {V V' s}(h:fQ V v s)(l:V.Le V'):fQ V' v s:=by obtain ⟨a,b,p,c,d,q,e,f,g⟩:=h;exact ⟨a,b,p,c,d,q,e,ra,ra⟩
def vy (V:Ó)(v:Value)(l:L3):Prop:=xB V v (l.1:Rat) (l.2.1:Rat) (l.2.2:Rat)
theorem vy.le {V V'}(h:vy V v l)(e:V.Le V'):vy V' v l:=xB.le h e
def xF (V:Ó)(v:Value)(l:L3)(s:Sp):Prop:=∃(u z:Int)(p:OA)(F M:Int)(q:OA)(N O:Int)(r:OA)(u1 u2:Int)(t:OA)(Z w2:Int)(o:OA),
 v=.agg #[.int .i64 u,.int .i64 z,.pointer p,.int .i64 F,.int .i64 M,.pointer q,.int .i64 N,.int .i64 O,.pointer r,.int .i64 u1,.int .i64 u2,.pointer t,.int .i64 Z,.int .i64 w2,.pointer o,.bool s.a,.bool s.b] /\
 vy V (.agg #[.int .i64 u,.int .i64 z,.pointer p,.int .i64 F,.int .i64 M,.pointer q,.int .i64 N,.int .i64 O,.pointer r]) l /\
 fQ V (.agg #[.int .i64 u1,.int .i64 u2,.pointer t,.int .i64 Z,.int .i64 w2,.pointer o,.bool s.a,.bool s.b]) s
theorem xF.le {V V' s}(h:xF V v l s)(e:V.Le V'):xF V' v l s:=by obtain ⟨a,b,p,c,d,q,f,g,r,i,j,t,k,m,o,rfl,n,u⟩:=h;exact ⟨a,b,p,c,d,q,f,g,r,i,j,t,k,m,o,rfl,n.le e,u.le e⟩
def WA (V:Ó)(v:Value)(b:Bool)(xs ys:List Nat):Prop:=∃p n c u n' z,v=.agg #[.bool b,.slice p n c,.slice u n' z]/\RD V p n c xs/\RD V u n' z ys
theorem WA.le {V V' b xs ys}(h:WA V v b xs ys)(l:V.Le V'):WA V' v b xs ys:=by obtain ⟨p,n,c,a,d,f,e,g,i⟩:=h;exact ⟨p,n,c,a,d,f,e,ra,ra⟩
theorem WA.nil:WA V (dB #[Õ false,pT none 0 0,pT none 0 0]) false [] []:=qyZ ⟨rfl,RD.nil,RD.nil⟩
def RE (V:Ó)(v:Value)(q:Rat)(no:Bool):Prop:=(no=true->WA V v false [] [])/\(no=false->RA V v q)
theorem RE.le {V V' q no}(h:RE V v q no)(l:V.Le V'):RE V' v q no:=⟨λe=>(h.1 e).le l,λe=>(h.2 e).le l⟩
def RSp (V:Ó)(v:Value)(s:Sp):Prop:=∃b p n c u n' z d q m e F M N,v=.agg #[.bool b,.slice p n c,.slice u n' z,.bool d,.slice q m e,.slice F M N,.bool s.a,.bool s.b] /\
 RE V (.agg #[.bool b,.slice p n c,.slice u n' z]) s.lo s.a/\RE V (.agg #[.bool d,.slice q m e,.slice F M N]) s.hi s.b
theorem RSp.le {V V' s}(h:RSp V v s)(l:V.Le V'):RSp V' v s:=by obtain ⟨b,p,n,c,a,f,g,d,q,m,e,i,j,k,rfl,o,r⟩:=h;exact qyJ ⟨rfl,ra,ra⟩
def RFa (V:Ó)(v:Value)(l:L3)(s:Sp):Prop:=∃b1 u z c1 b2 F M N b3 O Z c3 b p n c p' n' c' d q m e q' m' e',
 v=.agg #[.bool b1,.slice u z c1,.bool b2,.slice F M N,.bool b3,.slice O Z c3,.bool b,.slice p n c,.slice p' n' c',.bool d,.slice q m e,.slice q' m' e',.bool s.a,.bool s.b] /\
 RL V (.agg #[.bool b1,.slice u z c1,.bool b2,.slice F M N,.bool b3,.slice O Z c3]) l.1 l.2.1 l.2.2/\RSp V (.agg #[.bool b,.slice p n c,.slice p' n' c',.bool d,.slice q m e,.slice q' m' e',.bool s.a,.bool s.b]) s
theorem RFa.le {V V' s}(h:RFa V v l s)(e:V.Le V'):RFa V' v l s:=by obtain ⟨b1,i,j,k,b2,o,r,t,b3,u,w,x,b,p,n,c,y,z,A,d,q,m,f,B,C,D,rfl,a,g⟩:=h;exact ⟨_,_,_,_,_,_,_,_,_,_,_,_,_,_,_,_,_,_,_,_,_,_,_,_,_,_,rfl,a.le e,g.le e⟩
def qK (V:Ó)(v:Value)(s:Sp):Prop:=∃b p n c u n' z d q m e F M N,v=.agg #[.bool b,.slice p n c,.slice u n' z,.bool d,.slice q m e,.slice F M N,.bool s.a,.bool s.b] /\
 RQ V (.agg #[.bool b,.slice p n c,.slice u n' z]) s.lo/\RQ V (.agg #[.bool d,.slice q m e,.slice F M N]) s.hi
theorem qK.le {V V' s}(h:qK V v s)(l:V.Le V'):qK V' v s:=by obtain ⟨b,p,n,c,a,f,g,d,q,m,e,i,j,k,rfl,o,r⟩:=h;exact qyJ ⟨rfl,ra,ra⟩
def RF (V:Ó)(v:Value)(l:L3)(s:Sp):Prop:=∃b1 u z c1 b2 F M N b3 O Z c3 b p n c p' n' c' d q m e q' m' e',
 v=.agg #[.bool b1,.slice u z c1,.bool b2,.slice F M N,.bool b3,.slice O Z c3,.bool b,.slice p n c,.slice p' n' c',.bool d,.slice q m e,.slice q' m' e',.bool s.a,.bool s.b] /\
 RL V (.agg #[.bool b1,.slice u z c1,.bool b2,.slice F M N,.bool b3,.slice O Z c3]) l.1 l.2.1 l.2.2/\qK V (.agg #[.bool b,.slice p n c,.slice p' n' c',.bool d,.slice q m e,.slice q' m' e',.bool s.a,.bool s.b]) s
theorem RF.le {V V' s}(h:RF V v l s)(e:V.Le V'):RF V' v l s:=by obtain ⟨b1,i,j,k,b2,o,r,t,b3,u,w,x,b,p,n,c,y,z,A,d,q,m,f,B,C,D,rfl,a,g⟩:=h;exact ⟨_,_,_,_,_,_,_,_,_,_,_,_,_,_,_,_,_,_,_,_,_,_,_,_,_,_,rfl,a.le e,g.le e⟩
theorem C_ {a b c}(h:RL V v a b c):∃b1 u z c1 b2 F M N b3 O Z c3,v=dB #[Õ b1,pT u z c1,Õ b2,pT F M N,Õ b3,pT O Z c3]:=by obtain ⟨_,_,_,_,_,_,_,_,_,e,-⟩:=h;exact qxZ e
theorem wM {x y}(h:RP V v x y):∃b1 u z c1 F M N b3 O Z c3 p4 n4 c4,v=dB #[Õ b1,pT u z c1,pT F M N,Õ b3,pT O Z c3,pT p4 n4 c4]:=by obtain ⟨_,_,_,_,_,_,_,_,_,_,_,_,e,-⟩:=h;exact qyJ e
def ay (l:L3)(x y:Rat):Rat:=(l.1:Rat)*x+(l.2.1:Rat)*y+(l.2.2:Rat)
def fh (l:L3):Rat:=(l.1:Rat)*(l.1:Rat)+(l.2.1:Rat)*(l.2.1:Rat)
def eE (l:L3)(x y:Rat):Rat:=((l.2.1:Rat)*x-(l.1:Rat)*y)*(fh l)⁻¹
def cP (l:L3)(t:Rat):Rat:=(l.2.1:Rat)*t-(l.1:Rat)*(l.2.2:Rat)*(fh l)⁻¹
def cR (l:L3)(t:Rat):Rat:=-((l.1:Rat)*t)-(l.2.1:Rat)*(l.2.2:Rat)*(fh l)⁻¹
def Ö (l:L3):L3:=(-l.1,-l.2.1,-l.2.2)
def Sp.has (s:Sp)(t:Rat):Bool:=(s.a||decide (cT s.lo t<=0))&&(s.b||decide (cT s.hi t≥0))
def Sp.emp (s:Sp):Bool:=!s.a&&!s.b&&decide (cT s.lo s.hi≥0)
variable{L l:L3}{a b c px py q qx qy x y:Rat}{V:Ó}{p v:Value}{k:Nat}
def HS (l:L3)(s:Sp)(x y:Rat):Bool:=decide (ay l x y=0)&&s.has (eE l x y)
def Nz (l:L3):Prop:=¬(l.1=0/\l.2.1=0)
theorem sq_nonneg (x:Int):0<=x*x:=by rw [<-Int.natAbs_mul_self];exact Int.natCast_nonneg _
theorem UK (l):fh l=((l.1*l.1+l.2.1*l.2.1:Int):Rat):=by unfold fh;simp
theorem Nz.norm (h:Nz l):fh l≠0:=by rw [UK];have d:=sq_nonneg l.1;have f:=sq_nonneg l.2.1;have a:l.1*l.1+l.2.1*l.2.1≠0:=by{intro e;have b:l.1*l.1=0:=ω;have c:l.2.1*l.2.1=0:=ω;exact h ⟨(Wx7.1 b).elim id id,(Wx7.1 c).elim id id⟩};exact_mod_cast a
theorem KQ (h:q≠0):q.num≠0:=λe=>h (Ŝ.1 e)
theorem XI {l}(u:vy V l L)(z:ja V p x y)(sl:jC k L)(s1:Sz k x)(s2:Sz k y)(F:8*k+7<2^38:=by omega):À 70 #[l,p] V λr W=>RR W r (eE L x y):=by refine (BQ u z sl.1 sl.2.1 sl.2.2 s1 s2 F).s ?_;rintro r V2 a g;have e:eE L x y=(((L.2.1:Rat)*x+(-(L.1:Rat))*y)*((L.2.1:Rat)*(L.2.1:Rat)+(-(L.1:Rat))*(-(L.1:Rat)))⁻¹):=by{unfold eE fh;grind};rw [e];exact g
theorem IK (sl:jC k L)(s1:Sz k x)(s2:Sz k y):Sz (8*k+7) (eE L x y):=by have e:eE L x y=(((L.2.1:Rat)*x+(-(L.1:Rat))*y)*((L.2.1:Rat)*(L.2.1:Rat)+(-(L.1:Rat))*(-(L.1:Rat)))⁻¹):=by{unfold eE fh;grind};rw [e];exact yV sl.1 sl.2.1 sl.2.2 s1 s2
theorem k_At {l t}(u:vy V l L)(z:RR V t x)(sl:jC k L)(s1:Sz k x)(F:20*k+19<2^38):À 61 #[l,t] V λr W=>ja W r (cP L x) (cR L x):=by refine (JT u z sl.1 sl.2.1 sl.2.2 s1 F).s ?_;rintro r V2 c g;have a:cP L x=((L.1:Rat)*((-(L.2.2:Rat))*((L.1:Rat)*(L.1:Rat)+(L.2.1:Rat)*(L.2.1:Rat))⁻¹))+((L.2.1:Rat)*x):=by{unfold cP fh;grind};have b:cR L x=((L.2.1:Rat)*((-(L.2.2:Rat))*((L.1:Rat)*(L.1:Rat)+(L.2.1:Rat)*(L.2.1:Rat))⁻¹))+((-(L.1:Rat))*x):=by{unfold cR fh;grind};rw [a,b];exact g
theorem nt (sl:jC k L)(s1:Sz k x):Sz (20*k+19) (cP L x):=by have a:cP L x=((L.1:Rat)*((-(L.2.2:Rat))*((L.1:Rat)*(L.1:Rat)+(L.2.1:Rat)*(L.2.1:Rat))⁻¹))+((L.2.1:Rat)*x):=by{unfold cP fh;grind};rw [a];exact Fy sl.1 sl.2.1 sl.2.2 s1
theorem ny (sl:jC k L)(s1:Sz k x):Sz (20*k+19) (cR L x):=by have a:cR L x=((L.2.1:Rat)*((-(L.2.2:Rat))*((L.1:Rat)*(L.1:Rat)+(L.2.1:Rat)*(L.2.1:Rat))⁻¹))+((-(L.1:Rat))*x):=by{unfold cR fh;grind};rw [a];exact Fz sl.1 sl.2.1 sl.2.2 s1
theorem kM (q:Rat):q.num.sign=0↔q=0:=by rw [Qm6,Ŝ]
theorem k_Side {l}(u:vy V l L)(z:ja V p x y)(sl:jC k L)(s1:Sz k x)(s2:Sz k y)(F:16*k+16<2^38:=by omega):À 68 #[l,p] V λr W=>r=Jq (ay L x y).num.sign:=Ek u z sl.1 sl.2.1 sl.2.2 s1 s2 F
theorem kV {l L}(u:vy V l L)(sl:jC k L)(z:1*k+1<2^38:=by omega):À 58 #[l] V λr W=>vy W r (Ö L):=by refine (xQ u sl.1 sl.2.1 sl.2.2 z).s ?_;rintro r V2 a g;unfold vy Ö;simpa using g
theorem jC.rev (h:jC k L):jC k (Ö L):=by unfold jC Ö;exact ⟨h.1.neg,h.2.1.neg,h.2.2.neg⟩
theorem NV (h:Nz L):((((L.2.1:Int):Rat)*((L.2.1:Int):Rat))+((-((L.1:Int):Rat))*(-((L.1:Int):Rat)))).num≠0:=by grind [fh,KQ,h.norm]
theorem Bl {l}(u:RL V l L.1 L.2.1 L.2.2)(z:RP V p x y)(F:Nz L)(sl:jC k L)(s1:Sz k x)(s2:Sz k y)(M:8*k+7<2^38:=by omega):À 215 #[l,p] V λr W=>RQ W r (eE L x y):=by refine (Eu u z (NV F) sl.1 sl.2.1 sl.2.2 s1 s2 M).s ?_;rintro r V2 a g;have e:eE L x y=((((x)*((L.2.1:Int):Rat))+((y)*(-((L.1:Int):Rat))))*((((L.2.1:Int):Rat)*((L.2.1:Int):Rat))+((-((L.1:Int):Rat))*(-((L.1:Int):Rat))))⁻¹):=by{unfold eE fh;grind};rw [e];exact g
theorem r_At {l t}(u:RL V l L.1 L.2.1 L.2.2)(z:RQ V t x)(F:Nz L)(sl:jC k L)(s1:Sz k x)(M:18*k+16<2^38:=by omega):À 159 #[l,t] V λr W=>RP W r (cP L x) (cR L x):=by refine (MX u z (NV F) sl.1 sl.2.1 sl.2.2 s1 M).s ?_;rintro r V2 c g;have a:cP L x=(((-(((L.2.2:Int):Rat)*((((L.2.1:Int):Rat)*((L.2.1:Int):Rat))+((-((L.1:Int):Rat))*(-((L.1:Int):Rat))))⁻¹))*((L.1:Int):Rat))+(x)*((L.2.1:Int):Rat)):=by{unfold cP fh;grind};have b:cR L x=(((-(((L.2.2:Int):Rat)*((((L.2.1:Int):Rat)*((L.2.1:Int):Rat))+((-((L.1:Int):Rat))*(-((L.1:Int):Rat))))⁻¹))*((L.2.1:Int):Rat))+(x)*(-((L.1:Int):Rat))):=by{unfold cR fh;grind};rw [a,b];exact g
theorem Ir {l x y}(u:RL V l L.1 L.2.1 L.2.2)(z:RP V p x y){k}(sl:jC k L)(s1:Sz k x)(s2:Sz k y)(F:16*k+16<2^38:=by omega):À 213 #[l,p] V λr W=>r=Jq (ay L x y).num.sign:=Hr u z sl.1 sl.2.1 sl.2.2 s1 s2 F
theorem sz_gI (u:Sz k a)(z:Sz k b)(sc:Sz k c):Sz (3*k+2) (eG (eG a b) c)⁻¹:=
 il (Sz.s (gU (gU u z) sc) ω)
theorem YE {k}(u:Sz k a)(z:Sz k b)(sc:Sz k c)(h:¬(a=0/\b=0)):jC (4*k+3) (CH a b c):=by obtain ⟨-,e,f,g⟩:=tv (c:=c) h;have d:=sz_gI u z sc;unfold jC;rw [<-e,<-f,<-g];exact ⟨Sz.s (Sz.mul u d) ω,Sz.s (Sz.mul z d) ω,Sz.s (Sz.mul sc d) ω⟩
def nD (px py qx qy:Rat):L3:=CH (-(qy-py)) (qx-px) (-(-(qy-py)*px+(qx-px)*py))
theorem wX (h:¬(px=qx/\py=qy)):¬(-(qy-py)=0/\qx-px=0):=by rintro ⟨a,b⟩;exact h ⟨χ,χ⟩
theorem Qh (h:¬(px=qx/\py=qy)):Nz (nD px py qx qy):=XX (wX h)
theorem IL (s1:Sz k px)(s2:Sz k py)(s3:Sz k qx)(s4:Sz k qy)(h:¬(px=qx/\py=qy)):jC (40*k+40) (nD px py qx qy):=by have a:Sz (2*k+1) (-(qy-py)):=Sz.s (s4.sub s2).neg ω;have b:Sz (2*k+1) (qx-px):=Sz.s (s3.sub s1) ω;have c:Sz (8*k+8) (-(-(qy-py)*px+(qx-px)*py)):=Sz.s ((a.mul s1).add (b.mul s2)).neg ω;have:=YE (k:=8*k+8) (Sz.s a ω) (Sz.s b ω) c (wX h);exact ⟨Sz.s this.1 ω,Sz.s this.2.1 ω,Sz.s this.2.2 ω⟩
def N9 (px py qx qy:Rat):Sp:=⟨eE (nD px py qx qy) px py,eE (nD px py qx qy) qx qy,false,false⟩
def Vl (b:Bool)(xs ys:List Nat):Rat:=mkRat (bJ b xs) (val ys)
def nrmQ (b:Bool)(xs ys:List Nat):Bool:=qC b xs&&decide (ai (val ys)=ys)&&!decide (ys=[])&&decide (Nat.gcd (val xs) (val ys)=1)
def zerQ (b:Bool)(xs ys:List Nat):Bool:=!b&&decide (xs=[])&&decide (ys=[])
def endQ (b:Bool)(xs ys:List Nat)(no:Bool):Rat:=if no then 0 else Vl b xs ys
def endOk (b:Bool)(xs ys:List Nat)(no:Bool):Bool:=if no then zerQ b xs ys else nrmQ b xs ys
theorem Px:nrmQ (decide (q.num<0)) (ai q.num.natAbs) (ai q.den)=true/\Vl (decide (q.num<0)) (ai q.num.natAbs) (ai q.den)=q:=by constructor;{unfold nrmQ;have a:qC (decide (q.num<0)) (ai q.num.natAbs)=true:=by{unfold qC;rw [ag];by_cases h:q.num<0;{have:ai q.num.natAbs≠[]:=λe=>by{have:=bR.1 e;omega};simp [this]};{simp [h]}};have b:ai q.den≠[]:=λe=>q.den_nz (bR.1 e);grind [ag,q.reduced]};grind [Vl,aX,ag,Rat.mkRat_self]
theorem MH {s}(h:fQ V v s)(z:s.sz k)(F:2*k<2^40):À 285 #[v] V λr W=>r=Õ s.emp:=by obtain ⟨d,e,p,f,g,q,rfl,j,l⟩:=h;refine At V _ ⟨λi=>⟨λc m n=>(fU ra ra z.1 z.2).s ?_,λc o t=>?_⟩,λi u w=>?_⟩;{grind [Sp.emp]};{rw [Qn8] at c;simp [Sp.emp,c]};{grind [Sp.emp]}
def FOk (l:L3)(s:Sp):Prop:=bX l=true/\s.can/\s.emp=false
theorem RE.raw {no}(h:RE V v q no)(u:no=true->q=0):∃b xs ys,WA V v b xs ys/\endOk b xs ys no=true/\endQ b xs ys no=q/\(∀k,Sz k q->xs.length<=k/\ys.length<=k):=by (cases no with|true=>{exact ⟨false,[],[],h.1 rfl,rfl,by rw [u rfl];rfl,λk _=>⟨ã _,ã _⟩⟩}|false=>{obtain ⟨p,n,c,f,g,i,rfl,d,e⟩:=h.2 rfl;exact ⟨_,_,_,(qyZ ⟨rfl,d,e⟩),Px.1,Px.2,λk a=>⟨ah a.1,ah a.2⟩⟩})
theorem Td {s}(h:fQ V v s)(Z:s.sz k)(hk:k<=2^40):À 210 #[v] V λr W=>RSp W r s:=by obtain ⟨i,j,p,l,m,q,rfl,u,w⟩:=h;have t:∀{V:un} {v:um} {x:Rat} {no:ut},RA V v x->(!no)=true->RE V v x no:=λh e=>by{rw [Ł] at e;subst e;exact ⟨π,λ_=>h⟩};have f:∀{V:un} {x:Rat} {no:ut},(!no)=false->RE V (dB #[Õ false,pT none 0 0,pT none 0 0]) x no:=λe=>by{rw [Qn8] at e;subst e;exact ⟨λ_=>WA.nil,π⟩};refine EZ V _ ⟨λd y z=>(vG ra Z.1 hk).s ?_,λd=>⟨λc A B=>(vG ra Z.2 hk).s ?_,λc C n=>?_⟩⟩;{rintro r V2 D o;obtain ⟨_,_,_,_,_,_,_,rfl⟩:=o.shape;refine qyK ⟨rfl,λc E F=>(vG ra Z.2 hk).s ?_,λc G H=>?_⟩;{rintro r I J g;obtain ⟨_,_,_,_,_,_,_,rfl⟩:=g.shape;exact qyK ⟨rfl,λK L=>⟨_,_,_,_,_,_,_,_,_,_,_,_,_,_,rfl,t ra d,t ra c⟩⟩};{exact qyJ ⟨rfl,t ra d,f c⟩}};{rintro r M N g;obtain ⟨_,_,_,_,_,_,_,rfl⟩:=g.shape;exact qyK ⟨rfl,λO P=>⟨_,_,_,_,_,_,_,_,_,_,_,_,_,_,rfl,f d,t ra c⟩⟩};{exact qyJ ⟨rfl,f d,f c⟩}
theorem vy.api {r}(h:RL V r (l.1:Rat).num (l.2.1:Rat).num (l.2.2:Rat).num):RL V r l.1 l.2.1 l.2.2:=by simpa using h
theorem Tb {s}(h:xF V v l s)(sl:jC k l)(N:s.sz k)(M:k<=2^40):À 153 #[v] V λr W=>RFa W r l s:=by obtain ⟨e,f,p,g,i,q,j,m,r,n,u,t,w,x,o,rfl,b,y⟩:=h;refine EW V _ λz c=>(QB (b.le c) sl.1 sl.2.1 sl.2.2 M).s ?_;rintro r V2 A a;obtain ⟨_,_,_,_,_,_,_,_,_,_,_,_,rfl⟩:=C_ a;refine qxZ ⟨rfl,λB C=>(Td ra N M).s ?_⟩;rintro r D E d;obtain ⟨_,_,_,_,_,_,_,_,_,_,_,_,_,_,rfl,-,-⟩:=id d;exact ⟨_,_,_,_,_,_,_,_,_,_,_,_,_,_,_,_,rfl,λF G=>⟨_,_,_,_,_,_,_,_,_,_,_,_,_,_,_,_,_,_,_,_,_,_,_,_,_,_,rfl,(vy.api a).le ax,ra⟩⟩
theorem eK (h:bX l=true):Nz l:=by unfold bX at h;intro e;simp [e.1,e.2] at h
theorem UQ {a b c}(h:¬(a=0/\b=0)):bX (CB a b c)=true:=by have m:0<cj a b c:=by{apply Qt0;intro e;have i:=Qr8.1 e;grind};have d:cj a b c∣a.natAbs:=Qt1 (Ń _ _) (Ń _ _);have f:cj a b c∣b.natAbs:=Qt1 (Ń _ _) (ŝ _ _);have j:cj a b c∣c.natAbs:=ŝ _ _;have l:∀{x:Int},cj a b c∣x.natAbs->((cj a b c:Nat):Int)∣x:=λh=>Qp4.1 (by rw [ħ];exact h);have g:∀{x:Int},cj a b c∣x.natAbs->(x/(cj a b c:Int)).natAbs=x.natAbs/cj a b c:=λh=>by{rw [Qt5 (l h),ħ]};have nz:∀{x:Int},cj a b c∣x.natAbs->x/(cj a b c:Int)=0->x=0:=λo e=>by{have ⟨k,q⟩:=l o;grind [Int.mul_ediv_cancel_left]};have e:cj (a/(cj a b c:Int)) (b/(cj a b c:Int)) (c/(cj a b c:Int))=1:=by{show Nat.gcd (Nat.gcd (a/(cj a b c:Int)).natAbs (b/(cj a b c:Int)).natAbs) (c/(cj a b c:Int)).natAbs=1;rw [g d,g f,g j,Nat.gcd_div d f,Nat.gcd_div (show cj a b c∣Nat.gcd a.natAbs b.natAbs from Ń _ _) j];exact Nat.div_self m};have n:¬(a/(cj a b c:Int)=0/\b/(cj a b c:Int)=0):=λ⟨i,p⟩=>h ⟨nz d i,nz f p⟩;show (decide (¬(a/(cj a b c:Int)=0/\b/(cj a b c:Int)=0))&&decide (cj (a/(cj a b c:Int)) (b/(cj a b c:Int)) (c/(cj a b c:Int))=1))=true;grind
theorem UR (h:¬(a=0/\b=0)):bX (CH a b c)=true:=by refine UQ ?_;have d:(((a.den*b.den*c.den:Nat):Int):Rat)≠0:=by{exact_mod_cast (Ō (Ō a.den_nz b.den_nz) c.den_nz)};grind [Rat.num_eq_zero]
theorem UT (h:¬(px=qx/\py=qy)):bX (nD px py qx qy)=true:=UR (wX h)
theorem Te {w s t}(h:fQ V v s)(ht:RR V w t)(Z:s.sz k)(st:Sz k t)(hk:2*k<2^40:=by omega):À 69 #[v,w] V λr W=>r=Õ (s.has t):=by have f:=ht;obtain ⟨g,i,p,j,l,q,rfl,n,o⟩:=h;obtain ⟨t0,t1,t2,rfl⟩:=ht.shape;refine E0 V _ ⟨λd=>⟨λc u x=>by simp [Sp.has,d,c],λc V2 y=>(fU ra ra Z.2 st).s ?_⟩,λd z A=>(fU ra ra Z.1 st).s ?_⟩;{rintro r B C rfl;exact ⟨_,rfl,λD E=>by simp [Sp.has,d,c]⟩};{rintro r F G rfl;refine ⟨_,rfl,λe=>⟨λc H I=>by simp [Sp.has,d,c,Á e],λc J K=>(fU ra ra Z.2 st).s ?_⟩,λe L M=>by simp [Sp.has,d,Â e]⟩;rintro r N O rfl;exact ⟨_,rfl,λP m=>by simp [Sp.has,d,c,Á e]⟩}
theorem uH {s}(h:xF V v l s)(sl:jC k l)(M:s.sz k)(N:20*k+19<2^38:=by omega):À 23 #[v] V λr W=>∃w,r=æ #[w,Õ (!s.a)]/\ja W w (if s.a then 0 else cP l s.lo) (if s.a then 0 else cR l s.lo):=by obtain ⟨g,i,p,j,m,q,n,u,r,x,y,t,z,A,o,rfl,B,d⟩:=h;obtain ⟨_,_,_,_,_,_,e,C,D⟩:=d;simp only [Value.agg.injEq,ť,ō,Value.int.injEq,Value.pointer.injEq,Î,Í] at e;obtain ⟨rfl,rfl,rfl,rfl,rfl,rfl⟩:=e;refine As V _ ⟨λb E F=>⟨_,by rw [b];rfl,by rw [b];exact (qyZ ⟨rfl,RR.zero _,RR.zero _⟩)⟩,λb V2 G=>(k_At ra ra sl M.1 N).s λr H I c=>ja.ex c λ_ _ c _ _=>λJ f=>⟨_,by rw [b];rfl,by rw [b];exact c.le f⟩⟩
theorem JI {s}(h:xF V v l s)(sl:jC k l)(M:s.sz k)(N:20*k+19<2^38:=by omega):À 24 #[v] V λr W=>∃w,r=æ #[w,Õ (!s.b)]/\ja W w (if s.b then 0 else cP l s.hi) (if s.b then 0 else cR l s.hi):=by obtain ⟨g,i,p,j,m,q,n,u,r,x,y,t,z,A,o,rfl,B,d⟩:=h;obtain ⟨_,_,_,_,_,_,e,C,D⟩:=d;simp only [Value.agg.injEq,ť,ō,Value.int.injEq,Value.pointer.injEq,Î,Í] at e;obtain ⟨rfl,rfl,rfl,rfl,rfl,rfl⟩:=e;refine EX V _ ⟨λa E F=>⟨_,by rw [a];rfl,by rw [a];exact (qyZ ⟨rfl,RR.zero _,RR.zero _⟩)⟩,λa V2 G=>(k_At ra ra sl M.2 N).s λr H I c=>ja.ex c λ_ _ c _ _=>λJ f=>⟨_,by rw [a];rfl,by rw [a];exact c.le f⟩⟩
theorem Tc {w s}(h:xF V v l s)(Z:ja V w x y){k}(sl:jC k l)(hs:s.sz k)(s1:Sz k x)(s2:Sz k y)(hk:20*k+20<2^38:=by omega):À 31 #[v,w] V λr W=>r=Õ (HS l s x y):=by have b:=Z;obtain ⟨c,d,p,e,f,q,i,j,r,m,n,t,u,z,o,rfl,A,B⟩:=h;obtain ⟨_,_,_,_,_,_,rfl,-,-⟩:=Z;refine EY V _ λC D=>(k_Side ra ra sl s1 s2).s ?_;rintro r V2 E rfl;refine ⟨_,rfl,λa F G=>(XI ra ra sl s1 s2).s ?_,λa H I=>?_⟩;{rw [Ë,kM] at a;rintro r J K g;obtain ⟨_,_,_,rfl⟩:=g.shape;refine ⟨_,_,_,rfl,λL M=>(Te ra ra (k:=8*k+7) ⟨Sz.s hs.1 ω,Sz.s hs.2 ω⟩ (IK sl s1 s2)).s λr N O rfl=>⟨_,rfl,λP Q=>by simp [HS,a]⟩⟩};{rw [beq_eq_false_iff_ne,ne_eq,kM] at a;simp [HS,a]}
def uU (x y:Rat):Rat:=if 0<cT y x then y else x
def uV (x y:Rat):Rat:=if cT y x<0 then y else x
theorem cg (x y):(x<y/\cT x y=-1)\/(x=y/\cT x y=0)\/(y<x/\cT x y=1):=by grind [HB.1,iK.1,HA.1]
theorem Sp.iL {s:Sp}:s.emp=false↔(s.a=true\/s.b=true\/s.lo<s.hi):=by unfold Sp.emp;rcases cg s.lo s.hi with ⟨h,e⟩|⟨h,e⟩|⟨h,e⟩<;>rw [e]<;>cases s.a<;>cases s.b<;>simp<;>grind
def Sp.meet (v w:Sp):Sp:=⟨if v.a then w.lo else if w.a then v.lo else uU v.lo w.lo,if v.b then w.hi else if w.b then v.hi else uV v.hi w.hi,if v.a then w.a else false,if v.b then w.b else false⟩
theorem Sp.CD {v w:Sp}(F:v.can)(u:w.can):(v.meet w).can:=by unfold Sp.meet;constructor<;>dsimp only;{(cases z:v.a with|false=>{intro h;cases h}|true=>exact λh=>u.1 h)};{(cases z:v.b with|false=>{intro h;cases h}|true=>exact λh=>u.2 h)}
def Sp.rS (s:Sp):Rat:=if s.a then (if s.b then 0 else s.hi-((1:Int):Rat)) else if s.b then s.lo+((1:Int):Rat) else (s.lo+s.hi)*((2:Int):Rat)⁻¹
theorem Sp.Yx {s:Sp}(h:s.emp=false):(s.a=false->s.lo<s.rS)/\(s.b=false->s.rS<s.hi):=by rw [Sp.iL] at h;unfold Sp.rS;cases u:s.a<;>cases z:s.b<;>simp at h⊢<;>grind
def Û (m l:L3):Rat:=((m.1:Rat)*(l.2.1:Rat))+((m.2.1:Rat)*(-(l.1:Rat)))
def j9 (m l:L3):Rat:=ay m (cP l 0) (cR l 0)
theorem qe (m l t):ay m (cP l t) (cR l t)=j9 m l+Û m l*t:=by unfold j9 ay Û cP cR;grind
def Ø (m l:L3):Rat:=-(j9 m l*(Û m l)⁻¹)
def bD (l:L3)(s:Sp)(m:L3):Sp:=
 if (Û m l).num.sign==0 then s else if (Û m l).num.sign==1 then s.meet ⟨Ø m l,0,false,true⟩ else s.meet ⟨0,Ø m l,true,false⟩
def cU (l:L3)(s:Sp)(m:L3):Bool:=
 if (Û m l).num.sign==0 then decide ((j9 m l).num.sign>0) else !(bD l s m).emp
theorem cZ (q:Rat):(q=0/\q.num.sign=0)\/(0<q/\q.num.sign=1)\/(q<0/\q.num.sign=-1):=by have a:=@KO q;have b:=@KP q;have c:=@Ŝ q;rcases Qp8 q.num 0 with h|h|h<;>grind
theorem Ty {l s m}(he:s.emp=false)(u:cU l s m=true):(bD l s m).emp=false:=by grind [cU,bD]
theorem Tz {l s m}(u:s.can):(bD l s m).can:=by unfold bD;split;{exact u};{split;{exact Sp.CD u ⟨π,λ_=>rfl⟩};{exact Sp.CD u ⟨λ_=>rfl,π⟩}}
theorem val_rev (m x y):ay (Ö m) x y=-ay m x y:=by unfold ay Ö;simp only [Qh0];grind
def ß (l m:L3):Rat:=((l.1:Rat)*(m.2.1:Rat))-((l.2.1:Rat)*(m.1:Rat))
def meX (l m:L3):Rat:=(((l.2.1:Rat)*(m.2.2:Rat))-((l.2.2:Rat)*(m.2.1:Rat)))*(ß l m)⁻¹
def meY (l m:L3):Rat:=(((l.2.2:Rat)*(m.1:Rat))-((l.1:Rat)*(m.2.2:Rat)))*(ß l m)⁻¹
def Sp.inn (s:Sp)(t:Rat):Prop:=(s.a=true\/s.lo<t)/\(s.b=true\/t<s.hi)
def Ah (ss:List Sp)(t:Rat):Prop:=∃s∈ss,s.inn t
def Sp.good (s:Sp):Prop:=s.can/\s.emp=false
def Sp.MF (s t:Sp):Prop:=s.b=false/\t.a=false/\s.hi<t.lo
def uY (ss:List Sp):Prop:=(∀s∈ss,s.good)/\ss.Pairwise Sp.MF
theorem pick (E:zA Rat):∀l u:Rat,l<u->∃t,l<t/\t<u/\t∉E:=by
 induction E with
 | nil=>exact λl u h=>⟨(l+u)/2,χ,χ,ψ⟩
 | cons e r z=>grind
theorem maxL:∀l:zA Rat,l=[]\/∃m∈l,∀x∈l,x<=m:=by
 intro l
 induction l with
 | nil=>exact .inl rfl
 | cons y r u=>
  rcases u with rfl|⟨m,hm,h⟩
  ·exact .inr ⟨y,ψ,by intro x a;simp at a;grind⟩
  grind
theorem minL:∀l:zA Rat,l=[]\/∃m∈l,∀x∈l,m<=x:=by
 intro l
 induction l with
 | nil=>exact .inl rfl
 | cons y r u=>
  rcases u with rfl|⟨m,hm,h⟩
  ·exact .inr ⟨y,ψ,by intro x a;simp at a;grind⟩
  grind
theorem KZ (E F z:zA Rat)(h:∀l∈F,∀u∈z,l<u):∃t,(∀l∈F,l<t)/\(∀u∈z,t<u)/\t∉E:=by have key:∃a b:Rat,a<b/\(∀l∈F,l<=a)/\∀u∈z,b<=u:=by{rcases maxL F with rfl|⟨m,hm,e⟩;{rcases minL z with rfl|⟨n,f,c⟩;{exact ⟨0,1,φ,Ū,Ū⟩};{exact ⟨n-1,n,χ,Ū,c⟩}};{rcases minL z with rfl|⟨n,f,c⟩;{exact ⟨m,m+1,χ,e,Ū⟩};grind}};obtain ⟨a,b,d,e,c⟩:=key;have ⟨t,t1,t2,t3⟩:=pick E a b d;grind
def Sp.Jm (s:Sp):List Rat:=if s.a then [] else [s.lo]
def Sp.HT (s:Sp):List Rat:=if s.b then [] else [s.hi]
variable{r:List Sp}
theorem Bc {s:Sp}{t}:s.inn t↔(∀l∈s.Jm,l<t)/\∀u∈s.HT,t<u:=by unfold Sp.inn Sp.Jm Sp.HT;cases s.a<;>cases s.b<;>simp
theorem mN {s:Sp}{l:Rat}(h:l∈s.Jm):s.a=false/\l=s.lo:=by unfold Sp.Jm at h;cases u:s.a<;>simp [u] at h;exact ⟨rfl,h⟩
theorem pM {s:Sp}{l:Rat}(h:l∈s.HT):s.b=false/\l=s.hi:=by unfold Sp.HT at h;cases u:s.b<;>simp [u] at h;exact ⟨rfl,h⟩
theorem oE {s:Sp}(h:s.emp=false)(u:s.a=false)(z:s.b=false):s.lo<s.hi:=by grind [Sp.iL.1]
theorem PH {s:Sp}(h:s.emp=false)(E:zA Rat):∃t,s.inn t/\t∉E:=by
 have ⟨t,c,d,e⟩:=KZ E s.Jm s.HT (λl a u hu=>by
  obtain ⟨b,rfl⟩:=mN a;obtain ⟨z,rfl⟩:=pM hu;exact oE h b z)
 grind [Bc.2]
theorem uY.tail {s:Sp}(h:uY (s::r)):uY r:=⟨λx a=>h.1 x (by simp [a]),(Ģ.1 h.2).2⟩
theorem uY.MF {s:Sp}(h:uY (s::r)){x}(u:x∈r):s.MF x:=(Ģ.1 h.2).1 x u
theorem H7 {s:Sp}(h:uY (s::r))(u:s.a=false){t}(z:t<=s.lo):¬Ah (s::r) t:=by rintro ⟨x,b,c,d⟩;rcases ç.1 b with rfl|b;{grind};{obtain ⟨b1,b2,b3⟩:=h.MF b;have:=oE (h.1 s ψ).2 u b1;grind}
def nl:List Sp->List Rat
 | []=>[]
 | x::_=>[x.lo]
theorem Pw {s:Sp}(h:uY (s::r))(z:s.b=false){t}(F:s.hi<=t)(u:∀x∈nl r,t<=x):¬Ah (s::r) t:=by rintro ⟨x,a,c,d⟩;rcases ç.1 a with rfl|a;{grind};{(cases r with|nil=>{cases a}|cons y r=>{exact H7 h.tail (h.MF ψ).2.1 (u y.lo (by simp [nl])) ⟨x,a,c,d⟩})}
section
variable {s s':Sp} {r r':List Sp} {E:List Rat} (h:uY (s :: r)) (h':uY (s' :: r')) (e:∀t,t ∉ E->Ah (s :: r) t->Ah (s' :: r') t)
include h h' e
theorem un_a (F:s.a=true):s'.a=true:=by (cases z:s'.a with|true=>rfl|false=>{obtain ⟨t,-,c,d⟩:=KZ E [] (s'.lo::s.HT) (λl b=>by cases b);have:=e t d ⟨s,ψ,.inl F,(Bc.2 ⟨(λl b=>by unfold Sp.Jm at b;rw [Ä F] at b;cases b),λu hu=>c u (by simp [hu])⟩).2⟩;exact Å this (H7 h' z (by have:=c s'.lo ψ;grind))})
theorem Z4 (F:s.a=false)(z:s'.a=false):¬s.lo<s'.lo:=by
 intro b
 have ⟨t,f,d,g⟩:=KZ E [s.lo] (s'.lo::s.HT) (λl c u hu=>by
  obtain rfl:l=s.lo:=by simpa using c
  rcases ç.1 hu with rfl|hu
  ·exact b
  ·obtain ⟨i,rfl⟩:=pM hu;exact oE (h.1 s ψ).2 F i)
 have:=e t g ⟨s,ψ,Bc.2 ⟨(λl c=>by obtain ⟨-,rfl⟩:=mN c;exact f _ ψ),λu hu=>d u (by simp [hu])⟩⟩;exact Å this (H7 h' z (by have:=d s'.lo ψ;grind))
theorem un_b (F : s.a = false → s'.a = false ∧ s.lo = s'.lo)(M : s.b = true): s'.b = true := by
  cases z : s'.b with
  | true => rfl
  | false =>
    have g : ∀ u∈nl r', s'.hi<u := λu hu => by
      cases r' with
      | nil => cases hu
      | cons y r' => obtain rfl : u = y.lo := by simpa [nl] using hu
                     exact (h'.MF ψ).2.2
    obtain ⟨t, d, h, i⟩ := KZ E (s'.hi::s.Jm) (nl r') (λl c u hu => by
      rcases ç.1 c with rfl|c
      · exact g u hu
      · obtain ⟨f, rfl⟩ := mN c;have := oE (h'.1 s' ψ).2 (F f).1 z;rw [(F f).2];grind)
    have := e t i ⟨s, by simp, (Bc.2 ⟨(λl c => d l (by simp [c])), (λu hu => by unfold Sp.HT at hu;rw [Ä M] at hu;cases hu)⟩ : s.inn t)⟩;exact Å this (Pw h' z (by have := d s'.hi ψ;grind) (λx j => by have := h x j;grind))
theorem ZZ (F : s.a = false → s'.a = false ∧ s.lo = s'.lo)(N : s.b = false)(z : s'.b = false): ¬s'.hi<s.hi := by
  intro c
  have g : ∀ u∈nl r', s'.hi<u := λu hu => by
    cases r' with
    | nil => cases hu
    | cons y r' => obtain rfl : u = y.lo := by simpa [nl] using hu
                   exact (h'.MF ψ).2.2
  obtain ⟨t, h, f, i⟩ := KZ E [s'.hi] (s.hi::nl r') (λl j u hu => by
    obtain rfl : l = s'.hi := by simpa using j
    rcases ç.1 hu with rfl|hu
    · exact c
    · exact g u hu)
  have m := h s'.hi ψ
  have d : s.inn t := by
    refine ⟨?_, .inr (f s.hi ψ)⟩
    cases M : s.a with
    | true => exact .inl rfl
    | false =>
      have := oE (h'.1 s' ψ).2 (F M).1 z;exact .inr χ
  exact Å (e t i ⟨s, by simp, d⟩) (Pw h' z χ (λx k => by have := f x (by simp [k]);grind))
end
theorem Sp.ext' {s t:Sp}(u:s.a=t.a)(z:s.b=t.b)(F:s.lo=t.lo)(M:s.hi=t.hi):s=t:=by cases s;cases t;simp at *;exact ⟨F,M,u,z⟩
theorem NX {E:zA Rat}:∀{xs ys:zA Sp},uY xs->uY ys->(∀t,t∉E->(Ah xs t↔Ah ys t))->xs=ys:=by
 intro xs
 induction xs with
 | nil=>
  intro ys _ f e
  cases ys with
  | nil=>rfl
  | cons s r=>
   have ⟨t,c,i⟩:=PH (f.1 s ψ).2 E;obtain ⟨x,d,-⟩:=(e t i).2 ⟨s,ψ,c⟩;cases d
 | cons s r F=>
  intro ys d f e
  cases ys with
  | nil=>
   have ⟨t,c,i⟩:=PH (d.1 s ψ).2 E;obtain ⟨x,d,-⟩:=(e t i).1 ⟨s,ψ,c⟩;cases d
  | cons s' r'=>
   have k:=λt j=>(e t j).1;have l:=λt j=>(e t j).2
   have beq:∀{a b:ut},(a=true->b=true)->(b=true->a=true)->a=b:=λ{a b} c i=>by cases a<;>cases b<;>simp at c i ⊢
   have g:=beq (un_a d f k) (un_a f d l)
   have y:s.a=false->s.lo=s'.lo:=λc=>by have A:=Z4 d f k c (g▸c);have B:=Z4 f d l (g▸c) c;grind
   have z:s.a=false->s'.a=false/\s.lo=s'.lo:=λh=>⟨g▸h,y h⟩;have n:s'.a=false->s.a=false/\s'.lo=s.lo:=λh=>⟨g.symm▸h,(y (g.symm▸h)).symm⟩;have u:=beq (un_b d f k z) (un_b f d l n)
   have C:s.b=false->s.hi=s'.hi:=λc=>by have A:=ZZ d f k z c (u▸c);have B:=ZZ f d l n (u▸c) c;grind
   have gs:=(d.1 s ψ).1;have o:=(f.1 s' ψ).1
   have es:s=s':=by refine Sp.ext' g u ?_ ?_;{(cases c:s.a with|false=>exact y c|true=>{rw [gs.1 c,o.1 (g▸c)]})};{(cases c:s.b with|false=>exact C c|true=>{rw [gs.2 c,o.2 (u▸c)]})}
   subst es
   have p:∀{q:zA Sp} {t:Rat},uY (s::q)->Ah q t->¬s.inn t:=by rintro q t D ⟨x,d,c,i⟩ ⟨v,w⟩;obtain ⟨b1,b2,b3⟩:=D.MF d;grind
   rw [F d.tail f.tail (λt j=>⟨λm=>?_,λm=>?_⟩)]
   ·have ⟨x,hm,hi⟩:=k t j (by obtain ⟨x,v,w⟩:=m;exact ⟨x,by simp [v],w⟩);rcases ç.1 hm with rfl|hm;{exact Å hi (p d m)};{exact ⟨x,hm,hi⟩}
   ·have ⟨x,hm,hi⟩:=l t j (by obtain ⟨x,v,w⟩:=m;exact ⟨x,by simp [v],w⟩);rcases ç.1 hm with rfl|hm;{exact Å hi (p f m)};{exact ⟨x,hm,hi⟩}
end Go.Proofs.Tryz
namespace Go.Eng
theorem BA (a:Addr)(m n):(a.add m).add n=a.add (m+n):=by grind [Addr.add]
variable {α:Type} {sz:Nat} {R:Ó->Value->α->Prop} {V V':Ó}
structure é (sz:Nat) (R:Ó->Value->α->Prop) (V:Ó) (vs:List Value) (al:List α):Prop where
 at_:∀(i:Nat)(h:i<al.length),∃xs:List Value,xs.length=sz/\R V (.agg xs.toArray) al[i]/\∀j x,xs[j]?=some x->vs[i*sz+j]?=some x
structure bM (sz:Nat) (R:Ó->Value->α->Prop) (V:Ó) (p:OA) (n:Nat) (al:List α):Prop where
 len:n=al.length
 at_:∀(i:Nat)(h:i<al.length),∃ad,af p (i*sz)=some ad/\∃xs:List Value,xs.length=sz/\R V (.agg xs.toArray) al[i]/\∀j x,xs[j]?=some x->V.at (ad.add j) x
theorem é.nil {vs}:é sz R V vs []:=⟨λi h=>Å h (Ş i)⟩
theorem bM.nil {p}:bM sz R V p 0 []:=⟨rfl,λi h=>Å h (Ş i)⟩
theorem é.le {vs al}(h:é sz R V vs al)(m:∀v a,R V v a->R V' v a):é sz R V' vs al:=
 ⟨λi b=>by have ⟨xs,c,d,e⟩:=h.at_ i b;exact ⟨xs,c,m _ _ d,e⟩⟩
theorem bM.le {p n al}(h:bM sz R V p n al)(l:V.Le V')(m:∀v a,R V v a->R V' v a):bM sz R V' p n al:=
 ⟨h.len,λi b=>by have ⟨c,d,xs,e,f,g⟩:=h.at_ i b;exact ⟨c,d,xs,e,m _ _ f,λj x k=>l.at (g j x k)⟩⟩
theorem é.dN {vs al}(h:é sz R V vs al)(u:0<sz):al.length*sz<=vs.length:=by by_cases a:al.length=0;{rw [a];omega};{obtain ⟨xs,d,-,b⟩:=h.at_ (al.length-1) ω;have c:sz-1<xs.length:=ω;have:=(Đ.1 (b (sz-1) _ (ï c))).1;have e:al.length*sz=(al.length-1)*sz+sz:=by{obtain ⟨m,hm⟩:∃m,al.length=m+1:=⟨al.length-1,ω⟩;grind [Nat.succ_mul]};omega}
theorem é.snoc {vs al}(h:é sz R V vs al){xs sp:zA um}{a}(z:xs.length=sz)(F:R V (.agg xs.toArray) a)(u:0<sz):é sz R V (vs.take (al.length*sz)++xs++sp) (al++[a]):=by have n:=h.dN u;have o:(vs.take (al.length*sz)).length=al.length*sz:=by{rw [ê];omega};refine ⟨λi c=>?_⟩;rw [î,Qc3] at c;by_cases e:i=al.length;{grind [Nat.add_sub_cancel_left]};{have b:i<al.length:=ω;have ⟨d,f,g,p⟩:=h.at_ i b;refine ⟨d,f,by rw [Qs4 b];exact g,λj x k=>?_⟩;have l:=(Đ.1 k).1;have m:i*sz+j<al.length*sz:=by{have:(i+1)*sz<=al.length*sz:=Ă _ b;rw [Ś] at this;omega};grind}
theorem bM.h_ {u ty m vs al}(z:V.bh u (.cells vs.toArray ty m))(h:é sz R V vs al):bM sz R V (some ⟨u,0,none⟩) al.length al:=by refine ⟨rfl,λi a=>?_⟩;have ⟨xs,b,c,d⟩:=h.at_ i a;refine ⟨⟨u,i*sz,none⟩,by simp [af,add_zero'],xs,b,c,λj x f=>?_⟩;have e:(⟨u,i*sz,none⟩:Addr).add j=⟨u,i*sz+j,none⟩:=by{rw [<-add_zero',BA,add_zero']};grind [dX]
theorem bM.bI {u c ty m vs al}(M:vs≠[]->V.bh u (.cells vs.toArray ty m))(h:é sz R V vs al)(z:0<sz)(F:al.length<=c):bM sz R V (mA u c) al.length al:=by (cases al with|nil=>exact bM.nil|cons a r=>{have b:vs≠[]:=λe=>by{have:=h.dN z;grind [Nat.succ_mul]};have:mA u c=some ⟨u,0,none⟩:=by{unfold mA;rw [Ã];rw [Ā] at F;omega};grind [bM.h_]})
end Go.Eng
namespace Go.Proofs.Tryz
variable{V:Ó}{n:Nat}{vs:List Value}{p:OA}{ad:Addr}
structure GR {α:Type} (sz:Nat) (R:Ó->Value->α->Prop) (V:Ó) (n c:Nat) (vs:List Value) (l:List α):Prop where
 len:n=l.length
 le:n<=c
 cap:c*sz<=vs.length
 row:é sz R V vs l
theorem GR.nil {α:Type}{sz}{R:un->um->α->Prop}:GR sz R V 0 0 [] []:=⟨rfl,Ù _,ψ,é.nil⟩
theorem GR.s {α:Type}{sz}{R:un->um->α->Prop}{V' c l}(h:GR sz R V n c vs l)(m:∀v a,R V v a->R V' v a):GR sz R V' n c vs l:=⟨h.len,h.le,h.cap,h.row.le m⟩
theorem GR.snoc {α:Type}{sz}{R:un->um->α->Prop}{c l}(h:GR sz R V n c vs l){xs:zA um}{a}(F:xs.length=sz)(M:R V (.agg xs.toArray) a)(N:0<sz){sp:zA um}{u}(z:n+1<=u)(O:u*sz<=(n+1)*sz+sp.length):GR sz R V (n+1) u (vs.take (n*sz)++xs++sp) (l++[a]):=by have b:=h.len;have d:=h.cap;have e:n*sz<=c*sz:=Ă _ h.le;refine ⟨by rw [î,b];rfl,z,?_,?_⟩;{have f:(vs.take (n*sz)).length=n*sz:=by{rw [ê];omega};grind};{grind [h.row.snoc]}
theorem row_one {α:Type}{sz}{R:un->um->α->Prop}{xs a}(u:xs.length=sz)(z:R V (.agg xs.toArray) a):é sz R V xs [a]:=by refine ⟨λi b=>?_⟩<;>grind
theorem N6 {α:Type}{sz}{R:un->um->α->Prop}{ls}(h:é sz R V vs ls){k}(F:k<=ls.length){xs sp:zA um}{a}(z:xs.length=sz)(M:R V (.agg xs.toArray) a)(N:0<sz):é sz R V (vs.take (k*sz)++(xs++(vs.take (ls.length*sz)).drop (k*sz))++sp) (ls.take k++a::ls.drop k):=by have v:=h.dN N;have q:k*sz<=ls.length*sz:=Ă _ F;have t1:(vs.take (k*sz)).length=k*sz:=by{rw [ê];omega};have t2:((vs.take (ls.length*sz)).drop (k*sz)).length=ls.length*sz-k*sz:=by{rw [Į,ê];omega};have g:(ls.take k).length=k:=by{rw [ê];omega};refine ⟨λi r=>?_⟩;rw [ě];by_cases s:i<k;{have c:i<ls.length:=ω;have ⟨l,n,o,p⟩:=h.at_ i c;have e:(ls.take k++a::ls.drop k)[i]=ls[i]:=by{rw [Qs4 ω,Qt9]};refine ⟨l,n,by rw [e];exact o,λj x b=>?_⟩;have d:=(Đ.1 b).1;have f:i*sz+j<k*sz:=by{have:(i+1)*sz<=k*sz:=Ă _ s;rw [Ś] at this;omega};rw [Ĳ ω,ĩ,Ä f];exact p j x b};{by_cases t:i=k;{subst t;have e:(ls.take i++a::ls.drop i)[i]=a:=by{simp [g]};refine ⟨xs,z,by rw [e];exact M,λj x b=>?_⟩;have d:=(Đ.1 b).1;rw [Ň ω,t1,Qn1,ě,Ĳ d];exact b};{have c:i-1<ls.length:=by{rw [î,g,Ā,Į] at r;omega};have ⟨l,n,o,p⟩:=h.at_ (i-1) c;have e:(ls.take k++a::ls.drop k)[i]=ls[i-1]:=by{rw [Wz0 ω];obtain ⟨m,hm⟩:∃m,i=k+(m+1):=⟨i-k-1,ω⟩;subst hm;simp only [g,Qn1,List.getElem_cons_succ,Qp7];congr 1};refine ⟨l,n,by rw [e];exact o,λj x b=>?_⟩;have d:=(Đ.1 b).1;obtain ⟨m,hm⟩:∃m,i=k+1+m:=⟨i-k-1,ω⟩;subst hm;have w:(k+1+m)*sz=k*sz+sz+m*sz:=by{rw [Ē,Ē,ŋ]};have u:(k+1+m-1)*sz=k*sz+m*sz:=by{rw [show k+1+m-1=k+m by omega,Ē]};have:=p j x b;rw [u] at this;have f:k*sz+m*sz+j<ls.length*sz:=by{have:(k+m+1)*sz<=ls.length*sz:=Ă _ ω;rw [Ē,Ē,ŋ] at this;omega};rw [Ň ω,t1,ě,Ň ω,z,Ĳ ω,Qn5,ĩ,Ä ω];rw [show k*sz+((k+1+m)*sz+j-k*sz-sz)=k*sz+m*sz+j by omega];exact this}}
theorem eC {α:Type}{sz}{R:un->um->α->Prop}{ls}(h:bM sz R V p n ls)(u:0<sz):∃xs:zA um,V.sl p xs/\xs.length=ls.length*sz/\é sz R V xs ls:=by
 have step:∀k,k<=ls.length->∃xs:zA um,V.sl p xs/\xs.length=k*sz/\é sz R V xs (ls.take k):=by
  intro k
  induction k with
  | zero=>exact λ_=>⟨[],λi v b=>by simp at b,ψ,by rw [Qf4];exact é.nil⟩
  | succ k z=>
   intro r;have ⟨xs,d,e,f⟩:=z ω;have ⟨l,g,m,j,o,s⟩:=h.at_ k ω;have q:(ls.take k).length=k:=by rw [ê];omega
   refine ⟨xs++m,λi v b=>?_,by rw [î,e,j,Ś],?_⟩
   ·by_cases c:i<xs.length;{rw [Ĳ c] at b;exact d i v b};{rw [Ň ω] at b;(cases p with|none=>{cases g}|some a=>{obtain rfl:=ŏ (show some (a.add (k*sz))=some l from g);grind [BA]})}
   ·have:=f.snoc (sp:=[]) j o u;rw [q,ą,Ŋ ω] at this;rw [Ķ,ï ω];exact this
 have ⟨xs,d,e,f⟩:=step ls.length (Ù _);grind
theorem ie {α:Type}{sz}{R:un->um->α->Prop}{V}{vs xs sp:zA um}{ls ms}(h:é sz R V vs ls)(h':é sz R V xs ms)(u:0<sz):é sz R V (vs.take (ls.length*sz)++xs++sp) (ls++ms):=by have q:=h.dN u;have o:=h'.dN u;have n:(vs.take (ls.length*sz)).length=ls.length*sz:=by{rw [ê];omega};refine ⟨λi p=>?_⟩;by_cases c:i<ls.length;{have ⟨d,f,g,k⟩:=h.at_ i c;refine ⟨d,f,by rw [Qs4 c];exact g,λj x a=>?_⟩;have l:=(Đ.1 a).1;have b:i*sz+j<ls.length*sz:=by{have:(i+1)*sz<=ls.length*sz:=Ă _ c;rw [Ś] at this;omega};rw [ě,Ĳ ω,ĩ,Ä b];exact k j x a};{rw [î] at p;obtain ⟨m,rfl⟩:∃m,i=ls.length+m:=⟨i-ls.length,ω⟩;have hm:m<ms.length:=ω;have ⟨d,f,g,k⟩:=h'.at_ m hm;refine ⟨d,f,?_,λj x a=>?_⟩;{have e:(ls++ms)[ls.length+m]=ms[m]:=by{rw [Wz0 ω];simp};rw [e];exact g};{have l:=(Đ.1 a).1;have b:m*sz+j<xs.length:=by{have:(m+1)*sz<=ms.length*sz:=Ă _ hm;rw [Ś] at this;omega};rw [ě,Ň (by rw [n,Ē];omega),n,Ē,Ĳ ω];rw [show ls.length*sz+m*sz+j-ls.length*sz=m*sz+j by omega];exact k j x a}}
theorem kL {α:Type}{sz}{R:un->um->α->Prop}{al}(h:é sz R V vs al)(u:0<sz)(z:∀xs a,R V (.agg (List.toArray xs)) a->∀v∈xs,v.oneCell'=true){m:Nat}(hm:m<al.length*sz){v}(F:vs[m]?=some v):v.oneCell'=true:=by have ⟨xs,b,e,c⟩:=h.at_ (m/sz) (Nat.div_lt_of_lt_mul (by rw [Ľ];exact hm));have d:m%sz<xs.length:=by{rw [b];exact ė _ u};grind [Nat.mul_comm,Nat.div_add_mod,List.getElem_mem]
theorem Be {α:Type}{sz}{R:un->um->α->Prop}{V F M us O}(Z:GR sz R V F M us O)(hs:0<sz)(one:∀xs a,R V (.agg (List.toArray xs)) a->∀v∈xs,v.oneCell'=true){N ty m}(hb:us≠[]->V.bh N (.cells us.toArray ty m)){es:zA um}{x}(he:es.length=sz)(hx:R V (.agg es.toArray) x){j}(yo:j<=F:=by omega):∃xs ys:zA um,V.sl (iE (mA N M) M j sz) xs/\xs.length=(F-j)*sz/\(∀v∈xs,v.oneCell'=true)/\V.sl (mA N M) ys/\ys.length=j*sz/\((mA N M).isNone=true->j=0)/\(∀sp:zA um,aL (es.take (1*sz)++xs++sp) 0 ((1+(F-j))*sz)=es++xs)/\(es++xs).length/sz=1+(F-j)/\(es++xs).length=(1+(F-j))*sz/\(∀v∈es++xs,v.oneCell'=true)/\∀(sp:zA um)(c':Nat),j+(1+(F-j))<=c'->c'*sz<=(j+(1+(F-j)))*sz+sp.length->GR sz R V (j+(1+(F-j))) c' (ys++(es++xs)++sp) (O.take j++x::O.drop j):=by have n:=Z.len;have s:=Z.le;have o:=Z.cap;have p:=Z.row;have A:F*sz<=M*sz:=Ă _ s;have B:j*sz<=F*sz:=Ă _ yo;have C:(F-j)*sz=F*sz-j*sz:=Nat.sub_mul ..;have t:(1+(F-j))*sz=sz+(F-j)*sz:=by{rw [Ē,ŋ]};have t1:(us.take (j*sz)).length=j*sz:=by{rw [ê];omega};have t2:((us.take (F*sz)).drop (j*sz)).length=(F-j)*sz:=by{rw [Į,ê];omega};have q:∀v∈(us.take (F*sz)).drop (j*sz),v.oneCell'=true:=by{intro v g;have ⟨k,hm,e⟩:=Qm2.1 (Qg4 g);have d:k<F*sz:=by{rw [ê] at hm;omega};have:=ï hm;rw [e,ĩ,Ä d] at this;exact kL p hs one (by rw [<-n];exact d) this};have f:0<M->us≠[]:=λhw e=>by{have:0<M*sz:=Wk2 hw hs;rw [e] at o;simp at o;omega};have i:0<M->mA N M=some ⟨N,0,none⟩:=λhw=>by{unfold mA;rw [Ã ω]};have at_:∀k v,0<M->us[k]?=some v->V.at ⟨N,k,none⟩ v:=λk v hm g=>dX (hb (f hm)) g;have b:(es++(us.take (F*sz)).drop (j*sz)).length=(1+(F-j))*sz:=by{rw [î,t2,he,t]};refine ⟨(us.take (F*sz)).drop (j*sz),us.take (j*sz),?_,t2,q,?_,t1,?_,λsp=>?_,by rw [b];exact Qf9 _ hs,b,λv u=>(ú.1 u).elim ((one _ _ hx) v) (q v),λsp c' w D=>?_⟩;{intro k v hm;have c:=(Đ.1 hm).1;rw [t2] at c;rw [Qn5,ĩ,Ä ω] at hm;have y:j<M:=by{rcases Ď j M with h|h;{exact h};{have:F-j=0:=ω;rw [this,œ] at c;omega}};have:=at_ (j*sz+k) v ω hm;refine ⟨⟨N,j*sz,none⟩,?_,?_⟩;{unfold iE;rw [Ã ω,i ω];simp [af,add_zero']};{rw [<-add_zero',BA,add_zero'];exact this}};{intro k v hm;have c:=(Đ.1 hm).1;rw [t1] at c;rw [ĩ,Ä c] at hm;have hw:0<M:=by{rcases ĵ M with h|h;{have:j=0:=ω;rw [this,œ] at c;omega};{exact h}};exact ⟨⟨N,0,none⟩,i hw,by rw [add_zero'];exact at_ k v hw hm⟩};{intro r;by_cases hw:0<M;{rw [i hw] at r;cases r};{omega}};{have z:es.take (1*sz)=es:=by{rw [ŋ,<-he,Ĥ]};rw [z];unfold aL;rw [Nat.ble_eq_true_of_le (by rw [î,b];omega),cond_true,Wz1,Wq8 (by rw [b];exact Ù _),Ŋ (by rw [b];exact Ù _)]};{have l:j<=O.length:=ω;refine ⟨by rw [î,ê,Ā,Į];omega,w,?_,?_⟩;{have E:(j+(1+(F-j)))*sz=j*sz+(1+(F-j))*sz:=Ē ..;rw [î,î,t1,b];omega};{rw [n];exact N6 p l he hx hs}}
theorem jC.ai {k l}(h:jC k l)(u:k<=2^40):(ai l.1.natAbs).length<=2^40/\(ai l.2.1.natAbs).length<=2^40/\(ai l.2.2.natAbs).length<=2^40:=by have d1:=ah (show l.1.natAbs<2^k from h.1.1);have d2:=ah (show l.2.1.natAbs<2^k from h.2.1.1);have d3:=ah (show l.2.2.natAbs<2^k from h.2.2.1);grind
def FAt (V:Ó)(ad:Addr)(l:L3)(s:Sp):Prop:=∃xs:List Value,RFa V (.agg xs.toArray) l s/\∀i x,xs[i]?=some x->V.at (ad.add i) x
theorem FAt.le {V V' l s}(h:FAt V ad l s)(e:V.Le V'):FAt V' ad l s:=by obtain ⟨xs,a,b⟩:=h;exact ⟨xs,a.le e,λi x c=>e.at (b i x c)⟩
structure Sy (V:Ó) (p:OA) (n:Nat) (fs:List (L3×Sp)):Prop where
 len:n=fs.length
 at_:∀(i:Nat)(h:i<fs.length),∃ad,af p (i*14)=some ad/\FAt V ad fs[i].1 fs[i].2
theorem Sy.le {V V' fs}(h:Sy V p n fs)(e:V.Le V'):Sy V' p n fs:=⟨h.len,λi a=>by have ⟨b,c,d⟩:=h.at_ i a;exact ⟨b,c,d.le e⟩⟩
theorem bj {j}(h:af p j=some ad):p.isSome=true:=by (cases p with|none=>{cases h}|some a=>rfl)
def SAt (V:Ó)(ad:Addr)(s:Sp):Prop:=∃xs:List Value,qK V (.agg xs.toArray) s/\∀i x,xs[i]?=some x->V.at (ad.add i) x
theorem SAt.le {V V' s}(h:SAt V ad s)(e:V.Le V'):SAt V' ad s:=by obtain ⟨xs,a,b⟩:=h;exact ⟨xs,a.le e,λi x c=>e.at (b i x c)⟩
structure OR (V:Ó) (p:OA) (n:Nat) (ss:List Sp):Prop where
 len:n=ss.length
 at_:∀(i:Nat)(h:i<ss.length),∃ad,af p (i*8)=some ad/\SAt V ad ss[i]
theorem OR.le {V V' ss}(h:OR V p n ss)(e:V.Le V'):OR V' p n ss:=⟨h.len,λi a=>by have ⟨b,c,d⟩:=h.at_ i a;exact ⟨b,c,d.le e⟩⟩
def Ab (a b:Int):Int:=if 0<a/\b<0 then 2 else if (a=0/\b<=0)\/(b=0/\0<=a) then 1 else 0
def Sp.la (s:Sp)(t:Rat):Int:=if s.a then 1 else cT t s.lo
def Sp.lb (s:Sp)(t:Rat):Int:=if s.b then -1 else cT t s.hi
variable{V:Ó}{p:OA}{c i k n y:Nat}{v:Value}{ss:List Sp}{px py q qx qy x:Rat}{ds:List Nat}
def tL:List Sp->Rat->Int
 | [],_=>0
 | s::r,t=>if Ab (s.la t) (s.lb t)≠0 then Ab (s.la t) (s.lb t) else tL r t
theorem Ew {t}(hl:OR V p n ss)(ht:RQ V v t)(hs:∀s∈ss,s.sz k)(st:Sz k t)(hk:2*k<2^38)(hn:ss.length<2^62):À 281 #[pT p n c,v] V λr W=>r=Jq (tL ss t):=by obtain rfl:=hl.len;obtain ⟨_,_,_,_,_,_,rfl⟩:=ht.shape;refine D0 V _ ⟨λz V'=>0<=z/\z<=ss.length/\tL ss t=tL (ss.drop z.toNat) t,λz=>(ss.length-z).toNat,⟨0,σ,ω,ω,rfl⟩,?_⟩;rintro z G q ⟨H,I,g⟩;refine ⟨rfl,λj=>?_,λj J K=>?_⟩;{have j:=Á j;obtain ⟨i,rfl⟩:∃i:Nat,z=i:=⟨z.toNat,ω⟩;have m:i<ss.length:=ω;rw [Ü] at g ⊢;have w:i64.wrap ((i:Int)+1)=(i:Int)+1:=au ω;rw [w];have o:=hs _ (ô m);obtain ⟨u,d,xs,⟨L,pp,M,N,x,y,A,O,P,Q,R,B,C,D,ex,S,T⟩,f⟩:=(hl.le q).at_ i m;have ex:=Æ Array.toList (Value.agg.inj ex);dsimp only at ex;subst ex;rw [Ī m] at g;generalize ss[i]=s at *;simp only [tL] at g;refine ⟨bj d,⟨ω,j⟩,_,_,_,_,_,_,_,_,_,_,_,_,_,_,s.a,s.b,u,by rw [d],f 0 _ rfl,f 1 _ rfl,f 2 _ rfl,f 3 _ rfl,f 4 _ rfl,f 5 _ rfl,f 6 _ rfl,f 7 _ rfl,λz _=>z=s.la t,⟨λh V2 U=>(e_ ra ra st o.1).s ?_,λh=>⟨1,σ,?_⟩⟩,?_⟩;{rintro r W X rfl;exact ⟨_,rfl,_,σ,by unfold Sp.la;rw [Ł] at h;rw [h];rfl⟩};{unfold Sp.la;rw [Qn8] at h;rw [h];rfl};rintro Y Z l4 rfl;refine ⟨rfl,λz _=>z=s.lb t,⟨λh V5 l5=>(e_ ra ra st o.2).s ?_,λh=>⟨-1,σ,?_⟩⟩,?_⟩;{rintro r V6 l6 rfl;exact ⟨_,rfl,_,σ,by unfold Sp.lb;rw [Ł] at h;rw [h];rfl⟩};{unfold Sp.lb;rw [Qn8] at h;rw [h];rfl};rintro zb V7 l7 rfl;generalize s.la t=a at *;generalize s.lb t=b at *;refine ⟨rfl,λz _=>z=decide (0<a/\b<0),⟨λh=>⟨_,σ,?_⟩,λh=>⟨_,σ,?_⟩⟩,?_⟩;{have h:=Á h;simp [h]};{have h:=Â h;simp [h]};rintro z9 V8 l8 rfl;refine ⟨rfl,λh V9 l9=>?_,λh=>⟨λz _=>z=decide ((a=0/\b<=0)\/(b=0/\0<=a)),⟨λd=>⟨λl=>⟨_,σ,?_⟩,λl=>⟨λe=>⟨_,σ,?_⟩,λe=>⟨_,σ,?_⟩⟩⟩,λd=>⟨λe=>⟨_,σ,?_⟩,λe=>⟨_,σ,?_⟩⟩⟩,?_⟩⟩;{have h:=Á h;rw [g];simp [Ab,h]};{simp at d l;simp [d,l]};{simp at d l e;simp [d,e]};{simp at d l e;simp;omega};{simp at d e;simp [d,e]};{simp at d e;simp [d,e]};rintro E gx F rfl;have h:=Â h;refine ⟨rfl,λh' fu dM=>?_,λh'=>⟨(i:Int)+1,by dsimp only;omega,σ,ω,ω,?_⟩⟩;{have h':=Á h';rw [g];have:Ab a b=1:=by{unfold Ab;rw [Ã h,Ä h']};rw [this];rfl};{have h':=Â h';have:Ab a b=0:=by{unfold Ab;rw [Ã h,Ã h']};rw [g,this];show _=tL (ss.drop ((i:Int)+1).toNat) t;grind}};{have j:=Â j;rw [g,show z.toNat=ss.length from ω,Wq9];rfl}
theorem QO (x y):cT y x=- cT x y:=by unfold cT;rw [show y-x=-(x-y) from χ];exact Int.sign_neg _
theorem MU (h:RQ V v q):À 80 #[v] V λr W=>RQ W r (-q):=by obtain ⟨p,n,c,d,e,f,rfl,a,b⟩:=h;exact nV q a b
theorem VU {px py qx qy}:((qv px py qx qy).1.num/(cj (qv px py qx qy).1.num (qv px py qx qy).2.1.num (qv px py qx qy).2.2.num:Int),(qv px py qx qy).2.1.num/(cj (qv px py qx qy).1.num (qv px py qx qy).2.1.num (qv px py qx qy).2.2.num:Int),(qv px py qx qy).2.2.num/(cj (qv px py qx qy).1.num (qv px py qx qy).2.1.num (qv px py qx qy).2.2.num:Int))=nD px py qx qy:=by unfold qv nD CH CB;have e:∀x:Rat,(-x).den=x.den:=λx=>rfl;grind
theorem VV:((qv px py qx qy).1.num=0/\(qv px py qx qy).2.1.num=0)↔(px=qx/\py=qy):=by unfold qv;dsimp only;generalize u:(-(qy-py)).den*(qx-px).den*(-(-(qy-py)*px+(qx-px)*py)).den=f;have a:f≠0:=by{rw [<-u];exact Ō (Ō (Rat.den_nz _) (Rat.den_nz _)) (Rat.den_nz _)};have b:((f:Int):Rat)≠0:=by{exact_mod_cast a};grind [Rat.num_eq_zero]
theorem R0 {u w}(F:RP V u px py)(M:RP V w qx qy)(s1:Sz k px)(s2:Sz k py)(s3:Sz k qx)(s4:Sz k qy)(z:1<=k)(N:64*k+64<2^38:=by omega):À 37 #[u,w] V λr W=>(px=qx/\py=qy->∃l,r=æ #[l,Õ false]/\RL W l 0 0 0)/\(¬(px=qx/\py=qy)->∃l,r=æ #[l,Õ true]/\RL W l (nD px py qx qy).1 (nD px py qx qy).2.1 (nD px py qx qy).2.2):=by refine (kd F M s1 s2 s3 s4 z N).s ?_;rintro r V2 d ⟨a,b⟩;rw [VV] at a b;refine ⟨a,λh=>?_⟩;have ⟨l,c,g⟩:=b h;rw [<-(VU (px:=px) (py:=py) (qx:=qx) (qy:=qy))];exact ⟨l,c,g⟩
theorem z_ {u}(M:RP V u px py)(N:RP V v qx qy)(s1:Sz k px)(s2:Sz k py)(s3:Sz k qx)(s4:Sz k qy)(F:1<=k)(O:400*k+400<2^38:=by omega):À 167 #[u,v] V λr W=>(px=qx/\py=qy->∃l,r=æ #[l,Õ false]/\RF W l (0,0,0) Sp.zero)/\(¬(px=qx/\py=qy)->∃l,r=æ #[l,Õ true]/\RF W l (nD px py qx qy) (N9 px py qx qy)):=by have e:=M;have f:=N;obtain ⟨_,_,_,_,_,_,_,_,_,_,_,_,_,_,rfl⟩:=wM M;obtain ⟨_,_,_,_,_,_,_,_,_,_,_,_,_,_,rfl⟩:=wM N;refine yS V _ λm n=>(R0 ra ra s1 s2 s3 s4 F).s ?_;rintro r V2 o ⟨g,i⟩;by_cases h:px=qx/\py=qy;{obtain ⟨l,rfl,a⟩:=g h;obtain ⟨_,_,_,_,_,_,_,_,_,_,_,_,rfl⟩:=C_ a;have z:∀V:un,RQ V (dB #[Õ false,pT none 0 0,pT none 0 0]) 0:=λV=>by{have:=RQ.zero (V:=V);simpa using this};refine ⟨_,_,_,_,_,_,_,_,_,_,_,_,_,rfl,λ_ p q=>⟨λ_=>⟨_,rfl,?_⟩,λh'=>Å h h'⟩,λh=>nomatch h⟩;exact ⟨_,_,_,_,_,_,_,_,_,_,_,_,_,_,_,_,_,_,_,_,_,_,_,_,_,_,rfl,⟨_,_,_,_,_,_,_,_,_,rfl,RD.nil,RD.nil,RD.nil⟩,_,_,_,_,_,_,_,_,_,_,_,_,_,_,rfl,z _,z _⟩};{obtain ⟨l,rfl,a⟩:=i h;have b:=a;have sl:=IL s1 s2 s3 s4 h;have nz:=Qh h;obtain ⟨_,_,_,_,_,_,_,_,_,_,_,_,rfl⟩:=C_ a;refine ⟨_,_,_,_,_,_,_,_,_,_,_,_,_,rfl,π,λ_ s t=>(Bl ra ra nz sl (Sz.s s1 ω) (Sz.s s2 ω)).s λr w x c=>RQ.ex c λ_ c=>λy A=>(Bl ra ra nz sl (Sz.s s3 ω) (Sz.s s4 ω)).s λr B C d=>RQ.ex d λ_ d=>λD j=>⟨λh'=>Å h' h,λ_=>⟨_,rfl,?_⟩⟩⟩;exact ⟨_,_,_,_,_,_,_,_,_,_,_,_,_,_,_,_,_,_,_,_,_,_,_,_,_,_,rfl,b.le ax,_,_,_,_,_,_,_,_,_,_,_,_,_,_,rfl,c.le ax,d.le j⟩}
theorem FY (h:RD V p n c ds)(hm:ds.length<=2^40:=by omega):À 268 #[pT p n c] V λr W=>∃u z c1,r=pT u z c1/\RN W u z c1 (val ds):=by have a:=h.len;refine OL V _ ⟨aN ds,h.sl,by simp [a],ω,ω,ψ,by simp [a],?_,?_⟩;{intro v e;simp only [aN,ù] at e;obtain ⟨d,-,rfl⟩:=e;rfl};{intro j J sp l f m o q b i;simp only [Ĉ] at i f ⊢;refine (dZ (İ h.gC a f i)).s ?_;rintro r V2 s ⟨k,rfl,g⟩;grind [aZ,h.gC,g.le]}
theorem QH (b)(h:RD V p n c ds)(hm:ds.length<=2^40:=by omega):À 269 #[dB #[Õ b,pT p n c]] V λr W=>RI W r (bJ b ds):=by refine OK V _ λe f=>(FY ra hm).s ?_;rintro r V2 i ⟨j,k,l,rfl,g⟩;refine ⟨_,_,_,rfl,λm o=>(fE b ra).s ?_⟩;rintro r q s ⟨t,u,v,rfl,a⟩;exact qyW ⟨rfl,λw d=>⟨_,_,_,rfl,a.le d⟩⟩
theorem Ub {b}(h:cK ds):(ai (bJ b ds).natAbs).length<=ds.length:=by rw [fJ];exact bH h
theorem QI {b xs ys}(h:WA V v b xs ys)(N:xs.length<=2^38)(O:ys.length<=2^38:=by omega):À 227 #[v] V λr W=>RQ W r (Vl b xs ys):=by obtain ⟨p,n,c,q,m,e,rfl,i,j⟩:=h;have d1:=Ub (b:=b) i.gC;have d2:=bH j.gC;refine OM V _ λs t=>(FY ra).s ?_;rintro r V2 u ⟨w,d,x,rfl,g⟩;have f:=g.len;refine ⟨_,_,_,rfl,λa y z=>?_,λa A B=>(QH b ra).s ?_⟩;{have a:((d:Nat):Int)=0:=by{simpa using a};have:ai (val ys)=[]:=Ĝ.1 ω;have:val ys=0:=bR.1 this;unfold Vl;grind [Rat.mkRat_zero,RQ.zero]};{have l:val ys≠0:=λe=>by{rw [e] at f;have a:¬((d:Nat):Int)=0:=by{simpa using a};exact a (by rw [f];rfl)};rintro r C D ⟨E,F,G,rfl,H⟩;refine qyW ⟨rfl,λI J=>(pj _ ra ra ω ω l).s λr K L k=>RQ.ex k λ_ k=>λM o=>k.le o⟩}
theorem TQ {l s}(h:RFa V v l s):∃b1 u z c1 b2 F M N b3 O Z c3 b p n c p' n' c' d q m e q' m' e',
 v=dB #[Õ b1,pT u z c1,Õ b2,pT F M N,Õ b3,pT O Z c3,Õ b,pT p n c,pT p' n' c',Õ d,pT q m e,pT q' m' e',Õ s.a,Õ s.b]:=by obtain ⟨_,_,_,_,_,_,_,_,_,_,_,_,_,_,_,_,_,_,_,_,_,_,_,_,_,_,e,-⟩:=h;exact ⟨_,_,_,_,_,_,_,_,_,_,_,_,_,_,_,_,_,_,_,_,_,_,_,_,_,_,e⟩
theorem YH (s1:Sz k px)(s2:Sz k py)(s3:Sz k qx)(s4:Sz k qy)(h:¬(px=qx/\py=qy)):(N9 px py qx qy).sz (400*k+400):=by have sl:=IL s1 s2 s3 s4 h;exact ⟨Sz.s (IK sl (Sz.s s1 ω) (Sz.s s2 ω)) ω,Sz.s (IK sl (Sz.s s3 ω) (Sz.s s4 ω)) ω⟩
theorem Qf:Sz 2 ((2:Int):Rat):=⟨by show (2:Int).natAbs<_;decide,by show (1:Nat)<_;decide⟩
theorem jM:Sz 2 ((1:Int):Rat):=⟨by show (1:Int).natAbs<_;decide,by show (1:Nat)<_;decide⟩
theorem uJ (h:RQ V v x)(u:Sz k x)(z:k+2<2^38:=by omega):À 219 #[v] V λr W=>RQ W r (x*((2:Int):Rat)⁻¹):=by obtain ⟨_,_,_,_,_,_,rfl⟩:=h.shape;refine LZ V _ λb c=>(dR 2 φ φ).s λr V2 d g=>RQ.ex g λ_ g=>λe f=>(jj ra ra (by show (2:Int)≠0;decide) u Qf z).s λr i j q=>RQ.ex q λ_ q=>λl a=>q.le a
theorem FX {w y}(h:RQ V v x)(h':RQ V w y)(u:Sz k x)(z:Sz k y)(F:4*k+4<2^38:=by omega):À 220 #[v,w] V λr W=>RQ W r ((x+y)*((2:Int):Rat)⁻¹):=by obtain ⟨_,_,_,_,_,_,rfl⟩:=h.shape;obtain ⟨_,_,_,_,_,_,rfl⟩:=h'.shape;refine OC V _ λb c=>(dY ra ra u z ω).s λr V2 d g=>RQ.ex g λ_ g=>λe f=>(uJ ra (u.add z)).s λr i j q=>RQ.ex q λ_ q=>λl a=>q.le a
theorem YG {s:Sp}(ss:s.sz k):Sz (2*k+10) s.rS:=by have z:Sz (2*k+10) (0:Rat):=⟨by show (0:Int).natAbs<_;exact ľ φ (Nat.one_le_two_pow),Qd8 ω⟩;unfold Sp.rS;split;{split;{exact z};{exact (ss.2.sub jM).s ω}};{split;{exact (ss.1.add jM).s ω};{exact ((ss.1.add ss.2).mul (il Qf)).s ω}}
theorem BV {s}(h:qK V v s)(ss:s.sz k)(Z:4*k+4<2^38:=by omega):À 160 #[v] V λr W=>RQ W r s.rS:=by obtain ⟨b,p,n,c,u,w,z,d,q,m,e,A,B,C,rfl,M,N⟩:=h;have D:s.a=true->s.b=true->s.rS=0:=λx y=>by{simp [Sp.rS,x,y]};have E:s.a=true->s.b=false->s.rS=s.hi-((1:Int):Rat):=λx y=>by{simp [Sp.rS,x,y]};have F:s.a=false->s.b=true->s.rS=s.lo+((1:Int):Rat):=λx y=>by{simp [Sp.rS,x,y]};have G:s.a=false->s.b=false->s.rS=(s.lo+s.hi)*((2:Int):Rat)⁻¹:=λx y=>by{simp [Sp.rS,x,y]};have no:∀{P:Prop},s.a=true->s.a=false->P:=λx y=>by{rw [x] at y;cases y};refine AK V _ ⟨λf=>⟨λi H O=>?_,λi=>⟨λ_ V2 Q=>(dR 1 φ φ).s ?_,λe=>no f e⟩⟩,λf=>⟨λe=>no e f,λ_=>⟨λi R S=>(dR 1 φ φ).s ?_,λi T U=>(FX ra ra ss.1 ss.2 Z).s ?_⟩⟩⟩;{rw [D f i];have:=RQ.zero (V:=H);simpa using this};{rw [E f i];rintro r I J g;obtain ⟨_,_,_,_,_,_,rfl⟩:=g.shape;refine qyK ⟨rfl,λK L=>(im ra ra ss.2 jM).s λr l o q=>RQ.ex q λ_ q=>λt j=>q.le j⟩};{rw [F f i];rintro r I J g;obtain ⟨_,_,_,_,_,_,rfl⟩:=g.shape;refine qyK ⟨rfl,λK L=>(dY ra ra ss.1 jM ω).s λr l o q=>RQ.ex q λ_ q=>λt j=>q.le j⟩};{rw [G f i];rintro r l o q;obtain ⟨_,_,_,_,_,_,rfl⟩:=q.shape;exact qyK ⟨rfl,λt j=>q.le j⟩}
theorem jE {w y F M}(h:RP V v x y)(h':RP V w F M){k}(s1:Sz k x)(s2:Sz k y)(s3:Sz k F)(s4:Sz k M)(N:4*k+4<2^38:=by omega):À 96 #[v,w] V λr W=>RQ W r (x*M-y*F):=by obtain ⟨_,_,_,_,_,_,_,_,_,_,_,_,rfl,c,d⟩:=h;obtain ⟨_,_,_,_,_,_,_,_,_,_,_,_,rfl,e,f⟩:=h';refine DV V _ λi j=>(bF ra ra s1 s4 ω).s λr V2 l g=>RQ.ex g λ_ g=>λm n=>(bF ra ra s2 s3 ω).s ?_;rintro r o p a;obtain ⟨_,_,_,_,_,_,rfl⟩:=a.shape;refine qyK ⟨rfl,λs t=>(im ra ra (s1.mul s4) (s2.mul s3)).s λr u z q=>RQ.ex q λ_ q=>λA b=>q.le b⟩
theorem Da {qs}(h:bM 3 RQ V p n qs)(hi:i<qs.length):∃ad b u z c1 F M N,af p (i*3)=some ad/\RQ V (dB #[Õ b,pT u z c1,pT F M N]) qs[i]/\V.at (ad.add 0) (Õ b)/\V.at (ad.add 1) (pT u z c1)/\V.at (ad.add 2) (pT F M N):=by obtain ⟨ad,d,xs,-,c,a⟩:=h.at_ i hi;obtain ⟨u,z,c1,F,M,N,e⟩:=c.shape;have e:=Æ Array.toList (Value.agg.inj e);dsimp only at e;subst e;exact ⟨ad,_,u,z,c1,F,M,N,d,c,a 0 _ rfl,a 1 _ rfl,a 2 _ rfl⟩
theorem BW {t}(N:OR V p n ss)(u:RQ V v t)(z:∀s∈ss,s.sz k)(st:Sz k t)(F:2*k<2^38)(M:ss.length<2^62:=by omega):À 266 #[pT p n c,v] V λr W=>r=Õ (tL ss t==2):=by obtain ⟨_,_,_,_,_,_,rfl⟩:=u.shape;refine Ml V _ λa b=>(Ew ra ra z st F M).s ?_;rintro r V2 d rfl;exact ⟨_,rfl,λe f=>rfl⟩
def EJ (c:List Rat)(i:Nat):List Rat:=(c.getD 0 0-((1:Int):Rat))::(List.range (i-1)).map λk=>(c.getD k 0+c.getD (k+1) 0)*((2:Int):Rat)⁻¹
def dT (c:List Rat):List Rat:=if c.length=0 then [0] else EJ c c.length++[c.getD (c.length-1) 0+((1:Int):Rat)]
theorem CS (c)(h:1<=i):(EJ c i).length=i:=by unfold EJ;simp;omega
theorem RK (c)(h:1<=i):EJ c (i+1)=EJ c i++[(c.getD (i-1) 0+c.getD i 0)*((2:Int):Rat)⁻¹]:=by obtain ⟨m,rfl⟩:∃m,i=m+1:=⟨i-1,ω⟩;unfold EJ;rw [Qc8,Qc8,List.range_succ,ş];rfl
theorem jH {c:zA Rat}(h:i<c.length:=by omega):c.getD i 0=c[i]:=by rw [ĕ,ï h];rfl
theorem BU {cs}(h:bM 3 RQ V p n cs)(hn:cs.length<1000000000)(hs:∀q∈cs,Sz k q)(hk:4*k+8<2^38:=by omega):À 265 #[pT p n c] V λr W=>∃q m e,r=pT q m e/\bM 3 RQ W q m (dT cs):=by
 obtain rfl:=h.len;refine AJ V _ ⟨λl S l1 T w=>?_,λl=>?_⟩
 ·have l:cs.length=0:=by{simpa using l};have e:dT cs=[0]:=Ä l;rw [e];refine ⟨_,_,_,rfl,bM.h_ w (row_one rfl ?_)⟩;have:=RQ.zero (V:=S);simpa using this
 ·have l:¬cs.length=0:=by simpa using l
  have e:dT cs=EJ cs cs.length++[cs.getD (cs.length-1) 0+((1:Int):Rat)]:=Ã l;rw [e];have i0:0<cs.length:=ω
  have ⟨U,b,p1,n1,c1,p2,n2,c2,N,hq,W,X,Y⟩:=Da h i0;refine ⟨bj N,ū,_,_,_,_,_,_,_,U,N,W,X,Y,λV2 Z=>(dR 1 φ φ).s λr V3 l3 g=>RQ.ex g λ_ g=>λV4 l4=>(im ra ra (hs _ (ô i0)) jM).s ?_⟩;rintro r V5 l5 O;obtain ⟨_,_,_,_,_,_,rfl⟩:=O.shape;have x:=Z.m (l3.m (l4.m l5))
  refine qyK ⟨rfl,λz V'=>∃i:Nat,z.2.2.2=(i:Int)/\1<=i/\i<=cs.length/\z.1=i/\i<=z.2.1/\z.2.1*3<=z.2.2.1.length/\é 3 RQ V' z.2.2.1 (EJ cs i),λz=>cs.length-z.2.2.2.toNat,
   ⟨(1,1,_,1),by and_intros<;>first|rfl|decide,1,rfl,Ù _,i0,rfl,Ù _,Ù _,row_one rfl (by rw [jH i0];exact O)⟩,?_⟩
  rintro ⟨a,z2,vs,z4⟩ V6 y ⟨i,P,i1,Ws,Q,A,B,C⟩;dsimp only at P Q A B C;subst P Q;have hlen:=CS cs i1;refine ⟨rfl,λd=>?_,λd=>?_⟩
  ·have d:(a:Int)<cs.length:=Á d;have j:a<cs.length:=ω;have o:a-1<cs.length:=ω;have D:i64.wrap ((a:Int)-1)=((a-1:Nat):Int):=by{rw [au ω];omega};have w2:i64.wrap ((a:Int)+1)=(a:Int)+1:=au ω;dsimp only;rw [D,w2,Ü,Ü];obtain ⟨E,b1,p3,n3,c3,p4,n4,c4,f,F,G,s,b2⟩:=Da (h.le ax λ_ _ g=>g.le (x.m y)) o;have ⟨H,d1,p5,n5,c5,p6,n6,c6,u,a3,d0,I,d2⟩:=Da (h.le ax λ_ _ g=>g.le (x.m y)) j;refine ⟨bj f,ū,_,_,_,_,_,_,_,E,f,G,s,b2,bj u,ū,_,_,_,_,_,_,_,H,u,d0,I,d2,λV7 l7=>(FX ra ra (hs _ (ô o)) (hs _ (ô j))).s λr V8 l8 t=>RQ.ex t λ_ t=>⟨ω,A,B,rfl,?_,λsp J K h2=>⟨(a+1,J,_,(a:Int)+1),by dsimp only;omega,σ,a+1,rfl,ω,j,rfl,K,?_,?_⟩⟩⟩;{intro v hm;simp only [ç,Ġ,Ì] at hm;rcases hm with rfl|rfl|rfl<;>rfl};{dsimp only;have ht:(vs.take (a*3)).length=a*3:=by{rw [ê];omega};rw [î,î,ht];simp only [Ā,Ļ];omega};{dsimp only;rw [RK cs i1,jH o,jH j];have:=(C.le (V':=V8) λ_ _ g=>g.le ax).snoc (sp:=sp) rfl t φ;rw [hlen] at this;exact this}
  ·have d:¬(a:Int)<cs.length:=Â d;obtain rfl:a=cs.length:=ω;have j:cs.length-1<cs.length:=ω;have D:i64.wrap ((cs.length:Int)-1)=((cs.length-1:Nat):Int):=by{rw [au ω];omega};dsimp only;rw [D,Ü];obtain ⟨E,b1,p3,n3,c3,p4,n4,c4,f,F,G,s,b2⟩:=Da (h.le ax λ_ _ g=>g.le (x.m y)) j;refine ⟨bj f,ū,_,_,_,_,_,_,_,E,f,G,s,b2,λV9 l9=>(dR 1 φ φ).s λr gx M R=>RQ.ex R λ_ R=>λfu dM=>(dY ra ra (hs _ (ô j)) jM ω).s λr iD eN t=>RQ.ex t λ_ t=>⟨ω,A,B,rfl,?_,λsp J K h2 kE fw T w=>?_⟩⟩;{intro v hm;simp only [ç,Ġ,Ì] at hm;rcases hm with rfl|rfl|rfl<;>rfl};{have L:=l9.m (M.m (dM.m (eN.m fw)));have:=(C.le (V':=kE) λ_ _ g=>g.le L).snoc (sp:=sp) rfl ra φ;rw [hlen] at this;have k:=bM.bI (c:=J) w this φ (by rw [î,hlen];exact K);rw [î,hlen] at k;rw [jH j];exact ⟨_,_,_,rfl,k⟩}
def dE (x:Rat):List Rat->List Rat
 | []=>[x]
 | y::r=>if y<x then y::dE x r else if y=x then y::r else x::y::r
theorem XG:∀(o:zA Rat)(k:Nat),k<=o.length->(∀j (h:j<o.length),j<k->o[j]<x)->(∀h:k<o.length,¬o[k]<x) ->dE x o=if (∃h:k<o.length,o[k]=x) then o else o.take k++x::o.drop k:=by
 intro o
 induction o with
 | nil=>grind [dE]
 | cons y r u=>
  intro k g a b
  cases k with
  | zero=>
   have f:¬y<x:=b ψ;unfold dE;rw [Ã f];by_cases e:y=x
   ·rw [Ä e,Ä ⟨ψ,e⟩]
   grind
  | succ k=>
   have f:y<x:=a 0 ψ ω;unfold dE;rw [Ä f,u k (by simpa using g) (λj h i=>a (j+1) (by simpa using h) ω) (λh=>b (by simpa using h))];by_cases e:∃h:k<r.length,r[k]=x
   ·obtain ⟨c,d⟩:=e;rw [Ä ⟨c,d⟩,Ä ⟨by simpa using c,d⟩]
   ·rw [Ã e,Ã (by rintro ⟨c,d⟩;exact e ⟨by simpa using c,d⟩)];rfl
def eW (s:Sp)(o:List Rat):Nat->List Rat
 | 0=>o
 | 1=>if s.a then o else dE s.lo o
 | _=>if s.b then (if s.a then o else dE s.lo o) else dE s.hi (if s.a then o else dE s.lo o)
def à (ss:List Sp):List Rat:=ss.foldl (λo s=>eW s o 2) []
theorem M7 (hi:i<ss.length):à (ss.take (i+1))=eW ss[i] (à (ss.take i)) 2:=by grind [à,List.take_add_one]
theorem KA:∀{o:zA Rat},q∈dE x o->q=x\/q∈o:=by
 intro o
 induction o with
 | nil=>intro h;simp [dE] at h;exact .inl h
 | cons y r u=>
  unfold dE;grind
theorem oz:∀{o:zA Rat},(dE x o).length<=o.length+1:=by
 intro o
 induction o with
 | nil=>simp [dE]
 | cons y r u=>
  unfold dE;grind
theorem Od {s o}(u:y<2):eW s o (y+1)=if (if y=0 then s.a else s.b)=true then eW s o y else dE (if y=0 then s.lo else s.hi) (eW s o y):=by have:y=0\/y=1:=ω;rcases this with rfl|rfl<;>rfl
theorem GP {s o}(u:y<=2):(eW s o y).length<=o.length+y:=by have d:=@oz s.lo o;have e:=@oz s.hi (if s.a then o else dE s.lo o);have c:(if s.a then o else dE s.lo o).length<=o.length+1:=by{split<;>omega};have:y=0\/y=1\/y=2:=ω;rcases this with rfl|rfl|rfl;{exact Ù _};{exact c};{show (if s.b=true then (if s.a=true then o else dE s.lo o) else dE s.hi (if s.a=true then o else dE s.lo o)).length<=_;by_cases f:s.b=true<;>grind}
theorem GQ {s o}(u:y<=2)(h:q∈eW s o y):q=s.lo\/q=s.hi\/q∈o:=by have c:q∈(if s.a then o else dE s.lo o)->q=s.lo\/q=s.hi\/q∈o:=by{grind [KA]};have:y=0\/y=1\/y=2:=ω;rcases this with rfl|rfl|rfl;{exact .inr (.inr h)};{exact c h};{replace h:q∈(if s.b=true then (if s.a=true then o else dE s.lo o) else dE s.hi (if s.a=true then o else dE s.lo o)):=h;by_cases d:s.b=true<;>grind [KA]}
theorem F9 (ss):(à ss).length<=2*ss.length:=by
 have:∀(ss:zA Sp)(o:zA Rat),(ss.foldl (λo s=>eW s o 2) o).length<=o.length+2*ss.length:=by
  intro ss
  induction ss<;>grind [GP]
 grind [à]
theorem yf (h:q∈à ss):∃s∈ss,q=s.lo\/q=s.hi:=by
 have:∀(ss:zA Sp)(o:zA Rat),q∈(ss.foldl (λo s=>eW s o 2) o)->q∈o\/∃s∈ss,q=s.lo\/q=s.hi:=by
  intro ss
  induction ss with
  | nil=>exact λo h=>.inl h
  | cons s r u=>
   intro o h;rcases u _ h with h|⟨t,a,h⟩
   ·rcases GQ (Ù 2) h with h|h|h<;>grind
   grind
 rcases this ss [] h with h|h
 ·simp at h
 ·exact h
theorem Vu {vs qs}(h:é 3 RQ V vs qs)(hi:i<qs.length):∃b u z c1 F M N,i*3+3<=vs.length/\(vs.drop (i*3)).take 3=[Õ b,pT u z c1,pT F M N]/\RQ V (dB #[Õ b,pT u z c1,pT F M N]) qs[i]:=by obtain ⟨xs,-,c,a⟩:=h.at_ i hi;obtain ⟨u,z,c1,F,M,N,e⟩:=c.shape;have e:=Æ Array.toList (Value.agg.inj e);subst e;have d:=a 2 _ rfl;have g:=(Đ.1 d).1;refine ⟨_,u,z,c1,F,M,N,ω,?_,c⟩;apply Qg6;intro j;rw [ĩ];by_cases f:j<3;{rw [Ä f,Qn5];have:j=0\/j=1\/j=2:=ω;rcases this with rfl|rfl|rfl;{exact (a 0 _ rfl)};{exact (a 1 _ rfl)};{exact d}};{rw [Ã f,ţ (by simp;omega)]}
end Go.Proofs.Tryz
