import Derived.Test.YtbdlbajodgoneaaGreatDoorS15
set_option linter.all false
open Go.IntKind (i64 u64 u32)
open Go.Value renaming slice→yD,agg→dB,bool→gF,pointer→Õ,int→Ô,tuple→ê
open Go.Eng Go.Big
namespace Go.Proofs.Tryz
variable{V:Ó}{c n tb:Nat}{p:OA}{at_:Int}
theorem xQ {v:un}{a b c:Int}(h:RL V v a b c):∃(b1:md)(u:OA)(z c1:Nat)(D:md)(F:OA)(M N:Nat)(O:md)(Z:OA)(n3 c3:Nat),v=dB #[gF b1,yD u z c1,gF D,yD F M N,gF O,yD Z n3 c3]:=by obtain ⟨p,n,s,d,f,s',q,m,e,rfl,-⟩:=h;exact qxJ rfl
def Jr (V:Ó)(p:OA)(n:Nat):Prop:=∀i,i<n->∃(a:Addr)(x:Int),ae p (i*1)=some a/\V.at a (.int .i64 x)
theorem Jr.le {V V':ut}(h:Jr V p n)(l:V.Le V'):Jr V' p n:=λi b=>by
 have ⟨a,x,e,c⟩:=h i b;exact ⟨a,x,e,l.at c⟩
def gY (V:Ó)(tb:Nat)(p:OA)(n c:Nat)(at_:Int):Prop:=V.w.heap[tb]?=some (.cells #[.slice p n c,.int .i64 at_] 65 (0,0))
theorem dL {V:ut}(k:Int)(z:Jr V p n)(O:n<=400)(hw:gY V tb p n c at_)(D:V.X tb)(F:0<=at_)(M:0<k)(N:k<=1000000:=by omega):À 9 #[Õ (some ⟨tb,0,none⟩),Ô .i64 k] V λr W=>∃x at',r=Ô .i64 x/\0<=x/\x<k/\0<=at'/\gY W tb p n c at':=by refine vC tb p n c at_ k V _ hw D ⟨λg m o e=>⟨0,at_,rfl,ω,M,F,e⟩,λg=>?_⟩;have g:at_<n:=by{have:=Â g;omega};obtain ⟨i,rfl⟩:∃i:Nat,at_=i:=⟨at_.toNat,ω⟩;have ⟨a,x,d,f⟩:=z i ω;have h:p.isSome=true:=by{(cases p with|none=>simp [ae] at d|some a=>rfl)};have q:(x.tmod k).natAbs<k.natAbs:=by{rw [Int.natAbs_tmod];exact ġ _ ω};have j:i64.wrap ((i:Int)+1)=((i+1:Nat):Int):=by{rw [aq ω];omega};rw [ß,j];have l:i64.wrap (x.tmod k+k)=x.tmod k+k:=aq ω;refine ⟨h,Ź,x,⟨a,d,f⟩,ω,λb V2 s e=>⟨x.tmod k+k,_,by rw [l],?_,?_,?_,e⟩,λb t u e=>⟨_,_,rfl,?_,?_,?_,e⟩⟩;{omega};{have:=Á b;omega};{omega};{have:=Â b;omega};{omega};omega
theorem c_P {V:ut}(M:Jr V p n)(N:n<=400)(hw:gY V tb p n c at_)(O:V.X tb)(Z:0<=at_):À 65 #[Õ (some ⟨tb,0,none⟩)] V λr W=>∃(x y at':Int),RP W r (x:Rat) (y:Rat)/\(-4<=x/\x<=4)/\(-4<=y/\y<=4)/\0<=at'/\gY W tb p n c at':=by refine AX tb p n c at_ V _ hw O λj g a k l=>(dL (V:=j.ao [a]) 9 (M.le λb o h=>g b o h) N k ⟨ψ,l⟩ Z ω).s ?_;rintro r V2 m ⟨x,z,rfl,A,B,t1,d⟩;refine ⟨_,rfl,_,_,_,_,d,λq s t u v=>(dL (V:=q.ao [t]) 9 (M.le λb o h=>s b o (m b o (g b o h))) N u ⟨ψ,v⟩ t1 ω).s ?_⟩;rintro r C D ⟨y,e,rfl,E,F,t2,f⟩;refine ⟨_,rfl,_,_,_,_,f,λG H=>?_⟩;rw [aq (x:=x-4) ω,aq (x:=y-4) ω];refine (dN (x-4) (y-4) ω ω ω).s λr I J i=>RP.ex i λ_ _ i _ _=>λK L w=>⟨x-4,y-4,e,ra,Ź,Ź,t2,w⟩
theorem RQ.zero {V:ut}:RQ V (dB #[gF false,yD none 0 0,yD none 0 0]) ((0:Int):Rat):=⟨none,0,0,none,0,0,rfl,RD.nil,RD.nil⟩
theorem RP.zero {V:ut}:RP V (dB #[gF false,yD none 0 0,yD none 0 0,gF false,yD none 0 0,yD none 0 0]) ((0:Int):Rat) ((0:Int):Rat):=
 ⟨none,0,0,none,0,0,none,0,0,none,0,0,rfl,RQ.zero,RQ.zero⟩
theorem E3 {z:Int}(h:-40<=z/\z<=40:=by omega):Sz 10 (z:Rat):=yS ω
theorem c_V {V:ut}(Z:Jr V p n)(hn:n<=400)(hw:gY V tb p n c at_)(hx:V.X tb)(h0:0<=at_):À 68 #[Õ (some ⟨tb,0,none⟩)] V λr W=>∃(x y at':Int),RP W r (x:Rat) (y:Rat)/\(-4<=x/\x<=4)/\(-4<=y/\y<=4)/\¬(x=0/\y=0)/\0<=at'/\gY W tb p n c at':=by refine AZ tb p n c at_ V _ hw hx λl m a q s=>(c_P (V:=l.ao [a]) (Z.le λb o h=>m b o h) hn q ⟨ψ,s⟩ h0).s ?_;rintro r V2 M ⟨x,y,j,d,e,f,t1,i⟩;obtain ⟨t,u,v,w,z,A,B,C,D,E,F,G,rfl,-⟩:=id d;refine qxW ⟨rfl,_,_,_,_,i,λN k=>(o_ (d.le λb o h=>k b o h) RP.zero (E3) (E3) (E3) (E3)).s ?_⟩;rintro r O H rfl;refine ⟨_,rfl,λg P Q=>(dN 1 0 ω ω ω).s ?_,λg R I J=>⟨x,y,j,d.le λb o h=>I b o (H b o (k b o h)),e,f,?_,t1,J⟩⟩;{rintro r S T K;obtain ⟨t,u,v,w,z,A,B,C,D,E,F,G,rfl,-⟩:=id K;exact qxW ⟨rfl,λU W L=>⟨1,0,j,ra,Ź,Ź,ω,t1,L⟩⟩};rintro ⟨rfl,rfl⟩;simp at g
theorem c_L {V:ut}(hr:Jr V p n)(hn:n<=400)(hw:gY V tb p n c at_)(hx:V.X tb)(h0:0<=at_):À 19 #[Õ (some ⟨tb,0,none⟩)] V λr W=>∃(x:L3)(at':Int),RL W r x.1 x.2.1 x.2.2/\cq x=true/\Bd x/\0<=at'/\gY W tb p n c at':=by refine AW tb p n c at_ V _ hw hx λL C f M N=>(c_P (V:=L.ao [f]) (hr.le λb o h=>C b o h) hn M ⟨ψ,N⟩ h0).s ?_;rintro r V2 O ⟨x,y,F3,P,g,i,t1,j⟩;obtain ⟨p1,D,c1,p2,E,c2,p3,F,c3,p4,n4,c4,rfl,-⟩:=id P;refine qxW ⟨rfl,_,_,_,_,j,λV3 G=>(dM 1 ω).s λr Q H I=>RQ.ex I λ_ I=>λR q d S T=>(c_V (V:=R.ao [d]) (hr.le λb o h=>q b o (H b o (G b o (O b o (C b o h))))) hn S ⟨ψ,T⟩ t1).s ?_⟩;rintro r U J ⟨u,w,s,W,t,e,Y,t2,v⟩;obtain ⟨q1,Z,d1,q2,m2,d2,q3,m3,d3,q4,m4,d4,rfl,-⟩:=id W;refine qxW ⟨rfl,_,_,_,_,v,λz A=>?_⟩;have yF:V2.Le z:=λb o h=>A b o (J b o (q b o (H b o (G b o h))));have a0:Q.Le z:=λb o h=>A b o (J b o (q b o h));have a1:U.Le z:=λb o h=>A b o h;refine (fR ra ra ra (k:=10) (m:=10) (E3) (E3) (E3) (E3) (E3) ω).s ?_;rintro r V8 l8 hs;obtain ⟨s1,i1,j1,s2,i2,j2,s3,i3,j3,s4,i4,j4,rfl,-⟩:=id hs;have f1:(x:Rat)+((1:Int):Rat)*(u:Rat)=((x+u:Int):Rat):=by{rw [<-Qf5,<-Qt1,Wk1]};have f2:(y:Rat)+((1:Int):Rat)*(w:Rat)=((y+w:Int):Rat):=by{rw [<-Qf5,<-Qt1,Wk1]};refine qxW ⟨rfl,λV9 l9=>(kj ra ra (k:=10) (E3) (E3) (by rw [f1];exact E3) (by rw [f2];exact E3) ω).s ?_⟩;rintro r eV a2 ⟨-,h⟩;rw [YJ] at h;have D:((-w:Int):Rat).num=-w:=rfl;have E:((u:Int):Rat).num=u:=rfl;have F:((w*x-u*y:Int):Rat).num=w*x-u*y:=rfl;dsimp only at h;rw [D,E,F] at h;obtain ⟨l,rfl,K⟩:=h ω;have Z:=Uq e g;have m2:=Uq t i;have ⟨k1,k2⟩:=XR (a:=-w) (b:=u) (c:=w*x-u*y) ω ω ω;obtain ⟨b1,u1,v1,w1,b2,u2,v2,w2,b3,u3,v3,w3,rfl⟩:=(xQ K);exact ⟨_,_,_,_,_,_,_,_,_,_,_,_,_,rfl,λeW cU B=>⟨CN (-w) u (w*x-u*y),s,K.le cU,k1,k2,t2,B⟩⟩
theorem B4 (n:Int)(d:Nat)(F:-1000<=n)(M:n<=1000)(D:d≠0)(N:d<=1000:=by omega):À 89 #[Ô .i64 n,Ô .i64 (d:Int)] V λr W=>RQ W r (mkRat n d):=by refine Mj V _ λj l=>(Gg n ω).s ?_;rintro r V2 o ⟨p,m,c,rfl,g⟩;rw [bw ω];refine qyK ⟨rfl,λq b=>(fo d).s ?_⟩;rintro r s e ⟨t,u,v,rfl,f⟩;refine ⟨_,_,_,rfl,λw a=>(lJ n (g.le (b.m (e.m a))) (f.le a) (Ā (af (k:=10) ω) ω) (Ā (af (k:=10) ω) ω) D).s ?_⟩;rintro r x y h;have h':=h;obtain ⟨_,_,_,_,_,_,rfl⟩:=h.shape;exact qxQ ⟨rfl,λz i=>h'.le i⟩
theorem YC:∀x:Fin 9,Sz 10 (mkRat (2*((x.1:Int)-4)+1) 2)/\Sz 10 (mkRat (3*((x.1:Int)-4)+1) 3):=by unfold Sz;decide +kernel
theorem c_Q {V:ut}(Z:Jr V p n)(hn:n<=400)(hw:gY V tb p n c at_)(hx:V.X tb)(h0:0<=at_):À 31 #[Õ (some ⟨tb,0,none⟩)] V λr W=>∃(q:Rat)(at':Int),RQ W r q/\Sz 10 q/\0<=at'/\gY W tb p n c at':=by refine AY tb p n c at_ V _ hw hx λv k f w z=>(dL (V:=v.ao [f]) 9 (Z.le λb o h=>k b o h) hn w ⟨ψ,z⟩ h0 ω).s ?_;rintro r V2 A ⟨x,J,rfl,K,L,t1,g⟩;refine ⟨_,rfl,_,_,_,_,g,λB C D E F=>(dL (V:=B.ao [D]) 6 (Z.le λb o h=>C b o (A b o (k b o h))) hn E ⟨ψ,F⟩ t1 ω).s ?_⟩;rintro r M N ⟨y,a,rfl,O,P,t2,j⟩;obtain ⟨i,rfl⟩:∃i:Nat,x=i:=⟨x.toNat,ω⟩;have ⟨l,m⟩:=YC ⟨i,ω⟩;dsimp only at l m;have G:i64.wrap ((i:Int)-4)=(i:Int)-4:=aq ω;have H:i64.wrap (i64.wrap (2*((i:Int)-4))+1)=2*((i:Int)-4)+1:=by{rw [aq (x:=2*((i:Int)-4)) ω,aq ω]};have I:i64.wrap (i64.wrap (3*((i:Int)-4))+1)=3*((i:Int)-4)+1:=by{rw [aq (x:=3*((i:Int)-4)) ω,aq ω]};rw [G,H,I];refine ⟨_,rfl,_,_,_,_,j,λ_ Q R=>(B4 (2*((i:Int)-4)+1) 2 ω ω ω).s ?_,λ_=>⟨λ_ S T=>(B4 (3*((i:Int)-4)+1) 3 ω ω ω).s ?_,λ_ U W=>(dM ((i:Int)-4) ω).s ?_⟩⟩;{rintro r s t h;have h':=h;obtain ⟨_,_,_,_,_,_,rfl⟩:=h.shape;exact qxQ ⟨rfl,λu d e=>⟨_,a,h'.le d,l,t2,e⟩⟩};{rintro r s t h;have h':=h;obtain ⟨_,_,_,_,_,_,rfl⟩:=h.shape;exact qxQ ⟨rfl,λu d e=>⟨_,a,h'.le d,m,t2,e⟩⟩};rintro r s t h;have h':=h;obtain ⟨_,_,_,_,_,_,rfl⟩:=h.shape;exact qxQ ⟨rfl,λu d e=>⟨_,a,h'.le d,E3,t2,e⟩⟩
theorem WR {V:ut}(hr:Jr V p n)(hn:n<=400)(hw:gY V tb p n c at_)(hx:V.X tb)(h0:0<=at_):À 28 #[Õ (some ⟨tb,0,none⟩)] V λr W=>∃(x y:Rat)(at':Int),RP W r x y/\Sz 10 x/\Sz 10 y/\0<=at'/\gY W tb p n c at':=by refine tV tb p n c at_ V _ hw hx λw t d z A=>(c_Q (V:=w.ao [d]) (hr.le λb o h=>t b o h) hn z ⟨ψ,A⟩ h0).s ?_;rintro r V2 B ⟨x,L,C,D,t1,e⟩;obtain ⟨M,N,O,P,Q,R,rfl,f,g⟩:=C;refine qxQ ⟨rfl,_,_,_,_,e,λE u i F G=>(c_Q (V:=E.ao [i]) (hr.le λb o h=>u b o (B b o (t b o h))) hn F ⟨ψ,G⟩ t1).s ?_⟩;rintro r H I ⟨y,j,k,J,t2,l⟩;obtain ⟨S,T,U,W,Y,Z,rfl,m,q⟩:=k;have v:∀{s:ut},H.shut.Le s->V2.Le s:=λa b o h=>a b o (I b o (u b o h));exact qxQ ⟨rfl,_,_,_,_,l,λs a K=>⟨x,y,j,⟨_,_,_,_,_,_,_,_,_,_,_,_,rfl,⟨_,_,_,_,_,_,rfl,f.le (v a),g.le (v a)⟩,⟨_,_,_,_,_,_,rfl,m.le λb o h=>a b o h,q.le λb o h=>a b o h⟩⟩,D,J,t2,K⟩⟩
theorem HH {l p:un}{l_0 l_1 l_2:Int}{Z jw:Rat}(hl:RL V l l_0 l_1 l_2)(hp:RP V p Z jw){k:Nat}(s0:Sz k ((l_0:Int):Rat))(s1:Sz k ((l_1:Int):Rat))(s2:Sz k ((l_2:Int):Rat))(s3:Sz k Z)(s4:Sz k jw)(hk:16*k+16<2^38):À 115 #[l,p] V λr W=>r=Ô .i64 ((l_0:Rat)*Z+(l_1:Rat)*jw+(l_2:Rat)).num.sign:=by have c:=hl;have d:=hp;obtain ⟨e,f,g,h,i,j,m,n,o,rfl,-,-,-⟩:=hl;obtain ⟨q,s,t,u,v,w,x,y,z,A,a,b,rfl,-,-⟩:=hp;refine FA V _ λB C=>(jK ra ra s0 s1 s2 s3 s4).s ?_;rintro r V2 D ⟨E,F,G,H,I,J,rfl,K,L⟩;refine qxQ ⟨rfl,λM N=>(sZ _ ra).s ?_⟩;rintro r O P rfl;exact ⟨_,rfl,λQ R=>rfl⟩
theorem iC {l:un}{a b c:Int}(Z:RL V l a b c):À 25 #[l] V λr W=>RL W r (-a) (-b) (-c):=by obtain ⟨d,e,f,g,h,i,j,k,m,rfl,n,o,p⟩:=Z;refine Ji V _ λq s=>(jX a ra).s ?_;rintro r V2 t ⟨u,v,w,rfl,x⟩;refine qyK ⟨rfl,λy z=>(jX b ra).s ?_⟩;rintro r A B ⟨C,D,E,rfl,F⟩;refine qyK ⟨rfl,λG H=>(jX c ra).s ?_⟩;rintro r I J ⟨K,L,M,rfl,N⟩;exact qyK ⟨rfl,λO P=>⟨_,_,_,_,_,_,_,_,_,rfl,ra,ra,ra⟩⟩
end Go.Proofs.Tryz
namespace Go.Eng
theorem RR.zero (V:ut):RR V (dB #[Ô .i64 0,Ô .i64 0,Õ none]) 0:=.inl ⟨rfl,by unfold Wd;decide⟩
end Go.Eng
namespace Go.Proofs.Tryz
structure Sp where
 lo:Rat
 hi:Rat
 a:Bool
 b:Bool
def Sp.can (s:Sp):Prop:=(s.a=true->s.lo=0)/\(s.b=true->s.hi=0)
def Sp.sz (k:Nat)(s:Sp):Prop:=Sz k s.lo/\Sz k s.hi
def Sp.zero:Sp:=⟨0,0,false,false⟩
variable{v:Value}{l:L3}
def iL (k:Nat)(l:L3):Prop:=Sz k (l.1:Rat)/\Sz k (l.2.1:Rat)/\Sz k (l.2.2:Rat)
def kJ (V:Ó)(v:Value)(s:Sp):Prop:=∃(u z:Int)(p:OA)(D F:Int)(q:OA),v=.agg #[.int .i64 u,.int .i64 z,.pointer p,.int .i64 D,.int .i64 F,.pointer q,.bool s.a,.bool s.b] /\
 RR V (.agg #[.int .i64 u,.int .i64 z,.pointer p]) s.lo/\RR V (.agg #[.int .i64 D,.int .i64 F,.pointer q]) s.hi
theorem kJ.le {V V':ut}{s:Sp}(h:kJ V v s)(l:V.Le V'):kJ V' v s:=by obtain ⟨a,b,p,c,d,q,e,f,g⟩:=h;exact ⟨a,b,p,c,d,q,e,ra,ra⟩
def vF (V:Ó)(v:Value)(l:L3):Prop:=xM V v (l.1:Rat) (l.2.1:Rat) (l.2.2:Rat)
theorem vF.le {V V':ut}(h:vF V v l)(e:V.Le V'):vF V' v l:=xM.le h e
def z_ (V:Ó)(v:Value)(l:L3)(s:Sp):Prop:=∃(u z:Int)(p:OA)(D F:Int)(q:OA)(M N:Int)(r:OA)(u1 u2:Int)(t:OA)(O Z:Int)(o:OA),
 v=.agg #[.int .i64 u,.int .i64 z,.pointer p,.int .i64 D,.int .i64 F,.pointer q,.int .i64 M,.int .i64 N,.pointer r,.int .i64 u1,.int .i64 u2,.pointer t,.int .i64 O,.int .i64 Z,.pointer o,.bool s.a,.bool s.b] /\
 vF V (.agg #[.int .i64 u,.int .i64 z,.pointer p,.int .i64 D,.int .i64 F,.pointer q,.int .i64 M,.int .i64 N,.pointer r]) l /\
 kJ V (.agg #[.int .i64 u1,.int .i64 u2,.pointer t,.int .i64 O,.int .i64 Z,.pointer o,.bool s.a,.bool s.b]) s
theorem z_.le {V V':ut}{s:Sp}(h:z_ V v l s)(e:V.Le V'):z_ V' v l s:=by obtain ⟨a,b,p,c,d,q,f,g,r,i,j,t,k,m,o,rfl,n,u⟩:=h;exact ⟨a,b,p,c,d,q,f,g,r,i,j,t,k,m,o,rfl,n.le e,u.le e⟩
def Ww (V:Ó)(v:Value)(b:Bool)(xs ys:List Nat):Prop:=∃p n c u z D,v=.agg #[.bool b,.slice p n c,.slice u z D]/\RD V p n c xs/\RD V u z D ys
theorem Ww.le {V V':ut}{b:md}{xs ys:zA Nat}(h:Ww V v b xs ys)(l:V.Le V'):Ww V' v b xs ys:=by obtain ⟨p,n,c,a,d,f,e,g,i⟩:=h;exact ⟨p,n,c,a,d,f,e,ra,ra⟩
theorem Ww.nil {V:ut}:Ww V (dB #[gF false,yD none 0 0,yD none 0 0]) false [] []:=qyJ ⟨rfl,RD.nil,RD.nil⟩
def RE (V:Ó)(v:Value)(q:Rat)(no:Bool):Prop:=(no=true->Ww V v false [] [])/\(no=false->RA V v q)
theorem RE.le {V V':ut}{q:Rat}{no:md}(h:RE V v q no)(l:V.Le V'):RE V' v q no:=⟨λe=>(h.1 e).le l,λe=>(h.2 e).le l⟩
def RSp (V:Ó)(v:Value)(s:Sp):Prop:=∃b p n c u z D d q m e F M N,v=.agg #[.bool b,.slice p n c,.slice u z D,.bool d,.slice q m e,.slice F M N,.bool s.a,.bool s.b] /\
 RE V (.agg #[.bool b,.slice p n c,.slice u z D]) s.lo s.a/\RE V (.agg #[.bool d,.slice q m e,.slice F M N]) s.hi s.b
theorem RSp.le {V V':ut}{s:Sp}(h:RSp V v s)(l:V.Le V'):RSp V' v s:=by obtain ⟨b,p,n,c,a,f,g,d,q,m,e,i,j,k,rfl,o,r⟩:=h;exact qxW ⟨rfl,ra,ra⟩
def Z6 (V:Ó)(v:Value)(l:L3)(s:Sp):Prop:=∃b1 u z c1 D F M N O Z n3 c3 b p n c p' n' c' d q m e q' m' e',
 v=.agg #[.bool b1,.slice u z c1,.bool D,.slice F M N,.bool O,.slice Z n3 c3,.bool b,.slice p n c,.slice p' n' c',.bool d,.slice q m e,.slice q' m' e',.bool s.a,.bool s.b] /\
 RL V (.agg #[.bool b1,.slice u z c1,.bool D,.slice F M N,.bool O,.slice Z n3 c3]) l.1 l.2.1 l.2.2/\RSp V (.agg #[.bool b,.slice p n c,.slice p' n' c',.bool d,.slice q m e,.slice q' m' e',.bool s.a,.bool s.b]) s
theorem Z6.le {V V':ut}{s:Sp}(h:Z6 V v l s)(e:V.Le V'):Z6 V' v l s:=by obtain ⟨i,j,k,o,r,t,u,w,x,y,z,A,b,p,n,c,B,C,D,d,q,m,f,E,F,G,rfl,a,g⟩:=h;exact ⟨_,_,_,_,_,_,_,_,_,_,_,_,_,_,_,_,_,_,_,_,_,_,_,_,_,_,rfl,a.le e,g.le e⟩
def oO (V:Ó)(v:Value)(s:Sp):Prop:=∃b p n c u z D d q m e F M N,v=.agg #[.bool b,.slice p n c,.slice u z D,.bool d,.slice q m e,.slice F M N,.bool s.a,.bool s.b] /\
 RQ V (.agg #[.bool b,.slice p n c,.slice u z D]) s.lo/\RQ V (.agg #[.bool d,.slice q m e,.slice F M N]) s.hi
theorem oO.le {V V':ut}{s:Sp}(h:oO V v s)(l:V.Le V'):oO V' v s:=by obtain ⟨b,p,n,c,a,f,g,d,q,m,e,i,j,k,rfl,o,r⟩:=h;exact qxW ⟨rfl,ra,ra⟩
def RF (V:Ó)(v:Value)(l:L3)(s:Sp):Prop:=∃b1 u z c1 D F M N O Z n3 c3 b p n c p' n' c' d q m e q' m' e',
 v=.agg #[.bool b1,.slice u z c1,.bool D,.slice F M N,.bool O,.slice Z n3 c3,.bool b,.slice p n c,.slice p' n' c',.bool d,.slice q m e,.slice q' m' e',.bool s.a,.bool s.b] /\
 RL V (.agg #[.bool b1,.slice u z c1,.bool D,.slice F M N,.bool O,.slice Z n3 c3]) l.1 l.2.1 l.2.2/\oO V (.agg #[.bool b,.slice p n c,.slice p' n' c',.bool d,.slice q m e,.slice q' m' e',.bool s.a,.bool s.b]) s
theorem RF.le {V V':ut}{s:Sp}(h:RF V v l s)(e:V.Le V'):RF V' v l s:=by obtain ⟨i,j,k,o,r,t,u,w,x,y,z,A,b,p,n,c,B,C,D,d,q,m,f,E,F,G,rfl,a,g⟩:=h;exact ⟨_,_,_,_,_,_,_,_,_,_,_,_,_,_,_,_,_,_,_,_,_,_,_,_,_,_,rfl,a.le e,g.le e⟩
theorem Dk {V:ut}{a b c:Int}(h:RL V v a b c):∃b1 u z c1 D F M N O Z n3 c3,v=dB #[gF b1,yD u z c1,gF D,yD F M N,gF O,yD Z n3 c3]:=by obtain ⟨_,_,_,_,_,_,_,_,_,e,-⟩:=h;exact qxJ e
theorem f_ {V:ut}{x y:Rat}(h:RP V v x y):∃b1 u z c1 D F M N O Z c3 p4 n4 c4,v=dB #[gF b1,yD u z c1,yD D F M,gF N,yD O Z c3,yD p4 n4 c4]:=by obtain ⟨_,_,_,_,_,_,_,_,_,_,_,_,e,-⟩:=h;exact qxW e
def aG (l:L3)(x y:Rat):Rat:=(l.1:Rat)*x+(l.2.1:Rat)*y+(l.2.2:Rat)
def fK (l:L3):Rat:=(l.1:Rat)*(l.1:Rat)+(l.2.1:Rat)*(l.2.1:Rat)
def er (l:L3)(x y:Rat):Rat:=((l.2.1:Rat)*x-(l.1:Rat)*y)*(fK l)⁻¹
def cu (l:L3)(t:Rat):Rat:=(l.2.1:Rat)*t-(l.1:Rat)*(l.2.2:Rat)*(fK l)⁻¹
def cw (l:L3)(t:Rat):Rat:=-((l.1:Rat)*t)-(l.2.1:Rat)*(l.2.2:Rat)*(fK l)⁻¹
def Ö (l:L3):L3:=(-l.1,-l.2.1,-l.2.2)
def Sp.has (s:Sp)(t:Rat):Bool:=(s.a||decide (ç s.lo t<=0))&&(s.b||decide (ç s.hi t≥0))
def Sp.emp (s:Sp):Bool:=!s.a&&!s.b&&decide (ç s.lo s.hi≥0)
variable{L l:L3}{a b c px py q qx qy x y:Rat}{V:Ó}{p v:Value}{k:Nat}
def tQ (l:L3)(s:Sp)(x y:Rat):Bool:=decide (aG l x y=0)&&s.has (er l x y)
def Nz (l:L3):Prop:=¬(l.1=0/\l.2.1=0)
theorem sq_nonneg (x:Int):0<=x*x:=by rw [<-Int.natAbs_mul_self];exact Int.natCast_nonneg _
theorem UA (l:L3):fK l=((l.1*l.1+l.2.1*l.2.1:Int):Rat):=by unfold fK;simp
theorem Nz.norm (h:Nz l):fK l≠0:=by rw [UA];have d:=sq_nonneg l.1;have f:=sq_nonneg l.2.1;have a:l.1*l.1+l.2.1*l.2.1≠0:=by{intro e;have b:l.1*l.1=0:=ω;have c:l.2.1*l.2.1=0:=ω;exact h ⟨(Wx8.1 b).elim id id,(Wx8.1 c).elim id id⟩};exact_mod_cast a
theorem KW (h:q≠0):q.num≠0:=λe=>h (ş.1 e)
theorem XG {l:un}(u:vF V l L)(z:kd V p x y)(sl:iL k L)(s1:Sz k x)(s2:Sz k y)(D:8*k+7<2^38:=by omega):À 100 #[l,p] V λr W=>RR W r (er L x y):=by refine (BV u z sl.1 sl.2.1 sl.2.2 s1 s2 D).s ?_;rintro r V2 a g;have e:er L x y=((((L.2.1:Rat))*x+(-(L.1:Rat))*y)*(((L.2.1:Rat))*((L.2.1:Rat))+(-(L.1:Rat))*(-(L.1:Rat)))⁻¹):=by{unfold er fK;grind};rw [e];exact g
theorem xh (sl:iL k L)(s1:Sz k x)(s2:Sz k y):Sz (8*k+7) (er L x y):=by have e:er L x y=((((L.2.1:Rat))*x+(-(L.1:Rat))*y)*(((L.2.1:Rat))*((L.2.1:Rat))+(-(L.1:Rat))*(-(L.1:Rat)))⁻¹):=by{unfold er fK;grind};rw [e];exact zk sl.1 sl.2.1 sl.2.2 s1 s2
theorem k_At {l t:un}(u:vF V l L)(z:RR V t x)(sl:iL k L)(s1:Sz k x)(D:20*k+19<2^38):À 105 #[l,t] V λr W=>kd W r (cu L x) (cw L x):=by refine (JX u z sl.1 sl.2.1 sl.2.2 s1 D).s ?_;rintro r V2 c g;have a:cu L x=((L.1:Rat)*((-(L.2.2:Rat))*((L.1:Rat)*(L.1:Rat)+(L.2.1:Rat)*(L.2.1:Rat))⁻¹))+((L.2.1:Rat)*x):=by{unfold cu fK;grind};have b:cw L x=((L.2.1:Rat)*((-(L.2.2:Rat))*((L.1:Rat)*(L.1:Rat)+(L.2.1:Rat)*(L.2.1:Rat))⁻¹))+((-(L.1:Rat))*x):=by{unfold cw fK;grind};rw [a,b];exact g
theorem nI (sl:iL k L)(s1:Sz k x):Sz (20*k+19) (cu L x):=by have a:cu L x=((L.1:Rat)*((-(L.2.2:Rat))*((L.1:Rat)*(L.1:Rat)+(L.2.1:Rat)*(L.2.1:Rat))⁻¹))+((L.2.1:Rat)*x):=by{unfold cu fK;grind};rw [a];exact FR sl.1 sl.2.1 sl.2.2 s1
theorem nJ (sl:iL k L)(s1:Sz k x):Sz (20*k+19) (cw L x):=by have a:cw L x=((L.2.1:Rat)*((-(L.2.2:Rat))*((L.1:Rat)*(L.1:Rat)+(L.2.1:Rat)*(L.2.1:Rat))⁻¹))+((-(L.1:Rat))*x):=by{unfold cw fK;grind};rw [a];exact FU sl.1 sl.2.1 sl.2.2 s1
theorem gP (q:Rat):q.num.sign=0↔q=0:=by rw [Qc0,ş]
theorem k_Side {l:un}(u:vF V l L)(z:kd V p x y)(sl:iL k L)(s1:Sz k x)(s2:Sz k y)(D:16*k+16<2^38:=by omega):À 98 #[l,p] V λr W=>r=Ô .i64 (aG L x y).num.sign:=Ez u z sl.1 sl.2.1 sl.2.2 s1 s2 D
theorem lk {l:un}{L:L3}(u:vF V l L)(sl:iL k L)(z:1*k+1<2^38:=by omega):À 95 #[l] V λr W=>vF W r (Ö L):=by refine (x_ u sl.1 sl.2.1 sl.2.2 z).s ?_;rintro r V2 a g;unfold vF Ö;simpa using g
theorem iL.rev (h:iL k L):iL k (Ö L):=by unfold iL Ö;exact ⟨h.1.neg,h.2.1.neg,h.2.2.neg⟩
theorem N9 (h:Nz L):((((((L.2.1:Int):Rat)))*((((L.2.1:Int):Rat))))+(((-(((L.1:Int):Rat))))*((-(((L.1:Int):Rat)))))).num≠0:=by grind [fK,KW,h.norm]
theorem pQ {l:un}{L:L3}(u:RL V l L.1 L.2.1 L.2.2)(z:RP V p x y)(D:Nz L)(sl:iL k L)(s1:Sz k x)(s2:Sz k y)(F:8*k+7<2^38:=by omega):À 49 #[l,p] V λr W=>RQ W r (er L x y):=by refine (EF u z (N9 D) sl.1 sl.2.1 sl.2.2 s1 s2 F).s ?_;rintro r V2 a g;have e:er L x y=((((x)*((((L.2.1:Int):Rat))))+((y)*((-(((L.1:Int):Rat))))))*((((((L.2.1:Int):Rat)))*((((L.2.1:Int):Rat))))+(((-(((L.1:Int):Rat))))*((-(((L.1:Int):Rat))))))⁻¹):=by{unfold er fK;grind};rw [e];exact g
theorem N8 {l t:un}{L:L3}(u:RL V l L.1 L.2.1 L.2.2)(z:RQ V t x)(D:Nz L)(sl:iL k L)(s1:Sz k x)(F:18*k+16<2^38:=by omega):À 30 #[l,t] V λr W=>RP W r (cu L x) (cw L x):=by refine (Ng u z (N9 D) sl.1 sl.2.1 sl.2.2 s1 F).s ?_;rintro r V2 c g;have a:cu L x=(((-((((L.2.2:Int):Rat))*((((((L.2.1:Int):Rat)))*((((L.2.1:Int):Rat))))+(((-(((L.1:Int):Rat))))*((-(((L.1:Int):Rat))))))⁻¹))*(((L.1:Int):Rat)))+(x)*(((L.2.1:Int):Rat))):=by{unfold cu fK;grind};have b:cw L x=(((-((((L.2.2:Int):Rat))*((((((L.2.1:Int):Rat)))*((((L.2.1:Int):Rat))))+(((-(((L.1:Int):Rat))))*((-(((L.1:Int):Rat))))))⁻¹))*(((L.2.1:Int):Rat)))+(x)*(-(((L.1:Int):Rat)))):=by{unfold cw fK;grind};rw [a,b];exact g
theorem yO {l:un}{x y:Rat}(u:RL V l L.1 L.2.1 L.2.2)(z:RP V p x y){k:Nat}(sl:iL k L)(s1:Sz k x)(s2:Sz k y)(D:16*k+16<2^38:=by omega):À 115 #[l,p] V λr W=>r=Ô .i64 (aG L x y).num.sign:=HH u z sl.1 sl.2.1 sl.2.2 s1 s2 D
theorem sz_gI (u:Sz k a)(z:Sz k b)(sc:Sz k c):Sz (3*k+2) (eG (eG a b) c)⁻¹:=
 iA (Sz.s (ig (ig u z) sc) ω)
theorem YD {k:Nat}(u:Sz k a)(z:Sz k b)(sc:Sz k c)(h:¬(a=0/\b=0)):iL (4*k+3) (CV a b c):=by obtain ⟨-,e,f,g⟩:=tE (c:=c) h;have d:=sz_gI u z sc;unfold iL;rw [<-e,<-f,<-g];exact ⟨Sz.s (Sz.mul u d) ω,Sz.s (Sz.mul z d) ω,Sz.s (Sz.mul sc d) ω⟩
def nK (px py qx qy:Rat):L3:=CV (-(qy-py)) (qx-px) (-(-(qy-py)*px+(qx-px)*py))
theorem xk (h:¬(px=qx/\py=qy)):¬(-(qy-py)=0/\qx-px=0):=by rintro ⟨a,b⟩;exact h ⟨χ,χ⟩
theorem Qn (h:¬(px=qx/\py=qy)):Nz (nK px py qx qy):=XW (xk h)
theorem IX (s1:Sz k px)(s2:Sz k py)(s3:Sz k qx)(s4:Sz k qy)(h:¬(px=qx/\py=qy)):iL (40*k+40) (nK px py qx qy):=by have a:Sz (2*k+1) (-(qy-py)):=Sz.s (s4.sub s2).neg ω;have b:Sz (2*k+1) (qx-px):=Sz.s (s3.sub s1) ω;have c:Sz (8*k+8) (-(-(qy-py)*px+(qx-px)*py)):=Sz.s ((a.mul s1).add (b.mul s2)).neg ω;have:=YD (k:=8*k+8) (Sz.s a ω) (Sz.s b ω) c (xk h);exact ⟨Sz.s this.1 ω,Sz.s this.2.1 ω,Sz.s this.2.2 ω⟩
def Oh (px py qx qy:Rat):Sp:=⟨er (nK px py qx qy) px py,er (nK px py qx qy) qx qy,false,false⟩
def Va (b:Bool)(xs ys:List Nat):Rat:=mkRat (bK b xs) (val ys)
def nrmQ (b:Bool)(xs ys:List Nat):Bool:=qA b xs&&decide (ah (val ys)=ys)&&!decide (ys=[])&&decide (Nat.gcd (val xs) (val ys)=1)
def zerQ (b:Bool)(xs ys:List Nat):Bool:=!b&&decide (xs=[])&&decide (ys=[])
def endQ (b:Bool)(xs ys:List Nat)(no:Bool):Rat:=if no then 0 else Va b xs ys
def endOk (b:Bool)(xs ys:List Nat)(no:Bool):Bool:=if no then zerQ b xs ys else nrmQ b xs ys
theorem PJ:nrmQ (decide (q.num<0)) (ah q.num.natAbs) (ah q.den)=true/\Va (decide (q.num<0)) (ah q.num.natAbs) (ah q.den)=q:=by constructor;{unfold nrmQ;have a:qA (decide (q.num<0)) (ah q.num.natAbs)=true:=by{unfold qA;rw [ag];by_cases h:q.num<0;{have:ah q.num.natAbs≠[]:=λe=>by{have:=bS.1 e;omega};simp [this]};simp [h]};have b:ah q.den≠[]:=λe=>q.den_nz (bS.1 e);grind [ag,q.reduced]};grind [Va,aY,ag,Rat.mkRat_self]
theorem MX {s:Sp}(h:kJ V v s)(z:s.sz k)(D:2*k<2^40):À 302 #[v] V λr W=>r=gF s.emp:=by obtain ⟨d,e,p,f,g,q,rfl,j,l⟩:=h;refine Ax V _ ⟨λi=>⟨λc m n=>(iO ra ra z.1 z.2).s ?_,λc o t=>?_⟩,λi u w=>?_⟩;{grind [Sp.emp]};{rw [Qm5] at c;simp [Sp.emp,c]};grind [Sp.emp]
def FOk (l:L3)(s:Sp):Prop:=cq l=true/\s.can/\s.emp=false
theorem RE.raw {no:md}(h:RE V v q no)(u:no=true->q=0):∃b xs ys,Ww V v b xs ys/\endOk b xs ys no=true/\endQ b xs ys no=q/\(∀k,Sz k q->xs.length<=k/\ys.length<=k):=by (cases no with|true=>{exact ⟨false,[],[],h.1 rfl,rfl,by rw [u rfl];rfl,λk _=>⟨å _,å _⟩⟩}|false=>{obtain ⟨p,n,c,f,g,i,rfl,d,e⟩:=h.2 rfl;exact ⟨_,_,_,(qyJ ⟨rfl,d,e⟩),PJ.1,PJ.2,λk a=>⟨af a.1,af a.2⟩⟩})
theorem Td {s:Sp}(h:kJ V v s)(Z:s.sz k)(hk:k<=2^40):À 245 #[v] V λr W=>RSp W r s:=by obtain ⟨i,j,p,l,m,q,rfl,u,w⟩:=h;have t:∀{V:ut} {v:un} {x:Rat} {no:md},RA V v x->(!no)=true->RE V v x no:=λh e=>by{rw [ŋ] at e;subst e;exact ⟨π,λ_=>h⟩};have f:∀{V:ut} {x:Rat} {no:md},(!no)=false->RE V (dB #[gF false,yD none 0 0,yD none 0 0]) x no:=λe=>by{rw [Qm5] at e;subst e;exact ⟨λ_=>Ww.nil,π⟩};refine Fe V _ ⟨λd y z=>(vP ra Z.1 hk).s ?_,λd=>⟨λc A B=>(vP ra Z.2 hk).s ?_,λc C n=>?_⟩⟩;{rintro r V2 D o;obtain ⟨_,_,_,_,_,_,_,rfl⟩:=o.shape;refine qxQ ⟨rfl,λc E F=>(vP ra Z.2 hk).s ?_,λc G H=>?_⟩;{rintro r I J g;obtain ⟨_,_,_,_,_,_,_,rfl⟩:=g.shape;exact qxQ ⟨rfl,λK L=>⟨_,_,_,_,_,_,_,_,_,_,_,_,_,_,rfl,t ra d,t ra c⟩⟩};exact qxW ⟨rfl,t ra d,f c⟩};{rintro r M N g;obtain ⟨_,_,_,_,_,_,_,rfl⟩:=g.shape;exact qxQ ⟨rfl,λO P=>⟨_,_,_,_,_,_,_,_,_,_,_,_,_,_,rfl,f d,t ra c⟩⟩};exact qxW ⟨rfl,f d,f c⟩
theorem vF.api {r:un}(h:RL V r ((l.1:Rat)).num ((l.2.1:Rat)).num ((l.2.2:Rat)).num):RL V r l.1 l.2.1 l.2.2:=by simpa using h
theorem Ta {s:Sp}(h:z_ V v l s)(sl:iL k l)(N:s.sz k)(M:k<=2^40):À 191 #[v] V λr W=>Z6 W r l s:=by obtain ⟨e,f,p,g,i,q,j,m,r,n,u,t,w,x,o,rfl,b,y⟩:=h;refine Fa V _ λz c=>(QH (b.le c) sl.1 sl.2.1 sl.2.2 M).s ?_;rintro r V2 A a;obtain ⟨_,_,_,_,_,_,_,_,_,_,_,_,rfl⟩:=Dk a;refine qxJ ⟨rfl,λB C=>(Td ra N M).s ?_⟩;rintro r D E d;obtain ⟨_,_,_,_,_,_,_,_,_,_,_,_,_,_,rfl,-,-⟩:=id d;exact ⟨_,_,_,_,_,_,_,_,_,_,_,_,_,_,_,_,rfl,λF G=>⟨_,_,_,_,_,_,_,_,_,_,_,_,_,_,_,_,_,_,_,_,_,_,_,_,_,_,rfl,(vF.api a).le au,ra⟩⟩
theorem eI (h:cq l=true):Nz l:=by unfold cq at h;intro e;simp [e.1,e.2] at h
theorem UG {a b c:Int}(h:¬(a=0/\b=0)):cq (CN a b c)=true:=by have m:0<cj a b c:=by{apply Qg2;intro e;have i:=Qh5.1 e;grind};have d:cj a b c∣a.natAbs:=Qt0 (Ŋ _ _) (Ŋ _ _);have f:cj a b c∣b.natAbs:=Qt0 (Ŋ _ _) (ŧ _ _);have j:cj a b c∣c.natAbs:=ŧ _ _;have l:∀{x:Int},cj a b c∣x.natAbs->((cj a b c:Nat):Int)∣x:=λh=>Qp5.1 (by rw [ē];exact h);have g:∀{x:Int},cj a b c∣x.natAbs->(x/(cj a b c:Int)).natAbs=x.natAbs/cj a b c:=λh=>by{rw [Qt4 (l h),ē]};have nz:∀{x:Int},cj a b c∣x.natAbs->x/(cj a b c:Int)=0->x=0:=λo e=>by{have ⟨k,q⟩:=l o;grind [Int.mul_ediv_cancel_left]};have e:cj (a/(cj a b c:Int)) (b/(cj a b c:Int)) (c/(cj a b c:Int))=1:=by{show Nat.gcd (Nat.gcd (a/(cj a b c:Int)).natAbs (b/(cj a b c:Int)).natAbs) (c/(cj a b c:Int)).natAbs=1;rw [g d,g f,g j,Nat.gcd_div d f,Nat.gcd_div (show cj a b c∣Nat.gcd a.natAbs b.natAbs from Ŋ _ _) j];exact Nat.div_self m};have n:¬(a/(cj a b c:Int)=0/\b/(cj a b c:Int)=0):=λ⟨i,p⟩=>h ⟨nz d i,nz f p⟩;show (decide (¬(a/(cj a b c:Int)=0/\b/(cj a b c:Int)=0))&&decide (cj (a/(cj a b c:Int)) (b/(cj a b c:Int)) (c/(cj a b c:Int))=1))=true;grind
theorem UH (h:¬(a=0/\b=0)):cq (CV a b c)=true:=by refine UG ?_;have d:(((a.den*b.den*c.den:Nat):Int):Rat)≠0:=by{exact_mod_cast (Ņ (Ņ a.den_nz b.den_nz) c.den_nz)};grind [Rat.num_eq_zero]
theorem UI (h:¬(px=qx/\py=qy)):cq (nK px py qx qy)=true:=UH (xk h)
theorem Te {w:un}{s:Sp}{t:Rat}(h:kJ V v s)(ht:RR V w t)(Z:s.sz k)(st:Sz k t)(hk:2*k<2^40:=by omega):À 99 #[v,w] V λr W=>r=gF (s.has t):=by have f:=ht;obtain ⟨g,i,p,j,l,q,rfl,n,o⟩:=h;obtain ⟨t0,t1,t2,rfl⟩:=ht.shape;refine Ff V _ ⟨λd=>⟨λc u x=>by simp [Sp.has,d,c],λc V2 y=>(iO ra ra Z.2 st).s ?_⟩,λd z A=>(iO ra ra Z.1 st).s ?_⟩;{rintro r B C rfl;exact ⟨_,rfl,λD E=>by simp [Sp.has,d,c]⟩};rintro r F G rfl;refine ⟨_,rfl,λe=>⟨λc H I=>by simp [Sp.has,d,c,Á e],λc J K=>(iO ra ra Z.2 st).s ?_⟩,λe L M=>by simp [Sp.has,d,Â e]⟩;rintro r N O rfl;exact ⟨_,rfl,λP m=>by simp [Sp.has,d,c,Á e]⟩
theorem BO {s:Sp}(h:z_ V v l s)(sl:iL k l)(M:s.sz k)(N:20*k+19<2^38:=by omega):À 42 #[v] V λr W=>∃w,r=ê #[w,gF (!s.a)]/\kd W w (if s.a then 0 else cu l s.lo) (if s.a then 0 else cw l s.lo):=by obtain ⟨g,i,p,j,m,q,n,u,r,x,y,t,z,A,o,rfl,B,d⟩:=h;obtain ⟨_,_,_,_,_,_,e,C,D⟩:=d;simp only [Value.agg.injEq,Ś,Ň,Value.int.injEq,Value.pointer.injEq,Î,Í] at e;obtain ⟨rfl,rfl,rfl,rfl,rfl,rfl⟩:=e;refine Aw V _ ⟨λb E F=>⟨_,by rw [b];rfl,by rw [b];exact (qyJ ⟨rfl,RR.zero _,RR.zero _⟩)⟩,λb V2 G=>(k_At ra ra sl M.1 N).s λr H I c=>kd.ex c λ_ _ c _ _=>λJ f=>⟨_,by rw [b];rfl,by rw [b];exact c.le f⟩⟩
theorem Tb {s:Sp}(h:z_ V v l s)(sl:iL k l)(M:s.sz k)(N:20*k+19<2^38:=by omega):À 40 #[v] V λr W=>∃w,r=ê #[w,gF (!s.b)]/\kd W w (if s.b then 0 else cu l s.hi) (if s.b then 0 else cw l s.hi):=by obtain ⟨g,i,p,j,m,q,n,u,r,x,y,t,z,A,o,rfl,B,d⟩:=h;obtain ⟨_,_,_,_,_,_,e,C,D⟩:=d;simp only [Value.agg.injEq,Ś,Ň,Value.int.injEq,Value.pointer.injEq,Î,Í] at e;obtain ⟨rfl,rfl,rfl,rfl,rfl,rfl⟩:=e;refine Fb V _ ⟨λa E F=>⟨_,by rw [a];rfl,by rw [a];exact (qyJ ⟨rfl,RR.zero _,RR.zero _⟩)⟩,λa V2 G=>(k_At ra ra sl M.2 N).s λr H I c=>kd.ex c λ_ _ c _ _=>λJ f=>⟨_,by rw [a];rfl,by rw [a];exact c.le f⟩⟩
theorem Tc {w:un}{s:Sp}(h:z_ V v l s)(Z:kd V w x y){k:Nat}(sl:iL k l)(hs:s.sz k)(s1:Sz k x)(s2:Sz k y)(hk:20*k+20<2^38:=by omega):À 37 #[v,w] V λr W=>r=gF (tQ l s x y):=by have b:=Z;obtain ⟨c,d,p,e,f,q,i,j,r,m,n,t,u,z,o,rfl,A,B⟩:=h;obtain ⟨_,_,_,_,_,_,rfl,-,-⟩:=Z;refine Fc V _ λC D=>(k_Side ra ra sl s1 s2).s ?_;rintro r V2 E rfl;refine ⟨_,rfl,λa F G=>(XG ra ra sl s1 s2).s ?_,λa H I=>?_⟩;{rw [Ë,gP] at a;rintro r J K g;obtain ⟨_,_,_,rfl⟩:=g.shape;refine ⟨_,_,_,rfl,λL M=>(Te ra ra (k:=8*k+7) ⟨Sz.s hs.1 ω,Sz.s hs.2 ω⟩ (xh sl s1 s2)).s λr N O rfl=>⟨_,rfl,λP Q=>by simp [tQ,a]⟩⟩};rw [beq_eq_false_iff_ne,ne_eq,gP] at a;simp [tQ,a]
def uX (x y:Rat):Rat:=if 0<ç y x then y else x
def uY (x y:Rat):Rat:=if ç y x<0 then y else x
theorem cE (x y:Rat):(x<y/\ç x y=-1)\/(x=y/\ç x y=0)\/(y<x/\ç x y=1):=by grind [HP.1,fI.1,HO.1]
theorem Sp.iS {s:Sp}:s.emp=false↔(s.a=true\/s.b=true\/s.lo<s.hi):=by unfold Sp.emp;rcases cE s.lo s.hi with ⟨h,e⟩|⟨h,e⟩|⟨h,e⟩<;>rw [e]<;>cases s.a<;>cases s.b<;>simp<;>grind
def Sp.meet (v w:Sp):Sp:=⟨if v.a then w.lo else if w.a then v.lo else uX v.lo w.lo,if v.b then w.hi else if w.b then v.hi else uY v.hi w.hi,if v.a then w.a else false,if v.b then w.b else false⟩
theorem Sp.CQ {v w:Sp}(D:v.can)(u:w.can):(v.meet w).can:=by unfold Sp.meet;constructor<;>dsimp only;{(cases z:v.a with|false=>{intro h;cases h}|true=>exact λh=>u.1 h)};(cases z:v.b with|false=>{intro h;cases h}|true=>exact λh=>u.2 h)
def Sp.rX (s:Sp):Rat:=if s.a then (if s.b then 0 else s.hi-((1:Int):Rat)) else if s.b then s.lo+((1:Int):Rat) else (s.lo+s.hi)*((2:Int):Rat)⁻¹
theorem Sp.Yv {s:Sp}(h:s.emp=false):(s.a=false->s.lo<s.rX)/\(s.b=false->s.rX<s.hi):=by rw [Sp.iS] at h;unfold Sp.rX;cases u:s.a<;>cases z:s.b<;>simp at h⊢<;>grind
def Û (m l:L3):Rat:=((m.1:Rat)*(l.2.1:Rat))+((m.2.1:Rat)*(-(l.1:Rat)))
def jW (m l:L3):Rat:=aG m (cu l 0) (cw l 0)
theorem jE (m l:L3)(t:Rat):aG m (cu l t) (cw l t)=jW m l+Û m l*t:=by unfold jW aG Û cu cw;grind
def Ø (m l:L3):Rat:=-(jW m l*(Û m l)⁻¹)
def bF (l:L3)(s:Sp)(m:L3):Sp:=
 if (Û m l).num.sign==0 then s else if (Û m l).num.sign==1 then s.meet ⟨Ø m l,0,false,true⟩ else s.meet ⟨0,Ø m l,true,false⟩
def cW (l:L3)(s:Sp)(m:L3):Bool:=
 if (Û m l).num.sign==0 then decide ((jW m l).num.sign>0) else !(bF l s m).emp
theorem b_ (q:Rat):(q=0/\q.num.sign=0)\/(0<q/\q.num.sign=1)\/(q<0/\q.num.sign=-1):=by have a:=@KU q;have b:=@KV q;have c:=@ş q;rcases Qr1 q.num 0 with h|h|h<;>grind
theorem Tx {l:L3}{s:Sp}{m:L3}(he:s.emp=false)(u:cW l s m=true):(bF l s m).emp=false:=by grind [cW,bF]
theorem Ty {l:L3}{s:Sp}{m:L3}(u:s.can):(bF l s m).can:=by unfold bF;split;{exact u};split;{exact Sp.CQ u ⟨π,λ_=>rfl⟩};exact Sp.CQ u ⟨λ_=>rfl,π⟩
theorem val_rev (m:L3)(x y:Rat):aG (Ö m) x y=-aG m x y:=by unfold aG Ö;simp only [Qt2];grind
def Ý (l m:L3):Rat:=((l.1:Rat)*(m.2.1:Rat))-((l.2.1:Rat)*(m.1:Rat))
def PE (l m:L3):Rat:=(((l.2.1:Rat)*(m.2.2:Rat))-((l.2.2:Rat)*(m.2.1:Rat)))*(Ý l m)⁻¹
def PF (l m:L3):Rat:=(((l.2.2:Rat)*(m.1:Rat))-((l.1:Rat)*(m.2.2:Rat)))*(Ý l m)⁻¹
def Sp.inn (s:Sp)(t:Rat):Prop:=(s.a=true\/s.lo<t)/\(s.b=true\/t<s.hi)
def An (ss:List Sp)(t:Rat):Prop:=∃s∈ss,s.inn t
def Sp.good (s:Sp):Prop:=s.can/\s.emp=false
def Sp.MG (s t:Sp):Prop:=s.b=false/\t.a=false/\s.hi<t.lo
def uu (ss:List Sp):Prop:=(∀s∈ss,s.good)/\ss.Pairwise Sp.MG
theorem pick (E:zA Rat):∀l u:Rat,l<u->∃t,l<t/\t<u/\t∉E:=by
 induction E with
 | nil=>exact λl u h=>⟨(l+u)/2,χ,χ,ψ⟩
 | cons e r z=>grind
theorem maxL:∀l:zA Rat,l=[]\/∃m∈l,∀x∈l,x<=m:=by
 intro l
 induction l with
 | nil=>exact .inl rfl
 | cons y r u=>
  rcases u with rfl|⟨m,hm,h⟩
  ·exact .inr ⟨y,ψ,by intro x a;simp at a;grind⟩
  grind
theorem minL:∀l:zA Rat,l=[]\/∃m∈l,∀x∈l,m<=x:=by
 intro l
 induction l with
 | nil=>exact .inl rfl
 | cons y r u=>
  rcases u with rfl|⟨m,hm,h⟩
  ·exact .inr ⟨y,ψ,by intro x a;simp at a;grind⟩
  grind
theorem K9 (E D z:zA Rat)(h:∀l∈D,∀u∈z,l<u):∃t,(∀l∈D,l<t)/\(∀u∈z,t<u)/\t∉E:=by have key:∃a b:Rat,a<b/\(∀l∈D,l<=a)/\∀u∈z,b<=u:=by{rcases maxL D with rfl|⟨m,hm,e⟩;{rcases minL z with rfl|⟨n,f,c⟩;{exact ⟨0,1,φ,ű,ű⟩};exact ⟨n-1,n,χ,ű,c⟩};rcases minL z with rfl|⟨n,f,c⟩;{exact ⟨m,m+1,χ,e,ű⟩};grind};obtain ⟨a,b,d,e,c⟩:=key;have ⟨t,t1,t2,t3⟩:=pick E a b d;grind
def Sp.Jw (s:Sp):List Rat:=if s.a then [] else [s.lo]
def Sp.H2 (s:Sp):List Rat:=if s.b then [] else [s.hi]
variable{r:List Sp}
theorem Bi {s:Sp}{t:Rat}:s.inn t↔(∀l∈s.Jw,l<t)/\∀u∈s.H2,t<u:=by unfold Sp.inn Sp.Jw Sp.H2;cases s.a<;>cases s.b<;>simp
theorem mS {s:Sp}{l:Rat}(h:l∈s.Jw):s.a=false/\l=s.lo:=by unfold Sp.Jw at h;cases u:s.a<;>simp [u] at h;exact ⟨rfl,h⟩
theorem pG {s:Sp}{l:Rat}(h:l∈s.H2):s.b=false/\l=s.hi:=by unfold Sp.H2 at h;cases u:s.b<;>simp [u] at h;exact ⟨rfl,h⟩
theorem oB {s:Sp}(h:s.emp=false)(u:s.a=false)(z:s.b=false):s.lo<s.hi:=by grind [Sp.iS.1]
theorem PT {s:Sp}(h:s.emp=false)(E:zA Rat):∃t,s.inn t/\t∉E:=by
 have ⟨t,c,d,e⟩:=K9 E s.Jw s.H2 (λl a u hu=>by
  obtain ⟨b,rfl⟩:=mS a;obtain ⟨z,rfl⟩:=pG hu;exact oB h b z)
 grind [Bi.2]
theorem uu.tail {s:Sp}(h:uu (s::r)):uu r:=⟨λx a=>h.1 x (by simp [a]),(ģ.1 h.2).2⟩
theorem uu.MG {s:Sp}(h:uu (s::r)){x:Sp}(u:x∈r):s.MG x:=(ģ.1 h.2).1 x u
theorem Ih {s:Sp}(h:uu (s::r))(u:s.a=false){t:Rat}(z:t<=s.lo):¬An (s::r) t:=by rintro ⟨x,b,d,e⟩;rcases í.1 b with rfl|b;{grind};have ⟨c,f,g⟩:=h.MG b;have:=oB (h.1 s ψ).2 u c;grind
def nl:List Sp->List Rat
 | []=>[]
 | x::_=>[x.lo]
theorem PI {s:Sp}(h:uu (s::r))(z:s.b=false){t:Rat}(D:s.hi<=t)(u:∀x∈nl r,t<=x):¬An (s::r) t:=by rintro ⟨x,a,c,d⟩;rcases í.1 a with rfl|a;{grind};(cases r with|nil=>{cases a}|cons y r=>{exact Ih h.tail (h.MG ψ).2.1 (u y.lo (by simp [nl])) ⟨x,a,c,d⟩})
section
variable{s s':Sp}{r r':List Sp}{E:List Rat}(h:uu (s :: r))(h':uu (s' :: r'))(e:∀t,t ∉ E->An (s :: r) t->An (s' :: r') t)
include h h' e
theorem un_a (D:s.a=true):s'.a=true:=by (cases z:s'.a with|true=>rfl|false=>{obtain ⟨t,-,c,d⟩:=K9 E [] (s'.lo::s.H2) (λl b=>by cases b);have:=e t d ⟨s,ψ,.inl D,(Bi.2 ⟨(λl b=>by unfold Sp.Jw at b;rw [Ä D] at b;cases b),λu hu=>c u (by simp [hu])⟩).2⟩;exact Å this (Ih h' z (by have:=c s'.lo ψ;grind))})
theorem ZR (D:s.a=false)(z:s'.a=false):¬s.lo<s'.lo:=by
 intro b
 have ⟨t,f,d,g⟩:=K9 E [s.lo] (s'.lo::s.H2) (λl c u hu=>by
  obtain rfl:l=s.lo:=by simpa using c
  rcases í.1 hu with rfl|hu
  ·exact b
  ·obtain ⟨i,rfl⟩:=pG hu;exact oB (h.1 s ψ).2 D i)
 have:=e t g ⟨s,ψ,Bi.2 ⟨(λl c=>by obtain ⟨-,rfl⟩:=mS c;exact f _ ψ),λu hu=>d u (by simp [hu])⟩⟩;exact Å this (Ih h' z (by have:=d s'.lo ψ;grind))
theorem un_b (D : s.a = false → s'.a = false ∧ s.lo = s'.lo)(F : s.b = true) : s'.b = true := by
  cases z : s'.b with
  | true => rfl
  | false =>
    have g : ∀ u∈nl r', s'.hi<u := λu hu => by
      cases r' with
      | nil => cases hu
      | cons y r' => obtain rfl : u = y.lo := by simpa [nl] using hu
                     exact (h'.MG ψ).2.2
    obtain ⟨t, d, h, i⟩ := K9 E (s'.hi::s.Jw) (nl r') (λl c u hu => by
      rcases í.1 c with rfl|c
      · exact g u hu
      · obtain ⟨f, rfl⟩ := mS c;have := oB (h'.1 s' ψ).2 (D f).1 z;rw [(D f).2];grind)
    have := e t i ⟨s, by simp, (Bi.2 ⟨(λl c => d l (by simp [c])), (λu hu => by unfold Sp.H2 at hu;rw [Ä F] at hu;cases hu)⟩ : s.inn t)⟩;exact Å this (PI h' z (by have := d s'.hi ψ;grind) (λx j => by have := h x j;grind))
theorem ZQ (D : s.a = false → s'.a = false ∧ s.lo = s'.lo)(M : s.b = false)(z : s'.b = false) : ¬s'.hi<s.hi := by
  intro c
  have g : ∀ u∈nl r', s'.hi<u := λu hu => by
    cases r' with
    | nil => cases hu
    | cons y r' => obtain rfl : u = y.lo := by simpa [nl] using hu
                   exact (h'.MG ψ).2.2
  obtain ⟨t, h, f, i⟩ := K9 E [s'.hi] (s.hi::nl r') (λl j u hu => by
    obtain rfl : l = s'.hi := by simpa using j
    rcases í.1 hu with rfl|hu
    · exact c
    · exact g u hu)
  have m := h s'.hi ψ
  have d : s.inn t := by
    refine ⟨?_, .inr (f s.hi ψ)⟩
    cases F : s.a with
    | true => exact .inl rfl
    | false =>
      have := oB (h'.1 s' ψ).2 (D F).1 z;exact .inr χ
  exact Å (e t i ⟨s, by simp, d⟩) (PI h' z χ (λx k => by have := f x (by simp [k]);grind))
end
theorem Sp.ext' {s t:Sp}(u:s.a=t.a)(z:s.b=t.b)(D:s.lo=t.lo)(F:s.hi=t.hi):s=t:=by cases s;cases t;simp at *;exact ⟨D,F,u,z⟩
theorem Oa {E:zA Rat}:∀{xs ys:zA Sp},uu xs->uu ys->(∀t,t∉E->(An xs t↔An ys t))->xs=ys:=by
 intro xs
 induction xs with
 | nil=>
  intro ys _ f e
  cases ys with
  | nil=>rfl
  | cons s r=>
   have ⟨t,c,i⟩:=PT (f.1 s ψ).2 E;obtain ⟨x,d,-⟩:=(e t i).2 ⟨s,ψ,c⟩;cases d
 | cons s r M=>
  intro ys d f e
  cases ys with
  | nil=>
   have ⟨t,c,i⟩:=PT (d.1 s ψ).2 E;obtain ⟨x,d,-⟩:=(e t i).1 ⟨s,ψ,c⟩;cases d
  | cons s' r'=>
   have k:=λt j=>(e t j).1;have l:=λt j=>(e t j).2
   have beq:∀{a b:md},(a=true->b=true)->(b=true->a=true)->a=b:=λ{a b} c i=>by cases a<;>cases b<;>simp at c i ⊢
   have g:=beq (un_a d f k) (un_a f d l)
   have y:s.a=false->s.lo=s'.lo:=λc=>by have A:=ZR d f k c (g▸c);have B:=ZR f d l (g▸c) c;grind
   have z:s.a=false->s'.a=false/\s.lo=s'.lo:=λh=>⟨g▸h,y h⟩;have n:s'.a=false->s.a=false/\s'.lo=s.lo:=λh=>⟨g.symm▸h,(y (g.symm▸h)).symm⟩;have u:=beq (un_b d f k z) (un_b f d l n)
   have C:s.b=false->s.hi=s'.hi:=λc=>by have A:=ZQ d f k z c (u▸c);have B:=ZQ f d l n (u▸c) c;grind
   have gs:=(d.1 s ψ).1;have o:=(f.1 s' ψ).1
   have es:s=s':=by refine Sp.ext' g u ?_ ?_;{(cases c:s.a with|false=>exact y c|true=>{rw [gs.1 c,o.1 (g▸c)]})};(cases c:s.b with|false=>exact C c|true=>{rw [gs.2 c,o.2 (u▸c)]})
   subst es
   have p:∀{q:zA Sp} {t:Rat},uu (s::q)->An q t->¬s.inn t:=by rintro q t D ⟨x,d,c,i⟩ ⟨v,w⟩;have ⟨F,G,H⟩:=D.MG d;grind
   rw [M d.tail f.tail (λt j=>⟨λm=>?_,λm=>?_⟩)]
   ·have ⟨x,hm,hi⟩:=k t j (by obtain ⟨x,v,w⟩:=m;exact ⟨x,by simp [v],w⟩);rcases í.1 hm with rfl|hm;{exact Å hi (p d m)};exact ⟨x,hm,hi⟩
   ·have ⟨x,hm,hi⟩:=l t j (by obtain ⟨x,v,w⟩:=m;exact ⟨x,by simp [v],w⟩);rcases í.1 hm with rfl|hm;{exact Å hi (p f m)};exact ⟨x,hm,hi⟩
end Go.Proofs.Tryz
namespace Go.Eng
theorem BF (a:Addr)(m n:Nat):(a.add m).add n=a.add (m+n):=by grind [Addr.add]
variable{α:Type}{sz:Nat}{R:Ó->Value->α->Prop}{V V':Ó}
structure é (sz:Nat) (R:Ó->Value->α->Prop) (V:Ó) (vs:List Value) (al:List α):Prop where
 at_:∀(i:Nat)(h:i<al.length),∃xs:List Value,xs.length=sz/\R V (.agg xs.toArray) al[i]/\∀j x,xs[j]?=some x->vs[i*sz+j]?=some x
structure aZ (sz:Nat) (R:Ó->Value->α->Prop) (V:Ó) (p:OA) (n:Nat) (al:List α):Prop where
 len:n=al.length
 at_:∀(i:Nat)(h:i<al.length),∃ad,ae p (i*sz)=some ad/\∃xs:List Value,xs.length=sz/\R V (.agg xs.toArray) al[i]/\∀j x,xs[j]?=some x->V.at (ad.add j) x
theorem é.nil {vs:zA un}:é sz R V vs []:=⟨λi h=>Å h (Œ i)⟩
theorem aZ.nil {p:OA}:aZ sz R V p 0 []:=⟨rfl,λi h=>Å h (Œ i)⟩
def Via (_:V.Le V')(p:Prop):Prop:=p
theorem via {l:V.Le V'}(m:∀{A B:ut},A.Le B->∀v a,R A v a->R B v a):Via l (∀v a,R V v a->R V' v a):=m l
theorem é.le {vs:zA un}{al:zA α}(h:é sz R V vs al)(m:∀v a,R V v a->R V' v a:=by exact λ_ _ g=>.le g au):é sz R V' vs al:=
 ⟨λi b=>by have ⟨xs,c,d,e⟩:=h.at_ i b;exact ⟨xs,c,m _ _ d,e⟩⟩
theorem aZ.le {p:OA}{n:Nat}{al:zA α}(h:aZ sz R V p n al)(l:V.Le V')(m:Via l (∀v a,R V v a->R V' v a):=by exact via λl _ _ g=>.le g l):aZ sz R V' p n al:=
 ⟨h.len,λi b=>by have ⟨c,d,xs,e,f,k⟩:=h.at_ i b;exact ⟨c,d,xs,e,m _ _ f,λj x o=>l.at (k j x o)⟩⟩
theorem aW {p:OA}{j:Nat}{ad:Addr}(h:ae p j=some ad):p.isSome=true:=by (cases p with|none=>{cases h}|some a=>rfl)
section
variable{p:OA}{n:Nat}{al:List α}
theorem ldP (sh:∀{V v a},R V v a->∃(z:md)(D:OA)(F M:Nat)(N:OA)(O Z:Nat)(x7:md)(x8:OA)(x9 u:Nat)(A7:OA)(Mx My:Nat),v=dB #[gF z,yD D F M,yD N O Z,gF x7,yD x8 x9 u,yD A7 Mx My])(h:aZ 6 R V p n al){i:Nat}(hi:i<al.length){K:md->OA->Nat->Nat->OA->Nat->Nat->md->OA->Nat->Nat->OA->Nat->Nat->Prop}(k:∀z D F M N O Z x7 x8 x9 u A7 Mx My,R V (dB #[gF z,yD D F M,yD N O Z,gF x7,yD x8 x9 u,yD A7 Mx My]) al[i]->K z D F M N O Z x7 x8 x9 u A7 Mx My):p.isSome=true/\(0<=(i:Int)/\(i:Int)<(n:Int))/\∃(z:md)(D:OA)(F M:Nat)(N:OA)(O Z:Nat)(x7:md)(x8:OA)(x9 u:Nat)(A7:OA)(Mx My:Nat)(ad:Addr),ae p (i*6)=some ad/\V.at (ad.add 0) (gF z)/\V.at (ad.add 1) (yD D F M)/\V.at (ad.add 2) (yD N O Z)/\V.at (ad.add 3) (gF x7)/\V.at (ad.add 4) (yD x8 x9 u)/\V.at (ad.add 5) (yD A7 Mx My)/\K z D F M N O Z x7 x8 x9 u A7 Mx My:=by obtain rfl:=h.len;obtain ⟨ad,c,xs,-,d,b⟩:=h.at_ i hi;have ⟨_,_,_,_,_,_,_,_,_,_,_,_,_,_,e⟩:=sh d;have e:=Æ Array.toList (Value.agg.inj e);subst e;exact ⟨aW c,Ź,_,_,_,_,_,_,_,_,_,_,_,_,_,_,ad,c,b 0 _ rfl,b 1 _ rfl,b 2 _ rfl,b 3 _ rfl,b 4 _ rfl,b 5 _ rfl,k _ _ _ _ _ _ _ _ _ _ _ _ _ _ d⟩
theorem ldL (sh:∀{V v a},R V v a->∃(z:md)(D:OA)(F M:Nat)(N:md)(O:OA)(Z x7:Nat)(x8:md)(x9:OA)(u A7:Nat),v=dB #[gF z,yD D F M,gF N,yD O Z x7,gF x8,yD x9 u A7])(h:aZ 6 R V p n al){i:Nat}(hi:i<al.length){K:md->OA->Nat->Nat->md->OA->Nat->Nat->md->OA->Nat->Nat->Prop}(k:∀z D F M N O Z x7 x8 x9 u A7,R V (dB #[gF z,yD D F M,gF N,yD O Z x7,gF x8,yD x9 u A7]) al[i]->K z D F M N O Z x7 x8 x9 u A7):p.isSome=true/\(0<=(i:Int)/\(i:Int)<(n:Int))/\∃(z:md)(D:OA)(F M:Nat)(N:md)(O:OA)(Z x7:Nat)(x8:md)(x9:OA)(u A7:Nat)(ad:Addr),ae p (i*6)=some ad/\V.at (ad.add 0) (gF z)/\V.at (ad.add 1) (yD D F M)/\V.at (ad.add 2) (gF N)/\V.at (ad.add 3) (yD O Z x7)/\V.at (ad.add 4) (gF x8)/\V.at (ad.add 5) (yD x9 u A7)/\K z D F M N O Z x7 x8 x9 u A7:=by obtain rfl:=h.len;obtain ⟨ad,c,xs,-,d,b⟩:=h.at_ i hi;have ⟨_,_,_,_,_,_,_,_,_,_,_,_,e⟩:=sh d;have e:=Æ Array.toList (Value.agg.inj e);subst e;exact ⟨aW c,Ź,_,_,_,_,_,_,_,_,_,_,_,_,ad,c,b 0 _ rfl,b 1 _ rfl,b 2 _ rfl,b 3 _ rfl,b 4 _ rfl,b 5 _ rfl,k _ _ _ _ _ _ _ _ _ _ _ _ d⟩
theorem ldQ (sh:∀{V v a},R V v a->∃(u:md)(z:OA)(D F:Nat)(M:OA)(N O:Nat),v=dB #[gF u,yD z D F,yD M N O])(h:aZ 3 R V p n al){i:Nat}(hi:i<al.length){K:md->OA->Nat->Nat->OA->Nat->Nat->Prop}(k:∀u z D F M N O,R V (dB #[gF u,yD z D F,yD M N O]) al[i]->K u z D F M N O):p.isSome=true/\(0<=(i:Int)/\(i:Int)<(n:Int))/\∃(u:md)(z:OA)(D F:Nat)(M:OA)(N O:Nat)(ad:Addr),ae p (i*3)=some ad/\V.at (ad.add 0) (gF u)/\V.at (ad.add 1) (yD z D F)/\V.at (ad.add 2) (yD M N O)/\K u z D F M N O:=by obtain rfl:=h.len;obtain ⟨ad,c,xs,-,d,b⟩:=h.at_ i hi;have ⟨_,_,_,_,_,_,_,e⟩:=sh d;have e:=Æ Array.toList (Value.agg.inj e);subst e;exact ⟨aW c,Ź,_,_,_,_,_,_,_,ad,c,b 0 _ rfl,b 1 _ rfl,b 2 _ rfl,k _ _ _ _ _ _ _ d⟩
theorem ldS {u w:α->md}(sh:∀{V v a},R V v a->∃(F:md)(M:OA)(N O:Nat)(Z:OA)(x5 x6:Nat)(x7:md)(x8:OA)(x9 D:Nat)(A7:OA)(Mx My:Nat),v=dB #[gF F,yD M N O,yD Z x5 x6,gF x7,yD x8 x9 D,yD A7 Mx My,gF (u a),gF (w a)])(h:aZ 8 R V p n al){i:Nat}(hi:i<al.length){K:md->OA->Nat->Nat->OA->Nat->Nat->md->OA->Nat->Nat->OA->Nat->Nat->md->md->Prop}(k:∀F M N O Z x5 x6 x7 x8 x9 D A7 Mx My,R V (dB #[gF F,yD M N O,yD Z x5 x6,gF x7,yD x8 x9 D,yD A7 Mx My,gF (u al[i]),gF (w al[i])]) al[i]->K F M N O Z x5 x6 x7 x8 x9 D A7 Mx My (u al[i]) (w al[i])):p.isSome=true/\(0<=(i:Int)/\(i:Int)<(n:Int))/\∃(F:md)(M:OA)(N O:Nat)(Z:OA)(x5 x6:Nat)(x7:md)(x8:OA)(x9 D:Nat)(A7:OA)(Mx My:Nat)(y z:md)(ad:Addr),ae p (i*8)=some ad/\V.at (ad.add 0) (gF F)/\V.at (ad.add 1) (yD M N O)/\V.at (ad.add 2) (yD Z x5 x6)/\V.at (ad.add 3) (gF x7)/\V.at (ad.add 4) (yD x8 x9 D)/\V.at (ad.add 5) (yD A7 Mx My)/\V.at (ad.add 6) (gF y)/\V.at (ad.add 7) (gF z)/\K F M N O Z x5 x6 x7 x8 x9 D A7 Mx My y z:=by obtain rfl:=h.len;obtain ⟨ad,c,xs,-,d,b⟩:=h.at_ i hi;have ⟨_,_,_,_,_,_,_,_,_,_,_,_,_,_,e⟩:=sh d;have e:=Æ Array.toList (Value.agg.inj e);subst e;exact ⟨aW c,Ź,_,_,_,_,_,_,_,_,_,_,_,_,_,_,_,_,ad,c,b 0 _ rfl,b 1 _ rfl,b 2 _ rfl,b 3 _ rfl,b 4 _ rfl,b 5 _ rfl,b 6 _ rfl,b 7 _ rfl,k _ _ _ _ _ _ _ _ _ _ _ _ _ _ d⟩
end
variable{vs:List Value}
theorem é.eX {al:zA α}(h:é sz R V vs al)(u:0<sz):al.length*sz<=vs.length:=by by_cases a:al.length=0;{rw [a];omega};obtain ⟨xs,d,-,b⟩:=h.at_ (al.length-1) ω;have c:sz-1<xs.length:=ω;have:=(Ī.1 (b (sz-1) _ (ô c))).1;have e:al.length*sz=(al.length-1)*sz+sz:=by{obtain ⟨m,hm⟩:∃m,al.length=m+1:=⟨al.length-1,ω⟩;grind [Nat.succ_mul]};omega
theorem é.snoc {al:zA α}(h:é sz R V vs al){xs sp:zA un}{a:α}(z:xs.length=sz)(D:R V (.agg xs.toArray) a)(u:0<sz):é sz R V (vs.take (al.length*sz)++xs++sp) (al++[a]):=by have n:=h.eX u;have o:(vs.take (al.length*sz)).length=al.length*sz:=by{rw [ì];omega};refine ⟨λi c=>?_⟩;rw [ï,Qc5] at c;by_cases e:i=al.length;{grind [Nat.add_sub_cancel_left]};have b:i<al.length:=ω;have ⟨d,f,g,p⟩:=h.at_ i b;refine ⟨d,f,by rw [Qs5 b];exact g,λj x k=>?_⟩;have l:=(Ī.1 k).1;have m:i*sz+j<al.length*sz:=by{have:(i+1)*sz<=al.length*sz:=ć _ b;rw [Ŧ] at this;omega};grind
theorem aZ.eY {u:Nat}{ty:TypeId}{m:Nat×Nat}{al:zA α}(z:V.aX u (.cells vs.toArray ty m))(h:é sz R V vs al):aZ sz R V (some ⟨u,0,none⟩) al.length al:=by refine ⟨rfl,λi a=>?_⟩;have ⟨xs,b,c,d⟩:=h.at_ i a;refine ⟨⟨u,i*sz,none⟩,by simp [ae,add_zero'],xs,b,c,λj x f=>?_⟩;have e:(⟨u,i*sz,none⟩:Addr).add j=⟨u,i*sz+j,none⟩:=by{rw [<-add_zero',BF,add_zero']};grind [dK]
theorem aZ.bo {u c:Nat}{ty:TypeId}{m:Nat×Nat}{al:zA α}(F:vs≠[]->V.aX u (.cells vs.toArray ty m))(h:é sz R V vs al)(z:0<sz)(D:al.length<=c):aZ sz R V (mA u c) al.length al:=by (cases al with|nil=>exact aZ.nil|cons a r=>{have b:vs≠[]:=λe=>by{have:=h.eX z;grind [Nat.succ_mul]};have:mA u c=some ⟨u,0,none⟩:=by{unfold mA;rw [Ã];rw [Ĉ] at D;omega};grind [aZ.eY]})
end Go.Eng
namespace Go.Proofs.Tryz
variable{V:Ó}{c n:Nat}{vs:List Value}{p:OA}
structure GR {α:Type} (sz:Nat) (R:Ó->Value->α->Prop) (V:Ó) (n c:Nat) (vs:List Value) (l:List α):Prop where
 len:n=l.length
 le:n<=c
 cap:c*sz<=vs.length
 row:é sz R V vs l
theorem GR.nil {α:Type}{sz:Nat}{R:ut->un->α->Prop}{V:ut}:GR sz R V 0 0 [] []:=⟨rfl,Ú _,ψ,é.nil⟩
theorem GR.s {α:Type}{sz:Nat}{R:ut->un->α->Prop}{V':ut}{l:zA α}(h:GR sz R V n c vs l)(m:∀v a,R V v a->R V' v a):GR sz R V' n c vs l:=⟨h.len,h.le,h.cap,h.row.le m⟩
theorem GR.up {α:Type}{sz:Nat}{R:ut->un->α->Prop}{V':ut}{l:zA α}(h:GR sz R V n c vs l)(e:V.Le V')(m:Via e (∀v a,R V v a->R V' v a):=by exact via λl _ _ g=>.le g l):GR sz R V' n c vs l:=h.s m
theorem GR.snoc {α:Type}{sz:Nat}{R:ut->un->α->Prop}{l:zA α}(h:GR sz R V n c vs l){xs:zA un}{a:α}(D:xs.length=sz)(F:R V (.agg xs.toArray) a)(M:0<sz){sp:zA un}{u:Nat}(z:n+1<=u)(N:u*sz<=(n+1)*sz+sp.length):GR sz R V (n+1) u (vs.take (n*sz)++xs++sp) (l++[a]):=by have b:=h.len;have d:=h.cap;have e:n*sz<=c*sz:=ć _ h.le;refine ⟨by rw [ï,b];rfl,z,?_,?_⟩;{have f:(vs.take (n*sz)).length=n*sz:=by{rw [ì];omega};grind};grind [h.row.snoc]
theorem pE {τ:Type}{E:τ->Prop}{D:τ->Int}{N:Nat}{B C:(τ->ut->Prop)->(τ->Nat)->τ->ut->Prop}(P:Nat->τ->ut->Prop)(z:τ)(e:E z)(F:D z=0)(M:P 0 z V)(k:∀(i:Nat)(z:τ)(u:ut),V.Le u->D z=(i:Int)->i<=N->P i z u->(i<N->B (λz V'=>∃i:Nat,D z=(i:Int)/\i<=N/\P i z V') (λz=>N-(D z).toNat) z u)/\(i=N->C (λz V'=>∃i:Nat,D z=(i:Int)/\i<=N/\P i z V') (λz=>N-(D z).toNat) z u)):∃(I:τ->ut->Prop)(m:τ->Nat),(∃z,E z/\I z V)/\∀(z:τ)(u:ut),V.Le u->I z u->(tt/\(((decide (D z<(N:Int)))=true->B I m z u)/\((decide (D z<(N:Int)))=false->C I m z u))):=by refine ⟨λz V'=>∃i:Nat,D z=(i:Int)/\i<=N/\P i z V',λz=>N-(D z).toNat,⟨z,e,0,F,å _,M⟩,?_⟩;rintro z u l ⟨i,h,le,p⟩;have ⟨a,b⟩:=k i z u l h le p;exact ⟨rfl,λg=>a (by have:=Á g;omega),λg=>b (by have:=Â g;omega)⟩
theorem row_one {α:Type}{sz:Nat}{R:ut->un->α->Prop}{V:ut}{xs:zA un}{a:α}(u:xs.length=sz)(z:R V (.agg xs.toArray) a):é sz R V xs [a]:=by refine ⟨λi b=>?_⟩<;>grind
theorem Of {α:Type}{sz:Nat}{R:ut->un->α->Prop}{ls:zA α}(h:é sz R V vs ls){k:Nat}(D:k<=ls.length){xs sp:zA un}{a:α}(z:xs.length=sz)(F:R V (.agg xs.toArray) a)(M:0<sz):é sz R V (vs.take (k*sz)++(xs++(vs.take (ls.length*sz)).drop (k*sz))++sp) (ls.take k++a::ls.drop k):=by have v:=h.eX M;have q:k*sz<=ls.length*sz:=ć _ D;have t1:(vs.take (k*sz)).length=k*sz:=by{rw [ì];omega};have t2:((vs.take (ls.length*sz)).drop (k*sz)).length=ls.length*sz-k*sz:=by{rw [į,ì];omega};have g:(ls.take k).length=k:=by{rw [ì];omega};refine ⟨λi r=>?_⟩;rw [Ě];by_cases s:i<k;{have c:i<ls.length:=ω;have ⟨l,n,o,p⟩:=h.at_ i c;have e:(ls.take k++a::ls.drop k)[i]=ls[i]:=by{rw [Qs5 ω,Qt8]};refine ⟨l,n,by rw [e];exact o,λj x b=>?_⟩;have d:=(Ī.1 b).1;have f:i*sz+j<k*sz:=by{have:(i+1)*sz<=k*sz:=ć _ s;rw [Ŧ] at this;omega};rw [Ĺ ω,ķ,Ä f];exact p j x b};by_cases t:i=k;{subst t;have e:(ls.take i++a::ls.drop i)[i]=a:=by{simp [g]};refine ⟨xs,z,by rw [e];exact F,λj x b=>?_⟩;have d:=(Ī.1 b).1;rw [ŕ ω,t1,Qn8,Ě,Ĺ d];exact b};have c:i-1<ls.length:=by{rw [ï,g,Ĉ,į] at r;omega};have ⟨l,n,o,p⟩:=h.at_ (i-1) c;have e:(ls.take k++a::ls.drop k)[i]=ls[i-1]:=by{rw [Wz0 ω];obtain ⟨m,hm⟩:∃m,i=k+(m+1):=⟨i-k-1,ω⟩;subst hm;simp only [g,Qn8,List.getElem_cons_succ,Qp9];congr 1};refine ⟨l,n,by rw [e];exact o,λj x b=>?_⟩;have d:=(Ī.1 b).1;obtain ⟨m,hm⟩:∃m,i=k+1+m:=⟨i-k-1,ω⟩;subst hm;have w:(k+1+m)*sz=k*sz+sz+m*sz:=by{rw [ĕ,ĕ,ŗ]};have u:(k+1+m-1)*sz=k*sz+m*sz:=by{rw [show k+1+m-1=k+m by omega,ĕ]};have:=p j x b;rw [u] at this;have f:k*sz+m*sz+j<ls.length*sz:=by{have:(k+m+1)*sz<=ls.length*sz:=ć _ ω;rw [ĕ,ĕ,ŗ] at this;omega};rw [ŕ ω,t1,Ě,ŕ ω,z,Ĺ ω,Qm3,ķ,Ä ω];rw [show k*sz+((k+1+m)*sz+j-k*sz-sz)=k*sz+m*sz+j by omega];exact this
theorem cQ {α:Type}{sz:Nat}{R:ut->un->α->Prop}{ls:zA α}(h:aZ sz R V p n ls)(u:0<sz):∃xs:zA un,V.sl p xs/\xs.length=ls.length*sz/\é sz R V xs ls:=by
 have step:∀k,k<=ls.length->∃xs:zA un,V.sl p xs/\xs.length=k*sz/\é sz R V xs (ls.take k):=by
  intro k
  induction k with
  | zero=>exact λ_=>⟨[],λi v b=>by simp at b,ψ,by rw [Qd4];exact é.nil⟩
  | succ k z=>
   intro r;have ⟨xs,d,e,f⟩:=z ω;have ⟨l,g,m,j,o,s⟩:=h.at_ k ω;have q:(ls.take k).length=k:=by rw [ì];omega
   refine ⟨xs++m,λi v b=>?_,by rw [ï,e,j,Ŧ],?_⟩
   ·by_cases c:i<xs.length;{rw [Ĺ c] at b;exact d i v b};rw [ŕ ω] at b;(cases p with|none=>{cases g}|some a=>{obtain rfl:=ś (show some (a.add (k*sz))=some l from g);grind [BF]})
   ·have:=f.snoc (sp:=[]) j o u;rw [q,ý,ō ω] at this;rw [ĳ,ô ω];exact this
 have ⟨xs,d,e,f⟩:=step ls.length (Ú _);grind
theorem eM {α:Type}{sz:Nat}{R:ut->un->α->Prop}{V:ut}{vs xs sp:zA un}{ls ms:zA α}(h:é sz R V vs ls)(h':é sz R V xs ms)(u:0<sz):é sz R V (vs.take (ls.length*sz)++xs++sp) (ls++ms):=by have q:=h.eX u;have o:=h'.eX u;have n:(vs.take (ls.length*sz)).length=ls.length*sz:=by{rw [ì];omega};refine ⟨λi p=>?_⟩;by_cases c:i<ls.length;{have ⟨d,f,g,k⟩:=h.at_ i c;refine ⟨d,f,by rw [Qs5 c];exact g,λj x a=>?_⟩;have l:=(Ī.1 a).1;have b:i*sz+j<ls.length*sz:=by{have:(i+1)*sz<=ls.length*sz:=ć _ c;rw [Ŧ] at this;omega};rw [Ě,Ĺ ω,ķ,Ä b];exact k j x a};rw [ï] at p;obtain ⟨m,rfl⟩:∃m,i=ls.length+m:=⟨i-ls.length,ω⟩;have hm:m<ms.length:=ω;have ⟨d,f,g,k⟩:=h'.at_ m hm;refine ⟨d,f,?_,λj x a=>?_⟩;{have e:(ls++ms)[ls.length+m]=ms[m]:=by{rw [Wz0 ω];simp};rw [e];exact g};have l:=(Ī.1 a).1;have b:m*sz+j<xs.length:=by{have:(m+1)*sz<=ms.length*sz:=ć _ hm;rw [Ŧ] at this;omega};rw [Ě,ŕ (by rw [n,ĕ];omega),n,ĕ,Ĺ ω];rw [show ls.length*sz+m*sz+j-ls.length*sz=m*sz+j by omega];exact k j x a
theorem fy {α:Type}{sz:Nat}{R:ut->un->α->Prop}{al:zA α}(h:é sz R V vs al)(u:0<sz)(z:∀xs a,R V (.agg (List.toArray xs)) a->∀v∈xs,v.oneCell'=true){m:Nat}(hm:m<al.length*sz){v:un}(D:vs[m]?=some v):v.oneCell'=true:=by have ⟨xs,b,e,c⟩:=h.at_ (m/sz) (Nat.div_lt_of_lt_mul (by rw [Ľ];exact hm));have d:m%sz<xs.length:=by{rw [b];exact ġ _ u};grind [Nat.mul_comm,Nat.div_add_mod,List.getElem_mem]
theorem Pu {α:Type}{sz:Nat}{R:ut->un->α->Prop}{V:ut}{O:zA α}(h:aZ sz R V p n O)(M:n<=c)(z:0<sz)(one:∀xs a,R V (.agg (List.toArray xs)) a->∀v∈xs,v.oneCell'=true){es:zA un}{x:α}(he:es.length=sz)(D:R V (.agg es.toArray) x){j:Nat}(F:j<=n):∃xs ys:zA un,V.sl (jD p c j sz) xs/\xs.length=(n-j)*sz/\(∀v∈xs,v.oneCell'=true)/\V.sl p ys/\ys.length=j*sz/\(p.isNone=true->j=0)/\(∀sp:zA un,aw (es.take (1*sz)++xs++sp) 0 ((1+(n-j))*sz)=es++xs)/\(es++xs).length/sz=1+(n-j)/\(es++xs).length=(1+(n-j))*sz/\(∀v∈es++xs,v.oneCell'=true)/\∀sp:zA un,é sz R V (ys++(es++xs)++sp) (O.take j++x::O.drop j):=by obtain rfl:=h.len;have ⟨us,i,o,l⟩:=cQ h z;have t:j*sz<=O.length*sz:=ć _ F;have u:(O.length-j)*sz=O.length*sz-j*sz:=Nat.sub_mul ..;have q:(1+(O.length-j))*sz=sz+(O.length-j)*sz:=by{rw [ĕ,ŗ]};have t2:(us.drop (j*sz)).length=(O.length-j)*sz:=by{rw [į];omega};have m:∀v∈us.drop (j*sz),v.oneCell'=true:=λv f=>by{have ⟨k,hm,e⟩:=Qb8.1 (Qg5 f);exact fy l z one (by rw [<-o];exact hm) (by rw [ô hm,e])};have b:(es++us.drop (j*sz)).length=(1+(O.length-j))*sz:=by{rw [ï,t2,he,q]};refine ⟨us.drop (j*sz),us.take (j*sz),λk v hm=>?_,t2,m,λk v hm=>?_,by rw [ì];omega,λr=>?_,λsp=>?_,by rw [b];exact Qf9 _ z,b,λv f=>(ü.1 f).elim ((one _ _ D) v) (m v),λsp=>?_⟩;{have d:=(Ī.1 hm).1;rw [t2] at d;rw [Qm3] at hm;obtain ⟨a,rfl,g⟩:=i _ v hm;have:c≠j:=λe=>by{rw [show O.length-j=0 by omega,ť] at d;omega};refine ⟨a.add (j*sz),by unfold jD;rw [Ã this];rfl,by rw [BF];exact g⟩};{exact i k v (by rw [ķ] at hm;split at hm;exact hm;cases hm)};{rcases Ŀ j with e|e;{exact e};obtain ⟨w,s,-⟩:=h.at_ 0 ω;(cases p with|none=>{cases s}|some a=>{cases r})};{rw [ŗ,ō (by omega:es.length<=sz)];unfold aw;rw [Nat.ble_eq_true_of_le (by rw [ï,b];omega),cond_true,Wq1,Ww0 (by rw [b];exact Ú _),ō (by rw [b];exact Ú _)]};{have:=Of (sp:=sp) l (by omega:j<=O.length) he D z;rwa [show us.take (O.length*sz)=us from ō ω] at this}
theorem tz {α:Type}{sz:Nat}{R:ut->un->α->Prop}{V:ut}{u z:Nat}{us:zA un}{O:zA α}(N:GR sz R V u z us O)(M:0<sz)(one:∀xs a,R V (.agg (List.toArray xs)) a->∀v∈xs,v.oneCell'=true){D:Nat}{ty:TypeId}{m:Nat×Nat}(Z:us≠[]->V.aX D (.cells us.toArray ty m)){es:zA un}{x:α}(he:es.length=sz)(hx:R V (.agg es.toArray) x){j:Nat}(pH:j<=u:=by omega):∃xs ys:zA un,V.sl (jD (mA D z) z j sz) xs/\xs.length=(u-j)*sz/\(∀v∈xs,v.oneCell'=true)/\V.sl (mA D z) ys/\ys.length=j*sz/\((mA D z).isNone=true->j=0)/\(∀sp:zA un,aw (es.take (1*sz)++xs++sp) 0 ((1+(u-j))*sz)=es++xs)/\(es++xs).length/sz=1+(u-j)/\(es++xs).length=(1+(u-j))*sz/\(∀v∈es++xs,v.oneCell'=true)/\∀(sp:zA un)(F:Nat),j+(1+(u-j))<=F->F*sz<=(j+(1+(u-j)))*sz+sp.length->GR sz R V (j+(1+(u-j))) F (ys++(es++xs)++sp) (O.take j++x::O.drop j):=by obtain ⟨e,b,t,f⟩:=N;subst e;have ⟨xs,ys,g,h,i,k,c,l,n,o,d,p,q⟩:=Pu (aZ.bo Z f M b) b M one he hx pH;refine ⟨xs,ys,g,h,i,k,c,l,n,o,d,p,λsp F r s=>⟨by rw [ï,ì,Ĉ,į];omega,r,?_,q sp⟩⟩;rw [ï,ï,c,d,<-ĕ];exact s
theorem iL.ah {k:Nat}{l:L3}(h:iL k l)(u:k<=2^40):(ah l.1.natAbs).length<=2^40/\(ah l.2.1.natAbs).length<=2^40/\(ah l.2.2.natAbs).length<=2^40:=by have d1:=af (show l.1.natAbs<2^k from h.1.1);have d2:=af (show l.2.1.natAbs<2^k from h.2.1.1);have d3:=af (show l.2.2.natAbs<2^k from h.2.2.1);grind
def FAt (V:Ó)(ad:Addr)(l:L3)(s:Sp):Prop:=∃xs:List Value,Z6 V (.agg xs.toArray) l s/\∀i x,xs[i]?=some x->V.at (ad.add i) x
theorem FAt.le {V V':ut}{ad:Addr}{l:L3}{s:Sp}(h:FAt V ad l s)(e:V.Le V'):FAt V' ad l s:=by obtain ⟨xs,a,b⟩:=h;exact ⟨xs,a.le e,λi x c=>e.at (b i x c)⟩
structure SC (V:Ó) (p:OA) (n:Nat) (fs:List (L3×Sp)):Prop where
 len:n=fs.length
 at_:∀(i:Nat)(h:i<fs.length),∃ad,ae p (i*14)=some ad/\FAt V ad fs[i].1 fs[i].2
theorem SC.le {V V':ut}{fs:zA (L3×Sp)}(h:SC V p n fs)(e:V.Le V'):SC V' p n fs:=⟨h.len,λi a=>by have ⟨b,c,d⟩:=h.at_ i a;exact ⟨b,c,d.le e⟩⟩
def SAt (V:Ó)(ad:Addr)(s:Sp):Prop:=∃xs:List Value,oO V (.agg xs.toArray) s/\∀i x,xs[i]?=some x->V.at (ad.add i) x
theorem SAt.le {V V':ut}{ad:Addr}{s:Sp}(h:SAt V ad s)(e:V.Le V'):SAt V' ad s:=by obtain ⟨xs,a,b⟩:=h;exact ⟨xs,a.le e,λi x c=>e.at (b i x c)⟩
structure MO (V:Ó) (p:OA) (n:Nat) (ss:List Sp):Prop where
 len:n=ss.length
 at_:∀(i:Nat)(h:i<ss.length),∃ad,ae p (i*8)=some ad/\SAt V ad ss[i]
theorem MO.le {V V':ut}{ss:zA Sp}(h:MO V p n ss)(e:V.Le V'):MO V' p n ss:=⟨h.len,λi a=>by have ⟨b,c,d⟩:=h.at_ i a;exact ⟨b,c,d.le e⟩⟩
def yo (a b:Int):Int:=if 0<a/\b<0 then 2 else if (a=0/\b<=0)\/(b=0/\0<=a) then 1 else 0
def Sp.la (s:Sp)(t:Rat):Int:=if s.a then 1 else ç t s.lo
def Sp.lb (s:Sp)(t:Rat):Int:=if s.b then -1 else ç t s.hi
variable{V:Ó}{p:OA}{c k n:Nat}{v:Value}{px py qx qy x y:Rat}{ds:List Nat}
def n_:List Sp->Rat->Int
 | [],_=>0
 | s::r,t=>if yo (s.la t) (s.lb t)≠0 then yo (s.la t) (s.lb t) else n_ r t
theorem uc {ss:zA Sp}{t:Rat}(hl:MO V p n ss)(ht:RQ V v t)(hs:∀s∈ss,s.sz k)(st:Sz k t)(hk:2*k<2^38)(hn:ss.length<2^62):À 116 #[yD p n c,v] V λr W=>r=Ô .i64 (n_ ss t):=by obtain rfl:=hl.len;obtain ⟨_,_,_,_,_,_,rfl⟩:=ht.shape;refine Ec V _ ⟨λz V'=>0<=z/\z<=ss.length/\n_ ss t=n_ (ss.drop z.toNat) t,λz=>(ss.length-z).toNat,⟨0,σ,ω,ω,rfl⟩,?_⟩;rintro z G q ⟨H,I,g⟩;refine ⟨rfl,λj=>?_,λj J K=>?_⟩;{have j:=Á j;obtain ⟨i,rfl⟩:∃i:Nat,z=i:=⟨z.toNat,ω⟩;have m:i<ss.length:=ω;rw [ß] at g ⊢;have w:i64.wrap ((i:Int)+1)=(i:Int)+1:=aq ω;rw [w];have o:=hs _ (ò m);obtain ⟨u,d,xs,⟨L,pp,M,N,x,y,A,O,P,Q,R,B,C,D,ex,S,T⟩,f⟩:=(hl.le q).at_ i m;have ex:=Æ Array.toList (Value.agg.inj ex);dsimp only at ex;subst ex;rw [ī m] at g;generalize ss[i]=s at *;simp only [n_] at g;refine ⟨aW d,⟨ω,j⟩,_,_,_,_,_,_,_,_,_,_,_,_,_,_,s.a,s.b,u,by rw [d],f 0 _ rfl,f 1 _ rfl,f 2 _ rfl,f 3 _ rfl,f 4 _ rfl,f 5 _ rfl,f 6 _ rfl,f 7 _ rfl,λz _=>z=s.la t,⟨λh V2 U=>(dR ra ra st o.1).s ?_,λh=>⟨1,σ,?_⟩⟩,?_⟩;{rintro r W X rfl;exact ⟨_,rfl,_,σ,by unfold Sp.la;rw [ŋ] at h;rw [h];rfl⟩};{unfold Sp.la;rw [Qm5] at h;rw [h];rfl};rintro Y Z l4 rfl;refine ⟨rfl,λz _=>z=s.lb t,⟨λh V5 l5=>(dR ra ra st o.2).s ?_,λh=>⟨-1,σ,?_⟩⟩,?_⟩;{rintro r V6 l6 rfl;exact ⟨_,rfl,_,σ,by unfold Sp.lb;rw [ŋ] at h;rw [h];rfl⟩};{unfold Sp.lb;rw [Qm5] at h;rw [h];rfl};rintro zb V7 l7 rfl;generalize s.la t=a at *;generalize s.lb t=b at *;refine ⟨rfl,λz _=>z=decide (0<a/\b<0),⟨λh=>⟨_,σ,?_⟩,λh=>⟨_,σ,?_⟩⟩,?_⟩;{have h:=Á h;simp [h]};{have h:=Â h;simp [h]};rintro z9 V8 l8 rfl;refine ⟨rfl,λh V9 l9=>?_,λh=>⟨λz _=>z=decide ((a=0/\b<=0)\/(b=0/\0<=a)),⟨λd=>⟨λl=>⟨_,σ,?_⟩,λl=>⟨λe=>⟨_,σ,?_⟩,λe=>⟨_,σ,?_⟩⟩⟩,λd=>⟨λe=>⟨_,σ,?_⟩,λe=>⟨_,σ,?_⟩⟩⟩,?_⟩⟩;{have h:=Á h;rw [g];simp [yo,h]};{simp at d l;simp [d,l]};{simp at d l e;simp [d,e]};{simp at d l e;simp;omega};{simp at d e;simp [d,e]};{simp at d e;simp [d,e]};rintro E eV F rfl;have h:=Â h;refine ⟨rfl,λh' eW cU=>?_,λh'=>⟨(i:Int)+1,ω,σ,ω,ω,?_⟩⟩;{have h':=Á h';rw [g];have:yo a b=1:=by{unfold yo;rw [Ã h,Ä h']};rw [this];rfl};have h':=Â h';have:yo a b=0:=by{unfold yo;rw [Ã h,Ã h']};rw [g,this];show _=n_ (ss.drop ((i:Int)+1).toNat) t;grind};have j:=Â j;rw [g,show z.toNat=ss.length from by omega,Qr7];rfl
theorem cmpQ_swap (x y:Rat):ç y x=- ç x y:=by unfold ç;rw [show y-x=-(x-y) from χ];exact Int.sign_neg _
theorem To (s:Sp)(t:Rat):decide (n_ [s] t>0)=s.has t:=by obtain ⟨c,d,a,b⟩:=s;have f:=cmpQ_swap c t;have g:=cmpQ_swap d t;have key:n_ [⟨c,d,a,b⟩] t>0↔0<=(⟨c,d,a,b⟩:Sp).la t/\(⟨c,d,a,b⟩:Sp).lb t<=0:=by{simp only [n_];unfold yo;generalize Sp.la _ t=x;generalize Sp.lb _ t=y;repeat' split;(all_goals omega)};have e:decide (n_ [⟨c,d,a,b⟩] t>0)=decide (0<=(⟨c,d,a,b⟩:Sp).la t/\(⟨c,d,a,b⟩:Sp).lb t<=0):=by{rw [É];exact key};rw [e,ĵ,Ñ];unfold Sp.has Sp.la Sp.lb;cases a<;>cases b<;>simp<;>omega
theorem J3 {w:un}{l:L3}{s:Sp}(h:RF V v l s)(hp:RP V w x y)(hz:Nz l)(sl:iL k l)(hs:s.sz k)(s1:Sz k x)(s2:Sz k y)(hk:20*k+20<2^38:=by omega):À 48 #[v,w] V λr W=>r=gF (tQ l s x y):=by have f:=hp;obtain ⟨M,N,O,P,Q,R,S,T,U,W,X,Y,b,p,n,c,Z,n',c',d,q,m,e,q',m',e',rfl,B,E⟩:=h;obtain ⟨_,_,_,_,_,_,_,_,_,_,_,_,_,_,rfl⟩:=f_ hp;refine Jm V _ λV1 o=>(yO (B.le o) (f.le o) sl s1 s2).s ?_;rintro r V2 u rfl;refine ⟨_,rfl,λa V3 z=>(pQ (B.le (o.m (u.m z))) (f.le (o.m (u.m z))) hz sl s1 s2).s ?_,λa V8 l8=>?_⟩;{rw [Ë,gP] at a;rintro r V4 F g;have G:=g;obtain ⟨_,_,_,_,_,_,rfl⟩:=g.shape;refine qxQ ⟨rfl,λH C D A=>?_⟩;have I:MO H (some ⟨D,0,none⟩) 1 [s]:=by{refine ⟨rfl,λi K=>?_⟩;obtain rfl:i=0:=by{simpa using K};refine ⟨⟨D,0,none⟩,by simp [ae,add_zero'],_,E.le (o.m (u.m (z.m (F.m C)))),λj x L=>?_⟩;rw [add_zero'];exact dK A L};refine (uc I (G.le C) (k:=8*k+7) (by intro s' t;rw [ú] at t;subst t;exact ⟨Sz.s hs.1 ω,Sz.s hs.2 ω⟩) (xh sl s1 s2) ω ψ).s ?_;rintro r V6 l6 rfl;refine ⟨_,rfl,λJ V7 l7=>?_⟩;rw [To];simp [tQ,a]};rw [beq_eq_false_iff_ne,ne_eq,gP] at a;simp [tQ,a]
theorem BZ {q:Rat}(h:RQ V v q):À 77 #[v] V λr W=>RQ W r (-q):=by obtain ⟨p,n,c,d,e,f,rfl,a,b⟩:=h;exact nZ q a b
theorem VG {px py qx qy:Rat}:((qt px py qx qy).1.num/(cj (qt px py qx qy).1.num (qt px py qx qy).2.1.num (qt px py qx qy).2.2.num:Int),(qt px py qx qy).2.1.num/(cj (qt px py qx qy).1.num (qt px py qx qy).2.1.num (qt px py qx qy).2.2.num:Int),(qt px py qx qy).2.2.num/(cj (qt px py qx qy).1.num (qt px py qx qy).2.1.num (qt px py qx qy).2.2.num:Int))=nK px py qx qy:=by unfold qt nK CV CN;have e:∀x:Rat,(-x).den=x.den:=λx=>rfl;grind
theorem VH:((qt px py qx qy).1.num=0/\(qt px py qx qy).2.1.num=0)↔(px=qx/\py=qy):=by unfold qt;dsimp only;generalize u:(-(qy-py)).den*(qx-px).den*(-(-(qy-py)*px+(qx-px)*py)).den=f;have a:f≠0:=by{rw [<-u];exact Ņ (Ņ (Rat.den_nz _) (Rat.den_nz _)) (Rat.den_nz _)};have b:((f:Int):Rat)≠0:=by{exact_mod_cast a};grind [Rat.num_eq_zero]
theorem RZ {u w:un}(D:RP V u px py)(F:RP V w qx qy)(s1:Sz k px)(s2:Sz k py)(s3:Sz k qx)(s4:Sz k qy)(z:1<=k)(M:64*k+64<2^38:=by omega):À 55 #[u,w] V λr W=>(px=qx/\py=qy->∃l,r=ê #[l,gF false]/\RL W l 0 0 0)/\(¬(px=qx/\py=qy)->∃l,r=ê #[l,gF true]/\RL W l (nK px py qx qy).1 (nK px py qx qy).2.1 (nK px py qx qy).2.2):=by refine (kj D F s1 s2 s3 s4 z M).s ?_;rintro r V2 d ⟨a,b⟩;rw [VH] at a b;refine ⟨a,λh=>?_⟩;have ⟨l,c,g⟩:=b h;rw [<-(VG (px:=px) (py:=py) (qx:=qx) (qy:=qy))];exact ⟨l,c,g⟩
theorem Ae {u:un}(M:RP V u px py)(N:RP V v qx qy)(s1:Sz k px)(s2:Sz k py)(s3:Sz k qx)(s4:Sz k qy)(F:1<=k)(O:400*k+400<2^38:=by omega):À 196 #[u,v] V λr W=>(px=qx/\py=qy->∃l,r=ê #[l,gF false]/\RF W l (0,0,0) Sp.zero)/\(¬(px=qx/\py=qy)->∃l,r=ê #[l,gF true]/\RF W l (nK px py qx qy) (Oh px py qx qy)):=by have e:=M;have f:=N;obtain ⟨_,_,_,_,_,_,_,_,_,_,_,_,_,_,rfl⟩:=f_ M;obtain ⟨_,_,_,_,_,_,_,_,_,_,_,_,_,_,rfl⟩:=f_ N;refine zd V _ λm n=>(RZ ra ra s1 s2 s3 s4 F).s ?_;rintro r V2 o ⟨g,i⟩;by_cases h:px=qx/\py=qy;{obtain ⟨l,rfl,a⟩:=g h;obtain ⟨_,_,_,_,_,_,_,_,_,_,_,_,rfl⟩:=Dk a;have z:∀V:ut,RQ V (dB #[gF false,yD none 0 0,yD none 0 0]) 0:=λV=>by{have:=RQ.zero (V:=V);simpa using this};refine ⟨_,_,_,_,_,_,_,_,_,_,_,_,_,rfl,λ_ p q=>⟨λ_=>⟨_,rfl,?_⟩,λh'=>Å h h'⟩,λh=>nomatch h⟩;exact ⟨_,_,_,_,_,_,_,_,_,_,_,_,_,_,_,_,_,_,_,_,_,_,_,_,_,_,rfl,⟨_,_,_,_,_,_,_,_,_,rfl,RD.nil,RD.nil,RD.nil⟩,_,_,_,_,_,_,_,_,_,_,_,_,_,_,rfl,z _,z _⟩};obtain ⟨l,rfl,a⟩:=i h;have b:=a;have sl:=IX s1 s2 s3 s4 h;have nz:=Qn h;obtain ⟨_,_,_,_,_,_,_,_,_,_,_,_,rfl⟩:=Dk a;refine ⟨_,_,_,_,_,_,_,_,_,_,_,_,_,rfl,π,λ_ s t=>(pQ ra ra nz sl (Sz.s s1 ω) (Sz.s s2 ω)).s λr w x c=>RQ.ex c λ_ c=>λy A=>(pQ ra ra nz sl (Sz.s s3 ω) (Sz.s s4 ω)).s λr B C d=>RQ.ex d λ_ d=>λD j=>⟨λh'=>Å h' h,λ_=>⟨_,rfl,?_⟩⟩⟩;exact ⟨_,_,_,_,_,_,_,_,_,_,_,_,_,_,_,_,_,_,_,_,_,_,_,_,_,_,rfl,b.le au,_,_,_,_,_,_,_,_,_,_,_,_,_,_,rfl,c.le au,d.le j⟩
theorem Gi (h:RD V p n c ds)(hm:ds.length<=2^40:=by omega):À 285 #[yD p n c] V λr W=>∃u z c1,r=yD u z c1/\RN W u z c1 (val ds):=by have a:=h.len;refine OU V _ ⟨aO ds,h.sl,by simp [a],ω,ω,ψ,by simp [a],?_,?_⟩;{intro v e;simp only [aO,ÿ] at e;obtain ⟨d,-,rfl⟩:=e;rfl};intro j J sp l f m o q b i;simp only [č] at i f ⊢;refine (eF (Ķ h.gT a f i)).s ?_;rintro r V2 s ⟨k,rfl,g⟩;grind [bf,h.gT,g.le]
theorem QM (b:md)(h:RD V p n c ds)(hm:ds.length<=2^40:=by omega):À 286 #[dB #[gF b,yD p n c]] V λr W=>RI W r (bK b ds):=by refine OT V _ λe f=>(Gi ra hm).s ?_;rintro r V2 i ⟨j,k,l,rfl,g⟩;refine ⟨_,_,_,rfl,λm o=>(di b ra).s ?_⟩;rintro r q s ⟨t,u,v,rfl,a⟩;exact qyK ⟨rfl,λw d=>⟨_,_,_,rfl,a.le d⟩⟩
theorem T5 {b:md}(h:cR ds):(ah (bK b ds).natAbs).length<=ds.length:=by rw [fW];exact bJ h
theorem QN {b:md}{xs ys:zA Nat}(h:Ww V v b xs ys)(N:xs.length<=2^38)(O:ys.length<=2^38:=by omega):À 250 #[v] V λr W=>RQ W r (Va b xs ys):=by obtain ⟨p,n,c,q,m,e,rfl,i,j⟩:=h;have d1:=T5 (b:=b) i.gT;have d2:=bJ j.gT;refine OV V _ λs t=>(Gi ra).s ?_;rintro r V2 u ⟨w,d,x,rfl,g⟩;have f:=g.len;refine ⟨_,_,_,rfl,λa y z=>?_,λa A B=>(QM b ra).s ?_⟩;{have a:((d:Nat):Int)=0:=by{simpa using a};have:ah (val ys)=[]:=Ĥ.1 ω;have:val ys=0:=bS.1 this;unfold Va;grind [Rat.mkRat_zero,RQ.zero]};have l:val ys≠0:=λe=>by{rw [e] at f;have a:¬((d:Nat):Int)=0:=by{simpa using a};exact a (by rw [f];rfl)};rintro r C D ⟨E,F,G,rfl,H⟩;refine qyK ⟨rfl,λI J=>(lJ _ ra ra ω ω l).s λr K L k=>RQ.ex k λ_ k=>λM o=>k.le o⟩
theorem TJ {l:L3}{s:Sp}(h:Z6 V v l s):∃b1 u z c1 D F M N O Z n3 c3 b p n c p' n' c' d q m e q' m' e',
 v=dB #[gF b1,yD u z c1,gF D,yD F M N,gF O,yD Z n3 c3,gF b,yD p n c,yD p' n' c',gF d,yD q m e,yD q' m' e',gF s.a,gF s.b]:=by obtain ⟨_,_,_,_,_,_,_,_,_,_,_,_,_,_,_,_,_,_,_,_,_,_,_,_,_,_,e,-⟩:=h;exact ⟨_,_,_,_,_,_,_,_,_,_,_,_,_,_,_,_,_,_,_,_,_,_,_,_,_,_,e⟩
theorem YG (s1:Sz k px)(s2:Sz k py)(s3:Sz k qx)(s4:Sz k qy)(h:¬(px=qx/\py=qy)):(Oh px py qx qy).sz (400*k+400):=by have sl:=IX s1 s2 s3 s4 h;exact ⟨Sz.s (xh sl (Sz.s s1 ω) (Sz.s s2 ω)) ω,Sz.s (xh sl (Sz.s s3 ω) (Sz.s s4 ω)) ω⟩
theorem Ql:Sz 2 (((2:Int):Rat)):=⟨by show (2:Int).natAbs<_;decide,by show (1:Nat)<_;decide⟩
theorem jV:Sz 2 (((1:Int):Rat)):=⟨by show (1:Int).natAbs<_;decide,by show (1:Nat)<_;decide⟩
theorem uK (h:RQ V v x)(u:Sz k x)(z:k+2<2^38:=by omega):À 200 #[v] V λr W=>RQ W r (x*((2:Int):Rat)⁻¹):=by obtain ⟨_,_,_,_,_,_,rfl⟩:=h.shape;refine Me V _ λb c=>(dM 2 φ φ).s λr V2 d g=>RQ.ex g λ_ g=>λe f=>(jo ra ra (by show (2:Int)≠0;decide) u Ql z).s λr i j q=>RQ.ex q λ_ q=>λl a=>q.le a
theorem Gh {w:un}(h:RQ V v x)(h':RQ V w y)(u:Sz k x)(z:Sz k y)(D:4*k+4<2^38:=by omega):À 140 #[v,w] V λr W=>RQ W r ((x+y)*((2:Int):Rat)⁻¹):=by obtain ⟨_,_,_,_,_,_,rfl⟩:=h.shape;obtain ⟨_,_,_,_,_,_,rfl⟩:=h'.shape;refine ON V _ λb c=>(eE ra ra u z ω).s λr V2 d g=>RQ.ex g λ_ g=>λe f=>(uK ra (u.add z)).s λr i j q=>RQ.ex q λ_ q=>λl a=>q.le a
theorem YF {s:Sp}(ss:s.sz k):Sz (2*k+10) s.rX:=by have z:Sz (2*k+10) (0:Rat):=⟨by show (0:Int).natAbs<_;exact ł φ (Nat.one_le_two_pow),Qf1 ω⟩;unfold Sp.rX;split;{split;{exact z};exact (ss.2.sub jV).s ω};split;{exact (ss.1.add jV).s ω};exact ((ss.1.add ss.2).mul (iA Ql)).s ω
theorem B6 {s:Sp}(h:oO V v s)(ss:s.sz k)(Z:4*k+4<2^38:=by omega):À 195 #[v] V λr W=>RQ W r s.rX:=by obtain ⟨b,p,n,c,u,w,z,d,q,m,e,A,B,C,rfl,M,N⟩:=h;have D:s.a=true->s.b=true->s.rX=0:=λx y=>by{simp [Sp.rX,x,y]};have E:s.a=true->s.b=false->s.rX=s.hi-((1:Int):Rat):=λx y=>by{simp [Sp.rX,x,y]};have F:s.a=false->s.b=true->s.rX=s.lo+((1:Int):Rat):=λx y=>by{simp [Sp.rX,x,y]};have G:s.a=false->s.b=false->s.rX=(s.lo+s.hi)*((2:Int):Rat)⁻¹:=λx y=>by{simp [Sp.rX,x,y]};have no:∀{P:Prop},s.a=true->s.a=false->P:=λx y=>by{rw [x] at y;cases y};refine AQ V _ ⟨λf=>⟨λi H O=>?_,λi=>⟨λ_ V2 Q=>(dM 1 φ φ).s ?_,λe=>no f e⟩⟩,λf=>⟨λe=>no e f,λ_=>⟨λi R S=>(dM 1 φ φ).s ?_,λi T U=>(Gh ra ra ss.1 ss.2 Z).s ?_⟩⟩⟩;{rw [D f i];have:=RQ.zero (V:=H);simpa using this};{rw [E f i];rintro r I J g;obtain ⟨_,_,_,_,_,_,rfl⟩:=g.shape;refine qxQ ⟨rfl,λK L=>(iB ra ra ss.2 jV).s λr l o q=>RQ.ex q λ_ q=>λt j=>q.le j⟩};{rw [F f i];rintro r I J g;obtain ⟨_,_,_,_,_,_,rfl⟩:=g.shape;refine qxQ ⟨rfl,λK L=>(eE ra ra ss.1 jV ω).s λr l o q=>RQ.ex q λ_ q=>λt j=>q.le j⟩};rw [G f i];rintro r l o q;obtain ⟨_,_,_,_,_,_,rfl⟩:=q.shape;exact qxQ ⟨rfl,λt j=>q.le j⟩
theorem hU {w:un}{D F:Rat}(h:RP V v x y)(h':RP V w D F){k:Nat}(s1:Sz k x)(s2:Sz k y)(s3:Sz k D)(s4:Sz k F)(M:4*k+4<2^38:=by omega):À 135 #[v,w] V λr W=>RQ W r (x*F-y*D):=by obtain ⟨_,_,_,_,_,_,_,_,_,_,_,_,rfl,c,d⟩:=h;obtain ⟨_,_,_,_,_,_,_,_,_,_,_,_,rfl,e,f⟩:=h';refine D7 V _ λi j=>(bH ra ra s1 s4 ω).s λr V2 l g=>RQ.ex g λ_ g=>λm n=>(bH ra ra s2 s3 ω).s ?_;rintro r o p a;obtain ⟨_,_,_,_,_,_,rfl⟩:=a.shape;refine qxQ ⟨rfl,λs t=>(iB ra ra (s1.mul s4) (s2.mul s3)).s λr u z q=>RQ.ex q λ_ q=>λA b=>q.le b⟩
end Go.Proofs.Tryz
