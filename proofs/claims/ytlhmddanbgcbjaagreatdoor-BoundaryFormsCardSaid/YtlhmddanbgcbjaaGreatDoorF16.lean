import Derived.Test.YtlhmddanbgcbjaaGreatDoorF14
import Derived.Test.YtlhmddanbgcbjaaGreatDoorF8
set_option linter.all false
open Go.IntKind (i64 u64 u32)
open Go.Eng Go.Big
namespace Go.Proofs.Tryz
open Go.Value renaming slice→zF,agg→hF,bool→dB,pointer→dS,tuple→tN,int→Ô
variable{V:Ó}{k n:Nat}{ad:Addr}{p:OA}
theorem mw {v:un}(h:O5 V v false [] []):À 96 #[v] V λr V'=>r=dB true:=by obtain ⟨p,n,c,q,m,e,rfl,a,b⟩:=h;obtain rfl:=a.len;obtain rfl:=b.len;exact EZ V _ ⟨λ_=>⟨λ_ d f=>rfl,κ⟩,κ⟩
theorem GY {v w:un}{s:Sp}(h:X_ V v s)(h':X_ V w s)(hs:s.sz k)(hk:k<=2^40):À 45 #[v,w] V λr V'=>r=dB true:=by obtain ⟨lo,hi,a,b⟩:=s;obtain ⟨b1,p,n,c,p',n',c',d,q,m,e,N,O,P,rfl,H,I⟩:=h;obtain ⟨b2,i,j,t,i',j',t',f,o,u,g,Q,R,S,rfl,J,K⟩:=h';dsimp only at H I J K ⊢;refine EW V _ ⟨λ_=>⟨λ_=>?_,(by intro h;simp at h)⟩,(by intro h;simp at h)⟩;have T:∀x:ut,V.Le x->b=true->À 96 #[hF #[dB d,zF q m e,zF N O P]] x λr V'=>r=dB true:=λx z l=>mw ((I.1 l).le z);have D:∀x:ut,V.Le x->b=true->À 96 #[hF #[dB f,zF o u g,zF Q R S]] x λr V'=>r=dB true:=λx z l=>mw ((K.1 l).le z);have U:∀x:ut,V.Le x->b=false->À 97 #[hF #[dB d,zF q m e,zF N O P],hF #[dB f,zF o u g,zF Q R S]] x λr V'=>r=dB true:=λx z l=>(sE ((I.2 l).le z) ((K.2 l).le z) hs.2 hk).s λr B _ h=>by{rw [h];simp};(cases a with|true=>{refine ⟨λ_ Y C=>(mw ((H.1 rfl).le C)).s ?_,κ⟩;rintro r V2 W rfl;refine ⟨_,rfl,λ_ V3 X=>(mw ((J.1 rfl).le (C.m (W.m X)))).s ?_,κ⟩;rintro r x z rfl;have L:=C.m (W.m (X.m z));refine ⟨_,rfl,λ_=>⟨λl B A=>(T B (L.m A) l).s ?_,λl=>⟨λ_ B A=>(U B (L.m A) l).s ?_,λy=>by rw [l] at y;cases y⟩⟩,κ⟩;{rintro r M E rfl;refine ⟨_,rfl,λ_ F G=>(D F (L.m (A.m (E.m G))) l).s ?_,κ⟩;rintro r Z l8 rfl;exact ⟨_,rfl,λ_ V9 l9=>rfl,κ⟩};{rintro r M E rfl;exact ⟨_,rfl,λF G=>rfl⟩}}|false=>{refine ⟨κ,λ_=>⟨λ_ Y C=>(sE ((H.2 rfl).le C) ((J.2 rfl).le C) hs.1 hk).s ?_,κ⟩⟩;rintro r x z rfl;have L:=C.m z;refine ⟨_,rfl,λ_=>⟨λl B A=>(T B (L.m A) l).s ?_,λl=>⟨λ_ B A=>(U B (L.m A) l).s ?_,λy=>by rw [l] at y;cases y⟩⟩,(by intro h;simp at h)⟩;{rintro r M E rfl;refine ⟨_,rfl,λ_ F G=>(D F (L.m (A.m (E.m G))) l).s ?_,κ⟩;rintro r Z l8 rfl;exact ⟨_,rfl,λ_ V9 l9=>rfl,κ⟩};{rintro r M E rfl;exact ⟨_,rfl,λF G=>rfl⟩}})
theorem iH.ah {l:L3}(h:iH k l)(hk:k<=2^40):(ah l.1.natAbs).length<=2^40/\(ah l.2.1.natAbs).length<=2^40/\(ah l.2.2.natAbs).length<=2^40:=by have d1:=ag (show l.1.natAbs<2^k from h.1.1);have d2:=ag (show l.2.1.natAbs<2^k from h.2.1.1);have d3:=ag (show l.2.2.natAbs<2^k from h.2.2.1);exact ⟨ω,ω,ω⟩
def FAt (V:Ó)(ad:Addr)(l:L3)(s:Sp):Prop:=∃xs:List Value,O4 V (.agg xs.toArray) l s/\∀i x,xs[i]?=some x->V.at (ad.add i) x
theorem FAt.le {V V':ut}{l:L3}{s:Sp}(h:FAt V ad l s)(e:V.Le V'):FAt V' ad l s:=by obtain ⟨xs,a,b⟩:=h;exact ⟨xs,a.le e,λi x c=>e.at (b i x c)⟩
structure y_ (V:Ó) (p:OA) (n:Nat) (fs:List (L3×Sp)):Prop where
 len:n=fs.length
 at_:∀(i:Nat)(h:i<fs.length),∃ad,ae p (i*14)=some ad/\FAt V ad fs[i].1 fs[i].2
theorem y_.le {V V':ut}{fs:pz (L3×Sp)}(h:y_ V p n fs)(e:V.Le V'):y_ V' p n fs:=⟨h.len,λi a=>by have ⟨b,c,d⟩:=h.at_ i a;exact ⟨b,c,d.le e⟩⟩
theorem aQ {j:Nat}(h:ae p j=some ad):p.isSome=true:=by (cases p with|none=>{cases h}|some a=>rfl)
theorem su {q:OA}{c m e:Nat}{fs:pz (L3×Sp)}(hp:y_ V p n fs)(hq:y_ V q m fs)(sz:∀f∈fs,iH k f.1/\f.2.sz k)(hk:k<=2^40)(hn:fs.length<2^62:=by omega):À 20 #[zF p n c,zF q m e] V λr V'=>r=dB true:=by obtain rfl:=hp.len;obtain rfl:=hq.len;refine Ad V _ ⟨(by intro h;simp at h),λ_=>⟨λz V'=>0<=z/\z<=fs.length,λz=>(fs.length-z).toNat,⟨0,σ,ω,ω⟩,?_⟩⟩;rintro z V2 D ⟨z0,z1⟩;refine ⟨rfl,λg=>?_,λg V9 l9=>rfl⟩;have g:=Á g;obtain ⟨i,rfl⟩:∃i:Nat,z=i:=⟨z.toNat,ω⟩;have v:i<fs.length:=ω;rw [Ý];have w:i64.wrap ((i:Int)+1)=(i:Int)+1:=au ω;rw [w];have ⟨s1,s2⟩:=sz _ (ù v);obtain ⟨y,A,xs,⟨b1,p1,n1,c1,b2,p2,n2,c2,b3,p3,n3,c3,bb,pp,nn,cc,N,O,P,dd,qq,mm,ee,Q,R,S,ex,T,U⟩,l⟩:=(hp.le D).at_ i v;obtain ⟨o,s,ys,⟨W,X,Y,Z,a0,a1,a2,a3,a4,a5,a6,a7,a8,a9,b0,b4,E,F,G,b5,b6,b7,b8,H,I,J,u,h3,h4⟩,t⟩:=(hq.le D).at_ i v;have ex:=Æ Array.toList (Value.agg.inj ex);have u:=Æ Array.toList (Value.agg.inj u);dsimp only at ex u;subst ex u;have d:=s1.ah hk;rw [A,s];refine ⟨aQ A,⟨ω,g⟩,rfl,_,_,_,_,_,_,_,_,_,_,_,_,y.add 0,rfl,l 0 _ rfl,l 1 _ rfl,l 2 _ rfl,l 3 _ rfl,l 4 _ rfl,l 5 _ rfl,aQ s,⟨ω,g⟩,rfl,_,_,_,_,_,_,_,_,_,_,_,_,o.add 0,rfl,t 0 _ rfl,t 1 _ rfl,t 2 _ rfl,t 3 _ rfl,t 4 _ rfl,t 5 _ rfl,λV3 B=>(sF (T.le B) (h3.le B) d.1 d.2.1 d.2.2).s ?_⟩;rintro r K l4 rfl;have L:=B.m l4;have a:∀j x,_->K.at ((y.add 6).add j) x:=λj x C=>by{rw [fX];exact L.at (l (6+j) x C)};have b:∀j x,_->K.at ((o.add 6).add j) x:=λj x C=>by{rw [fX];exact L.at (t (6+j) x C)};refine ⟨_,rfl,(by intro h;simp at h),λ_=>⟨aQ A,⟨ω,g⟩,rfl,_,_,_,_,_,_,_,_,_,_,_,_,_,_,_,_,y.add 6,rfl,a 0 _ rfl,a 1 _ rfl,a 2 _ rfl,a 3 _ rfl,a 4 _ rfl,a 5 _ rfl,a 6 _ rfl,a 7 _ rfl,aQ s,⟨ω,g⟩,rfl,_,_,_,_,_,_,_,_,_,_,_,_,_,_,_,_,o.add 6,rfl,b 0 _ rfl,b 1 _ rfl,b 2 _ rfl,b 3 _ rfl,b 4 _ rfl,b 5 _ rfl,b 6 _ rfl,b 7 _ rfl,λV6 M=>(GY (U.le (L.m M)) (h4.le (L.m M)) s2 hk).s λr V7 l7 rfl=>⟨_,rfl,κ,λ_=>⟨(i:Int)+1,by dsimp only;omega,σ,ω,ω⟩⟩⟩⟩
def SAt (V:Ó)(ad:Addr)(s:Sp):Prop:=∃xs:List Value,pU V (.agg xs.toArray) s/\∀i x,xs[i]?=some x->V.at (ad.add i) x
theorem SAt.le {V V':ut}{s:Sp}(h:SAt V ad s)(e:V.Le V'):SAt V' ad s:=by obtain ⟨xs,a,b⟩:=h;exact ⟨xs,a.le e,λi x c=>e.at (b i x c)⟩
structure NL (V:Ó) (p:OA) (n:Nat) (ss:List Sp):Prop where
 len:n=ss.length
 at_:∀(i:Nat)(h:i<ss.length),∃ad,ae p (i*8)=some ad/\SAt V ad ss[i]
theorem NL.le {V V':ut}{ss:pz Sp}(h:NL V p n ss)(e:V.Le V'):NL V' p n ss:=⟨h.len,λi a=>by have ⟨b,c,d⟩:=h.at_ i a;exact ⟨b,c,d.le e⟩⟩
def zu (a b:Int):Int:=if 0<a/\b<0 then 2 else if (a=0/\b<=0)\/(b=0/\0<=a) then 1 else 0
def Sp.la (s:Sp)(t:Rat):Int:=if s.a then 1 else dO t s.lo
def Sp.lb (s:Sp)(t:Rat):Int:=if s.b then -1 else dO t s.hi
variable{V:Ó}{p:OA}{c i k n y:Nat}{v:Value}{ss:List Sp}{px py q qx qy x:Rat}{ds:List Nat}{xs:List Value}{l:L3}
def rV:List Sp->Rat->Int
 | [],_=>0
 | s::r,t=>if zu (s.la t) (s.lb t)≠0 then zu (s.la t) (s.lb t) else rV r t
theorem D8 {t:Rat}(hl:NL V p n ss)(ht:RQ V v t)(hs:∀s∈ss,s.sz k)(st:Sz k t)(hk:2*k<2^38)(hn:ss.length<2^62):À 279 #[zF p n c,v] V λr V'=>r=Ô .i64 (rV ss t):=by obtain rfl:=hl.len;obtain ⟨_,_,_,_,_,_,rfl⟩:=ht.shape;refine Dz V _ ⟨λz V'=>0<=z/\z<=ss.length/\rV ss t=rV (ss.drop z.toNat) t,λz=>(ss.length-z).toNat,⟨0,σ,ω,ω,rfl⟩,?_⟩;rintro z M o ⟨N,O,g⟩;refine ⟨rfl,λl=>?_,λl P Q=>?_⟩;{have l:=Á l;obtain ⟨i,rfl⟩:∃i:Nat,z=i:=⟨z.toNat,ω⟩;have q:i<ss.length:=ω;rw [Ý] at g ⊢;have w:i64.wrap ((i:Int)+1)=(i:Int)+1:=au ω;rw [w];have u:=hs _ (ù q);obtain ⟨B,d,xs,⟨R,pp,S,T,C,D,E,U,W,X,Y,F,G,H,ex,I,J⟩,f⟩:=(hl.le o).at_ i q;have ex:=Æ Array.toList (Value.agg.inj ex);dsimp only at ex;subst ex;rw [Ħ q] at g;generalize ss[i]=s at *;simp only [rV] at g;refine ⟨aQ d,⟨ω,l⟩,_,_,_,_,_,_,_,_,_,_,_,_,_,_,s.a,s.b,B,by rw [d],f 0 _ rfl,f 1 _ rfl,f 2 _ rfl,f 3 _ rfl,f 4 _ rfl,f 5 _ rfl,f 6 _ rfl,f 7 _ rfl,λz _=>z=s.la t,⟨λh V2 x=>(fB (ht.le (o.m x)) (I.le x) st u.1).s ?_,λh=>⟨1,σ,?_⟩⟩,?_⟩;{rintro r Z l3 rfl;exact ⟨_,rfl,_,σ,by unfold Sp.la;rw [Ĥ] at h;rw [h];rfl⟩};{unfold Sp.la;rw [ł] at h;rw [h];rfl};rintro za V4 y rfl;refine ⟨rfl,λz _=>z=s.lb t,⟨λh V5 A=>(fB (ht.le (o.m (y.m A))) (J.le (y.m A)) st u.2).s ?_,λh=>⟨-1,σ,?_⟩⟩,?_⟩;{rintro r V6 l6 rfl;exact ⟨_,rfl,_,σ,by unfold Sp.lb;rw [Ĥ] at h;rw [h];rfl⟩};{unfold Sp.lb;rw [ł] at h;rw [h];rfl};rintro zb V7 l7 rfl;generalize s.la t=a at *;generalize s.lb t=b at *;refine ⟨rfl,λz _=>z=decide (0<a/\b<0),⟨λh=>⟨_,σ,?_⟩,λh=>⟨_,σ,?_⟩⟩,?_⟩;{have h:=Á h;simp [h]};{have h:=Â h;simp [h]};rintro z9 V8 l8 rfl;refine ⟨rfl,λh V9 l9=>?_,λh=>⟨λz _=>z=decide ((a=0/\b<=0)\/(b=0/\0<=a)),⟨λd=>⟨λm=>⟨_,σ,?_⟩,λm=>⟨λe=>⟨_,σ,?_⟩,λe=>⟨_,σ,?_⟩⟩⟩,λd=>⟨λe=>⟨_,σ,?_⟩,λe=>⟨_,σ,?_⟩⟩⟩,?_⟩⟩;{have h:=Á h;rw [g];simp [zu,h]};{simp at d m;simp [d,m]};{simp at d m e;simp [d,e]};{simp at d m e;simp [d,e];omega};{simp at d e;simp [d,e]};{simp at d e;simp [d,e]};rintro K fW L rfl;have h:=Â h;refine ⟨rfl,λj fk bw=>?_,λj=>⟨(i:Int)+1,by dsimp only;omega,σ,ω,ω,?_⟩⟩;{have j:=Á j;rw [g];have:zu a b=1:=by{unfold zu;rw [Ã h,Ä j]};rw [this];rfl};{have j:=Â j;have:zu a b=0:=by{unfold zu;rw [Ã h,Ã j]};rw [g,this];show _=rV (ss.drop ((i:Int)+1).toNat) t;rw [show ((i:Int)+1).toNat=i+1 from ω];rfl}};{have l:=Â l;rw [g,show z.toNat=ss.length from ω,Wq4];rfl}
theorem PE (x y:Rat):dO y x=- dO x y:=by unfold dO;rw [show y-x=-(x-y) from χ];exact Int.sign_neg _
theorem LS (h:RQ V v q):À 49 #[v] V λr V'=>RQ V' r (-q):=by obtain ⟨p,n,c,d,e,f,rfl,a,b⟩:=h;exact nq q a b
theorem UW {px py qx qy:Rat}:((pI px py qx qy).1.num/(cq (pI px py qx qy).1.num (pI px py qx qy).2.1.num (pI px py qx qy).2.2.num:Int),(pI px py qx qy).2.1.num/(cq (pI px py qx qy).1.num (pI px py qx qy).2.1.num (pI px py qx qy).2.2.num:Int),(pI px py qx qy).2.2.num/(cq (pI px py qx qy).1.num (pI px py qx qy).2.1.num (pI px py qx qy).2.2.num:Int))=mT px py qx qy:=by unfold pI mT Cg B_;have e:∀x:Rat,(-x).den=x.den:=λx=>rfl;rw [e (-(qy-py)*px+(qx-px)*py)];rfl
theorem UX:((pI px py qx qy).1.num=0/\(pI px py qx qy).2.1.num=0)↔(px=qx/\py=qy):=by unfold pI;dsimp only;generalize hf:(-(qy-py)).den*(qx-px).den*(-(-(qy-py)*px+(qx-px)*py)).den=f;have b:f≠0:=by{rw [<-hf];exact Ő (Ő (Rat.den_nz _) (Rat.den_nz _)) (Rat.den_nz _)};have a:((f:Int):Rat)≠0:=by{exact_mod_cast b};rw [Ŏ,Ŏ,Qh3,Qh3,or_iff_left a,or_iff_left a];exact XL.symm
theorem QH {u w:un}(hp:RP V u px py)(hq:RP V w qx qy)(s1:Sz k px)(s2:Sz k py)(s3:Sz k qx)(s4:Sz k qy)(hk1:1<=k)(hk:64*k+64<2^38:=by omega):À 30 #[u,w] V λr V'=>(px=qx/\py=qy->∃l,r=tN #[l,dB false]/\RL V' l 0 0 0)/\(¬(px=qx/\py=qy)->∃l,r=tN #[l,dB true]/\RL V' l (mT px py qx qy).1 (mT px py qx qy).2.1 (mT px py qx qy).2.2):=by refine (ka hp hq s1 s2 s3 s4 hk1 hk).s ?_;rintro r V2 d ⟨a,b⟩;rw [UX] at a b;refine ⟨a,λh=>?_⟩;have ⟨l,c,g⟩:=b h;rw [<-(UW (px:=px) (py:=py) (qx:=qx) (qy:=qy))];exact ⟨l,c,g⟩
theorem zk {u:un}(hp:RP V u px py)(hq:RP V v qx qy)(s1:Sz k px)(s2:Sz k py)(s3:Sz k qx)(s4:Sz k qy)(hk1:1<=k)(hk:400*k+400<2^38:=by omega):À 178 #[u,v] V λr V'=>(px=qx/\py=qy->∃l,r=tN #[l,dB false]/\RF V' l (0,0,0) Sp.zero)/\(¬(px=qx/\py=qy)->∃l,r=tN #[l,dB true]/\RF V' l (mT px py qx qy) (MY px py qx qy)):=by have b:=hp;have c:=hq;obtain ⟨_,_,_,_,_,_,_,_,_,_,_,_,_,_,rfl⟩:=vJ hp;obtain ⟨_,_,_,_,_,_,_,_,_,_,_,_,_,_,rfl⟩:=vJ hq;refine xZ V _ λw e=>(QH (b.le e) (c.le e) s1 s2 s3 s4 hk1).s ?_;rintro r V2 n ⟨s,t⟩;by_cases h:px=qx/\py=qy;{obtain ⟨l,rfl,f⟩:=s h;obtain ⟨_,_,_,_,_,_,_,_,_,_,_,_,rfl⟩:=CD f;have z:∀V:ut,RQ V (hF #[dB false,zF none 0 0,zF none 0 0]) 0:=λV=>by{have:=RQ.zero (V:=V);simpa using this};refine ⟨_,_,_,_,_,_,_,_,_,_,_,_,_,rfl,λ_ x y=>⟨λ_=>⟨_,rfl,?_⟩,λi=>Å h i⟩,λh=>nomatch h⟩;exact ⟨_,_,_,_,_,_,_,_,_,_,_,_,_,_,_,_,_,_,_,_,_,_,_,_,_,_,rfl,(qyJ ⟨rfl,RD.nil,RD.nil,RD.nil⟩),_,_,_,_,_,_,_,_,_,_,_,_,_,_,rfl,z _,z _⟩};{obtain ⟨l,rfl,f⟩:=t h;have a:=f;have sl:=HY s1 s2 s3 s4 h;have nz:=O1 h;obtain ⟨_,_,_,_,_,_,_,_,_,_,_,_,rfl⟩:=CD f;refine ⟨_,_,_,_,_,_,_,_,_,_,_,_,_,rfl,κ,λ_ A d=>(AH (a.le d) (b.le (e.m (n.m d))) nz sl (Sz.s s1) (Sz.s s2)).s ?_⟩;rintro r B j o;obtain ⟨_,_,_,_,_,_,rfl⟩:=o.shape;refine qyZ ⟨rfl,λC g=>(AH (a.le (d.m (j.m g))) (c.le (e.m (n.m (d.m (j.m g))))) nz sl (Sz.s s3) (Sz.s s4)).s ?_⟩;rintro r D p q;obtain ⟨_,_,_,_,_,_,rfl⟩:=q.shape;refine qyZ ⟨rfl,λE m=>⟨λi=>Å i h,λ_=>⟨_,rfl,?_⟩⟩⟩;exact ⟨_,_,_,_,_,_,_,_,_,_,_,_,_,_,_,_,_,_,_,_,_,_,_,_,_,_,rfl,a.le (d.m (j.m (g.m (p.m m)))),_,_,_,_,_,_,_,_,_,_,_,_,_,_,rfl,o.le (g.m (p.m m)),q.le m⟩}
theorem Fw (h:RD V p n c ds)(hm:ds.length<=2^40:=by omega):À 252 #[zF p n c] V λr V'=>∃p1 n1 c1,r=zF p1 n1 c1/\RN V' p1 n1 c1 (val ds):=by have a:=h.len;refine ND V _ ⟨aM ds,h.sl,by simp [a],ω,ω,ψ,by simp [a],?_,?_⟩;{intro v e;simp only [aM,ò] at e;obtain ⟨d,-,rfl⟩:=e;rfl};{intro l J sp m f o q s b i;simp only [ą,Ō,Qd4,ō] at i f ⊢;refine (ew (Ĭ h.gx a f i)).s ?_;rintro r V2 t ⟨k,rfl,g⟩;rw [aZ h.gx] at g;exact ⟨_,_,_,rfl,λu w j=>⟨_,_,_,rfl,g.le j⟩⟩}
theorem Px (b:md)(h:RD V p n c ds)(hm:ds.length<=2^40:=by omega):À 253 #[hF #[dB b,zF p n c]] V λr V'=>RI V' r (bF b ds):=by refine NC V _ λi a=>(Fw (h.le a) hm).s ?_;rintro r V2 j ⟨k,l,m,rfl,g⟩;refine ⟨_,_,_,rfl,λo d=>(fJ b (g.le d)).s ?_⟩;rintro r q s ⟨t,u,v,rfl,e⟩;exact qyQ ⟨rfl,λw f=>⟨_,_,_,rfl,e.le f⟩⟩
theorem S7 {b:md}(h:cV ds):(ah (bF b ds).natAbs).length<=ds.length:=by rw [fO];exact bo h
theorem Py {b:md}{xs ys:pz Nat}(h:O5 V v b xs ys)(m1:xs.length<=2^38)(m2:ys.length<=2^38:=by omega):À 218 #[v] V λr V'=>RQ V' r (Uo b xs ys):=by obtain ⟨p,n,c,q,m,e,rfl,d,f⟩:=h;have d1:=S7 (b:=b) d.gx;have d2:=bo f.gx;refine NF V _ λA i=>(Fw (f.le i)).s ?_;rintro r V2 t ⟨B,j,C,rfl,g⟩;have l:=g.len;refine ⟨_,_,_,rfl,λa u D=>?_,λa E o=>(Px b (d.le (i.m (t.m o)))).s ?_⟩;{have a:((j:Nat):Int)=0:=by{simpa using a};have:ah (val ys)=[]:=ĕ.1 ω;have:val ys=0:=bR.1 this;unfold Uo;rw [this,Rat.mkRat_zero];have:=RQ.zero (V:=u);simpa using this};{have w:val ys≠0:=λe=>by{rw [e] at l;have a:¬((j:Nat):Int)=0:=by{simpa using a};exact a (by rw [l];rfl)};rintro r F x ⟨G,H,I,rfl,y⟩;refine qyQ ⟨rfl,λJ s=>(oB _ (y.le s) (g.le (o.m (x.m s))) ω ω w).s ?_⟩;rintro r K L k;obtain ⟨_,_,_,_,_,_,rfl⟩:=k.shape;exact qyZ ⟨rfl,λM z=>k.le z⟩}
theorem FrSh.ex {s:Sp}(h:uB V v l s):∃(x1 x2:Int)(p:OA)(y1 y2:Int)(q:OA)(z1 z2:Int)(r:OA)(u1 u2:Int)(t:OA)(w1 w2:Int)(o:OA),
 v=hF #[Ô .i64 x1,Ô .i64 x2,dS p,Ô .i64 y1,Ô .i64 y2,dS q,Ô .i64 z1,Ô .i64 z2,dS r,Ô .i64 u1,Ô .i64 u2,dS t,Ô .i64 w1,Ô .i64 w2,dS o,dB s.a,dB s.b]:=by obtain ⟨_,_,_,_,_,_,_,_,_,_,_,_,_,_,_,e,-⟩:=h;exact ⟨_,_,_,_,_,_,_,_,_,_,_,_,_,_,_,e⟩
theorem qj {s:Sp}(h:O4 V v l s):∃b1 p1 n1 c1 b2 p2 n2 c2 b3 p3 n3 c3 b p n c p' n' c' d q m e q' m' e',
 v=hF #[dB b1,zF p1 n1 c1,dB b2,zF p2 n2 c2,dB b3,zF p3 n3 c3,dB b,zF p n c,zF p' n' c',dB d,zF q m e,zF q' m' e',dB s.a,dB s.b]:=by obtain ⟨_,_,_,_,_,_,_,_,_,_,_,_,_,_,_,_,_,_,_,_,_,_,_,_,_,_,e,-⟩:=h;exact ⟨_,_,_,_,_,_,_,_,_,_,_,_,_,_,_,_,_,_,_,_,_,_,_,_,_,_,e⟩
theorem XI (s1:Sz k px)(s2:Sz k py)(s3:Sz k qx)(s4:Sz k qy)(h:¬(px=qx/\py=qy)):(MY px py qx qy).sz (400*k+400):=by have sl:=HY s1 s2 s3 s4 h;exact ⟨Sz.s (OX sl (Sz.s s1) (Sz.s s2)),Sz.s (OX sl (Sz.s s3) (Sz.s s4))⟩
theorem Po {s:Sp}(h:O4 V v l s)(ho:U9 l s){k:Nat}(sl:iH k l)(hs:s.sz k)(hk:20*k+20<2^38:=by omega):À 21 #[v] V λr V'=>∃w,r=tN #[w,.nilIface]/\O4 V' w (Õ l) s.neg:=by obtain ⟨_,_,_,_,_,_,_,_,_,_,_,_,_,_,_,_,_,_,_,_,_,_,_,_,_,_,rfl⟩:=qj h;refine rY V _ λi a=>(Fk (h.le a) ho sl hs).s ?_;rintro r V2 j ⟨w,rfl,g⟩;obtain ⟨_,_,_,_,_,_,_,_,_,_,_,_,_,_,_,rfl⟩:=FrSh.ex g;refine ⟨_,_,_,_,_,_,_,_,_,_,_,_,_,_,_,_,_,_,rfl,κ,λ_ m b=>(GJ (g.le b) sl hs).s ?_⟩;rintro r n o f;obtain ⟨_,_,_,_,_,_,_,_,_,_,_,_,_,_,_,rfl⟩:=FrSh.ex f;refine ⟨_,_,_,_,_,_,_,_,_,_,_,_,_,_,_,_,_,rfl,λp c=>(IW (f.le c) sl.rev (Sp.TQ hs)).s ?_⟩;rintro r q t e;obtain ⟨_,_,_,_,_,_,_,_,_,_,_,_,_,_,_,_,_,_,_,_,_,_,_,_,_,_,rfl⟩:=qj e;exact ⟨_,_,_,_,_,_,_,_,_,_,_,_,_,_,_,_,_,_,_,_,_,_,_,_,_,_,_,_,rfl,λu d=>⟨_,rfl,e.le d⟩⟩
theorem OZ:Sz 2 (((2:Int):Rat)):=⟨by show (2:Int).natAbs<_;decide,by show (1:Nat)<_;decide⟩
theorem jM:Sz 2 (((1:Int):Rat)):=⟨by show (1:Int).natAbs<_;decide,by show (1:Nat)<_;decide⟩
theorem tF (h:RQ V v x)(sx:Sz k x)(hk:k+2<2^38:=by omega):À 160 #[v] V λr V'=>RQ V' r (x*((2:Int):Rat)⁻¹):=by obtain ⟨_,_,_,_,_,_,rfl⟩:=h.shape;refine K6 V _ λe b=>(dW 2 φ φ).s ?_;rintro r V2 c g;obtain ⟨_,_,_,_,_,_,rfl⟩:=g.shape;refine qyZ ⟨rfl,λf a=>(ji (h.le (b.m (c.m a))) (g.le a) (by show (2:Int)≠0;decide) sx OZ hk).s ?_⟩;rintro r i j q;obtain ⟨_,_,_,_,_,_,rfl⟩:=q.shape;exact qyZ ⟨rfl,λl d=>q.le d⟩
theorem Fv {w:un}{y:Rat}(h:RQ V v x)(h':RQ V w y)(sx:Sz k x)(sy:Sz k y)(hk:4*k+4<2^38:=by omega):À 104 #[v,w] V λr V'=>RQ V' r ((x+y)*((2:Int):Rat)⁻¹):=by obtain ⟨_,_,_,_,_,_,rfl⟩:=h.shape;obtain ⟨_,_,_,_,_,_,rfl⟩:=h'.shape;refine Nv V _ λd a=>(dM (h.le a) (h'.le a) sx sy).s ?_;rintro r V2 e g;obtain ⟨_,_,_,_,_,_,rfl⟩:=g.shape;refine qyZ ⟨rfl,λf b=>(tF (g.le b) (sx.add sy)).s ?_⟩;rintro r i j q;obtain ⟨_,_,_,_,_,_,rfl⟩:=q.shape;exact qyZ ⟨rfl,λl c=>q.le c⟩
theorem XH {s:Sp}(ss:s.sz k):Sz (2*k+10) s.gN:=by have z:Sz (2*k+10) (0:Rat):=⟨by show (0:Int).natAbs<_;exact ĳ φ (Nat.one_le_two_pow),Qf0 ω⟩;unfold Sp.gN;split;{split;{exact z};{exact (ss.2.sub jM).s ω}};{split;{exact (ss.1.add jM).s ω};{exact ((ss.1.add ss.2).mul (fA OZ)).s ω}}
theorem Bq {s:Sp}(h:pU V v s)(ss:s.sz k)(hk:4*k+4<2^38:=by omega):À 175 #[v] V λr V'=>RQ V' r s.gN:=by obtain ⟨b,p,n,c,C,D,E,d,q,m,e,F,G,H,rfl,t,u⟩:=h;have I:s.a=true->s.b=true->s.gN=0:=λx y=>by{simp [Sp.gN,x,y]};have J:s.a=true->s.b=false->s.gN=s.hi-((1:Int):Rat):=λx y=>by{simp [Sp.gN,x,y]};have K:s.a=false->s.b=true->s.gN=s.lo+((1:Int):Rat):=λx y=>by{simp [Sp.gN,x,y]};have L:s.a=false->s.b=false->s.gN=(s.lo+s.hi)*((2:Int):Rat)⁻¹:=λx y=>by{simp [Sp.gN,x,y]};have no:∀{P:Prop},s.a=true->s.a=false->P:=λx y=>by{rw [x] at y;cases y};refine Ae V _ ⟨λf=>⟨λi M S=>?_,λi=>⟨λ_ V2 N=>(dW 1 φ φ).s ?_,λe=>no f e⟩⟩,λf=>⟨λe=>no e f,λ_=>⟨λi T O=>(dW 1 φ φ).s ?_,λi U w=>(Fv (t.le w) (u.le w) ss.1 ss.2 hk).s ?_⟩⟩⟩;{rw [I f i];have:=RQ.zero (V:=M);simpa using this};{rw [J f i];rintro r Q o g;obtain ⟨_,_,_,_,_,_,rfl⟩:=g.shape;refine qyZ ⟨rfl,λR j=>(ir (u.le (N.m (o.m j))) (g.le j) ss.2 jM).s ?_⟩;rintro r z A q;obtain ⟨_,_,_,_,_,_,rfl⟩:=q.shape;exact qyZ ⟨rfl,λB l=>q.le l⟩};{rw [K f i];rintro r Q o g;obtain ⟨_,_,_,_,_,_,rfl⟩:=g.shape;refine qyZ ⟨rfl,λR j=>(dM (t.le (O.m (o.m j))) (g.le j) ss.1 jM).s ?_⟩;rintro r z A q;obtain ⟨_,_,_,_,_,_,rfl⟩:=q.shape;exact qyZ ⟨rfl,λB l=>q.le l⟩};{rw [L f i];rintro r z A q;obtain ⟨_,_,_,_,_,_,rfl⟩:=q.shape;exact qyZ ⟨rfl,λB l=>q.le l⟩}
theorem jE {w:un}{y x' y':Rat}(h:RP V v x y)(h':RP V w x' y'){k:Nat}(s1:Sz k x)(s2:Sz k y)(s3:Sz k x')(s4:Sz k y')(hk:4*k+4<2^38:=by omega):À 108 #[v,w] V λr V'=>RQ V' r (x*y'-y*x'):=by obtain ⟨_,_,_,_,_,_,_,_,_,_,_,_,rfl,f,i⟩:=h;obtain ⟨_,_,_,_,_,_,_,_,_,_,_,_,rfl,j,l⟩:=h';refine Du V _ λo a=>(aY (f.le a) (l.le a) s1 s4).s ?_;rintro r V2 c g;obtain ⟨_,_,_,_,_,_,rfl⟩:=g.shape;refine qyZ ⟨rfl,λp b=>(aY (i.le (a.m (c.m b))) (j.le (a.m (c.m b))) s2 s3).s ?_⟩;rintro r s m d;obtain ⟨_,_,_,_,_,_,rfl⟩:=d.shape;refine qyZ ⟨rfl,λt e=>(ir (g.le (b.m (m.m e))) (d.le e) (s1.mul s4) (s2.mul s3)).s ?_⟩;rintro r u z q;obtain ⟨_,_,_,_,_,_,rfl⟩:=q.shape;exact qyZ ⟨rfl,λA n=>q.le n⟩
theorem CE {qs:pz Rat}(h:bP 3 RQ V p n qs)(hi:i<qs.length):∃ad b p1 n1 c1 p2 n2 c2,ae p (i*3)=some ad/\RQ V (hF #[dB b,zF p1 n1 c1,zF p2 n2 c2]) qs[i]/\V.at (ad.add 0) (dB b)/\V.at (ad.add 1) (zF p1 n1 c1)/\V.at (ad.add 2) (zF p2 n2 c2):=by obtain ⟨ad,d,xs,-,c,a⟩:=h.at_ i hi;obtain ⟨p1,n1,c1,p2,n2,c2,e⟩:=c.shape;have e:=Æ Array.toList (Value.agg.inj e);dsimp only at e;subst e;exact ⟨ad,_,p1,n1,c1,p2,n2,c2,d,c,a 0 _ rfl,a 1 _ rfl,a 2 _ rfl⟩
theorem Br {t:Rat}(hl:NL V p n ss)(ht:RQ V v t)(hs:∀s∈ss,s.sz k)(st:Sz k t)(hk:2*k<2^38)(hn:ss.length<2^62:=by omega):À 251 #[zF p n c,v] V λr V'=>r=dB (rV ss t==2):=by obtain ⟨_,_,_,_,_,_,rfl⟩:=ht.shape;refine Ll V _ λb a=>(D8 (hl.le a) (ht.le a) hs st hk hn).s ?_;rintro r V2 d rfl;exact ⟨_,rfl,λe f=>rfl⟩
def Em (c:List Rat)(i:Nat):List Rat:=(c.getD 0 0-((1:Int):Rat))::(List.range (i-1)).map λk=>(c.getD k 0+c.getD (k+1) 0)*((2:Int):Rat)⁻¹
def dY (c:List Rat):List Rat:=if c.length=0 then [0] else Em c c.length++[c.getD (c.length-1) 0+((1:Int):Rat)]
theorem Cp (c:pz Rat)(h:1<=i):(Em c i).length=i:=by unfold Em;simp;omega
theorem Qx (c:pz Rat)(h:1<=i):Em c (i+1)=Em c i++[(c.getD (i-1) 0+c.getD i 0)*((2:Int):Rat)⁻¹]:=by obtain ⟨m,rfl⟩:∃m,i=m+1:=⟨i-1,ω⟩;unfold Em;rw [Qc9,Qc9,List.range_succ,ŝ];rfl
theorem jH {c:pz Rat}(h:i<c.length:=by omega):c.getD i 0=c[i]:=by rw [ġ,ô h];rfl
theorem Bp {cs:pz Rat}(h:bP 3 RQ V p n cs)(hn:cs.length<1000000000)(hs:∀q∈cs,Sz k q)(hk:4*k+8<2^38:=by omega):À 50 #[zF p n c] V λr V'=>∃q m e,r=zF q m e/\bP 3 RQ V' q m (dY cs):=by
 obtain rfl:=h.len;refine Ac V _ ⟨λl V1 l1 bk B=>?_,λl=>?_⟩
 ·have l:cs.length=0:=by{simpa using l};have e:dY cs=[0]:=Ä l;rw [e];refine ⟨_,_,_,rfl,bP.il B (row_one rfl ?_)⟩;have:=RQ.zero (V:=V1);simpa using this
 ·have l:¬cs.length=0:=by simpa using l
  have e:dY cs=Em cs cs.length++[cs.getD (cs.length-1) 0+((1:Int):Rat)]:=Ã l;rw [e];have i0:0<cs.length:=ω
  have ⟨ad,b,p1,n1,c1,p2,n2,c2,S,hq,a0,a1,a2⟩:=CE h i0;refine ⟨aQ S,⟨ω,ω⟩,_,_,_,_,_,_,_,ad,S,a0,a1,a2,λV2 T=>(dW 1 φ φ).s ?_⟩;rintro r V3 U g;obtain ⟨_,_,_,_,_,_,rfl⟩:=g.shape;refine qyZ ⟨rfl,λV4 C=>(ir (hq.le (T.m (U.m C))) (g.le C) (hs _ (ù i0)) jM).s ?_⟩;rintro r V5 l5 W;obtain ⟨_,_,_,_,_,_,rfl⟩:=W.shape;have u:=T.m (U.m (C.m l5))
  refine qyZ ⟨rfl,λz V'=>∃i:Nat,z.2.2.2=(i:Int)/\1<=i/\i<=cs.length/\z.1=i/\i<=z.2.1/\z.2.1*3<=z.2.2.1.length/\ç 3 RQ V' z.2.2.1 (Em cs i),λz=>cs.length-z.2.2.2.toNat,
   ⟨(1,1,_,1),by and_intros<;>first|rfl|decide,1,rfl,Ù _,i0,rfl,Ù _,Ù _,row_one rfl (by rw [jH i0];exact W)⟩,?_⟩
  rintro ⟨a,z2,vs,z4⟩ V6 w ⟨i,X,i1,Vn,Y,D,E,F⟩;dsimp only at X Y D E F;subst X Y;have hlen:=Cp cs i1;refine ⟨rfl,λd=>?_,λd=>?_⟩
  ·have d:(a:Int)<cs.length:=Á d;have j:a<cs.length:=ω;have o:a-1<cs.length:=ω;have G:i64.wrap ((a:Int)-1)=((a-1:Nat):Int):=by{rw [au ω];omega};have w2:i64.wrap ((a:Int)+1)=(a:Int)+1:=au ω;dsimp only;rw [G,w2,Ý,Ý];have ⟨H,b1,p3,n3,c3,p4,n4,c4,f,s,I,t,J⟩:=CE (h.le (u.m w) λ_ _ g=>g.le (u.m w)) o;have ⟨K,d1,p5,n5,c5,p6,n6,c6,x,M,d0,N,d2⟩:=CE (h.le (u.m w) λ_ _ g=>g.le (u.m w)) j;refine ⟨aQ f,⟨ω,ω⟩,_,_,_,_,_,_,_,H,f,I,t,J,aQ x,⟨ω,ω⟩,_,_,_,_,_,_,_,K,x,d0,N,d2,λV7 O=>(Fv (s.le O) (M.le O) (hs _ (ù o)) (hs _ (ù j))).s ?_⟩;rintro r V8 l8 y;obtain ⟨_,_,_,_,_,_,rfl⟩:=y.shape;refine qyZ ⟨rfl,ω,D,E,rfl,?_,λsp P Q h2=>⟨(a+1,P,_,(a:Int)+1),by dsimp only;omega,σ,a+1,rfl,ω,j,rfl,Q,?_,?_⟩⟩;{intro v hm;simp only [å,Ě,Ì] at hm;rcases hm with rfl|rfl|rfl<;>rfl};{dsimp only;have ht:(vs.take (a*3)).length=a*3:=by{rw [é];omega};rw [í,í,ht];simp only [Ą,į];omega};{dsimp only;rw [Qx cs i1,jH o,jH j];have:=(F.le (V':=V8) λ_ _ g=>g.le (O.m l8)).snoc (sp:=sp) rfl y φ;rw [hlen] at this;exact this}
  ·have d:¬(a:Int)<cs.length:=Â d;obtain rfl:a=cs.length:=ω;have j:cs.length-1<cs.length:=ω;have G:i64.wrap ((cs.length:Int)-1)=((cs.length-1:Nat):Int):=by{rw [au ω];omega};dsimp only;rw [G,Ý];have ⟨H,b1,p3,n3,c3,p4,n4,c4,f,s,I,t,J⟩:=CE (h.le (u.m w) λ_ _ g=>g.le (u.m w)) j;refine ⟨aQ f,⟨ω,ω⟩,_,_,_,_,_,_,_,H,f,I,t,J,λV9 Z=>(dW 1 φ φ).s ?_⟩;rintro r fW A g2;obtain ⟨_,_,_,_,_,_,rfl⟩:=g2.shape;refine qyZ ⟨rfl,λfk R=>(dM (s.le (Z.m (A.m R))) (g2.le R) (hs _ (ù j)) jM).s ?_⟩;rintro r iD bY y;obtain ⟨_,_,_,_,_,_,rfl⟩:=y.shape;refine qyZ ⟨rfl,ω,D,E,rfl,?_,λsp P Q h2 ku ct bk B=>?_⟩;{intro v hm;simp only [å,Ě,Ì] at hm;rcases hm with rfl|rfl|rfl<;>rfl};{have L:=Z.m (A.m (R.m (bY.m ct)));have:=(F.le (V':=ku) λ_ _ g=>g.le L).snoc (sp:=sp) rfl (y.le ct) φ;rw [hlen] at this;have k:=bP.bM (c:=P) B this φ (by rw [í,hlen];exact Q);rw [í,hlen] at k;rw [jH j];exact ⟨_,_,_,rfl,k⟩}
def dI (x:Rat):List Rat->List Rat
 | []=>[x]
 | y::r=>if y<x then y::dI x r else if y=x then y::r else x::y::r
theorem WO:∀(o:pz Rat)(k:Nat),k<=o.length->(∀j (h:j<o.length),j<k->o[j]<x)->(∀h:k<o.length,¬o[k]<x) ->dI x o=if (∃h:k<o.length,o[k]=x) then o else o.take k++x::o.drop k:=by
 intro o
 induction o with
 | nil=>grind [dI]
 | cons y r ih=>
  intro k g a b
  cases k with
  | zero=>
   have f:¬y<x:=b ψ;unfold dI;rw [Ã f];by_cases e:y=x
   ·rw [Ä e,Ä ⟨ψ,e⟩]
   grind
  | succ k=>
   have f:y<x:=a 0 ψ ω;unfold dI;rw [Ä f,ih k (by simpa using g) (λj h i=>a (j+1) (by simpa using h) ω) (λh=>b (by simpa using h))];by_cases e:∃h:k<r.length,r[k]=x
   ·obtain ⟨c,d⟩:=e;rw [Ä ⟨c,d⟩,Ä ⟨by simpa using c,d⟩]
   ·rw [Ã e,Ã (by rintro ⟨c,d⟩;exact e ⟨by simpa using c,d⟩)];rfl
def fg (s:Sp)(o:List Rat):Nat->List Rat
 | 0=>o
 | 1=>if s.a then o else dI s.lo o
 | _=>if s.b then (if s.a then o else dI s.lo o) else dI s.hi (if s.a then o else dI s.lo o)
def Þ (ss:List Sp):List Rat:=ss.foldl (λo s=>fg s o 2) []
theorem Mb (hi:i<ss.length):Þ (ss.take (i+1))=fg ss[i] (Þ (ss.take i)) 2:=by grind [Þ,List.take_add_one]
theorem JK:∀{o:pz Rat},q∈dI x o->q=x\/q∈o:=by
 intro o
 induction o with
 | nil=>intro h;simp [dI] at h;exact .inl h
 | cons y r ih=>
  unfold dI;grind
theorem nH:∀{o:pz Rat},(dI x o).length<=o.length+1:=by
 intro o
 induction o with
 | nil=>simp [dI]
 | cons y r ih=>
  unfold dI;grind
theorem M6 {s:Sp}{o:pz Rat}(hy:y<2):fg s o (y+1)=if (if y=0 then s.a else s.b)=true then fg s o y else dI (if y=0 then s.lo else s.hi) (fg s o y):=by have:y=0\/y=1:=ω;rcases this with rfl|rfl<;>rfl
theorem Gh {s:Sp}{o:pz Rat}(hy:y<=2):(fg s o y).length<=o.length+y:=by have d:=@nH s.lo o;have e:=@nH s.hi (if s.a then o else dI s.lo o);have c:(if s.a then o else dI s.lo o).length<=o.length+1:=by{split<;>omega};have:y=0\/y=1\/y=2:=ω;rcases this with rfl|rfl|rfl;{exact Ù _};{exact c};{show (if s.b=true then (if s.a=true then o else dI s.lo o) else dI s.hi (if s.a=true then o else dI s.lo o)).length<=_;by_cases f:s.b=true<;>grind}
theorem Gi {s:Sp}{o:pz Rat}(hy:y<=2)(h:q∈fg s o y):q=s.lo\/q=s.hi\/q∈o:=by have c:q∈(if s.a then o else dI s.lo o)->q=s.lo\/q=s.hi\/q∈o:=by{grind [JK]};have:y=0\/y=1\/y=2:=ω;rcases this with rfl|rfl|rfl;{exact .inr (.inr h)};{exact c h};{replace h:q∈(if s.b=true then (if s.a=true then o else dI s.lo o) else dI s.hi (if s.a=true then o else dI s.lo o)):=h;by_cases d:s.b=true<;>grind [JK]}
theorem FE (ss:pz Sp):(Þ ss).length<=2*ss.length:=by
 have:∀(ss:pz Sp)(o:pz Rat),(ss.foldl (λo s=>fg s o 2) o).length<=o.length+2*ss.length:=by
  intro ss
  induction ss<;>grind [Gh]
 grind [Þ]
theorem xj (h:q∈Þ ss):∃s∈ss,q=s.lo\/q=s.hi:=by
 have:∀(ss:pz Sp)(o:pz Rat),q∈(ss.foldl (λo s=>fg s o 2) o)->q∈o\/∃s∈ss,q=s.lo\/q=s.hi:=by
  intro ss
  induction ss with
  | nil=>exact λo h=>.inl h
  | cons s r ih=>
   intro o h;rcases ih _ h with h|⟨t,a,h⟩
   ·rcases Gi (Ù 2) h with h|h|h<;>grind
   grind
 rcases this ss [] h with h|h
 ·simp at h
 ·exact h
theorem Ux {vs:pz un}{qs:pz Rat}(h:ç 3 RQ V vs qs)(hi:i<qs.length):∃b p1 n1 c1 p2 n2 c2,i*3+3<=vs.length/\(vs.drop (i*3)).take 3=[dB b,zF p1 n1 c1,zF p2 n2 c2]/\RQ V (hF #[dB b,zF p1 n1 c1,zF p2 n2 c2]) qs[i]:=by obtain ⟨xs,-,c,a⟩:=h.at_ i hi;obtain ⟨p1,n1,c1,p2,n2,c2,e⟩:=c.shape;have e:=Æ Array.toList (Value.agg.inj e);subst e;have d:=a 2 _ rfl;have g:=(ĥ.1 d).1;refine ⟨_,p1,n1,c1,p2,n2,c2,ω,?_,c⟩;apply Qg8;intro j;rw [ğ];by_cases f:j<3;{rw [Ä f,Qn6];have:j=0\/j=1\/j=2:=ω;rcases this with rfl|rfl|rfl;{exact (a 0 _ rfl)};{exact (a 1 _ rfl)};{exact d}};{rw [Ã f,Ņ (by simp;omega)]}
theorem Sk {a b:Rat}:dO a b<0↔a<b:=by
 rcases cY a b with ⟨h,e⟩|⟨h,e⟩|⟨h,e⟩<;>rw [e]<;>constructor<;>intro c<;>first|exact h|omega|(exfalso;grind)
theorem rq_one (h:RQ V (.agg xs.toArray) q):∀v∈xs,v.oneCell'=true:=by obtain ⟨p,n,c,b,d,e,ex⟩:=h.shape;have ex:=Æ Array.toList (Value.agg.inj ex);dsimp only at ex;subst ex;intro v a;simp only [å,Ě,Ì] at a;rcases a with rfl|rfl|rfl<;>rfl
set_option maxHeartbeats 1000000 in
theorem GZ (h:NL V p n ss)(hn:ss.length<100000000)(hs:∀s∈ss,s.sz k)(hk:2*k<2^38:=by omega):À 250 #[zF p n c] V λr V'=>∃q m e,r=zF q m e/\bP 3 RQ V' q m (Þ ss):=by
 obtain rfl:=h.len
 refine EX V _ ⟨λz V'=>∃i:Nat,z.2.2.2=(i:Int)/\i<=ss.length/\z.1=(Þ (ss.take i)).length/\z.1<=z.2.1/\z.2.1*3<=z.2.2.1.length/\ç 3 RQ V' z.2.2.1 (Þ (ss.take i)),λz=>ss.length-z.2.2.2.toNat,
  ⟨(0,0,[],0),σ,0,rfl,â _,rfl,Ù _,Ù _,ç.nil⟩,?_⟩
 rintro ⟨z1,z2,vs,z4⟩ V1 l1 ⟨i,e4,Vn,e1,ic,hv,hx⟩;dsimp only at e4 e1 ic hv hx;subst e4;refine ⟨rfl,λf=>?_,λf ku ct bk hb=>?_⟩
 ·have f:(i:Int)<ss.length:=Á f;have hi:i<ss.length:=ω
  have w:i64.wrap ((i:Int)+1)=(i:Int)+1:=au ω;dsimp only;rw [Ý,w];obtain ⟨ad,M,xs,hf,l⟩:=(h.le l1).at_ i hi;have A:=hs _ (ù hi);have v:=Mb hi
  have b3:(Þ (ss.take i)).length<300000000:=by have:=FE (ss.take i);rw [é] at this;omega
  have a3:∀q∈Þ (ss.take i),Sz k q:=λq F=>by have ⟨s,h1,h2⟩:=xj F;have:=hs s (Qn5 h1);rcases h2 with rfl|rfl;{exact this.1};{exact this.2}
  generalize Þ (ss.take i)=o at *;generalize ss[i]=s at *;obtain ⟨b,N,P,Q,S,T,U,d,W,X,f1,Y,Z,f2,ex,a4,a5⟩:=hf;have ex:=Æ Array.toList (Value.agg.inj ex);dsimp only at ex;subst ex
  refine ⟨aQ M,⟨ω,ω⟩,b,N,P,Q,S,T,U,d,W,X,f1,Y,Z,f2,s.a,s.b,ad,M,l 0 _ rfl,l 1 _ rfl,l 2 _ rfl,l 3 _ rfl,l 4 _ rfl,l 5 _ rfl,l 6 _ rfl,l 7 _ rfl,
   λz _=>z=(2,2,[dB b,zF N P Q,zF S T U,dB d,zF W X f1,zF Y Z f2],2,0),⟨(2,2,[dB b,zF N P Q,zF S T U,dB d,zF W X f1,zF Y Z f2],2,0),by and_intros<;>first|rfl|decide,rfl⟩,?_⟩
  rintro z V2 l2 rfl;dsimp only
  refine ⟨rfl,λz V'=>∃y:Nat,z.2.2.2=(y:Int)/\y<=2/\z.1=(fg s o y).length/\z.1<=z.2.1/\z.2.1*3<=z.2.2.1.length/\ç 3 RQ V' z.2.2.1 (fg s o y),λz=>2-z.2.2.2.toNat,
   ⟨(z1,z2,vs,0),σ,0,rfl,ω,e1,ic,hv,hx.le λ_ _ g=>g.le l2⟩,?_⟩
  rintro ⟨C,w2,us,w4⟩ V3 l3 ⟨y,f4,a0,g1,G,fv,H⟩;dsimp only at f4 g1 G fv H;subst f4;refine ⟨rfl,λhy=>?_,λhy=>?_⟩
  ·have hy:(y:Int)<2:=Á hy;have a6:y<2:=ω
   have a1:=M6 (s:=s) (o:=o) a6;have b4:=Gh (s:=s) (o:=o) a0
   have Yw:∀q∈fg s o y,Sz k q:=λq F=>by rcases Gi a0 F with h|h|h;{rw [h];exact A.1};{rw [h];exact A.2};{exact a3 q h}
   have wy:i64.wrap ((y:Int)+1)=(y:Int)+1:=au ω;generalize hO:fg s o y=O at *;generalize Vk:fg s o (y+1)=O' at *
   have el:∃eb ep en ec eq em ee x no,([dB b,zF N P Q,zF S T U,dB d,zF W X f1,zF Y Z f2].drop (y*3)).take 3=[Value.bool eb,zF ep en ec,zF eq em ee]/\RQ V3 (hF #[dB eb,zF ep en ec,zF eq em ee]) x/\Sz k x/\O'=(if no=true then O else dI x O) /\
     ((y=0/\no=s.a)\/(y=1/\no=s.b)):=by
    have:y=0\/y=1:=ω
    rcases this with rfl|rfl
    ·exact ⟨b,N,P,Q,S,T,U,s.lo,s.a,rfl,a4.le (l2.m l3),A.1,a1,.inl ⟨rfl,rfl⟩⟩
    ·exact ⟨d,W,X,f1,Y,Z,f2,s.hi,s.b,rfl,a5.le (l2.m l3),A.2,a1,.inr ⟨rfl,rfl⟩⟩
   obtain ⟨eb,ep,en,ec,eq,em,ee,x,no,a7,F,sx,I,a8⟩:=el;dsimp only;rw [Ý,wy];refine ⟨⟨ω,ω⟩,Ù _,eb,ep,en,ec,eq,em,ee,⟨by simp;omega,a7⟩,λz _=>z=no,?_,?_⟩
   ·rcases a8 with ⟨rfl,rfl⟩|⟨rfl,rfl⟩;{exact ⟨λ_=>⟨λM=>⟨true,σ,M.symm⟩,λM=>⟨(λh=>by simp at h),λ_=>⟨false,σ,M.symm⟩⟩⟩,λh=>by simp at h⟩};{exact ⟨λh=>by simp at h,λ_=>⟨λ_=>⟨s.b,σ,rfl⟩,λh=>by simp at h⟩⟩}
   ·rintro z V4 D rfl;refine ⟨rfl,λu=>⟨(C,w2,us,(y:Int)+1),by dsimp only;omega,σ,y+1,rfl,ω,?_,G,fv,?_⟩,λu=>?_⟩;{show C=(fg s o (y+1)).length;rw [Vk,I,Ä u];exact g1};{show ç 3 RQ V4 us (fg s o (y+1));rw [Vk,I,Ä u];exact H.le λ_ _ g=>g.le D};{have K:O'=dI x O:=by{rw [I,u];rfl};refine ⟨λz _=>∃j:Nat,z=(j:Int)/\j<=O.length/\∀(E:Nat)(h:E<O.length),E<j->O[E]<x,λz=>O.length-z.toNat,⟨0,σ,0,rfl,â _,λE _ h=>Å h (Ŝ E)⟩,?_⟩;rintro z V5 L ⟨j,rfl,yF,jl⟩;have wj:i64.wrap ((j:Int)+1)=(j:Int)+1:=au ω;rw [Ý,wj];refine ⟨rfl,λz _=>z=true↔∃h:j<O.length,O[j]<x,⟨λf=>?_,λf=>⟨false,σ,?_⟩⟩,?_⟩;{have f:=Á f;have B:j<O.length:=ω;have ⟨rb,rp,rn,rc,rq,rm,re,gC,Md,hr⟩:=Ux H B;refine ⟨⟨ω,ω⟩,G,rb,rp,rn,rc,rq,rm,re,⟨gC,Md⟩,λV6 l6=>(fB (hr.le (D.m (L.m l6))) (F.le (D.m (L.m l6))) (Yw _ (ù B)) sx).s ?_⟩;rintro r V7 l7 rfl;exact ⟨_,rfl,_,σ,by dsimp only;rw [Ñ,Sk];exact ⟨λh=>⟨B,h⟩,λ⟨_,h⟩=>h⟩⟩};{have f:=Â f;exact ⟨κ,λ⟨h,_⟩=>Å h ω⟩};{rintro z V8 l8 S5;refine ⟨rfl,λu=>?_,λu=>?_⟩;{have ⟨B,a9⟩:=S5.1 u;refine ⟨(j:Int)+1,by dsimp only;omega,σ,j+1,rfl,B,λE h b5=>?_⟩;by_cases e:E=j;{subst e;exact a9};{exact jl E h ω}};{have b0:∀h:j<O.length,¬O[j]<x:=λh h'=>by{have:=S5.2 ⟨h,h'⟩;rw [u] at this;cases this};have t:=WO O j yF jl b0;refine ⟨λz _=>z=true↔¬∃h:j<O.length,O[j]=x,⟨λhe=>⟨true,σ,?_⟩,λhe=>?_⟩,?_⟩;{have he:(j:Int)=(C:Int):=by{simpa using he};exact ⟨λ_ ⟨h,_⟩=>Å h ω,λ_=>rfl⟩};{have he:¬(j:Int)=(C:Int):=by{simpa using he};have B:j<O.length:=ω;have ⟨rb,rp,rn,rc,rq,rm,re,gC,Md,hr⟩:=Ux H B;refine ⟨⟨ω,ω⟩,G,rb,rp,rn,rc,rq,rm,re,⟨gC,Md⟩,λV6 l6=>(fB (hr.le (D.m (L.m (l8.m l6)))) (F.le (D.m (L.m (l8.m l6)))) (Yw _ (ù B)) sx).s ?_⟩;rintro r V7 l7 rfl;exact ⟨_,rfl,_,σ,by dsimp only;rw [bne_iff_ne,ne_eq,<-iM];exact ⟨λh ⟨_,h'⟩=>h h',λh h'=>h ⟨B,h'⟩⟩⟩};{rintro z fk bw BR;refine ⟨rfl,λu iD bY bk hb J=>?_,λu=>?_⟩;{have b1:=BR.1 u;rw [Ã b1] at t;have ⟨xs,ys,x1,x2,x3,y1,y2,y3,r1,r2,r3,r4,r5⟩:=Ax (V:=iD) (R:=RQ) (GR.s ⟨g1,G,fv,H⟩ λ_ _ g=>g.le (D.m (L.m (l8.m (bw.m bY))))) φ (λ_ _=>rq_one) hb (es:=[_,_,_]) rfl (F.le (D.m (L.m (l8.m (bw.m bY))))) (j:=j);refine ⟨⟨ω,ω⟩,⟨ω,ω⟩,⟨ω,ω⟩,xs,x1,x2,ω,Ù _,Ù _,x2,x3,λb6 J2 sp c' h1 h2=>?_⟩;rw [r1,r2];(refine ⟨ys,y1,y2,Ù _,y3,ω,ω,r3,r4,λb2 a2 h3 h4=>⟨(j+(1+(C-j)),a2,_,(y:Int)+1),by dsimp only;omega,by and_intros<;>first|rfl|omega,y+1,rfl,ω,?_⟩⟩;have r6:=r5 b2 a2 h3 h4;rw [<-t,<-K,<-Vk] at r6;exact ⟨r6.len,r6.le,r6.cap,r6.row⟩)};{have hex:=Qb0 λh=>by{have:=BR.2 h;rw [u] at this;cases this};rw [Ä hex] at t;refine ⟨(C,w2,us,(y:Int)+1),by dsimp only;omega,σ,y+1,rfl,ω,?_,G,fv,?_⟩;{show C=(fg s o (y+1)).length;rw [Vk,K,t];exact g1};{show ç 3 RQ fk us (fg s o (y+1));rw [Vk,K,t];exact H.le λ_ _ g=>g.le (D.m (L.m (l8.m bw)))}}}}}}
  ·have hy:¬(y:Int)<2:=Â hy;obtain rfl:y=2:=ω;exact ⟨(C,w2,us,(i:Int)+1),by dsimp only;omega,σ,i+1,rfl,hi,by dsimp only;rw [v];exact g1,G,fv,by dsimp only;rw [v];exact H⟩
 ·have f:¬(i:Int)<ss.length:=Â f;obtain rfl:i=ss.length:=ω;rw [ě] at e1 hx;subst e1;exact ⟨_,_,_,rfl,bP.bM hb (hx.le λ_ _ g=>g.le ct) φ ic⟩
def dR (cuts:List Rat)(i:Nat):Sp:=⟨if 0<i then cuts.getD (i-1) 0 else 0,if i<cuts.length then cuts.getD i 0 else 0,decide (i=0),decide (i=cuts.length)⟩
def xD (out:List Sp)(s:Sp):List Sp:=out.dropLast++[⟨(out.getLastD Sp.zero).lo,s.hi,(out.getLastD Sp.zero).a,s.b⟩]
def cE (cuts:List Rat)(marks:List Bool):Nat->List Sp
 | 0=>[]
 | i+1=>if marks.getD i false=true then (if 0<i/\marks.getD (i-1) false=true/\0<(cE cuts marks i).length then xD (cE cuts marks i) (dR cuts i) else cE cuts marks i++[dR cuts i]) else cE cuts marks i
def FO (cuts:List Rat)(marks:List Bool):List Sp:=cE cuts marks marks.length
theorem B6 {out:pz Sp}{s:Sp}(h:0<out.length):(xD out s).length=out.length:=by grind [xD]
theorem FN (cuts:pz Rat)(marks:pz md)(i:Nat):(cE cuts marks i).length<=i:=by
 induction i with
 | zero=>simp [cE]
 | succ i ih=>
  unfold cE;split
  ·split;{rename_i h;rw [B6 h.2.2];omega};grind
  ·omega
theorem Uv {α:Type}{sz:Nat}{R:ut->un->α->Prop}{vs us:pz un}{ls:pz α}(h:ç sz R V vs ls)(h0:0<ls.length){a:α}(hx:xs.length=sz)(ha:R V (.agg xs.toArray) a)(hlow:∀q,q<(ls.length-1)*sz->us[q]?=vs[q]?)(hlast:∀j x,xs[j]?=some x->us[(ls.length-1)*sz+j]?=some x):ç sz R V us (ls.dropLast++[a]):=by refine ⟨λi n=>?_⟩;have o:(ls.dropLast++[a]).length=ls.length:=by{rw [í,List.length_dropLast];simp;omega};by_cases e:i=ls.length-1;{subst e;refine ⟨xs,hx,?_,hlast⟩;have b:(ls.dropLast++[a])[ls.length-1]=a:=χ;rw [b];exact ha};{have c:i<ls.length-1:=ω;have ⟨d,f,g,p⟩:=h.at_ i ω;refine ⟨d,f,?_,λj x k=>?_⟩;{have b:(ls.dropLast++[a])[i]=ls[i]:=χ;rw [b];exact g};{have l:=(ĥ.1 k).1;have m:i*sz+j<(ls.length-1)*sz:=by{have:(i+1)*sz<=(ls.length-1)*sz:=ÿ _ ω;grind};grind}}
def RBl (_:Ó)(v:Value)(b:Bool):Prop:=v=.agg #[.bool b]
theorem YR {bs:pz md}(h:bP 1 RBl V p n bs)(hi:i<bs.length):∃ad,ae p (i*1)=some ad/\V.at ad (dB bs[i]):=by obtain ⟨ad,b,xs,-,e,a⟩:=h.at_ i hi;have e:=Æ Array.toList (Value.agg.inj e);subst e;have:=a 0 _ rfl;grind [Addr.add]
theorem vK {s:Sp}(h:pU V (.agg xs.toArray) s):∃b p n c p' n' c' d q m e q' m' e',xs=[dB b,zF p n c,zF p' n' c',dB d,zF q m e,zF q' m' e',dB s.a,dB s.b]/\RQ V (hF #[dB b,zF p n c,zF p' n' c']) s.lo/\RQ V (hF #[dB d,zF q m e,zF q' m' e']) s.hi:=by obtain ⟨_,_,_,_,_,_,_,_,_,_,_,_,_,_,ex,f,g⟩:=h;exact qyK ⟨(Æ Array.toList (Value.agg.inj ex)),f,g⟩
theorem HN (V:ut):RQ V (hF #[dB false,zF none 0 0,zF none 0 0]) 0:=by have:=RQ.zero (V:=V);simpa using this
set_option maxHeartbeats 1000000 in
theorem GX {q:OA}{m e:Nat}{cuts:pz Rat}{marks:pz md}(hc:bP 3 RQ V p n cuts)(hm:bP 1 RBl V q m marks)(hlen:marks.length=cuts.length+1)(hn:cuts.length<100000000:=by omega):À 54 #[zF p n c,zF q m e] V λr V'=>∃p' n' c',r=zF p' n' c'/\bP 8 pU V' p' n' (FO cuts marks):=by
 obtain rfl:=hc.len;obtain rfl:=hm.len
 refine EU V _ ⟨λz V'=>∃i:Nat,z.2.2.2=(i:Int)/\i<=marks.length/\z.1=(cE cuts marks i).length/\z.1<=z.2.1/\z.2.1*8<=z.2.2.1.length/\ç 8 pU V' z.2.2.1 (cE cuts marks i),λz=>marks.length-z.2.2.2.toNat,
  ⟨(0,0,[],0),σ,0,rfl,â _,rfl,Ù _,Ù _,ç.nil⟩,?_⟩
 rintro ⟨f,z2,vs,z4⟩ V1 P ⟨i,e4,Vn,Q,L,hv,hx⟩;dsimp only at e4 Q L hv hx;subst e4;refine ⟨rfl,λy=>?_,λy V5 l5 bk D=>?_⟩
 ·have y:(i:Int)<marks.length:=Á y;have hi:i<marks.length:=ω;have w:i64.wrap ((i:Int)+1)=(i:Int)+1:=au ω;have b4:=FN cuts marks i;have S:marks.getD i false=marks[i]:=by{rw [ġ,ô hi];rfl};have T:marks[i]=false->cE cuts marks (i+1)=cE cuts marks i:=λh=>by{show (if marks.getD i false=true then _ else _)=_;rw [S,h];rfl};have l:marks[i]=true->cE cuts marks (i+1)=if 0<i/\marks.getD (i-1) false=true/\0<(cE cuts marks i).length then xD (cE cuts marks i) (dR cuts i) else cE cuts marks i++[dR cuts i]:=λh=>by{show (if marks.getD i false=true then _ else _)=_;rw [S,h];rfl};dsimp only;rw [Ý,w];have ⟨ad,ha,a0⟩:=YR (hm.le P λ_ _ g=>g) hi;refine ⟨aQ ha,⟨ω,ω⟩,marks[i],⟨ad,ha,a0⟩,λD=>?_,λD=>?_⟩;{rw [Ĥ] at D;exact ⟨(f,z2,vs,(i:Int)+1),by dsimp only;omega,σ,i+1,rfl,hi,by dsimp only;rw [T D];exact Q,L,hv,by dsimp only;rw [T D];exact hx⟩};{rw [ł] at D;have l:=l D;generalize cE cuts marks i=out at *;generalize hO:cE cuts marks (i+1)=out' at *;refine ⟨λz V'=>RQ V' (hF #[dB z.1,zF z.2.1 z.2.2.1 z.2.2.2.1,zF z.2.2.2.2.1 z.2.2.2.2.2.1 z.2.2.2.2.2.2.1]) ((dR cuts i).lo)/\RQ V' (hF #[dB z.2.2.2.2.2.2.2.1,zF z.2.2.2.2.2.2.2.2.1 z.2.2.2.2.2.2.2.2.2.1 z.2.2.2.2.2.2.2.2.2.2.1,zF z.2.2.2.2.2.2.2.2.2.2.2.1 z.2.2.2.2.2.2.2.2.2.2.2.2.1 z.2.2.2.2.2.2.2.2.2.2.2.2.2.1]) (0)/\z.2.2.2.2.2.2.2.2.2.2.2.2.2.2.1=decide (i=0)/\z.2.2.2.2.2.2.2.2.2.2.2.2.2.2.2=decide (i=cuts.length),⟨λs=>?_,λs=>⟨(false,none,0,0,none,0,0,false,none,0,0,none,0,0,(i:Int)==0,(i:Int)==(cuts.length:Int)),σ,?_⟩⟩,?_⟩;{have s:=Á s;have k:i-1<cuts.length:=ω;have U:i64.wrap ((i:Int)-1)=((i-1:Nat):Int):=by{rw [au ω];omega};rw [U,Ý];have ⟨W,b1,p3,n3,c3,p4,n4,c4,t,A,b0,M,b2⟩:=CE (hc.le P λ_ _ g=>g.le P) k;refine ⟨aQ t,⟨ω,ω⟩,_,_,_,_,_,_,_,W,t,b0,M,b2,(b1,p3,n3,c3,p4,n4,c4,false,none,0,0,none,0,0,(i:Int)==0,(i:Int)==(cuts.length:Int)),σ,?_,HN _,?_,?_⟩;{show RQ V1 _ (if 0<i then cuts.getD (i-1) 0 else 0);rw [Ä ω,jH k];exact A};{show ((i:Int)==0)=decide (i=0);rw [Ģ,Ë,Ñ];omega};{show ((i:Int)==(cuts.length:Int))=decide (i=cuts.length);rw [Ģ,Ë,Ñ];omega}};{have s:=Â s;refine ⟨?_,HN _,?_,?_⟩;{show RQ V1 _ (if 0<i then cuts.getD (i-1) 0 else 0);rw [Ã ω];exact HN _};{show ((i:Int)==0)=decide (i=0);rw [Ģ,Ë,Ñ];omega};{show ((i:Int)==(cuts.length:Int))=decide (i=cuts.length);rw [Ģ,Ë,Ñ];omega}};{rintro ⟨x1,x2,x3,x4,x5,x6,x7,x8,x9,a1,a2,a3,a4,a5,b5,b6⟩ V2 l2 ⟨hA,hB,hC,hD⟩;dsimp only at hA hB hC hD;subst hC hD;refine ⟨rfl,λz V'=>RQ V' (hF #[dB z.1,zF z.2.1 z.2.2.1 z.2.2.2.1,zF z.2.2.2.2.1 z.2.2.2.2.2.1 z.2.2.2.2.2.2.1]) ((dR cuts i).lo)/\RQ V' (hF #[dB z.2.2.2.2.2.2.2.1,zF z.2.2.2.2.2.2.2.2.1 z.2.2.2.2.2.2.2.2.2.1 z.2.2.2.2.2.2.2.2.2.2.1,zF z.2.2.2.2.2.2.2.2.2.2.2.1 z.2.2.2.2.2.2.2.2.2.2.2.2.1 z.2.2.2.2.2.2.2.2.2.2.2.2.2.1]) ((dR cuts i).hi)/\z.2.2.2.2.2.2.2.2.2.2.2.2.2.2.1=decide (i=0)/\z.2.2.2.2.2.2.2.2.2.2.2.2.2.2.2=decide (i=cuts.length),⟨λs=>?_,λs=>⟨(x1,x2,x3,x4,x5,x6,x7,x8,x9,a1,a2,a3,a4,a5,decide (i=0),decide (i=cuts.length)),σ,hA,?_,rfl,rfl⟩⟩,?_⟩;{have s:=Á s;have k:i<cuts.length:=ω;have ⟨W,b1,p3,n3,c3,p4,n4,c4,t,A,b0,M,b2⟩:=CE (hc.le (P.m l2) λ_ _ g=>g.le (P.m l2)) k;refine ⟨aQ t,⟨ω,ω⟩,_,_,_,_,_,_,_,W,t,b0,M,b2,(x1,x2,x3,x4,x5,x6,x7,b1,p3,n3,c3,p4,n4,c4,decide (i=0),decide (i=cuts.length)),σ,hA,?_,rfl,rfl⟩;show RQ V2 _ (if i<cuts.length then cuts.getD i 0 else 0);rw [Ä k,jH k];exact A};{have s:=Â s;show RQ V2 _ (if i<cuts.length then cuts.getD i 0 else 0);rw [Ã ω];exact hB};{rintro ⟨y1,y2,y3,y4,y5,y6,y7,E,F,G,H,I,u,J,b7,b8⟩ V3 l3 ⟨kA,kB,kC,kD⟩;dsimp only at kA kB kC kD;subst kC kD;refine ⟨rfl,λz _=>z=decide (0<i/\marks.getD (i-1) false=true/\0<out.length),⟨λs=>?_,λs=>⟨false,σ,?_⟩⟩,?_⟩;{have s:=Á s;have k:i-1<marks.length:=ω;have U:i64.wrap ((i:Int)-1)=((i-1:Nat):Int):=by{rw [au ω];omega};have a6:marks.getD (i-1) false=marks[i-1]:=by{rw [ġ,ô k];rfl};rw [U,Ý,a6];have ⟨W,t,X⟩:=YR (hm.le (P.m (l2.m l3)) λ_ _ g=>g) k;refine ⟨aQ t,⟨ω,ω⟩,marks[i-1],⟨W,t,X⟩,λN=>⟨_,σ,?_⟩,λN=>⟨false,σ,?_⟩⟩;{dsimp only;rw [N,É];constructor;{intro h;exact ⟨ω,rfl,ω⟩};{rintro ⟨_,_,h⟩;omega}};{dsimp only;rw [N];simp}};{have s:=Â s;dsimp only;rw [È];rintro ⟨h,_⟩;omega};{rintro z V4 l4 rfl;have gA:pU V4 (hF #[dB y1,zF y2 y3 y4,zF y5 y6 y7,dB E,zF F G H,zF I u J,dB (decide (i=0)),dB (decide (i=cuts.length))]) (dR cuts i):=qyK ⟨rfl,kA.le l4,kB.le l4⟩;have B:=hx.le (V':=V4) λ_ _ g=>pU.le g (l2.m (l3.m l4));refine ⟨rfl,λK=>?_,λK=>?_⟩;{have K:=Á K;rw [Ä K] at l;have U:i64.wrap ((f:Int)-1)=((f-1:Nat):Int):=by{rw [au ω];omega};rw [U,Ý];have Y:=K.2.2;have b9:=B.fP φ;have Z:out.length-1<out.length:=ω;have a7:out.getLastD Sp.zero=out[out.length-1]:=by{rw [Wy6,List.getLast?_eq_getElem?,ô Z];rfl};obtain ⟨c0,-,a8,a9⟩:=B.at_ (out.length-1) Z;obtain ⟨b,s1,s2,s3,s4,s5,s6,d,t1,t2,t3,t4,t5,t6,ex,A,c1⟩:=vK a8;subst ex;have sv:=lO (vs:=vs) (xs:=[dB E,zF F G H,zF I u J]) (o:=(f-1)*8+3) (by simp only [Ą,į];omega);have b3:(bC vs ((f-1)*8+3) [dB E,zF F G H,zF I u J]).length=vs.length:=by{rw [sv];simp only [í,é,Ĵ,Ą,į];omega};have sg:∀r,r<(f-1)*8+3\/(f-1)*8+6<=r->(bC vs ((f-1)*8+3) [dB E,zF F G H,zF I u J])[r]?=vs[r]?:=by{intro r hr;rw [sv,ė];have R:(vs.take ((f-1)*8+3)).length=(f-1)*8+3:=by{rw [é];omega};rcases hr with hr|hr;{rw [Ī ω,ğ,Ä hr]};{rw [ņ ω,ņ (by rw [R];simp only [Ą,į];omega),Qn6,R];congr 1;simp only [Ą,į];omega}};have sm:∀j x,([dB E,zF F G H,zF I u J]:pz un)[j]?=some x->(bC vs ((f-1)*8+3) [dB E,zF F G H,zF I u J])[(f-1)*8+3+j]?=some x:=by{intro j x C;have O:=(ĥ.1 C).1;have R:(vs.take ((f-1)*8+3)).length=(f-1)*8+3:=by{rw [é];omega};rw [sv,ė,ņ ω,R,Qn0,Ī O];exact C};generalize bC vs ((f-1)*8+3) [dB E,zF F G H,zF I u J]=us at *;refine ⟨⟨ω,ω⟩,L,ω,⟨ω,ω⟩,L,ω,(f,z2,us.set ((f-1)*8+7) (dB (decide (i=cuts.length))),(i:Int)+1),by dsimp only;omega,σ,i+1,rfl,hi,?_,L,?_,?_⟩;{dsimp only;rw [hO,l,B6 Y];exact Q};{dsimp only;rw [Qf7,b3];exact hv};{dsimp only;rw [hO,l];unfold xD;rw [a7];refine Uv B Y (xs:=[dB b,zF s1 s2 s3,zF s4 s5 s6,dB E,zF F G H,zF I u J,dB out[out.length-1].a,dB (dR cuts i).b]) rfl (qyK ⟨rfl,A,kB.le l4⟩) ?_ ?_;{intro r hr;rw [Qm1 ω,sg r ω]};{intro j x C;have O:=(ĥ.1 C).1;have c2:j<8:=O;by_cases h7:j=7;{subst h7;rw [show (out.length-1)*8+7=(f-1)*8+7 by omega,Qt0 ω];exact C};{rw [Qm1 ω];by_cases h3:j<3\/j=6;{rw [sg _ ω];have hc:=a9 j x;have:j=0\/j=1\/j=2\/j=6:=ω;rcases this with rfl|rfl|rfl|rfl<;>exact hc C};{have:j=3\/j=4\/j=5:=ω;rcases this with rfl|rfl|rfl;{have:=sm 0 x C;rw [show (out.length-1)*8+3=(f-1)*8+3+0 by omega];exact this};{have:=sm 1 x C;rw [show (out.length-1)*8+4=(f-1)*8+3+1 by omega];exact this};{have:=sm 2 x C;rw [show (out.length-1)*8+5=(f-1)*8+3+2 by omega];exact this}}}}}};{have K:=Â K;rw [Ã K] at l;refine ⟨ω,L,hv,rfl,?_,λsp c' h1 h2=>⟨(f+1,c',_,(i:Int)+1),by dsimp only;omega,σ,i+1,rfl,hi,?_,h1,?_,?_⟩⟩;{intro v uA;simp only [å,Ě,Ì] at uA;rcases uA with rfl|rfl|rfl|rfl|rfl|rfl|rfl|rfl<;>rfl};{dsimp only;rw [hO,l,í,Q];rfl};{dsimp only;have R:(vs.take (f*8)).length=f*8:=by{rw [é];omega};rw [í,í,R];simp only [Ą,į];omega};{dsimp only;rw [hO,l];have:=B.snoc (sp:=sp) rfl gA φ;rw [<-Q] at this;exact this}}}}}}
 ·have y:¬(i:Int)<marks.length:=Â y;obtain rfl:i=marks.length:=ω;subst Q;exact ⟨_,_,_,rfl,bP.bM D (hx.le λ_ _ g=>pU.le g l5) φ L⟩
end Go.Proofs.Tryz
namespace Go.Proofs.Tryz
def Z6 {a b:pz Rat}{i:Nat}(h:i<a.length:=by omega):(a++b).getD i 0=a.getD i 0:=χ
def asc (c:List Rat):Prop:=c.Pairwise (·< ·)
theorem BV {x q:Rat}:∀{o:pz Rat},q∈dI x o↔q=x\/q∈o:=by
 intro o
 induction o with
 | nil=>simp [dI]
 | cons y r ih=>
  unfold dI;split
  ·grind
  ·split;{rename_i e;subst e;exact ⟨.inr,λh=>h.elim (λe=>by subst e;simp) id⟩};{rw [å]}
theorem JJ {x:Rat}:∀{o:pz Rat},asc o->asc (dI x o):=by
 intro o
 induction o with
 | nil=>intro _;simp [dI,asc]
 | cons y r ih=>
  intro h;have ⟨d,a⟩:=Ġ.1 h;unfold dI;split
  ·rename_i c;refine Ġ.2 ⟨λq b=>?_,ih a⟩<;>grind [BV.1]
  ·split;{exact h};{rename_i e f;refine Ġ.2 ⟨λq b=>?_,h⟩<;>grind}
def Sp.cZ (s:Sp)(q:Rat):Prop:=(s.a=false/\q=s.lo)\/(s.b=false/\q=s.hi)
theorem UN {s:Sp}{o:pz Rat}{q:Rat}:q∈fg s o 2↔s.cZ q\/q∈o:=by show q∈(if s.b=true then (if s.a=true then o else dI s.lo o) else dI s.hi (if s.a=true then o else dI s.lo o))↔_;unfold Sp.cZ;cases s.a<;>cases s.b<;>simp [BV];grind
theorem UM {s:Sp}{o:pz Rat}(h:asc o):asc (fg s o 2):=by show asc (if s.b=true then (if s.a=true then o else dI s.lo o) else dI s.hi (if s.a=true then o else dI s.lo o));cases s.a<;>cases s.b<;>simp [JJ,h]
def FF:∀(ss:pz Sp)(o:pz Rat),(asc o->asc (ss.foldl (λo s=>fg s o 2) o))/\∀q,q∈(ss.foldl (λo s=>fg s o 2) o)↔q∈o\/∃s∈ss,s.cZ q:=by
 intro ss
 induction ss<;>grind [UM,UN]
def BF (ss:pz Sp):asc (Þ ss):=(FF ss []).1 List.Pairwise.nil
def eY {ss:pz Sp}{q:Rat}:q∈Þ ss↔∃s∈ss,s.cZ q:=by have:=(FF ss []).2 q;simpa [Þ] using this
section
variable {c:List Rat} (h:asc c)
include h
theorem wL {i j:Nat}(hij:i<j)(hj:j<c.length):c.getD i 0<c.getD j 0:=by rw [jH,jH hj];exact Qn4.1 h i j ω hj hij
theorem RG {i j:Nat}(hij:i<=j)(hj:j<c.length):c.getD i 0<=c.getD j 0:=by rcases ĉ i j with a|a;{have:=wL h a hj;grind};grind
omit h
theorem Wv {i:Nat}{t:Rat}:(dR c i).inn t↔(0<i->c.getD (i-1) 0<t)/\(i≠c.length->i<c.length->t<c.getD i 0)/\(i≠c.length->c.length<i->t<0):=by unfold dR Sp.inn;grind
theorem qm {i:Nat}(hi:i<=c.length:=by omega){t:Rat}:(dR c i).inn t↔(0<i->c.getD (i-1) 0<t)/\(i<c.length->t<c.getD i 0):=by grind [Wv]
include h
theorem SK {i:Nat}(hi:i<=c.length):(dR c i).good:=by refine ⟨⟨λe=>?_,λe=>?_⟩,Sp.gy.2 ?_⟩;{have e:=Á e;subst e;rfl};{have e:=Á e;subst e;exact Ã (Ww0 _)};{by_cases a:i=0;{exact .inl (Ç a)};{by_cases b:i=c.length;{exact .inr (.inl (Ç b))};{refine .inr (.inr ?_);show (if 0<i then c.getD (i-1) 0 else 0)<(if i<c.length then c.getD i 0 else 0);grind [wL]}}}
theorem Z4 {t:Rat}(ht:t∉c):∃i,i<=c.length/\(dR c i).inn t:=by
 have key:∀k,k<=c.length->(∀j,j<k->c.getD j 0<t)\/∃i,i<=c.length/\(dR c i).inn t:=by
  intro k
  induction k with
  | zero=>exact λ_=>.inl λj b=>Å b (Ŝ j)
  | succ k ih=>
   intro e;rcases ih ω with g|g
   ·by_cases d:c.getD k 0<t;{grind};{refine .inr ⟨k,ω,(qm).2 ⟨λa=>g _ ω,λ_=>?_⟩⟩<;>grind}
   ·exact .inr g
 rcases key c.length (Ù _) with g|g
 ·exact ⟨c.length,Ù _,(qm (Ù _)).2 ⟨λa=>g _ ω,λa=>ω⟩⟩
 ·exact g
theorem qo {i:Nat}(hi:i<=c.length){t u x:Rat}(ht:(dR c i).inn t)(hu:(dR c i).inn u)(hx:x∈c):(x<t↔x<u)/\(t<x↔u<x)/\x≠t:=by obtain ⟨t1,t2⟩:=(qm hi).1 ht;obtain ⟨d,e⟩:=(qm hi).1 hu;obtain ⟨j,b,rfl⟩:=Qh6 hx;rcases ĉ j i with a|a;{have:=RG h (show j<=i-1 by omega) ω;grind};{have:=RG h a b;grind}
theorem Ud {i:Nat}(hi:i<=c.length):(dR c i).inn ((dY c).getD i 0):=by rw [qm hi];unfold dY;by_cases a:c.length=0;{exact ⟨λ_=>ω,λ_=>ω⟩};{rw [Ã a];have b:=Cp c (show 1<=c.length by omega);by_cases d:i=c.length;{grind};{rw [Z6];unfold Em;by_cases e:i=0;{grind};{obtain ⟨m,rfl⟩:∃m,i=m+1:=⟨i-1,ω⟩;have:=wL h (show m<m+1 by omega) ω;grind}}}
omit h
theorem lI:(dY c).length=c.length+1:=by unfold dY;grind [Cp]
end
section
variable {c:List Rat} {ms:List Bool}
structure FI (c:List Rat) (ms:List Bool) (i:Nat):Prop where
 r:rW (cE c ms i)
 mem:∀t,t∉c->(zH (cE c ms i) t↔∃j,j<i/\ms.getD j false=true/\(dR c j).inn t)
 top:0<i->i<=c.length->∀s∈cE c ms i,s.b=false/\s.hi<=c.getD (i-1) 0
 str:0<i->i<=c.length->ms.getD (i-1) false=false->∀s∈cE c ms i,s.hi<c.getD (i-1) 0
 last:0<i->i<=c.length->ms.getD (i-1) false=true->∃l0 l,cE c ms i=l0++[l]/\l.hi=c.getD (i-1) 0
theorem xG {ss:pz Sp}{s:Sp}{t:Rat}:zH (ss++[s]) t↔zH ss t\/s.inn t:=by constructor;{rintro ⟨x,a,b⟩;rcases õ.1 a with a|a;{exact .inl ⟨x,a,b⟩};grind};{rintro (⟨x,a,b⟩|b);{exact ⟨x,by simp [a],b⟩};{exact ⟨s,ψ,b⟩}}
theorem vF {ss:pz Sp}{s:Sp}(h:rW ss)(hs:s.good)(hb:∀x∈ss,x.LB s):rW (ss++[s]):=by refine ⟨λx a=>?_,Qg7.2 ⟨h.2,ψ,λx a y b=>?_⟩⟩;{rcases õ.1 a with a|a;{exact h.1 x a};grind};grind
theorem Kr {ss:pz Sp}{s:Sp}(h:rW (ss++[s])):rW ss/\s.good/\∀x∈ss,x.LB s:=by obtain ⟨b,-,c⟩:=Qg7.1 h.2;exact ⟨⟨λx a=>h.1 x (by simp [a]),b⟩,h.1 s ψ,λx a=>c x a s ψ⟩
theorem G_ {P:Nat->Prop}{i:Nat}:(∃j,j<i+1/\P j)↔(∃j,j<i/\P j)\/P i:=χ
theorem Wn (h:asc c){i:Nat}(hi:i<=c.length)(F:FI c ms i):FI c ms (i+1):=by have A:=SK h hi;have D:i<c.length->(dR c i).hi=c.getD i 0:=λj=>Ä j;have E:0<i->(dR c i).lo=c.getD (i-1) 0:=λj=>Ä j;have B:0<i->(dR c i).a=false:=λj=>È ω;have I:i<c.length->(dR c i).b=false:=λj=>È ω;by_cases hm:ms.getD i false=true;{have y:¬ms.getD i false=false:=by{rw [hm];decide};by_cases j:0<i/\ms.getD (i-1) false=true;{have ⟨L,l,el,G⟩:=F.last j.1 hi j.2;have e:cE c ms (i+1)=L++[⟨l.lo,(dR c i).hi,l.a,(dR c i).b⟩]:=by{rw [cE,Ä hm,Ä ⟨j.1,j.2,by rw [el];simp⟩,el];simp [xD]};have J:=F.r;rw [el] at J;have ⟨f1,f2,f3⟩:=Kr J;have m:=(F.top j.1 hi l (by rw [el];simp)).1;have q:(⟨l.lo,(dR c i).hi,l.a,(dR c i).b⟩:Sp).good:=by{refine ⟨⟨f2.1.1,A.1.2⟩,Sp.gy.2 ?_⟩;(cases ha:l.a with|true=>exact .inl rfl|false=>{(cases w:(dR c i).b with|true=>exact .inr (.inl rfl)|false=>{have n:=nK f2.2 ha m;have u:=nK A.2 (B j.1) w;exact .inr (.inr χ)})})};refine ⟨?_,λt v=>?_,λ_ d s f=>?_,λ_ d k=>?_,λ_ d _=>?_⟩;{rw [e];exact vF f1 q λx k=>⟨(f3 x k).1,(f3 x k).2.1,(f3 x k).2.2⟩};{rw [e,G_,<-F.mem t v,xG,el,xG,or_assoc];refine or_congr Wv0 ?_;have M:(dR c i).inn t↔c.getD (i-1) 0<t/\((dR c i).b=true\/t<(dR c i).hi):=by{unfold Sp.inn;rw [B j.1,E j.1];simp};have K:t≠c.getD (i-1) 0:=by{rintro rfl;rw [jH] at v;exact v (ù _)};show (l.a=true\/l.lo<t)/\((dR c i).b=true\/t<(dR c i).hi)↔((l.a=true\/l.lo<t)/\(l.b=true\/t<l.hi))\/_;rw [G,m];have n:l.a=true\/l.lo<c.getD (i-1) 0:=by{(cases ha:l.a with|true=>exact .inl rfl|false=>{have:=nK f2.2 ha m;rw [G] at this;exact .inr this})};have u:(dR c i).b=true\/c.getD (i-1) 0<(dR c i).hi:=by{(cases w:(dR c i).b with|true=>exact .inl rfl|false=>{have:=nK A.2 (B j.1) w;rw [E j.1] at this;exact .inr this})};constructor;{rintro ⟨C,o⟩;by_cases g:t<c.getD (i-1) 0;{exact .inl ⟨C,.inr g⟩};{exact .inr ⟨hm,χ,o⟩}};{rintro (⟨C,o⟩|⟨-,C,o⟩);{have N:t<c.getD (i-1) 0:=by{rcases o with o|o;{cases o};{exact o}};exact ⟨C,u.imp_right λu=>χ⟩};{exact ⟨n.imp_right λn=>χ,o⟩}}};{rw [e] at f;rcases õ.1 f with f|f;{have b:=f3 s f;refine ⟨b.1,?_⟩;have n:l.lo<c.getD (i-1) 0:=by{have:=nK f2.2 b.2.1 m;rwa [G] at this};have u:=wL h (show i-1<i by omega) d;have:=b.2.2;grind};{obtain rfl:s=_:=by{simpa using f};refine ⟨I d,?_⟩;rw [D d];grind}};{rw [Qc9] at k;exact Å k y};grind};{have e:cE c ms (i+1)=cE c ms i++[dR c i]:=by{rw [cE,Ä hm,Ã (λg=>j ⟨g.1,g.2.1⟩)]};have w:∀x∈cE c ms i,x.LB (dR c i):=λx k=>by{by_cases p:0<i;{have H:ms.getD (i-1) false=false:=by{(cases hq:ms.getD (i-1) false with|false=>rfl|true=>exact Å ⟨p,hq⟩ j)};exact ⟨(F.top p hi x k).1,B p,by rw [E p];exact F.str p hi H x k⟩};{obtain rfl:i=0:=ω;cases k}};refine ⟨?_,λt v=>?_,λ_ d s f=>?_,λ_ d k=>?_,λ_ d _=>?_⟩;{rw [e];exact vF F.r A w};{rw [e,G_,<-F.mem t v,xG];exact or_congr Wv0 ⟨λg=>⟨hm,g⟩,λg=>g.2⟩};{rw [e] at f;rcases õ.1 f with f|f;{refine ⟨(w s f).1,?_⟩;by_cases p:0<i;{have n:=(F.top p hi s f).2;have u:=wL h (show i-1<i by omega) d;grind};{obtain rfl:i=0:=ω;cases f}};{obtain rfl:s=_:=by{simpa using f};refine ⟨I d,?_⟩;rw [D d];grind}};{rw [Qc9] at k;exact Å k y};{rw [Qc9];exact ⟨_,_,e,D d⟩}}};{have e:cE c ms (i+1)=cE c ms i:=by{rw [cE,Ã hm]};have z:i<c.length->∀s∈cE c ms i,s.b=false/\s.hi<c.getD i 0:=λd s f=>by{by_cases p:0<i;{have ⟨n,u⟩:=F.top p hi s f;have O:=wL h (show i-1<i by omega) d;exact ⟨n,χ⟩};{obtain rfl:i=0:=ω;cases f}};refine ⟨by rw [e];exact F.r,λt v=>?_,λ_ d s f=>?_,λ_ d k s f=>?_,λ_ d k=>?_⟩;{rw [e,G_,F.mem t v];exact ⟨.inl,λg=>g.elim id λg=>Å g.1 hm⟩};{rw [e] at f;have ⟨n,u⟩:=z d s f;exact ⟨n,χ⟩};{rw [e] at f;exact (z d s f).2};{rw [Qc9] at k;exact Å k hm}}
theorem fi (h:asc c):∀{i:Nat},i<=c.length+1->FI c ms i:=by
 intro i
 induction i with
 | zero=>exact λ_=>⟨⟨ţ,List.Pairwise.nil⟩,(λt _=>⟨(λ⟨_,h,_⟩=>by cases h),(λ⟨_,h,_⟩=>Å h (Ŝ _))⟩),(λh=>Å h (Ww0 _)),(λh=>Å h (Ww0 _)),(λh=>Å h (Ww0 _))⟩
 | succ i ih=>exact λa=>Wn h ω (ih ω)
end
def Sp.innB (s:Sp)(t:Rat):Bool:=(s.a||decide (s.lo<t))&&(s.b||decide (t<s.hi))
variable{ss:List Sp}
def è (ss:List Sp)(t:Rat):Bool:=ss.any λs=>s.innB t
theorem innB_iff {s:Sp}{t:Rat}:s.innB t=true↔s.inn t:=by unfold Sp.innB Sp.inn;simp
theorem jI {t:Rat}:è ss t=true↔zH ss t:=by unfold è zH;rw [Qh9];exact ⟨λ⟨s,a,b⟩=>⟨s,a,innB_iff.1 b⟩,λ⟨s,a,b⟩=>⟨s,a,innB_iff.2 b⟩⟩
theorem An {a b:md}(h:a=true↔b=true):a=b:=by cases a<;>cases b<;>simp at h<;>rfl
theorem Wc {t:Rat}(h:∀s∈ss,¬s.cZ t):(rV ss t==2)=è ss t:=by
 induction ss with
 | nil=>rfl
 | cons s r ih=>
  have f:=h s ψ
  have c:s.innB t=decide (zu (s.la t) (s.lb t)=2)/\(zu (s.la t) (s.lb t)≠0->zu (s.la t) (s.lb t)=2):=by unfold Sp.cZ at f;unfold Sp.innB Sp.la Sp.lb zu;rcases cY t s.lo with ⟨g,d⟩|⟨g,d⟩|⟨g,d⟩<;>rcases cY t s.hi with ⟨h2,e2⟩|⟨h2,e2⟩|⟨h2,e2⟩<;>rw [d,e2]<;>cases ha:s.a<;>cases c:s.b<;>simp at f⊢<;>grind
  have e:è (s::r) t=(s.innB t||è r t):=rfl;rw [e,<-(ih λx j=>h x (by simp [j])),c.1];by_cases i:zu (s.la t) (s.lb t)=0
  ·simp [rV,i]
  ·have:=c.2 i;simp [rV,this]
def ę (op:Int)(x y:Bool):Bool:=if op=2 then x&&y else if op=3 then x&&!y else if op=4 then x != y else x||y
def jm (op:Int)(a b:List Sp)(c:List Rat):List Bool:=(dY c).map λt=>ę op (rV a t==2) (rV b t==2)
def Ö (op:Int)(a b:List Sp):List Sp:=FO (Þ (a++b)) (jm op a b (Þ (a++b)))
theorem kT (op:Int)(a b:pz Sp)(c:pz Rat):(jm op a b c).length=c.length+1:=by unfold jm;rw [ď,lI]
theorem comb_reg (op:Int)(a b:pz Sp):rW (Ö op a b):=by unfold Ö FO;rw [kT];exact (fi (BF _) (Ù _)).r
theorem Wu {c:pz Rat}(h:asc c)(hc:∀s∈ss,∀q,s.cZ q->q∈c){i:Nat}(hi:i<=c.length){t u:Rat}(ht:(dR c i).inn t)(hu:(dR c i).inn u):è ss t=è ss u:=by
 induction ss with
 | nil=>rfl
 | cons s r ih=>
  have e:∀t,è (s::r) t=(s.innB t||è r t):=λ_=>rfl;rw [e,e,(ih λx f=>hc x (by simp [f]))];congr 1;have d:=hc s ψ;unfold Sp.innB;cases ha:s.a<;>cases hb:s.b<;>simp
  ·have g:=qo h hi ht hu (d s.lo (.inl ⟨ha,rfl⟩));have j:=qo h hi ht hu (d s.hi (.inr ⟨hb,rfl⟩));grind
  ·exact (qo h hi ht hu (d s.lo (.inl ⟨ha,rfl⟩))).1
  ·exact (qo h hi ht hu (d s.hi (.inr ⟨hb,rfl⟩))).2.1
theorem comb_inB (op:Int)(a b:pz Sp){t:Rat}(ht:t∉Þ (a++b)):è (Ö op a b) t=ę op (è a t) (è b t):=by have e:=BF (a++b);have f:∀s∈a++b,∀q,s.cZ q->q∈Þ (a++b):=λs d q k=>eY.2 ⟨s,d,k⟩;unfold Ö FO;generalize Þ (a++b)=c at ht e f;rw [kT];have l:∀s∈a,∀q,s.cZ q->q∈c:=λs d=>f s (by simp [d]);have m:∀s∈b,∀q,s.cZ q->q∈c:=λs d=>f s (by simp [d]);have mk:∀j,j<=c.length->(dR c j).inn t->(jm op a b c).getD j false=ę op (è a t) (è b t):=λj g n=>by{have h:=Ud e g;have i:(dY c).getD j 0∉c:=λhm=>(qo e g h h hm).2.2 rfl;grind [jm,lI,Wc,Wu]};refine An ?_;rw [jI,(fi e (Ù _)).mem t ht];grind [Z4]
theorem reg_eq {xs ys:pz Sp}(E:pz Rat)(hx:rW xs)(hy:rW ys)(h:∀t,t∉E->è xs t=è ys t):xs=ys:=
 MR (E:=E) hx hy λt a=>by rw [<-jI,<-jI,h t a]
end Go.Proofs.Tryz
namespace Go.Proofs.Tryz
section
variable {α:Type}
structure œ (c:α->α->Int):Prop where
 Zq:∀a b,c a b<0->¬c b a<0
 tr:∀a b d,¬c a b<0->¬c b d<0->¬c a d<0
variable {c:α->α->Int}
theorem œ.refl (h:œ c)(a:α):¬c a a<0:=λl=>h.Zq a a l l
def HU (d:α)(l:List α)(i j:Nat):List α:=(l.set i (l.getD j d)).set j (l.getD i d)
variable {d:α}
theorem HV {l:pz α}{i j:Nat}:(HU d l i j).length=l.length:=by simp [HU]
theorem vd {l:pz α}{i k:Nat}{x:α}(hi:i<l.length):(l.set i x).getD k d=if k=i then x else l.getD k d:=by simp only [ġ,Qp9];by_cases h:k=i;{subst h;simp [hi]};{have:¬i=k:=λe=>h e.symm;simp [h,this]}
theorem xP {l:pz α}{i j k:Nat}(hi:i<l.length)(hj:j<l.length:=by omega):(HU d l i j).getD k d=if k=j then l.getD i d else if k=i then l.getD j d else l.getD k d:=by unfold HU;rw [vd (by simpa using hj),vd hi]
theorem UU {l:pz α}{i j:Nat}(hi:i<l.length)(hj:j<l.length:=by omega):(HU d l i j).Perm l:=by have e:(l.toArray.swap i j (by simpa using hi) (by simpa using hj)).toList=HU d l i j:=by{simp [Array.swap,HU,ġ,hi,hj]};have:=(Array.swap_perm (xs:=l.toArray) (i:=i) (j:=j) (by simpa using hi) (by simpa using hj)).toList;rw [e] at this;simpa using this
structure tu (d:α) (l m:List α) (a b:Nat):Prop where
 len:m.length=l.length
 out:∀k,¬(a<=k/\k<b)->m.getD k d=l.getD k d
 mem:∀k,a<=k->k<b->∃k',a<=k'/\k'<b/\m.getD k d=l.getD k' d
 perm:m.Perm l
theorem tu.refl (l:pz α)(a b:Nat):tu d l l a b:=⟨rfl,λ_ _=>rfl,λk h c=>⟨k,h,c,rfl⟩,.refl _⟩
theorem tu.m {l m n:pz α}{a b:Nat}(h:tu d l m a b)(g:tu d m n a b):tu d l n a b:=
 ⟨g.len.m h.len,λk f=>(g.out k f).m (h.out k f),λk i j=>by
  have ⟨o,p,q,e⟩:=g.mem k i j;have ⟨c,r,s,t⟩:=h.mem o p q;exact ⟨c,r,s,e.m t⟩,g.perm.m h.perm⟩
theorem tu.wide {l m:pz α}{a b a' b':Nat}(h:tu d l m a b)(ha:a'<=a)(hb:b<=b'):tu d l m a' b':=
 ⟨h.len,λk c=>h.out k ω,λk f g=>by
  by_cases c:a<=k/\k<b
  ·have ⟨i,j,n,e⟩:=h.mem k c.1 c.2;exact ⟨i,ω,ω,e⟩
  ·exact ⟨k,f,g,h.out k c⟩,h.perm⟩
theorem tu.HU {l:pz α}{a b i j:Nat}(hi:a<=i)(hi':i<b)(hj:a<=j)(hj':j<b)(hb:b<=l.length:=by omega):tu d l (HU d l i j) a b:=by refine ⟨HV,λk f=>?_,λk c e=>?_,UU ω⟩;{rw [xP ω,Ã ω,Ã ω]};{rw [xP ω];split;{exact ⟨i,hi,hi',rfl⟩};{split;{exact ⟨j,hj,hj',rfl⟩};{exact ⟨k,c,e,rfl⟩}}}
def pj (c:α->α->Int)(d:α)(l:List α)(a b:Nat):Prop:=∀p q,a<=p->p<q->q<b->¬c (l.getD q d) (l.getD p d)<0
theorem pj.short {l:pz α}{a b:Nat}(h:b<=a+1):pj c d l a b:=λp q e f g=>ω
def X2 (c:α->α->Int)(d:α)(l:List α)(a i j:Nat):Prop:=∀p q,a<=p->p<q->q<=i->q≠j->¬c (l.getD q d) (l.getD p d)<0
theorem X2.start {l:pz α}{a i:Nat}(h:pj c d l a i):X2 c d l a i i:=λp q b e f g=>h p q b e ω
theorem X2.done (ho:œ c){l:pz α}{a i j:Nat}(h:X2 c d l a i j)(hji:j<=i)(hs:j<=a\/¬c (l.getD j d) (l.getD (j-1) d)<0):pj c d l a (i+1):=by intro p q b f k;by_cases e:q=j;{subst e;rcases hs with hs|hs;{omega};{by_cases g:p=q-1;{subst g;exact hs};{exact ho.tr _ _ _ hs (h p (q-1) b ω ω ω)}}};{exact h p q b f ω e}
theorem X2.move (ho:œ c){l:pz α}{a i j:Nat}(h:X2 c d l a i j)(hj:a<j)(hji:j<=i)(hi:i<l.length)(hl:c (l.getD j d) (l.getD (j-1) d)<0):X2 c d (HU d l j (j-1)) a i (j-1):=by intro p q g n f o;have m:=λk=>xP (d:=d) (l:=l) (i:=j) (j:=j-1) (k:=k) ω;rw [m,m];by_cases eq:q=j;{subst eq;rw [Ã ω,Ä rfl];by_cases b:p=q-1;{rw [Ä b];exact ho.Zq _ _ hl};{rw [Ã b,Ã ω];exact h p (q-1) g ω ω ω}};{rw [Ã o,Ã eq];by_cases b:p=j-1;{rw [Ä b];exact h j q ω ω f eq};{rw [Ã b];by_cases e:p=j;{rw [Ä e];exact h (j-1) q ω ω f eq};{rw [Ã e];exact h p q g n f eq}}}
end
end Go.Proofs.Tryz
