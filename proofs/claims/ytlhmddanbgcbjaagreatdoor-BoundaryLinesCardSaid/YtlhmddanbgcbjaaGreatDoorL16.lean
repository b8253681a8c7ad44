import Derived.Test.YtlhmddanbgcbjaaGreatDoorL15
import Derived.Test.YtlhmddanbgcbjaaGreatDoorL7
import Derived.Test.YtlhmddanbgcbjaaGreatDoorL8
import Derived.Test.YtlhmddanbgcbjaaGreatDoorL11
import Derived.Test.YtlhmddanbgcbjaaGreatDoorL12
import Derived.Test.YtlhmddanbgcbjaaGreatDoorL5
set_option linter.all false
open Go.IntKind (i64 u64 u32)
namespace Go.Proofs.Tryz
open Go.Eng Go.Big
open Go.Value renaming slice→qD,agg→hF,bool→dQ,tuple→dB,int→qvZ
variable{V:View}{v:Value}{s:Sp}{k:Nat}{ad:Addr}{p:OA}
theorem mf (h:Pw V v false [] []):aa prog 96 #[v] V λr V'=>r=dQ true:=by obtain ⟨p,n,c,q,m,e,rfl,a,b⟩:=h;obtain rfl:=a.len;obtain rfl:=b.len;exact DQ V _ ⟨λ_=>⟨λ_ d f=>rfl,(λh=>nomatch h)⟩,(λh=>nomatch h)⟩
theorem tV {w:un}(h:xU V v s)(h':xU V w s)(hs:s.sz k)(hk:k<=1099511627776) :
  aa prog 45 #[v,w] V λr V'=>r=dQ true:=by obtain ⟨lo,hi,a,b⟩:=s;obtain ⟨b1,p,n,c,p',n',c',d,q,m,e,N,O,P,rfl,H,I⟩:=h;obtain ⟨b2,i,j,t,i',j',t',f,o,u,g,Q,R,S,rfl,J,K⟩:=h';dsimp only at H I J K ⊢;refine DN V _ ⟨λ_=>⟨λ_=>?_,(by intro h;simp at h)⟩,(by intro h;simp at h)⟩;have T:∀x:ut,V.Le x->b=true->aa prog 96 #[hF #[dQ d,qD q m e,qD N O P]] x λr V'=>r=dQ true:=λx z l=>mf ((I.1 l).le z);have D:∀x:ut,V.Le x->b=true->aa prog 96 #[hF #[dQ f,qD o u g,qD Q R S]] x λr V'=>r=dQ true:=λx z l=>mf ((K.1 l).le z);have U:∀x:ut,V.Le x->b=false->aa prog 97 #[hF #[dQ d,qD q m e,qD N O P],hF #[dQ f,qD o u g,qD Q R S]] x λr V'=>r=dQ true:=λx z l=>(rA ((I.2 l).le z) ((K.2 l).le z) hs.2 hk).s λr B _ h=>by{rw [h];simp};(cases a with|true=>{refine ⟨λ_ Y C=>(mf ((H.1 rfl).le C)).s ?_,(λh=>nomatch h)⟩;rintro r V2 W rfl;refine ⟨_,rfl,λ_ V3 X=>(mf ((J.1 rfl).le (C.m (W.m X)))).s ?_,(λh=>nomatch h)⟩;rintro r x z rfl;have L:=C.m (W.m (X.m z));refine ⟨_,rfl,λ_=>⟨λl B A=>(T B (L.m A) l).s ?_,λl=>⟨λ_ B A=>(U B (L.m A) l).s ?_,λy=>by rw [l] at y;cases y⟩⟩,(λh=>nomatch h)⟩;{rintro r M E rfl;refine ⟨_,rfl,λ_ F G=>(D F (L.m (A.m (E.m G))) l).s ?_,(λh=>nomatch h)⟩;rintro r Z l8 rfl;exact ⟨_,rfl,λ_ V9 l9=>rfl,(λh=>nomatch h)⟩};{rintro r M E rfl;exact ⟨_,rfl,λF G=>rfl⟩}}|false=>{refine ⟨(λh=>nomatch h),λ_=>⟨λ_ Y C=>(rA ((H.2 rfl).le C) ((J.2 rfl).le C) hs.1 hk).s ?_,(λh=>nomatch h)⟩⟩;rintro r x z rfl;have L:=C.m z;refine ⟨_,rfl,λ_=>⟨λl B A=>(T B (L.m A) l).s ?_,λl=>⟨λ_ B A=>(U B (L.m A) l).s ?_,λy=>by rw [l] at y;cases y⟩⟩,(by intro h;simp at h)⟩;{rintro r M E rfl;refine ⟨_,rfl,λ_ F G=>(D F (L.m (A.m (E.m G))) l).s ?_,(λh=>nomatch h)⟩;rintro r Z l8 rfl;exact ⟨_,rfl,λ_ V9 l9=>rfl,(λh=>nomatch h)⟩};{rintro r M E rfl;exact ⟨_,rfl,λF G=>rfl⟩}})
theorem C0 (h:mO V v s)(hs:s.sz k)(hk:k<=1099511627776):aa prog 46 #[v] V λr V'=>xU V' r s:=by obtain ⟨G,p,n,c,H,I,J,d,q,m,e,K,L,M,rfl,z,l⟩:=h;have t:∀{V:ut} {v:un} {x:Rat} {no:md},RA V v x->(!no)=true->RE V v x no:=λh e=>by{rw [Qz6] at e;subst e;exact ⟨(λh=>nomatch h),λ_=>h⟩};have f:∀{V:ut} {x:Rat} {no:md},(!no)=false->RE V (hF #[dQ false,qD none 0 0,qD none 0 0]) x no:=λe=>by{rw [Qv1] at e;subst e;exact ⟨λ_=>Pw.nil,(λh=>nomatch h)⟩};refine Cq V _ ⟨λg N o=>(jE (z.le o) hs.1 hk).s ?_,λg=>⟨λa O A=>(jE (l.le A) hs.2 hk).s ?_,λa P B=>?_⟩⟩;{rintro r V2 C u;have i:=u;obtain ⟨_,_,_,_,_,_,_,rfl⟩:=u.shape;refine qyW ⟨rfl,λa Q w=>(jE (l.le (o.m (C.m w))) hs.2 hk).s ?_,λa R D=>?_⟩;{rintro r S E j;have b:=j;obtain ⟨_,_,_,_,_,_,_,rfl⟩:=j.shape;exact qyW ⟨rfl,λT y=>⟨_,_,_,_,_,_,_,_,_,_,_,_,_,_,rfl,t (i.le (w.m (E.m y))) g,t (b.le y) a⟩⟩};{exact qyZ ⟨rfl,t (i.le D) g,f a⟩}};{rintro r U W j;have b:=j;obtain ⟨_,_,_,_,_,_,_,rfl⟩:=j.shape;exact qyW ⟨rfl,λX F=>⟨_,_,_,_,_,_,_,_,_,_,_,_,_,_,rfl,f g,t (b.le F) a⟩⟩};{exact qyZ ⟨rfl,f g,f a⟩}
theorem kH.ah {l:L3}(h:kH k l)(hk:k<=1099511627776):(ah l.1.natAbs).length<=1099511627776/\(ah l.2.1.natAbs).length<=1099511627776/\(ah l.2.2.natAbs).length<=1099511627776:=by have d1:=ag (show l.1.natAbs<2^k from h.1.1);have d2:=ag (show l.2.1.natAbs<2^k from h.2.1.1);have d3:=ag (show l.2.2.natAbs<2^k from h.2.2.1);exact ⟨by omega,by omega,by omega⟩
def FAt (V:View)(ad:Addr)(l:L3)(s:Sp):Prop:=∃xs:List Value,Xc V (.agg xs.toArray) l s/\∀i x,xs[i]?=some x->V.at (ad.add i) x
theorem FAt.le {V V':ut}{l:L3}(h:FAt V ad l s)(e:V.Le V'):FAt V' ad l s:=by obtain ⟨xs,a,b⟩:=h;exact ⟨xs,a.le e,λi x c=>e.at (b i x c)⟩
structure J_ (V:View) (p:OA) (n:Nat) (fs:List (L3×Sp)):Prop where
 len:n=fs.length
 at_:∀(i:Nat)(h:i<fs.length),∃ad,ae p (i*14)=some ad/\FAt V ad fs[i].1 fs[i].2
theorem J_.le {V V':ut}{n:Nat}{fs:pz (L3×Sp)}(h:J_ V p n fs)(e:V.Le V'):J_ V' p n fs:=⟨h.len,λi a=>by have ⟨b,c,d⟩:=h.at_ i a;exact ⟨b,c,d.le e⟩⟩
theorem aF {j:Nat}(h:ae p j=some ad):p.isSome=true:=by (cases p with|none=>{cases h}|some a=>rfl)
def SAt (V:View)(ad:Addr)(s:Sp):Prop:=∃xs:List Value,mO V (.agg xs.toArray) s/\∀i x,xs[i]?=some x->V.at (ad.add i) x
theorem SAt.le {V V':ut}(h:SAt V ad s)(e:V.Le V'):SAt V' ad s:=by obtain ⟨xs,a,b⟩:=h;exact ⟨xs,a.le e,λi x c=>e.at (b i x c)⟩
structure Mb (V:View) (p:OA) (n:Nat) (ss:List Sp):Prop where
 len:n=ss.length
 at_:∀(i:Nat)(h:i<ss.length),∃ad,ae p (i*8)=some ad/\SAt V ad ss[i]
theorem Mb.le {V V':ut}{n:Nat}{ss:pz Sp}(h:Mb V p n ss)(e:V.Le V'):Mb V' p n ss:=⟨h.len,λi a=>by have ⟨b,c,d⟩:=h.at_ i a;exact ⟨b,c,d.le e⟩⟩
def xZ (a b:Int):Int:=if 0<a/\b<0 then 2 else if (a=0/\b<=0)\/(b=0/\0<=a) then 1 else 0
def Sp.la (s:Sp)(t:Rat):Int:=if s.a then 1 else dK t s.lo
def Sp.lb (s:Sp)(t:Rat):Int:=if s.b then -1 else dK t s.hi
variable{V:View}{p:OA}{c i k n y:Nat}{v w:Value}{ss:List Sp}{px py q qx qy x:Rat}{ds:List Nat}{xs:List Value}{s:Sp}
def q_:List Sp->Rat->Int
 | [],_=>0
 | s::r,t=>if xZ (s.la t) (s.lb t)≠0 then xZ (s.la t) (s.lb t) else q_ r t
theorem CY {t:Rat}(hl:Mb V p n ss)(ht:RQ V v t)(hs:∀s∈ss,s.sz k)(st:Sz k t)(hk:2*k<274877906944)(hn:ss.length<4611686018427387904) :
  aa prog 279 #[qD p n c,v] V λr V'=>r=qvZ .i64 (q_ ss t):=by obtain rfl:=hl.len;have m:=ht;obtain ⟨_,_,_,_,_,_,rfl⟩:=ht.shape;refine Co V _ ⟨λz V'=>0<=z/\z<=ss.length/\q_ ss t=q_ (ss.drop z.toNat) t,λz=>(ss.length-z).toNat,⟨0,by and_intros<;>rfl,by omega,by omega,rfl⟩,?_⟩;rintro z N q ⟨O,P,g⟩;refine ⟨rfl,λl=>?_,λl Q R=>?_⟩;{have l:z<ss.length:=of_decide_eq_true l;obtain ⟨i,rfl⟩:∃i:Nat,z=i:=⟨z.toNat,by omega⟩;have u:i<ss.length:=by{omega};rw [Qq0] at g ⊢;have w:i64.wrap ((i:Int)+1)=(i:Int)+1:=aw (by omega);rw [w];have x:=hs _ (Qq9 u);obtain ⟨C,d,xs,⟨S,pp,T,U,D,E,F,W,X,Y,Z,G,H,I,ex,J,K⟩,f⟩:=(hl.le q).at_ i u;have ex:=congrArg Array.toList (Value.agg.inj ex);dsimp only at ex;subst ex;rw [Qw4 u] at g;generalize ss[i]=s at *;simp only [q_] at g;refine ⟨aF d,⟨by omega,l⟩,_,_,_,_,_,_,_,_,_,_,_,_,_,_,s.a,s.b,C,by rw [d],f 0 _ rfl,f 1 _ rfl,f 2 _ rfl,f 3 _ rfl,f 4 _ rfl,f 5 _ rfl,f 6 _ rfl,f 7 _ rfl,λz _=>z=s.la t,⟨λh V2 y=>(eI (m.le (q.m y)) (J.le y) st x.1).s ?_,λh=>⟨1,by and_intros<;>rfl,?_⟩⟩,?_⟩;{rintro r V3 l3 rfl;exact ⟨_,rfl,_,by and_intros<;>rfl,by unfold Sp.la;rw [Qz6] at h;rw [h];rfl⟩};{unfold Sp.la;rw [Qv1] at h;rw [h];rfl};rintro za V4 A rfl;refine ⟨rfl,λz _=>z=s.lb t,⟨λh V5 B=>(eI (m.le (q.m (A.m B))) (K.le (A.m B)) st x.2).s ?_,λh=>⟨-1,by and_intros<;>rfl,?_⟩⟩,?_⟩;{rintro r V6 l6 rfl;exact ⟨_,rfl,_,by and_intros<;>rfl,by unfold Sp.lb;rw [Qz6] at h;rw [h];rfl⟩};{unfold Sp.lb;rw [Qv1] at h;rw [h];rfl};rintro zb V7 l7 rfl;generalize s.la t=a at *;generalize s.lb t=b at *;refine ⟨rfl,λz _=>z=decide (0<a/\b<0),⟨λh=>⟨_,by and_intros<;>rfl,?_⟩,λh=>⟨_,by and_intros<;>rfl,?_⟩⟩,?_⟩;{have h:0<a:=of_decide_eq_true h;simp [h]};{have h:¬0<a:=of_decide_eq_false h;simp [h]};rintro z9 V8 l8 rfl;refine ⟨rfl,λh V9 l9=>?_,λh=>⟨λz _=>z=decide ((a=0/\b<=0)\/(b=0/\0<=a)),⟨λd=>⟨λo=>⟨_,by and_intros<;>rfl,?_⟩,λo=>⟨λe=>⟨_,by and_intros<;>rfl,?_⟩,λe=>⟨_,by and_intros<;>rfl,?_⟩⟩⟩,λd=>⟨λe=>⟨_,by and_intros<;>rfl,?_⟩,λe=>⟨_,by and_intros<;>rfl,?_⟩⟩⟩,?_⟩⟩;{have h:=of_decide_eq_true h;rw [g];simp [xZ,h]};{simp at d o;simp [d,o]};{simp at d o e;simp [d,e]};{simp at d o e;simp [d,e];omega};{simp at d e;simp [d,e]};{simp at d e;simp [d,e]};rintro L fy M rfl;have h:=of_decide_eq_false h;refine ⟨rfl,λj fC bo=>?_,λj=>⟨(i:Int)+1,by dsimp only;omega,by and_intros<;>rfl,by omega,by omega,?_⟩⟩;{have j:=of_decide_eq_true j;rw [g];have:xZ a b=1:=by{unfold xZ;rw [if_neg h,if_pos j]};rw [this];rfl};{have j:=of_decide_eq_false j;have:xZ a b=0:=by{unfold xZ;rw [if_neg h,if_neg j]};rw [g,this];show _=q_ (ss.drop ((i:Int)+1).toNat) t;rw [show ((i:Int)+1).toNat=i+1 from by omega];rfl}};{have l:¬z<ss.length:=of_decide_eq_false l;rw [g,show z.toNat=ss.length from by omega,Qp7];rfl}
theorem NY (x y:Rat):dK y x=- dK x y:=by unfold dK;rw [show y-x=-(x-y) from by grind];exact Int.sign_neg _
theorem Aa (h:RQ V v q):aa prog 49 #[v] V λr V'=>RQ V' r (-q):=by obtain ⟨p,n,c,d,e,f,rfl,a,b⟩:=h;exact mU q a b
theorem SY {px py qx qy:Rat}:((oS px py qx qy).1.num / (cg (oS px py qx qy).1.num (oS px py qx qy).2.1.num (oS px py qx qy).2.2.num:Int),(oS px py qx qy).2.1.num / (cg (oS px py qx qy).1.num (oS px py qx qy).2.1.num (oS px py qx qy).2.2.num:Int),(oS px py qx qy).2.2.num / (cg (oS px py qx qy).1.num (oS px py qx qy).2.1.num (oS px py qx qy).2.2.num:Int))=mH px py qx qy:=by unfold oS mH A9 AW;have e:∀x:Rat,(-x).den=x.den:=λx=>rfl;rw [e (-(qy-py)*px+(qx-px)*py)];rfl
theorem SZ:((oS px py qx qy).1.num=0/\(oS px py qx qy).2.1.num=0)↔(px=qx/\py=qy):=by unfold oS;dsimp only;generalize hf:(-(qy-py)).den*(qx-px).den*(-(-(qy-py)*px+(qx-px)*py)).den=f;have b:f≠0:=by{rw [←hf];exact Qb6 (Qb6 (Rat.den_nz _) (Rat.den_nz _)) (Rat.den_nz _)};have a:((f:Int):Rat)≠0:=by{exact_mod_cast b};rw [Qv0,Qv0,Qg6,Qg6,or_iff_left a,or_iff_left a];exact Vs.symm
theorem OR {u:un}(hp:RP V u px py)(hq:RP V w qx qy)(s1:Sz k px)(s2:Sz k py)(s3:Sz k qx)(s4:Sz k qy)(hk1:1<=k)(hk:64*k+64<274877906944:=by omega) :
  aa prog 30 #[u,w] V λr V'=>(px=qx/\py=qy->∃l,r=dB #[l,dQ false]/\RL V' l 0 0 0)/\(¬(px=qx/\py=qy)->∃l,r=dB #[l,dQ true]/\RL V' l (mH px py qx qy).1 (mH px py qx qy).2.1 (mH px py qx qy).2.2):=by refine (jM hp hq s1 s2 s3 s4 hk1 hk).s ?_;rintro r V2 d ⟨a,b⟩;have e:=SY (px:=px) (py:=py) (qx:=qx) (qy:=qy);rw [SZ] at a b;refine ⟨a,λh=>?_⟩;have ⟨l,c,g⟩:=b h;rw [←e];exact ⟨l,c,g⟩
theorem xX {u:un}(hp:RP V u px py)(hq:RP V v qx qy)(s1:Sz k px)(s2:Sz k py)(s3:Sz k qx)(s4:Sz k qy)(hk1:1<=k)(hk:400*k+400<274877906944:=by omega) :
  aa prog 178 #[u,v] V λr V'=>(px=qx/\py=qy->∃l,r=dB #[l,dQ false]/\RF V' l (0,0,0) Sp.zero)/\(¬(px=qx/\py=qy)->∃l,r=dB #[l,dQ true]/\RF V' l (mH px py qx qy) (Lj px py qx qy)):=by have a:=hp;have b:=hq;obtain ⟨_,_,_,_,_,_,_,_,_,_,_,_,_,_,rfl⟩:=lG hp;obtain ⟨_,_,_,_,_,_,_,_,_,_,_,_,_,_,rfl⟩:=lG hq;refine wX V _ λy d=>(OR (a.le d) (b.le d) s1 s2 s3 s4 hk1).s ?_;rintro r V2 p ⟨w,x⟩;by_cases h:px=qx/\py=qy;{obtain ⟨l,rfl,e⟩:=w h;obtain ⟨_,_,_,_,_,_,_,_,_,_,_,_,rfl⟩:=Bw e;have z:∀V:ut,RQ V (hF #[dQ false,qD none 0 0,qD none 0 0]) 0:=λV=>by{have:=RQ.zero (V:=V);simpa using this};refine ⟨_,_,_,_,_,_,_,_,_,_,_,_,_,rfl,λ_ A B=>⟨λ_=>⟨_,rfl,?_⟩,λg=>absurd h g⟩,λh=>nomatch h⟩;exact ⟨_,_,_,_,_,_,_,_,_,_,_,_,_,_,_,_,_,_,_,_,_,_,_,_,_,_,rfl,⟨_,_,_,_,_,_,_,_,_,rfl,RD.nil,RD.nil,RD.nil⟩,_,_,_,_,_,_,_,_,_,_,_,_,_,_,rfl,z _,z _⟩};{obtain ⟨l,rfl,e⟩:=x h;have i:=e;have sl:=Gz s1 s2 s3 s4 h;have nz:=Nk h;obtain ⟨_,_,_,_,_,_,_,_,_,_,_,_,rfl⟩:=Bw e;refine ⟨_,_,_,_,_,_,_,_,_,_,_,_,_,rfl,(λh=>nomatch h),λ_ C c=>(uI (i.le c) (a.le (d.m (p.m c))) nz sl (Sz.s s1) (Sz.s s2)).s ?_⟩;rintro r D j q;have m:=q;obtain ⟨_,_,_,_,_,_,rfl⟩:=q.shape;refine qyW ⟨rfl,λE f=>(uI (i.le (c.m (j.m f))) (b.le (d.m (p.m (c.m (j.m f))))) nz sl (Sz.s s3) (Sz.s s4)).s ?_⟩;rintro r F s t;have n:=t;obtain ⟨_,_,_,_,_,_,rfl⟩:=t.shape;refine qyW ⟨rfl,λG o=>⟨λg=>absurd g h,λ_=>⟨_,rfl,?_⟩⟩⟩;exact ⟨_,_,_,_,_,_,_,_,_,_,_,_,_,_,_,_,_,_,_,_,_,_,_,_,_,_,rfl,i.le (c.m (j.m (f.m (s.m o)))),_,_,_,_,_,_,_,_,_,_,_,_,_,_,rfl,m.le (f.m (s.m o)),n.le o⟩}
theorem Ei (h:RD V p n c ds)(hm:ds.length<=1099511627776:=by omega) :
  aa prog 252 #[qD p n c] V λr V'=>∃p1 n1 c1,r=qD p1 n1 c1/\RN V' p1 n1 c1 (val ds):=by have a:=h.len;refine LU V _ ⟨aK ds,h.sl,by simp [a],by omega,by omega,by simp,by simp [a],?_,?_⟩;{intro v e;simp only [aK,Qz1] at e;obtain ⟨d,-,rfl⟩:=e;rfl};{intro l J sp m f o q s b i;simp only [Qz2,Qc4,Qd4,Qm1] at i f ⊢;refine (eC (copied h.gC a f i)).s ?_;rintro r V2 t ⟨k,rfl,g⟩;rw [aY h.gC] at g;exact ⟨_,_,_,rfl,λu w j=>⟨_,_,_,rfl,g.le j⟩⟩}
theorem NT (b:md)(h:RD V p n c ds)(hm:ds.length<=1099511627776:=by omega) :
  aa prog 253 #[hF #[dQ b,qD p n c]] V λr V'=>RI V' r (bI b ds):=by refine LS V _ λi a=>(Ei (h.le a) hm).s ?_;rintro r V2 j ⟨k,l,m,rfl,g⟩;refine ⟨_,_,_,rfl,λo d=>(fJ b (g.le d)).s ?_⟩;rintro r q s ⟨t,u,v,rfl,e⟩;exact qvJ ⟨rfl,λw f=>⟨_,_,_,rfl,e.le f⟩⟩
theorem QQ {b:md}(h:cP ds):(ah (bI b ds).natAbs).length<=ds.length:=by rw [fO];exact bH h
theorem NU {b:md}{xs ys:pz Nat}(h:Pw V v b xs ys)(m1:xs.length<=274877906944)(m2:ys.length<=274877906944:=by omega) :
  aa prog 218 #[v] V λr V'=>RQ V' r (OT b xs ys):=by obtain ⟨p,n,c,q,m,e,rfl,d,f⟩:=h;have d1:=QQ (b:=b) d.gC;have d2:=bH f.gC;refine LV V _ λB i=>(Ei (f.le i)).s ?_;rintro r V2 t ⟨C,j,D,rfl,g⟩;have l:=g.len;refine ⟨_,_,_,rfl,λa u E=>?_,λa F o=>(NT b (d.le (i.m (t.m o)))).s ?_⟩;{have a:((j:Nat):Int)=0:=by{simpa using a};have:ah (val ys)=[]:=Qw8.1 (by omega);have:val ys=0:=bR.1 this;unfold OT;rw [this,Rat.mkRat_zero];have:=RQ.zero (V:=u);simpa using this};{have w:val ys≠0:=λe=>by{rw [e] at l;have a:¬((j:Nat):Int)=0:=by{simpa using a};exact a (by rw [l];rfl)};rintro r G x ⟨H,I,J,rfl,y⟩;refine qvJ ⟨rfl,λK s=>(nS _ (y.le s) (g.le (o.m (x.m s))) (by omega) (by omega) w).s ?_⟩;rintro r L M k;have z:=k;obtain ⟨_,_,_,_,_,_,rfl⟩:=k.shape;exact qyW ⟨rfl,λN A=>z.le A⟩}
theorem Qv {l:L3}(h:Xc V v l s):∃b1 p1 n1 c1 b2 p2 n2 c2 b3 p3 n3 c3 b p n c p' n' c' d q m e q' m' e',
 v=hF #[dQ b1,qD p1 n1 c1,dQ b2,qD p2 n2 c2,dQ b3,qD p3 n3 c3,dQ b,qD p n c,qD p' n' c',dQ d,qD q m e,qD q' m' e',dQ s.a,dQ s.b]:=by obtain ⟨_,_,_,_,_,_,_,_,_,_,_,_,_,_,_,_,_,_,_,_,_,_,_,_,_,_,e,-⟩:=h;exact ⟨_,_,_,_,_,_,_,_,_,_,_,_,_,_,_,_,_,_,_,_,_,_,_,_,_,_,e⟩
theorem Vo (s1:Sz k px)(s2:Sz k py)(s3:Sz k qx)(s4:Sz k qy)(h:¬(px=qx/\py=qy)):(Lj px py qx qy).sz (400*k+400):=by have sl:=Gz s1 s2 s3 s4 h;exact ⟨Sz.s (Ng sl (Sz.s s1) (Sz.s s2)),Sz.s (Ng sl (Sz.s s3) (Sz.s s4))⟩
theorem Ni:Sz 2 (((2:Int):Rat)):=⟨by show (2:Int).natAbs<_;decide,by show (1:Nat)<_;decide⟩
theorem jA:Sz 2 (((1:Int):Rat)):=⟨by show (1:Int).natAbs<_;decide,by show (1:Nat)<_;decide⟩
theorem sw (h:RQ V v x)(sx:Sz k x)(hk:k+2<274877906944:=by omega) :
  aa prog 160 #[v] V λr V'=>RQ V' r (x*((2:Int):Rat)⁻¹):=by have b:=h;obtain ⟨_,_,_,_,_,_,rfl⟩:=h.shape;refine JK V _ λj c=>(dV 2 (by decide) (by decide)).s ?_;rintro r V2 d g;have e:=g;obtain ⟨_,_,_,_,_,_,rfl⟩:=g.shape;refine qyW ⟨rfl,λl a=>(iZ (b.le (c.m (d.m a))) (e.le a) (by show (2:Int)≠0;decide) sx Ni hk).s ?_⟩;rintro r m n q;have f:=q;obtain ⟨_,_,_,_,_,_,rfl⟩:=q.shape;exact qyW ⟨rfl,λo i=>f.le i⟩
theorem Eh {y:Rat}(h:RQ V v x)(h':RQ V w y)(sx:Sz k x)(sy:Sz k y)(hk:4*k+4<274877906944:=by omega) :
  aa prog 104 #[v,w] V λr V'=>RQ V' r ((x+y)*((2:Int):Rat)⁻¹):=by have c:=h;have a:=h';obtain ⟨_,_,_,_,_,_,rfl⟩:=h.shape;obtain ⟨_,_,_,_,_,_,rfl⟩:=h'.shape;refine LM V _ λj b=>(dI (c.le b) (a.le b) sx sy).s ?_;rintro r V2 l g;have d:=g;obtain ⟨_,_,_,_,_,_,rfl⟩:=g.shape;refine qyW ⟨rfl,λm e=>(sw (d.le e) (sx.add sy)).s ?_⟩;rintro r n o q;have f:=q;obtain ⟨_,_,_,_,_,_,rfl⟩:=q.shape;exact qyW ⟨rfl,λp i=>f.le i⟩
theorem Vn (ss:s.sz k):Sz (2*k+10) s.gH:=by have z:Sz (2*k+10) (0:Rat):=⟨by show (0:Int).natAbs<_;exact Qy6 (by decide) (Nat.one_le_two_pow),Qc8 (by omega)⟩;unfold Sp.gH;split;{split;{exact z};{exact (ss.2.sub jA).s (by omega)}};{split;{exact (ss.1.add jA).s (by omega)};{exact ((ss.1.add ss.2).mul (fw Ni)).s (by omega)}}
theorem Ad (h:mO V v s)(ss:s.sz k)(hk:4*k+4<274877906944:=by omega) :
  aa prog 175 #[v] V λr V'=>RQ V' r s.gH:=by obtain ⟨b,p,n,c,E,F,G,d,q,m,e,H,I,J,rfl,w,z⟩:=h;have K:s.a=true->s.b=true->s.gH=0:=λx y=>by{simp [Sp.gH,x,y]};have L:s.a=true->s.b=false->s.gH=s.hi-((1:Int):Rat):=λx y=>by{simp [Sp.gH,x,y]};have M:s.a=false->s.b=true->s.gH=s.lo+((1:Int):Rat):=λx y=>by{simp [Sp.gH,x,y]};have N:s.a=false->s.b=false->s.gH=(s.lo+s.hi)*((2:Int):Rat)⁻¹:=λx y=>by{simp [Sp.gH,x,y]};have no:∀{P:Prop},s.a=true->s.a=false->P:=λx y=>by{rw [x] at y;cases y};refine yN V _ ⟨λf=>⟨λi O U=>?_,λi=>⟨λ_ V2 Q=>(dV 1 (by decide) (by decide)).s ?_,λe=>no f e⟩⟩,λf=>⟨λe=>no e f,λ_=>⟨λi W R=>(dV 1 (by decide) (by decide)).s ?_,λi X A=>(Eh (w.le A) (z.le A) ss.1 ss.2 hk).s ?_⟩⟩⟩;{rw [K f i];have:=RQ.zero (V:=O);simpa using this};{rw [L f i];rintro r S t g;have u:=g;obtain ⟨_,_,_,_,_,_,rfl⟩:=g.shape;refine qyW ⟨rfl,λT j=>(ij (z.le (Q.m (t.m j))) (u.le j) ss.2 jA).s ?_⟩;rintro r B C q;have l:=q;obtain ⟨_,_,_,_,_,_,rfl⟩:=q.shape;exact qyW ⟨rfl,λD o=>l.le o⟩};{rw [M f i];rintro r S t g;have u:=g;obtain ⟨_,_,_,_,_,_,rfl⟩:=g.shape;refine qyW ⟨rfl,λT j=>(dI (w.le (R.m (t.m j))) (u.le j) ss.1 jA).s ?_⟩;rintro r B C q;have l:=q;obtain ⟨_,_,_,_,_,_,rfl⟩:=q.shape;exact qyW ⟨rfl,λD o=>l.le o⟩};{rw [N f i];rintro r B C q;have l:=q;obtain ⟨_,_,_,_,_,_,rfl⟩:=q.shape;exact qyW ⟨rfl,λD o=>l.le o⟩}
theorem gK {y x' y':Rat}(h:RP V v x y)(h':RP V w x' y'){k:Nat}(s1:Sz k x)(s2:Sz k y)(s3:Sz k x')(s4:Sz k y')(hk:4*k+4<274877906944:=by omega) :
  aa prog 108 #[v,w] V λr V'=>RQ V' r (x*y'-y*x'):=by obtain ⟨_,_,_,_,_,_,_,_,_,_,_,_,rfl,i,j⟩:=h;obtain ⟨_,_,_,_,_,_,_,_,_,_,_,_,rfl,l,m⟩:=h';refine Cj V _ λt a=>(aX (i.le a) (m.le a) s1 s4).s ?_;rintro r V2 d g;have n:=g;obtain ⟨_,_,_,_,_,_,rfl⟩:=g.shape;refine qyW ⟨rfl,λu b=>(aX (j.le (a.m (d.m b))) (l.le (a.m (d.m b))) s2 s3).s ?_⟩;rintro r z o e;have c:=e;obtain ⟨_,_,_,_,_,_,rfl⟩:=e.shape;refine qyW ⟨rfl,λA f=>(ij (n.le (b.m (o.m f))) (c.le f) (s1.mul s4) (s2.mul s3)).s ?_⟩;rintro r B C q;have p:=q;obtain ⟨_,_,_,_,_,_,rfl⟩:=q.shape;exact qyW ⟨rfl,λD s=>p.le s⟩
theorem Bx {qs:pz Rat}(h:bE 3 RQ V p n qs)(hi:i<qs.length):∃ad b p1 n1 c1 p2 n2 c2,ae p (i*3)=some ad/\RQ V (hF #[dQ b,qD p1 n1 c1,qD p2 n2 c2]) qs[i] /\
  V.at (ad.add 0) (dQ b)/\V.at (ad.add 1) (qD p1 n1 c1)/\V.at (ad.add 2) (qD p2 n2 c2):=by obtain ⟨ad,f,xs,-,d,a⟩:=h.at_ i hi;have c:=d;obtain ⟨p1,n1,c1,p2,n2,c2,e⟩:=d.shape;have e:=congrArg Array.toList (Value.agg.inj e);dsimp only at e;subst e;exact ⟨ad,_,p1,n1,c1,p2,n2,c2,f,c,a 0 _ rfl,a 1 _ rfl,a 2 _ rfl⟩
theorem Ae {t:Rat}(hl:Mb V p n ss)(ht:RQ V v t)(hs:∀s∈ss,s.sz k)(st:Sz k t)(hk:2*k<274877906944)(hn:ss.length<4611686018427387904:=by omega) :
  aa prog 251 #[qD p n c,v] V λr V'=>r=dQ (q_ ss t==2):=by have a:=ht;obtain ⟨_,_,_,_,_,_,rfl⟩:=ht.shape;refine JZ V _ λd b=>(CY (hl.le b) (a.le b) hs st hk hn).s ?_;rintro r V2 e rfl;exact ⟨_,rfl,λf g=>rfl⟩
def Df (c:List Rat)(i:Nat):List Rat:=(c.getD 0 0-((1:Int):Rat))::(List.range (i-1)).map λk=>(c.getD k 0+c.getD (k+1) 0)*((2:Int):Rat)⁻¹
def aV (c:List Rat):List Rat:=if c.length=0 then [0] else Df c c.length++[c.getD (c.length-1) 0+((1:Int):Rat)]
theorem Bi (c:pz Rat)(h:1<=i):(Df c i).length=i:=by unfold Df;simp;omega
theorem OH (c:pz Rat)(h:1<=i):Df c (i+1)=Df c i++[(c.getD (i-1) 0+c.getD i 0)*((2:Int):Rat)⁻¹]:=by obtain ⟨m,rfl⟩:∃m,i=m+1:=⟨i-1,by omega⟩;unfold Df;rw [Qf7,Qf7,List.range_succ,Qh6];rfl
theorem jv {c:pz Rat}(h:i<c.length:=by omega):c.getD i 0=c[i]:=by rw [Qx3,Qq1 h];rfl
theorem pI {cs:pz Rat}(h:bE 3 RQ V p n cs)(hn:cs.length<1000000000)(hs:∀q∈cs,Sz k q)(hk:4*k+8<274877906944:=by omega) :
  aa prog 50 #[qD p n c] V λr V'=>∃q m e,r=qD q m e/\bE 3 RQ V' q m (aV cs):=by
 obtain rfl:=h.len;refine yM V _ ⟨λl V1 l1 bk C=>?_,λl=>?_⟩
 ·have l:cs.length=0:=by{simpa using l};have e:aV cs=[0]:=if_pos l;rw [e];refine ⟨_,_,_,rfl,bE.gF C (row_one rfl ?_)⟩;have:=RQ.zero (V:=V1);simpa using this
 ·have l:¬cs.length=0:=by simpa using l
  have e:aV cs=Df cs cs.length++[cs.getD (cs.length-1) 0+((1:Int):Rat)]:=if_neg l;rw [e];have i0:0<cs.length:=by omega
  have ⟨ad,b,p1,n1,c1,p2,n2,c2,U,hq,a0,a1,a2⟩:=Bx h i0;refine ⟨aF U,⟨by omega,by omega⟩,_,_,_,_,_,_,_,ad,U,a0,a1,a2,λV2 W=>(dV 1 (by decide) (by decide)).s ?_⟩;rintro r V3 X g;have g0:=g;obtain ⟨_,_,_,_,_,_,rfl⟩:=g.shape;refine qyW ⟨rfl,λV4 D=>(ij (hq.le (W.m (X.m D))) (g0.le D) (hs _ (Qq9 i0)) jA).s ?_⟩;rintro r V5 l5 Y;have U1:=Y;obtain ⟨_,_,_,_,_,_,rfl⟩:=Y.shape;have w:V.Le V5:=W.m (X.m (D.m l5))
  refine qyW ⟨rfl,λz V'=>∃i:Nat,z.2.2.2=(i:Int)/\1<=i/\i<=cs.length/\z.1=i/\i<=z.2.1/\z.2.1*3<=z.2.2.1.length/\Row 3 RQ V' z.2.2.1 (Df cs i),λz=>cs.length-z.2.2.2.toNat,
   ⟨(1,1,_,1),by and_intros<;>first|rfl|decide,1,rfl,Qq2 _,i0,rfl,Qq2 _,Qq2 _,row_one rfl (by rw [jv i0];exact U1)⟩,?_⟩
  rintro ⟨a,z2,vs,z4⟩ V6 x ⟨i,Z,i1,Pl,e1,E,F,G⟩;dsimp only at Z e1 E F G;subst Z e1;have hlen:=Bi cs i1;refine ⟨rfl,λd=>?_,λd=>?_⟩
  ·have d:(a:Int)<cs.length:=of_decide_eq_true d;have j:a<cs.length:=by{omega};have o:a-1<cs.length:=by{omega};have H:i64.wrap ((a:Int)-1)=((a-1:Nat):Int):=by{rw [aw (by omega)];omega};have w2:i64.wrap ((a:Int)+1)=(a:Int)+1:=aw (by omega);dsimp only;rw [H,w2,Qq0,Qq0];have ⟨I,b1,p3,n3,c3,p4,n4,c4,f,s,J,t,K⟩:=Bx (h.le (w.m x) λ_ _ g=>g.le (w.m x)) o;have ⟨M,d1,p5,n5,c5,p6,n6,c6,y,N,d0,O,d2⟩:=Bx (h.le (w.m x) λ_ _ g=>g.le (w.m x)) j;refine ⟨aF f,⟨by omega,by omega⟩,_,_,_,_,_,_,_,I,f,J,t,K,aF y,⟨by omega,by omega⟩,_,_,_,_,_,_,_,M,y,d0,O,d2,λV7 P=>(Eh (s.le P) (N.le P) (hs _ (Qq9 o)) (hs _ (Qq9 j))).s ?_⟩;rintro r V8 l8 A;have u:=A;obtain ⟨_,_,_,_,_,_,rfl⟩:=A.shape;refine qyW ⟨rfl,by omega,E,F,rfl,?_,λsp Q R h2=>⟨(a+1,Q,_,(a:Int)+1),by dsimp only;omega,by and_intros<;>rfl,a+1,rfl,by omega,j,rfl,R,?_,?_⟩⟩;{intro v hm;simp only [Qq5,Qx7,or_false] at hm;rcases hm with rfl|rfl|rfl<;>rfl};{dsimp only;have ht:(vs.take (a*3)).length=a*3:=by{rw [Qq7];omega};rw [Qq3,Qq3,ht];simp only [Qw6,Qk9];omega};{dsimp only;rw [OH cs i1,jv o,jv j];have:=(G.le (V':=V8) λ_ _ g=>g.le (P.m l8)).snoc (sp:=sp) rfl u (by decide);rw [hlen] at this;exact this}
  ·have d:¬(a:Int)<cs.length:=of_decide_eq_false d;obtain rfl:a=cs.length:=by{omega};have j:cs.length-1<cs.length:=by{omega};have H:i64.wrap ((cs.length:Int)-1)=((cs.length-1:Nat):Int):=by{rw [aw (by omega)];omega};dsimp only;rw [H,Qq0];have ⟨I,b1,p3,n3,c3,p4,n4,c4,f,s,J,t,K⟩:=Bx (h.le (w.m x) λ_ _ g=>g.le (w.m x)) j;refine ⟨aF f,⟨by omega,by omega⟩,_,_,_,_,_,_,_,I,f,J,t,K,λV9 l9=>(dV 1 (by decide) (by decide)).s ?_⟩;rintro r fy B g2;have S:=g2;obtain ⟨_,_,_,_,_,_,rfl⟩:=g2.shape;refine qyW ⟨rfl,λfC T=>(dI (s.le (l9.m (B.m T))) (S.le T) (hs _ (Qq9 j)) jA).s ?_⟩;rintro r gI bW A;have u:=A;obtain ⟨_,_,_,_,_,_,rfl⟩:=A.shape;refine qyW ⟨rfl,by omega,E,F,rfl,?_,λsp Q R h2 iT bP bk C=>?_⟩;{intro v hm;simp only [Qq5,Qx7,or_false] at hm;rcases hm with rfl|rfl|rfl<;>rfl};{have L:=l9.m (B.m (T.m (bW.m bP)));have:=(G.le (V':=iT) λ_ _ g=>g.le L).snoc (sp:=sp) rfl (u.le bP) (by decide);rw [hlen] at this;have k:=bE.bJ (c:=Q) C this (by decide) (by rw [Qq3,hlen];exact R);rw [Qq3,hlen] at k;rw [jv j];exact ⟨_,_,_,rfl,k⟩}
def cZ (x:Rat):List Rat->List Rat
 | []=>[x]
 | y::r=>if y<x then y::cZ x r else if y=x then y::r else x::y::r
theorem Mx:∀(o:pz Rat)(k:Nat),k<=o.length->(∀j (h:j<o.length),j<k->o[j]<x)->(∀h:k<o.length,¬o[k]<x) ->
  cZ x o=if (∃h:k<o.length,o[k]=x) then o else o.take k++x::o.drop k:=by
 intro o
 induction o with
 | nil=>grind [cZ]
 | cons y r ih=>
  intro k g a b
  cases k with
  | zero=>
   have f:¬y<x:=b (by simp);unfold cZ;rw [if_neg f];by_cases e:y=x
   ·rw [if_pos e,if_pos ⟨by simp,e⟩]
   grind
  | succ k=>
   have f:y<x:=a 0 (by simp) (by omega);unfold cZ;rw [if_pos f,ih k (by simpa using g) (λj h i=>a (j+1) (by simpa using h) (by omega)) (λh=>b (by simpa using h))];by_cases e:∃h:k<r.length,r[k]=x
   ·obtain ⟨c,d⟩:=e;rw [if_pos ⟨c,d⟩,if_pos ⟨by simpa using c,d⟩]
   ·rw [if_neg e,if_neg (by rintro ⟨c,d⟩;exact e ⟨by simpa using c,d⟩)];rfl
def fh (s:Sp)(o:List Rat):Nat->List Rat
 | 0=>o
 | 1=>if s.a then o else cZ s.lo o
 | _=>if s.b then (if s.a then o else cZ s.lo o) else cZ s.hi (if s.a then o else cZ s.lo o)
def endsL (ss:List Sp):List Rat:=ss.foldl (λo s=>fh s o 2) []
theorem Kz (hi:i<ss.length):endsL (ss.take (i+1))=fh ss[i] (endsL (ss.take i)) 2:=by grind [endsL,List.take_add_one]
theorem Ip:∀{o:pz Rat},q∈cZ x o->q=x\/q∈o:=by
 intro o
 induction o with
 | nil=>intro h;simp [cZ] at h;exact .inl h
 | cons y r ih=>
  unfold cZ;grind
theorem lk:∀{o:pz Rat},(cZ x o).length<=o.length+1:=by
 intro o
 induction o with
 | nil=>simp [cZ]
 | cons y r ih=>
  unfold cZ;grind
theorem Lo {s:Sp}{o:pz Rat}(hy:y<2):fh s o (y+1)=if (if y=0 then s.a else s.b)=true then fh s o y else cZ (if y=0 then s.lo else s.hi) (fh s o y):=by have:y=0\/y=1:=by{omega};rcases this with rfl|rfl<;>rfl
theorem EZ {s:Sp}{o:pz Rat}(hy:y<=2):(fh s o y).length<=o.length+y:=by have d:=@lk s.lo o;have e:=@lk s.hi (if s.a then o else cZ s.lo o);have c:(if s.a then o else cZ s.lo o).length<=o.length+1:=by{split<;>omega};have:y=0\/y=1\/y=2:=by{omega};rcases this with rfl|rfl|rfl;{exact Qq2 _};{exact c};{show (if s.b=true then (if s.a=true then o else cZ s.lo o) else cZ s.hi (if s.a=true then o else cZ s.lo o)).length<=_;by_cases f:s.b=true<;>grind}
theorem E0 {o:pz Rat}(hy:y<=2)(h:q∈fh s o y):q=s.lo\/q=s.hi\/q∈o:=by have c:q∈(if s.a then o else cZ s.lo o)->q=s.lo\/q=s.hi\/q∈o:=by{grind [Ip]};have:y=0\/y=1\/y=2:=by{omega};rcases this with rfl|rfl|rfl;{exact .inr (.inr h)};{exact c h};{replace h:q∈(if s.b=true then (if s.a=true then o else cZ s.lo o) else cZ s.hi (if s.a=true then o else cZ s.lo o)):=h;by_cases d:s.b=true<;>grind [Ip]}
theorem Ep (ss:pz Sp):(endsL ss).length<=2*ss.length:=by
 have:∀(ss:pz Sp)(o:pz Rat),(ss.foldl (λo s=>fh s o 2) o).length<=o.length+2*ss.length:=by
  intro ss
  induction ss<;>grind [EZ]
 grind [endsL]
theorem Er (h:q∈endsL ss):∃s∈ss,q=s.lo\/q=s.hi:=by
 have:∀(ss:pz Sp)(o:pz Rat),q∈(ss.foldl (λo s=>fh s o 2) o)->q∈o\/∃s∈ss,q=s.lo\/q=s.hi:=by
  intro ss
  induction ss with
  | nil=>exact λo h=>.inl h
  | cons s r ih=>
   intro o h;rcases ih _ h with h|⟨t,a,h⟩
   ·rcases E0 (Qq2 2) h with h|h|h<;>grind
   grind
 rcases this ss [] h with h|h
 ·simp at h
 ·exact h
theorem Gm {vs:pz un}{qs:pz Rat}(h:Row 3 RQ V vs qs)(hi:i<qs.length):∃b p1 n1 c1 p2 n2 c2,i*3+3<=vs.length/\(vs.drop (i*3)).take 3=[dQ b,qD p1 n1 c1,qD p2 n2 c2]/\RQ V (hF #[dQ b,qD p1 n1 c1,qD p2 n2 c2]) qs[i]:=by obtain ⟨xs,-,c,a⟩:=h.at_ i hi;obtain ⟨p1,n1,c1,p2,n2,c2,e⟩:=c.shape;have e:=congrArg Array.toList (Value.agg.inj e);subst e;have g:=a 0 _ rfl;have k:=a 1 _ rfl;have d:=a 2 _ rfl;have l:=(Qw9.1 d).1;refine ⟨_,p1,n1,c1,p2,n2,c2,by omega,?_,c⟩;apply Qg2;intro j;rw [Qy7];by_cases f:j<3;{rw [if_pos f,Qn8];have:j=0\/j=1\/j=2:=by{omega};rcases this with rfl|rfl|rfl;{exact g};{exact k};{exact d}};{rw [if_neg f,Qz7 (by simp;omega)]}
theorem HP {a b:Rat}:dK a b<0↔a<b:=by
 rcases cU a b with ⟨h,e⟩|⟨h,e⟩|⟨h,e⟩<;>rw [e]<;>constructor<;>intro c<;>first|exact h|omega|(exfalso;grind)
theorem SB (h:RQ V (.agg xs.toArray) q):∀v∈xs,v.oneCell'=true:=by obtain ⟨p,n,c,b,d,e,ex⟩:=h.shape;have ex:=congrArg Array.toList (Value.agg.inj ex);dsimp only at ex;subst ex;intro v a;simp only [Qq5,Qx7,or_false] at a;rcases a with rfl|rfl|rfl<;>rfl
set_option maxHeartbeats 1000000 in
theorem Fy (h:Mb V p n ss)(hn:ss.length<100000000)(hs:∀s∈ss,s.sz k)(hk:2*k<274877906944:=by omega) :
  aa prog 250 #[qD p n c] V λr V'=>∃q m e,r=qD q m e/\bE 3 RQ V' q m (endsL ss):=by
 obtain rfl:=h.len
 refine DO V _ ⟨λz V'=>∃i:Nat,z.2.2.2=(i:Int)/\i<=ss.length/\z.1=(endsL (ss.take i)).length/\z.1<=z.2.1/\z.2.1*3<=z.2.2.1.length/\Row 3 RQ V' z.2.2.1 (endsL (ss.take i)),λz=>ss.length-z.2.2.2.toNat,
  ⟨(0,0,[],0),by and_intros<;>rfl,0,rfl,Qq4 _,rfl,Qq2 _,Qq2 _,Row.nil⟩,?_⟩
 rintro ⟨z1,z2,vs,z4⟩ V1 l1 ⟨i,e4,Pl,e1,ic,hv,hx⟩;dsimp only at e4 e1 ic hv hx;subst e4;refine ⟨rfl,λf=>?_,λf iT bP bk hb=>?_⟩
 ·have f:(i:Int)<ss.length:=of_decide_eq_true f;have hi:i<ss.length:=by omega
  have w:i64.wrap ((i:Int)+1)=(i:Int)+1:=aw (by omega);dsimp only;rw [Qq0,w];obtain ⟨ad,M,xs,hf,l⟩:=(h.le l1).at_ i hi;have B:=hs _ (Qq9 hi);have v:=Kz hi
  have b3:(endsL (ss.take i)).length<300000000:=by have:=Ep (ss.take i);rw [Qq7] at this;omega
  have a3:∀q∈endsL (ss.take i),Sz k q:=λq F=>by have ⟨s,h1,h2⟩:=Er F;have:=hs s (Qn6 h1);rcases h2 with rfl|rfl;{exact this.1};{exact this.2}
  generalize endsL (ss.take i)=o at *;generalize ss[i]=s at *;obtain ⟨b,N,P,Q,S,T,U,d,W,X,f1,Y,Z,f2,ex,a4,a5⟩:=hf;have ex:=congrArg Array.toList (Value.agg.inj ex);dsimp only at ex;subst ex
  refine ⟨aF M,⟨by omega,by omega⟩,b,N,P,Q,S,T,U,d,W,X,f1,Y,Z,f2,s.a,s.b,ad,M,l 0 _ rfl,l 1 _ rfl,l 2 _ rfl,l 3 _ rfl,l 4 _ rfl,l 5 _ rfl,l 6 _ rfl,l 7 _ rfl,
   λz _=>z=(2,2,[dQ b,qD N P Q,qD S T U,dQ d,qD W X f1,qD Y Z f2],2,0),⟨(2,2,[dQ b,qD N P Q,qD S T U,dQ d,qD W X f1,qD Y Z f2],2,0),by and_intros<;>first|rfl|decide,rfl⟩,?_⟩
  rintro z V2 l2 rfl;dsimp only
  refine ⟨rfl,λz V'=>∃y:Nat,z.2.2.2=(y:Int)/\y<=2/\z.1=(fh s o y).length/\z.1<=z.2.1/\z.2.1*3<=z.2.2.1.length/\Row 3 RQ V' z.2.2.1 (fh s o y),λz=>2-z.2.2.2.toNat,
   ⟨(z1,z2,vs,0),by and_intros<;>rfl,0,rfl,by omega,e1,ic,hv,hx.le λ_ _ g=>g.le l2⟩,?_⟩
  rintro ⟨A,w2,us,w4⟩ V3 l3 ⟨y,f4,a0,g1,G,fv,H⟩;dsimp only at f4 g1 G fv H;subst f4;refine ⟨rfl,λhy=>?_,λhy=>?_⟩
  ·have hy:(y:Int)<2:=of_decide_eq_true hy;have a6:y<2:=by omega
   have a1:=Lo (s:=s) (o:=o) a6;have b4:=EZ (s:=s) (o:=o) a0
   have Wk:∀q∈fh s o y,Sz k q:=λq F=>by rcases E0 a0 F with h|h|h;{rw [h];exact B.1};{rw [h];exact B.2};{exact a3 q h}
   have wy:i64.wrap ((y:Int)+1)=(y:Int)+1:=aw (by omega);generalize hO:fh s o y=O at *;generalize Tn:fh s o (y+1)=O' at *
   have el:∃eb ep en ec eq em ee x no,([dQ b,qD N P Q,qD S T U,dQ d,qD W X f1,qD Y Z f2].drop (y*3)).take 3=[Value.bool eb,qD ep en ec,qD eq em ee]/\RQ V3 (hF #[dQ eb,qD ep en ec,qD eq em ee]) x/\Sz k x/\O'=(if no=true then O else cZ x O) /\
     ((y=0/\no=s.a)\/(y=1/\no=s.b)):=by
    have:y=0\/y=1:=by omega
    rcases this with rfl|rfl
    ·exact ⟨b,N,P,Q,S,T,U,s.lo,s.a,rfl,a4.le (l2.m l3),B.1,a1,.inl ⟨rfl,rfl⟩⟩
    ·exact ⟨d,W,X,f1,Y,Z,f2,s.hi,s.b,rfl,a5.le (l2.m l3),B.2,a1,.inr ⟨rfl,rfl⟩⟩
   obtain ⟨eb,ep,en,ec,eq,em,ee,x,no,a7,F,sx,I,a8⟩:=el;dsimp only;rw [Qq0,wy];refine ⟨⟨by omega,by omega⟩,Qq2 _,eb,ep,en,ec,eq,em,ee,⟨by simp;omega,a7⟩,λz _=>z=no,?_,?_⟩
   ·rcases a8 with ⟨rfl,rfl⟩|⟨rfl,rfl⟩;{exact ⟨λ_=>⟨λM=>⟨true,by and_intros<;>rfl,M.symm⟩,λM=>⟨(λh=>by simp at h),λ_=>⟨false,by and_intros<;>rfl,M.symm⟩⟩⟩,λh=>by simp at h⟩};{exact ⟨λh=>by simp at h,λ_=>⟨λ_=>⟨s.b,by and_intros<;>rfl,rfl⟩,λh=>by simp at h⟩⟩}
   ·rintro z V4 D rfl;refine ⟨rfl,λu=>⟨(A,w2,us,(y:Int)+1),by dsimp only;omega,by and_intros<;>rfl,y+1,rfl,by omega,?_,G,fv,?_⟩,λu=>?_⟩;{show A=(fh s o (y+1)).length;rw [Tn,I,if_pos u];exact g1};{show Row 3 RQ V4 us (fh s o (y+1));rw [Tn,I,if_pos u];exact H.le λ_ _ g=>g.le D};{have K:O'=cZ x O:=by{rw [I,u];rfl};refine ⟨λz _=>∃j:Nat,z=(j:Int)/\j<=O.length/\∀(E:Nat)(h:E<O.length),E<j->O[E]<x,λz=>O.length-z.toNat,⟨0,by and_intros<;>rfl,0,rfl,Qq4 _,λE _ h=>absurd h (Qn2 E)⟩,?_⟩;rintro z V5 L ⟨j,rfl,uw,jl⟩;have wj:i64.wrap ((j:Int)+1)=(j:Int)+1:=aw (by omega);rw [Qq0,wj];refine ⟨rfl,λz _=>z=true↔∃h:j<O.length,O[j]<x,⟨λf=>?_,λf=>⟨false,by and_intros<;>rfl,?_⟩⟩,?_⟩;{have f:(j:Int)<(A:Int):=of_decide_eq_true f;have C:j<O.length:=by{omega};have ⟨rb,rp,rn,rc,rq,rm,re,fE,FJ,hr⟩:=Gm H C;refine ⟨⟨by omega,by omega⟩,G,rb,rp,rn,rc,rq,rm,re,⟨fE,FJ⟩,λV6 l6=>(eI (hr.le (D.m (L.m l6))) (F.le (D.m (L.m l6))) (Wk _ (Qq9 C)) sx).s ?_⟩;rintro r V7 l7 rfl;exact ⟨_,rfl,_,by and_intros<;>rfl,by dsimp only;rw [decide_eq_true_eq,HP];exact ⟨λh=>⟨C,h⟩,λ⟨_,h⟩=>h⟩⟩};{have f:¬(j:Int)<(A:Int):=of_decide_eq_false f;exact ⟨(λh=>nomatch h),λ⟨h,_⟩=>absurd h (by omega)⟩};{rintro z V8 l8 Mv;refine ⟨rfl,λu=>?_,λu=>?_⟩;{obtain ⟨C,a9⟩:=Mv.1 u;refine ⟨(j:Int)+1,by dsimp only;omega,by and_intros<;>rfl,j+1,rfl,C,λE h b5=>?_⟩;by_cases e:E=j;{subst e;exact a9};{exact jl E h (by omega)}};{have b0:∀h:j<O.length,¬O[j]<x:=λh h'=>by{have:=Mv.2 ⟨h,h'⟩;rw [u] at this;cases this};have t:=Mx O j uw jl b0;refine ⟨λz _=>z=true↔¬∃h:j<O.length,O[j]=x,⟨λhe=>⟨true,by and_intros<;>rfl,?_⟩,λhe=>?_⟩,?_⟩;{have he:(j:Int)=(A:Int):=by{simpa using he};exact ⟨λ_ ⟨h,_⟩=>absurd h (by omega),λ_=>rfl⟩};{have he:¬(j:Int)=(A:Int):=by{simpa using he};have C:j<O.length:=by{omega};have ⟨rb,rp,rn,rc,rq,rm,re,fE,FJ,hr⟩:=Gm H C;refine ⟨⟨by omega,by omega⟩,G,rb,rp,rn,rc,rq,rm,re,⟨fE,FJ⟩,λV6 l6=>(eI (hr.le (D.m (L.m (l8.m l6)))) (F.le (D.m (L.m (l8.m l6)))) (Wk _ (Qq9 C)) sx).s ?_⟩;rintro r V7 l7 rfl;exact ⟨_,rfl,_,by and_intros<;>rfl,by dsimp only;rw [bne_iff_ne,ne_eq,←g_];exact ⟨λh ⟨_,h'⟩=>h h',λh h'=>h ⟨C,h'⟩⟩⟩};{rintro z fC bo ur;refine ⟨rfl,λu gI bW bk hb J=>?_,λu=>?_⟩;{have b1:=ur.1 u;rw [if_neg b1] at t;have ⟨xs,ys,x1,x2,x3,y1,y2,y3,r1,r2,r3,r4,r5⟩:=uv (V:=gI) (R:=RQ) (GR.s ⟨g1,G,fv,H⟩ λ_ _ g=>g.le (D.m (L.m (l8.m (bo.m bW))))) (by decide) (λ_ _=>SB) hb (es:=[_,_,_]) rfl (F.le (D.m (L.m (l8.m (bo.m bW))))) (j:=j);refine ⟨⟨by omega,by omega⟩,⟨by omega,by omega⟩,⟨by omega,by omega⟩,xs,x1,x2,by omega,Qq2 _,Qq2 _,x2,x3,λb6 J2 sp c' h1 h2=>?_⟩;rw [r1,r2];(refine ⟨ys,y1,y2,Qq2 _,y3,by omega,by omega,r3,r4,λb2 a2 h3 h4=>⟨(j+(1+(A-j)),a2,_,(y:Int)+1),by dsimp only;omega,by and_intros<;>first|rfl|omega,y+1,rfl,by omega,?_⟩⟩;have r6:=r5 b2 a2 h3 h4;rw [←t,←K,←Tn] at r6;exact ⟨r6.len,r6.le,r6.cap,r6.row⟩)};{have hex:∃h:j<O.length,O[j]=x:=Qf9 λh=>by{have:=ur.2 h;rw [u] at this;cases this};rw [if_pos hex] at t;refine ⟨(A,w2,us,(y:Int)+1),by dsimp only;omega,by and_intros<;>rfl,y+1,rfl,by omega,?_,G,fv,?_⟩;{show A=(fh s o (y+1)).length;rw [Tn,K,t];exact g1};{show Row 3 RQ fC us (fh s o (y+1));rw [Tn,K,t];exact H.le λ_ _ g=>g.le (D.m (L.m (l8.m bo)))}}}}}}
  ·have hy:¬(y:Int)<2:=of_decide_eq_false hy;obtain rfl:y=2:=by{omega};exact ⟨(A,w2,us,(i:Int)+1),by dsimp only;omega,by and_intros<;>rfl,i+1,rfl,hi,by dsimp only;rw [v];exact g1,G,fv,by dsimp only;rw [v];exact H⟩
 ·have f:¬(i:Int)<ss.length:=of_decide_eq_false f;obtain rfl:i=ss.length:=by{omega};rw [Qy2] at e1 hx;subst e1;exact ⟨_,_,_,rfl,bE.bJ hb (hx.le λ_ _ g=>g.le bP) (by decide) ic⟩
def dL (cuts:List Rat)(i:Nat):Sp:=⟨if 0<i then cuts.getD (i-1) 0 else 0,if i<cuts.length then cuts.getD i 0 else 0,decide (i=0),decide (i=cuts.length)⟩
def wF (out:List Sp)(s:Sp):List Sp:=out.dropLast++[⟨(out.getLastD Sp.zero).lo,s.hi,(out.getLastD Sp.zero).a,s.b⟩]
def cE (cuts:List Rat)(marks:List Bool):Nat->List Sp
 | 0=>[]
 | i+1=>if marks.getD i false=true then (if 0<i/\marks.getD (i-1) false=true/\0<(cE cuts marks i).length then wF (cE cuts marks i) (dL cuts i) else cE cuts marks i++[dL cuts i]) else cE cuts marks i
def pM (cuts:List Rat)(marks:List Bool):List Sp:=cE cuts marks marks.length
theorem AP {out:pz Sp}(h:0<out.length):(wF out s).length=out.length:=by grind [wF]
theorem EA (cuts:pz Rat)(marks:pz md)(i:Nat):(cE cuts marks i).length<=i:=by
 induction i with
 | zero=>simp [cE]
 | succ i ih=>
  unfold cE;split
  ·split;{rename_i h;rw [AP h.2.2];omega};grind
  ·omega
theorem Sx {α:Type}{sz:Nat}{R:ut->un->α->Prop}{vs us:pz un}{ls:pz α}(h:Row sz R V vs ls)(h0:0<ls.length){a:α}(hx:xs.length=sz)(ha:R V (.agg xs.toArray) a)
  (hlow:∀q,q<(ls.length-1)*sz->us[q]?=vs[q]?)(hlast:∀j x,xs[j]?=some x->us[(ls.length-1)*sz+j]?=some x):Row sz R V us (ls.dropLast++[a]):=by refine ⟨λi n=>?_⟩;have o:(ls.dropLast++[a]).length=ls.length:=by{rw [Qq3,List.length_dropLast];simp;omega};by_cases e:i=ls.length-1;{subst e;refine ⟨xs,hx,?_,hlast⟩;have b:(ls.dropLast++[a])[ls.length-1]=a:=by{grind};rw [b];exact ha};{have c:i<ls.length-1:=by{omega};have ⟨d,f,g,p⟩:=h.at_ i (by omega);refine ⟨d,f,?_,λj x k=>?_⟩;{have b:(ls.dropLast++[a])[i]=ls[i]:=by{grind};rw [b];exact g};{have l:=(Qw9.1 k).1;have m:i*sz+j<(ls.length-1)*sz:=by{have:(i+1)*sz<=(ls.length-1)*sz:=Qw0 _ (by omega);grind};grind}}
def Y8 (_:View)(v:Value)(b:Bool):Prop:=v=.agg #[.bool b]
theorem WM {bs:pz md}(h:bE 1 Y8 V p n bs)(hi:i<bs.length):∃ad,ae p (i*1)=some ad/\V.at ad (dQ bs[i]):=by obtain ⟨ad,b,xs,-,e,a⟩:=h.at_ i hi;have e:=congrArg Array.toList (Value.agg.inj e);subst e;have:=a 0 _ rfl;grind [Addr.add]
theorem uQ (h:mO V (.agg xs.toArray) s):∃b p n c p' n' c' d q m e q' m' e',xs=[dQ b,qD p n c,qD p' n' c',dQ d,qD q m e,qD q' m' e',dQ s.a,dQ s.b] /\
  RQ V (hF #[dQ b,qD p n c,qD p' n' c']) s.lo/\RQ V (hF #[dQ d,qD q m e,qD q' m' e']) s.hi:=by obtain ⟨_,_,_,_,_,_,_,_,_,_,_,_,_,_,ex,f,g⟩:=h;have ex:=congrArg Array.toList (Value.agg.inj ex);exact qyZ ⟨ex,f,g⟩
theorem Gn (V:ut):RQ V (hF #[dQ false,qD none 0 0,qD none 0 0]) 0:=by have:=RQ.zero (V:=V);simpa using this
set_option maxHeartbeats 1000000 in
theorem tT {q:OA}{m e:Nat}{cuts:pz Rat}{marks:pz md}(hc:bE 3 RQ V p n cuts)(hm:bE 1 Y8 V q m marks)(hlen:marks.length=cuts.length+1)(hn:cuts.length<100000000:=by omega) :
  aa prog 54 #[qD p n c,qD q m e] V λr V'=>∃p' n' c',r=qD p' n' c'/\bE 8 mO V' p' n' (pM cuts marks):=by
 obtain rfl:=hc.len;obtain rfl:=hm.len
 refine DL V _ ⟨λz V'=>∃i:Nat,z.2.2.2=(i:Int)/\i<=marks.length/\z.1=(cE cuts marks i).length/\z.1<=z.2.1/\z.2.1*8<=z.2.2.1.length/\Row 8 mO V' z.2.2.1 (cE cuts marks i),λz=>marks.length-z.2.2.2.toNat,
  ⟨(0,0,[],0),by and_intros<;>rfl,0,rfl,Qq4 _,rfl,Qq2 _,Qq2 _,Row.nil⟩,?_⟩
 rintro ⟨f,z2,vs,z4⟩ V1 P ⟨i,e4,Pl,Q,L,hv,hx⟩;dsimp only at e4 Q L hv hx;subst e4;refine ⟨rfl,λy=>?_,λy V5 l5 bk D=>?_⟩
 ·have y:(i:Int)<marks.length:=of_decide_eq_true y;have hi:i<marks.length:=by{omega};have w:i64.wrap ((i:Int)+1)=(i:Int)+1:=aw (by omega);have b4:=EA cuts marks i;have S:marks.getD i false=marks[i]:=by{rw [Qx3,Qq1 hi];rfl};have T:marks[i]=false->cE cuts marks (i+1)=cE cuts marks i:=λh=>by{show (if marks.getD i false=true then _ else _)=_;rw [S,h];rfl};have l:marks[i]=true->cE cuts marks (i+1)=if 0<i/\marks.getD (i-1) false=true/\0<(cE cuts marks i).length then wF (cE cuts marks i) (dL cuts i) else cE cuts marks i++[dL cuts i]:=λh=>by{show (if marks.getD i false=true then _ else _)=_;rw [S,h];rfl};dsimp only;rw [Qq0,w];have ⟨ad,ha,a0⟩:=WM (hm.le P λ_ _ g=>g) hi;refine ⟨aF ha,⟨by omega,by omega⟩,marks[i],⟨ad,ha,a0⟩,λD=>?_,λD=>?_⟩;{rw [Qz6] at D;exact ⟨(f,z2,vs,(i:Int)+1),by dsimp only;omega,by and_intros<;>rfl,i+1,rfl,hi,by dsimp only;rw [T D];exact Q,L,hv,by dsimp only;rw [T D];exact hx⟩};{rw [Qv1] at D;have l:=l D;generalize cE cuts marks i=out at *;generalize hO:cE cuts marks (i+1)=out' at *;refine ⟨λz V'=>RQ V' (hF #[dQ z.1,qD z.2.1 z.2.2.1 z.2.2.2.1,qD z.2.2.2.2.1 z.2.2.2.2.2.1 z.2.2.2.2.2.2.1]) ((dL cuts i).lo)/\RQ V' (hF #[dQ z.2.2.2.2.2.2.2.1,qD z.2.2.2.2.2.2.2.2.1 z.2.2.2.2.2.2.2.2.2.1 z.2.2.2.2.2.2.2.2.2.2.1,qD z.2.2.2.2.2.2.2.2.2.2.2.1 z.2.2.2.2.2.2.2.2.2.2.2.2.1 z.2.2.2.2.2.2.2.2.2.2.2.2.2.1]) (0)/\z.2.2.2.2.2.2.2.2.2.2.2.2.2.2.1=decide (i=0)/\z.2.2.2.2.2.2.2.2.2.2.2.2.2.2.2=decide (i=cuts.length),⟨λs=>?_,λs=>⟨(false,none,0,0,none,0,0,false,none,0,0,none,0,0,(i:Int)==0,(i:Int)==(cuts.length:Int)),by and_intros<;>rfl,?_⟩⟩,?_⟩;{have s:(i:Int)>0:=of_decide_eq_true s;have k:i-1<cuts.length:=by{omega};have U:i64.wrap ((i:Int)-1)=((i-1:Nat):Int):=by{rw [aw (by omega)];omega};rw [U,Qq0];have ⟨W,b1,p3,n3,c3,p4,n4,c4,t,A,b0,M,b2⟩:=Bx (hc.le P λ_ _ g=>g.le P) k;refine ⟨aF t,⟨by omega,by omega⟩,_,_,_,_,_,_,_,W,t,b0,M,b2,(b1,p3,n3,c3,p4,n4,c4,false,none,0,0,none,0,0,(i:Int)==0,(i:Int)==(cuts.length:Int)),by and_intros<;>rfl,?_,Gn _,?_,?_⟩;{show RQ V1 _ (if 0<i then cuts.getD (i-1) 0 else 0);rw [if_pos (by omega),jv k];exact A};{show ((i:Int)==0)=decide (i=0);rw [Qk7,beq_iff_eq,decide_eq_true_eq];omega};{show ((i:Int)==(cuts.length:Int))=decide (i=cuts.length);rw [Qk7,beq_iff_eq,decide_eq_true_eq];omega}};{have s:¬(i:Int)>0:=of_decide_eq_false s;refine ⟨?_,Gn _,?_,?_⟩;{show RQ V1 _ (if 0<i then cuts.getD (i-1) 0 else 0);rw [if_neg (by omega)];exact Gn _};{show ((i:Int)==0)=decide (i=0);rw [Qk7,beq_iff_eq,decide_eq_true_eq];omega};{show ((i:Int)==(cuts.length:Int))=decide (i=cuts.length);rw [Qk7,beq_iff_eq,decide_eq_true_eq];omega}};{rintro ⟨x1,x2,x3,x4,x5,x6,x7,x8,x9,a1,a2,a3,a4,a5,b5,b6⟩ V2 l2 ⟨hA,hB,hC,hD⟩;dsimp only at hA hB hC hD;subst hC hD;refine ⟨rfl,λz V'=>RQ V' (hF #[dQ z.1,qD z.2.1 z.2.2.1 z.2.2.2.1,qD z.2.2.2.2.1 z.2.2.2.2.2.1 z.2.2.2.2.2.2.1]) ((dL cuts i).lo)/\RQ V' (hF #[dQ z.2.2.2.2.2.2.2.1,qD z.2.2.2.2.2.2.2.2.1 z.2.2.2.2.2.2.2.2.2.1 z.2.2.2.2.2.2.2.2.2.2.1,qD z.2.2.2.2.2.2.2.2.2.2.2.1 z.2.2.2.2.2.2.2.2.2.2.2.2.1 z.2.2.2.2.2.2.2.2.2.2.2.2.2.1]) ((dL cuts i).hi)/\z.2.2.2.2.2.2.2.2.2.2.2.2.2.2.1=decide (i=0)/\z.2.2.2.2.2.2.2.2.2.2.2.2.2.2.2=decide (i=cuts.length),⟨λs=>?_,λs=>⟨(x1,x2,x3,x4,x5,x6,x7,x8,x9,a1,a2,a3,a4,a5,decide (i=0),decide (i=cuts.length)),by and_intros<;>rfl,hA,?_,rfl,rfl⟩⟩,?_⟩;{have s:(i:Int)<cuts.length:=of_decide_eq_true s;have k:i<cuts.length:=by{omega};have ⟨W,b1,p3,n3,c3,p4,n4,c4,t,A,b0,M,b2⟩:=Bx (hc.le (P.m l2) λ_ _ g=>g.le (P.m l2)) k;refine ⟨aF t,⟨by omega,by omega⟩,_,_,_,_,_,_,_,W,t,b0,M,b2,(x1,x2,x3,x4,x5,x6,x7,b1,p3,n3,c3,p4,n4,c4,decide (i=0),decide (i=cuts.length)),by and_intros<;>rfl,hA,?_,rfl,rfl⟩;show RQ V2 _ (if i<cuts.length then cuts.getD i 0 else 0);rw [if_pos k,jv k];exact A};{have s:¬(i:Int)<cuts.length:=of_decide_eq_false s;show RQ V2 _ (if i<cuts.length then cuts.getD i 0 else 0);rw [if_neg (by omega)];exact hB};{rintro ⟨y1,y2,y3,y4,y5,y6,y7,E,F,G,H,I,u,J,b7,b8⟩ V3 l3 ⟨kA,kB,kC,kD⟩;dsimp only at kA kB kC kD;subst kC kD;refine ⟨rfl,λz _=>z=decide (0<i/\marks.getD (i-1) false=true/\0<out.length),⟨λs=>?_,λs=>⟨false,by and_intros<;>rfl,?_⟩⟩,?_⟩;{have s:(i:Int)>0:=of_decide_eq_true s;have k:i-1<marks.length:=by{omega};have U:i64.wrap ((i:Int)-1)=((i-1:Nat):Int):=by{rw [aw (by omega)];omega};have a6:marks.getD (i-1) false=marks[i-1]:=by{rw [Qx3,Qq1 k];rfl};rw [U,Qq0,a6];have ⟨W,t,X2⟩:=WM (hm.le (P.m (l2.m l3)) λ_ _ g=>g) k;refine ⟨aF t,⟨by omega,by omega⟩,marks[i-1],⟨W,t,X2⟩,λN=>⟨_,by and_intros<;>rfl,?_⟩,λN=>⟨false,by and_intros<;>rfl,?_⟩⟩;{dsimp only;rw [N,decide_eq_decide];constructor;{intro h;exact ⟨by omega,rfl,by omega⟩};{rintro ⟨_,_,h⟩;omega}};{dsimp only;rw [N];simp}};{have s:¬(i:Int)>0:=of_decide_eq_false s;dsimp only;rw [decide_eq_false];rintro ⟨h,_⟩;omega};{rintro z V4 l4 rfl;have gA:mO V4 (hF #[dQ y1,qD y2 y3 y4,qD y5 y6 y7,dQ E,qD F G H,qD I u J,dQ (decide (i=0)),dQ (decide (i=cuts.length))]) (dL cuts i):=qyZ ⟨rfl,kA.le l4,kB.le l4⟩;have B:=hx.le (V':=V4) λ_ _ g=>mO.le g (l2.m (l3.m l4));refine ⟨rfl,λK=>?_,λK=>?_⟩;{have K:=of_decide_eq_true K;rw [if_pos K] at l;have U:i64.wrap ((f:Int)-1)=((f-1:Nat):Int):=by{rw [aw (by omega)];omega};rw [U,Qq0];have X:0<out.length:=K.2.2;have b9:=B.jR (by decide);have Y:out.length-1<out.length:=by{omega};have a7:out.getLastD Sp.zero=out[out.length-1]:=by{rw [Wx5,List.getLast?_eq_getElem?,Qq1 Y];rfl};obtain ⟨c0,-,a8,a9⟩:=B.at_ (out.length-1) Y;obtain ⟨b,s1,s2,s3,s4,s5,s6,d,t1,t2,t3,t4,t5,t6,ex,A,c1⟩:=uQ a8;subst ex;have sv:=tj (vs:=vs) (xs:=[dQ E,qD F G H,qD I u J]) (o:=(f-1)*8+3) (by simp only [Qw6,Qk9];omega);have b3:(eK vs ((f-1)*8+3) [dQ E,qD F G H,qD I u J]).length=vs.length:=by{rw [sv];simp only [Qq3,Qq7,Qb5,Qw6,Qk9];omega};have sg:∀r,r<(f-1)*8+3\/(f-1)*8+6<=r->(eK vs ((f-1)*8+3) [dQ E,qD F G H,qD I u J])[r]?=vs[r]?:=by{intro r Z;rw [sv,Qy3];have R:(vs.take ((f-1)*8+3)).length=(f-1)*8+3:=by{rw [Qq7];omega};rcases Z with Z|Z;{rw [Qx0 (by omega),Qy7,if_pos Z]};{rw [Qy8 (by omega),Qy8 (by rw [R];simp only [Qw6,Qk9];omega),Qn8,R];congr 1;simp only [Qw6,Qk9];omega}};have sm:∀j x,([dQ E,qD F G H,qD I u J]:pz un)[j]?=some x->(eK vs ((f-1)*8+3) [dQ E,qD F G H,qD I u J])[(f-1)*8+3+j]?=some x:=by{intro j x C;have O:=(Qw9.1 C).1;have R:(vs.take ((f-1)*8+3)).length=(f-1)*8+3:=by{rw [Qq7];omega};rw [sv,Qy3,Qy8 (by omega),R,Qn5,Qx0 O];exact C};generalize eK vs ((f-1)*8+3) [dQ E,qD F G H,qD I u J]=us at *;refine ⟨⟨by omega,by omega⟩,L,by omega,⟨by omega,by omega⟩,L,by omega,(f,z2,us.set ((f-1)*8+7) (dQ (decide (i=cuts.length))),(i:Int)+1),by dsimp only;omega,by and_intros<;>rfl,i+1,rfl,hi,?_,L,?_,?_⟩;{dsimp only;rw [hO,l,AP X];exact Q};{dsimp only;rw [Wz9,b3];exact hv};{dsimp only;rw [hO,l];unfold wF;rw [a7];refine Sx B X (xs:=[dQ b,qD s1 s2 s3,qD s4 s5 s6,dQ E,qD F G H,qD I u J,dQ out[out.length-1].a,dQ (dL cuts i).b]) rfl (qyZ ⟨rfl,A,kB.le l4⟩) ?_ ?_;{intro r Z;rw [Qm8 (by omega),sg r (by omega)]};{intro j x C;have O:=(Qw9.1 C).1;have c2:j<8:=O;by_cases h7:j=7;{subst h7;rw [show (out.length-1)*8+7=(f-1)*8+7 by omega,Qs3 (by omega)];exact C};{rw [Qm8 (by omega)];by_cases h3:j<3\/j=6;{rw [sg _ (by omega)];have hc:=a9 j x;have:j=0\/j=1\/j=2\/j=6:=by{omega};rcases this with rfl|rfl|rfl|rfl<;>exact hc C};{have:j=3\/j=4\/j=5:=by{omega};rcases this with rfl|rfl|rfl;{have:=sm 0 x C;rw [show (out.length-1)*8+3=(f-1)*8+3+0 by omega];exact this};{have:=sm 1 x C;rw [show (out.length-1)*8+4=(f-1)*8+3+1 by omega];exact this};{have:=sm 2 x C;rw [show (out.length-1)*8+5=(f-1)*8+3+2 by omega];exact this}}}}}};{have K:=of_decide_eq_false K;rw [if_neg K] at l;refine ⟨by omega,L,hv,rfl,?_,λsp c' h1 h2=>⟨(f+1,c',_,(i:Int)+1),by dsimp only;omega,by and_intros<;>rfl,i+1,rfl,hi,?_,h1,?_,?_⟩⟩;{intro v tM;simp only [Qq5,Qx7,or_false] at tM;rcases tM with rfl|rfl|rfl|rfl|rfl|rfl|rfl|rfl<;>rfl};{dsimp only;rw [hO,l,Qq3,Q];rfl};{dsimp only;have R:(vs.take (f*8)).length=f*8:=by{rw [Qq7];omega};rw [Qq3,Qq3,R];simp only [Qw6,Qk9];omega};{dsimp only;rw [hO,l];have:=B.snoc (sp:=sp) rfl gA (by decide);rw [←Q] at this;exact this}}}}}}
 ·have y:¬(i:Int)<marks.length:=of_decide_eq_false y;obtain rfl:i=marks.length:=by{omega};subst Q;exact ⟨_,_,_,rfl,bE.bJ D (hx.le λ_ _ g=>mO.le g l5) (by decide) L⟩
end Go.Proofs.Tryz
namespace Go.Proofs.Tryz
open Go.Eng Go.Big
def XY {a b:pz Rat}{i:Nat}(h:i<a.length:=by omega):(a++b).getD i 0=a.getD i 0:=by grind
def asc (c:List Rat):Prop:=c.Pairwise (·< ·)
theorem pQ {x q:Rat}:∀{o:pz Rat},q∈cZ x o↔q=x\/q∈o:=by
 intro o
 induction o with
 | nil=>simp [cZ]
 | cons y r ih=>
  unfold cZ;split
  ·grind
  ·split;{rename_i e;subst e;exact ⟨.inr,λh=>h.elim (λe=>by subst e;simp) id⟩};{rw [Qq5]}
theorem AE {x:Rat}:∀{o:pz Rat},asc o->asc (cZ x o):=by
 intro o
 induction o with
 | nil=>intro _;simp [cZ,asc]
 | cons y r ih=>
  intro h;have ⟨d,a⟩:=Qx4.1 h;unfold cZ;split
  ·rename_i c;refine Qx4.2 ⟨λq b=>?_,ih a⟩<;>grind [pQ.1]
  ·split;{exact h};{rename_i e f;refine Qx4.2 ⟨λq b=>?_,h⟩<;>grind}
def Sp.cQ (s:Sp)(q:Rat):Prop:=(s.a=false/\q=s.lo)\/(s.b=false/\q=s.hi)
theorem SO {s:Sp}{o:pz Rat}{q:Rat}:q∈fh s o 2↔s.cQ q\/q∈o:=by show q∈(if s.b=true then (if s.a=true then o else cZ s.lo o) else cZ s.hi (if s.a=true then o else cZ s.lo o))↔_;unfold Sp.cQ;cases s.a<;>cases s.b<;>simp [pQ];grind
theorem SN {s:Sp}{o:pz Rat}(h:asc o):asc (fh s o 2):=by show asc (if s.b=true then (if s.a=true then o else cZ s.lo o) else cZ s.hi (if s.a=true then o else cZ s.lo o));cases s.a<;>cases s.b<;>simp [AE,h]
def Et:∀(ss:pz Sp)(o:pz Rat),(asc o->asc (ss.foldl (λo s=>fh s o 2) o))/\∀q,q∈(ss.foldl (λo s=>fh s o 2) o)↔q∈o\/∃s∈ss,s.cQ q:=by
 intro ss
 induction ss<;>grind [SN,SO]
def H3 (ss:pz Sp):asc (endsL ss):=(Et ss []).1 List.Pairwise.nil
def eZ {ss:pz Sp}{q:Rat}:q∈endsL ss↔∃s∈ss,s.cQ q:=by have:=(Et ss []).2 q;simpa [endsL] using this
section
variable {c:List Rat} (h:asc c)
include h
theorem vQ {i j:Nat}(hij:i<j)(hj:j<c.length):c.getD i 0<c.getD j 0:=by rw [jv,jv hj];exact Qc2.1 h i j (by omega) hj hij
theorem PF {i j:Nat}(hij:i<=j)(hj:j<c.length):c.getD i 0<=c.getD j 0:=by rcases Qz3 i j with a|a;{have:=vQ h a hj;grind};grind
omit h
theorem Uc {i:Nat}{t:Rat}:(dL c i).inn t↔(0<i->c.getD (i-1) 0<t)/\(i≠c.length->i<c.length->t<c.getD i 0)/\(i≠c.length->c.length<i->t<0):=by unfold dL Sp.inn;grind
theorem pN {i:Nat}(hi:i<=c.length:=by omega){t:Rat}:(dL c i).inn t↔(0<i->c.getD (i-1) 0<t)/\(i<c.length->t<c.getD i 0):=by grind [Uc]
include h
theorem QB {i:Nat}(hi:i<=c.length):(dL c i).good:=by refine ⟨⟨λe=>?_,λe=>?_⟩,Sp.iG.2 ?_⟩;{have e:i=0:=of_decide_eq_true e;subst e;rfl};{have e:i=c.length:=of_decide_eq_true e;subst e;exact if_neg (Wq3 _)};{by_cases a:i=0;{exact .inl (decide_eq_true a)};{by_cases b:i=c.length;{exact .inr (.inl (decide_eq_true b))};{refine .inr (.inr ?_);show (if 0<i then c.getD (i-1) 0 else 0)<(if i<c.length then c.getD i 0 else 0);grind [vQ]}}}
theorem QA {t:Rat}(ht:t∉c):∃i,i<=c.length/\(dL c i).inn t:=by
 have key:∀k,k<=c.length->(∀j,j<k->c.getD j 0<t)\/∃i,i<=c.length/\(dL c i).inn t:=by
  intro k
  induction k with
  | zero=>exact λ_=>.inl λj b=>absurd b (Qn2 j)
  | succ k ih=>
   intro e;rcases ih (by omega) with g|g
   ·by_cases d:c.getD k 0<t;{grind};{refine .inr ⟨k,by omega,(pN).2 ⟨λa=>g _ (by omega),λ_=>?_⟩⟩<;>grind}
   ·exact .inr g
 rcases key c.length (Qq2 _) with g|g
 ·exact ⟨c.length,Qq2 _,(pN (Qq2 _)).2 ⟨λa=>g _ (by omega),λa=>by omega⟩⟩
 ·exact g
theorem k_ {i:Nat}(hi:i<=c.length){t u x:Rat}(ht:(dL c i).inn t)(hu:(dL c i).inn u)(hx:x∈c):(x<t↔x<u)/\(t<x↔u<x)/\x≠t:=by obtain ⟨t1,t2⟩:=(pN hi).1 ht;obtain ⟨d,e⟩:=(pN hi).1 hu;obtain ⟨j,b,rfl⟩:=Qh1 hx;rcases Qz3 j i with a|a;{have:=PF h (show j<=i-1 by omega) (by omega);grind};{have:=PF h a b;grind}
theorem IX {i:Nat}(hi:i<=c.length):(dL c i).inn ((aV c).getD i 0):=by rw [pN hi];unfold aV;by_cases a:c.length=0;{exact ⟨λ_=>by omega,λ_=>by omega⟩};{rw [if_neg a];have b:=Bi c (show 1<=c.length by omega);by_cases d:i=c.length;{grind};{rw [XY];unfold Df;by_cases e:i=0;{grind};{obtain ⟨m,rfl⟩:∃m,i=m+1:=⟨i-1,by omega⟩;have:=vQ h (show m<m+1 by omega) (by omega);grind}}}
omit h
theorem eE:(aV c).length=c.length+1:=by unfold aV;grind [Bi]
end
section
variable {c:List Rat} {ms:List Bool}
structure FI (c:List Rat) (ms:List Bool) (i:Nat):Prop where
 r:vJ (cE c ms i)
 mem:∀t,t∉c->(yj (cE c ms i) t↔∃j,j<i/\ms.getD j false=true/\(dL c j).inn t)
 top:0<i->i<=c.length->∀s∈cE c ms i,s.b=false/\s.hi<=c.getD (i-1) 0
 str:0<i->i<=c.length->ms.getD (i-1) false=false->∀s∈cE c ms i,s.hi<c.getD (i-1) 0
 last:0<i->i<=c.length->ms.getD (i-1) false=true->∃l0 l,cE c ms i=l0++[l]/\l.hi=c.getD (i-1) 0
theorem wI {ss:pz Sp}{s:Sp}{t:Rat}:yj (ss++[s]) t↔yj ss t\/s.inn t:=by constructor;{rintro ⟨x,a,b⟩;rcases Qw3.1 a with a|a;{exact .inl ⟨x,a,b⟩};grind};{rintro (⟨x,a,b⟩|b);{exact ⟨x,by simp [a],b⟩};{exact ⟨s,by simp,b⟩}}
theorem uL {ss:pz Sp}{s:Sp}(h:vJ ss)(hs:s.good)(hb:∀x∈ss,x.Ph s):vJ (ss++[s]):=by refine ⟨λx a=>?_,Qp4.2 ⟨h.2,by simp,λx a y b=>?_⟩⟩;{rcases Qw3.1 a with a|a;{exact h.1 x a};grind};grind
theorem I7 {ss:pz Sp}{s:Sp}(h:vJ (ss++[s])):vJ ss/\s.good/\∀x∈ss,x.Ph s:=by obtain ⟨b,-,c⟩:=Qp4.1 h.2;exact ⟨⟨λx a=>h.1 x (by simp [a]),b⟩,h.1 s (by simp),λx a=>c x a s (by simp)⟩
theorem FL {P:Nat->Prop}{i:Nat}:(∃j,j<i+1/\P j)↔(∃j,j<i/\P j)\/P i:=by grind
theorem T5 (h:asc c){i:Nat}(hi:i<=c.length)(F:FI c ms i):FI c ms (i+1):=by have A:=QB h hi;have D:i<c.length->(dL c i).hi=c.getD i 0:=λj=>if_pos j;have E:0<i->(dL c i).lo=c.getD (i-1) 0:=λj=>if_pos j;have B:0<i->(dL c i).a=false:=λj=>decide_eq_false (by omega);have I:i<c.length->(dL c i).b=false:=λj=>decide_eq_false (by omega);by_cases hm:ms.getD i false=true;{have y:¬ms.getD i false=false:=by{rw [hm];decide};by_cases j:0<i/\ms.getD (i-1) false=true;{have ⟨L,l,el,G⟩:=F.last j.1 hi j.2;have e:cE c ms (i+1)=L++[⟨l.lo,(dL c i).hi,l.a,(dL c i).b⟩]:=by{rw [cE,if_pos hm,if_pos ⟨j.1,j.2,by rw [el];simp⟩,el];simp [wF]};have J:=F.r;rw [el] at J;have ⟨f1,f2,f3⟩:=I7 J;have m:l.b=false:=(F.top j.1 hi l (by rw [el];simp)).1;have q:(⟨l.lo,(dL c i).hi,l.a,(dL c i).b⟩:Sp).good:=by{refine ⟨⟨f2.1.1,A.1.2⟩,Sp.iG.2 ?_⟩;(cases ha:l.a with|true=>exact .inl rfl|false=>{(cases w:(dL c i).b with|true=>exact .inr (.inl rfl)|false=>{have n:=nk f2.2 ha m;have u:=nk A.2 (B j.1) w;exact .inr (.inr (by grind))})})};refine ⟨?_,λt v=>?_,λ_ d s f=>?_,λ_ d k=>?_,λ_ d _=>?_⟩;{rw [e];exact uL f1 q λx k=>⟨(f3 x k).1,(f3 x k).2.1,(f3 x k).2.2⟩};{rw [e,FL,←F.mem t v,wI,el,wI,or_assoc];refine or_congr Wk5 ?_;have M:(dL c i).inn t↔c.getD (i-1) 0<t/\((dL c i).b=true\/t<(dL c i).hi):=by{unfold Sp.inn;rw [B j.1,E j.1];simp};have K:t≠c.getD (i-1) 0:=by{rintro rfl;rw [jv] at v;exact v (Qq9 _)};show (l.a=true\/l.lo<t)/\((dL c i).b=true\/t<(dL c i).hi)↔((l.a=true\/l.lo<t)/\(l.b=true\/t<l.hi))\/_;rw [G,m];have n:l.a=true\/l.lo<c.getD (i-1) 0:=by{(cases ha:l.a with|true=>exact .inl rfl|false=>{have:=nk f2.2 ha m;rw [G] at this;exact .inr this})};have u:(dL c i).b=true\/c.getD (i-1) 0<(dL c i).hi:=by{(cases w:(dL c i).b with|true=>exact .inl rfl|false=>{have:=nk A.2 (B j.1) w;rw [E j.1] at this;exact .inr this})};constructor;{rintro ⟨C,o⟩;by_cases g:t<c.getD (i-1) 0;{exact .inl ⟨C,.inr g⟩};{exact .inr ⟨hm,by grind,o⟩}};{rintro (⟨C,o⟩|⟨-,C,o⟩);{have N:t<c.getD (i-1) 0:=by{rcases o with o|o;{cases o};{exact o}};exact ⟨C,u.imp_right λu=>by grind⟩};{exact ⟨n.imp_right λn=>by grind,o⟩}}};{rw [e] at f;rcases Qw3.1 f with f|f;{have b:=f3 s f;refine ⟨b.1,?_⟩;have n:l.lo<c.getD (i-1) 0:=by{have:=nk f2.2 b.2.1 m;rwa [G] at this};have u:=vQ h (show i-1<i by omega) d;have:=b.2.2;grind};{obtain rfl:s=_:=by{simpa using f};refine ⟨I d,?_⟩;rw [D d];grind}};{rw [Qf7] at k;exact absurd k y};grind};{have e:cE c ms (i+1)=cE c ms i++[dL c i]:=by{rw [cE,if_pos hm,if_neg (λg=>j ⟨g.1,g.2.1⟩)]};have w:∀x∈cE c ms i,x.Ph (dL c i):=λx k=>by{by_cases p:0<i;{have H:ms.getD (i-1) false=false:=by{(cases hq:ms.getD (i-1) false with|false=>rfl|true=>exact absurd ⟨p,hq⟩ j)};exact ⟨(F.top p hi x k).1,B p,by rw [E p];exact F.str p hi H x k⟩};{obtain rfl:i=0:=by{omega};cases k}};refine ⟨?_,λt v=>?_,λ_ d s f=>?_,λ_ d k=>?_,λ_ d _=>?_⟩;{rw [e];exact uL F.r A w};{rw [e,FL,←F.mem t v,wI];exact or_congr Wk5 ⟨λg=>⟨hm,g⟩,λg=>g.2⟩};{rw [e] at f;rcases Qw3.1 f with f|f;{refine ⟨(w s f).1,?_⟩;by_cases p:0<i;{have n:=(F.top p hi s f).2;have u:=vQ h (show i-1<i by omega) d;grind};{obtain rfl:i=0:=by{omega};cases f}};{obtain rfl:s=_:=by{simpa using f};refine ⟨I d,?_⟩;rw [D d];grind}};{rw [Qf7] at k;exact absurd k y};{rw [Qf7];exact ⟨_,_,e,D d⟩}}};{have e:cE c ms (i+1)=cE c ms i:=by{rw [cE,if_neg hm]};have z:i<c.length->∀s∈cE c ms i,s.b=false/\s.hi<c.getD i 0:=λd s f=>by{by_cases p:0<i;{have ⟨n,u⟩:=F.top p hi s f;have O:=vQ h (show i-1<i by omega) d;exact ⟨n,by grind⟩};{obtain rfl:i=0:=by{omega};cases f}};refine ⟨by rw [e];exact F.r,λt v=>?_,λ_ d s f=>?_,λ_ d k s f=>?_,λ_ d k=>?_⟩;{rw [e,FL,F.mem t v];exact ⟨.inl,λg=>g.elim id λg=>absurd g.1 hm⟩};{rw [e] at f;have ⟨n,u⟩:=z d s f;exact ⟨n,by grind⟩};{rw [e] at f;exact (z d s f).2};{rw [Qf7] at k;exact absurd k hm}}
theorem fi (h:asc c):∀{i:Nat},i<=c.length+1->FI c ms i:=by
 intro i
 induction i with
 | zero=>exact λ_=>⟨⟨(λ_ h=>by cases h),List.Pairwise.nil⟩,(λt _=>⟨(λ⟨_,h,_⟩=>by cases h),(λ⟨_,h,_⟩=>absurd h (Qn2 _))⟩),(λh=>absurd h (Wq3 _)),(λh=>absurd h (Wq3 _)),(λh=>absurd h (Wq3 _))⟩
 | succ i ih=>exact λa=>T5 h (by omega) (ih (by omega))
end
def Sp.innB (s:Sp)(t:Rat):Bool:=(s.a||decide (s.lo<t))&&(s.b||decide (t<s.hi))
variable{t:Rat}{ss:List Sp}
def inB (ss:List Sp)(t:Rat):Bool:=ss.any λs=>s.innB t
theorem innB_iff {s:Sp}:s.innB t=true↔s.inn t:=by unfold Sp.innB Sp.inn;simp
theorem ke:inB ss t=true↔yj ss t:=by unfold inB yj;rw [Qt6];exact ⟨λ⟨s,a,b⟩=>⟨s,a,innB_iff.1 b⟩,λ⟨s,a,b⟩=>⟨s,a,innB_iff.2 b⟩⟩
theorem yV {a b:md}(h:a=true↔b=true):a=b:=by cases a<;>cases b<;>simp at h<;>rfl
theorem TW (h:∀s∈ss,¬s.cQ t):(q_ ss t==2)=inB ss t:=by
 induction ss with
 | nil=>rfl
 | cons s r c=>
  have c:=c λx k=>h x (by simp [k]);have g:=h s (by simp)
  have d:s.innB t=decide (xZ (s.la t) (s.lb t)=2)/\(xZ (s.la t) (s.lb t)≠0->xZ (s.la t) (s.lb t)=2):=by unfold Sp.cQ at g;unfold Sp.innB Sp.la Sp.lb xZ;rcases cU t s.lo with ⟨i,f⟩|⟨i,f⟩|⟨i,f⟩<;>rcases cU t s.hi with ⟨h2,e2⟩|⟨h2,e2⟩|⟨h2,e2⟩<;>rw [f,e2]<;>cases ha:s.a<;>cases d:s.b<;>simp at g⊢<;> grind
  have e:inB (s::r) t=(s.innB t||inB r t):=rfl;rw [e,←c,d.1];by_cases j:xZ (s.la t) (s.lb t)=0
  ·simp [q_,j]
  ·have:=d.2 j;simp [q_,this]
def opB (op:Int)(x y:Bool):Bool:=if op=2 then x&&y else if op=3 then x&&!y else if op=4 then x != y else x||y
def i_ (op:Int)(a b:List Sp)(c:List Rat):List Bool:=(aV c).map λt=>opB op (q_ a t==2) (q_ b t==2)
def combL (op:Int)(a b:List Sp):List Sp:=pM (endsL (a++b)) (i_ op a b (endsL (a++b)))
theorem kz (op:Int)(a b:pz Sp)(c:pz Rat):(i_ op a b c).length=c.length+1:=by unfold i_;rw [Qy5,eE]
theorem comb_reg (op:Int)(a b:pz Sp):vJ (combL op a b):=by unfold combL pM;rw [kz];exact (fi (H3 _) (Qq2 _)).r
theorem Ub {c:pz Rat}(h:asc c)(hc:∀s∈ss,∀q,s.cQ q->q∈c){i:Nat}(hi:i<=c.length){u:Rat}(ht:(dL c i).inn t)(hu:(dL c i).inn u):inB ss t=inB ss u:=by
 induction ss with
 | nil=>rfl
 | cons s r f=>
  have f:=f λx g=>hc x (by simp [g]);have e:∀t,inB (s::r) t=(s.innB t||inB r t):=λ_=>rfl;rw [e,e,f];congr 1;have d:=hc s (by simp);unfold Sp.innB;cases ha:s.a<;>cases hb:s.b<;>simp
  ·have j:=k_ h hi ht hu (d s.lo (.inl ⟨ha,rfl⟩));have k:=k_ h hi ht hu (d s.hi (.inr ⟨hb,rfl⟩));grind
  ·exact (k_ h hi ht hu (d s.lo (.inl ⟨ha,rfl⟩))).1
  ·exact (k_ h hi ht hu (d s.hi (.inr ⟨hb,rfl⟩))).2.1
theorem comb_inB (op:Int)(a b:pz Sp)(ht:t∉endsL (a++b)):inB (combL op a b) t=opB op (inB a t) (inB b t):=by have e:=H3 (a++b);have f:∀s∈a++b,∀q,s.cQ q->q∈endsL (a++b):=λs d q k=>eZ.2 ⟨s,d,k⟩;unfold combL pM;generalize endsL (a++b)=c at ht e f;rw [kz];have l:∀s∈a,∀q,s.cQ q->q∈c:=λs d=>f s (by simp [d]);have m:∀s∈b,∀q,s.cQ q->q∈c:=λs d=>f s (by simp [d]);have mk:∀j,j<=c.length->(dL c j).inn t->(i_ op a b c).getD j false=opB op (inB a t) (inB b t):=λj g n=>by{have h:=IX e g;have i:(aV c).getD j 0∉c:=λhm=>(k_ e g h h hm).2.2 rfl;grind [i_,eE,TW,Ub]};refine yV ?_;rw [ke,(fi e (Qq2 _)).mem t ht];grind [QA]
theorem reg_eq {xs ys:pz Sp}(E:pz Rat)(hx:vJ xs)(hy:vJ ys)(h:∀t,t∉E->inB xs t=inB ys t):xs=ys:=
 Lb (E:=E) hx hy λt a=>by rw [←ke,←ke,h t a]
end Go.Proofs.Tryz
namespace Go.Proofs.Tryz
open Go.Big
section
variable {α:Type}
structure Ord (c:α->α->Int):Prop where
 asy:∀a b,c a b<0->¬c b a<0
 tr:∀a b d,¬c a b<0->¬c b d<0->¬c a d<0
variable {c:α->α->Int}
theorem Ord.refl (h:Ord c)(a:α):¬c a a<0:=λl=>h.asy a a l l
variable {d:α}
theorem H7 {l:pz α}{i k:Nat}{x:α}(hi:i<l.length):(l.set i x).getD k d=if k=i then x else l.getD k d:=by simp only [Qx3,Qp1];by_cases h:k=i;{subst h;simp [hi]};{have:¬i=k:=λe=>h e.symm;simp [h,this]}
end
end Go.Proofs.Tryz
namespace Go.Proofs.Tryz
open Go.Eng Go.Big
variable{k:Int}{t:Rat}
abbrev oL:=Rat×Int×Int
def jN (k:Int)(s:Sp):List oL:=(if s.a then [] else [(s.lo,k,1)])++(if s.b then [] else [(s.hi,k,-1)])
def oY (A B:List Sp):List oL:=A.flatMap (jN 0)++B.flatMap (jN 1)
def mN:List Sp->Int
 | []=>0
 | s::r=>(if s.a then 1 else 0)+mN r
def mG (k:Int):List oL->Rat->Int
 | [],_=>0
 | c::r,t=>(if c.2.1=k/\c.1<t then c.2.2 else 0)+mG k r t
def iK (k:Int):List oL->Int
 | []=>0
 | c::r=>(if c.2.1=k then c.2.2 else 0)+iK k r
theorem O0 {l m:pz oL}(h:l.Perm m):mG k l t=mG k m t:=by induction h<;>grind [mG]
theorem nE:∀{l m:pz oL},mG k (l++m) t=mG k l t+mG k m t
 | [],m=>by simp [mG]
 | c::r,m=>by simp only [Qd0,mG,nE (l:=r)];omega
theorem BK:∀{l m:pz oL},iK k (l++m)=iK k l+iK k m
 | [],m=>by simp [iK]
 | c::r,m=>by simp only [Qd0,iK,BK (l:=r)];omega
theorem Jo:∀{l:pz oL},(∀c∈l,c.1<t)->mG k l t=iK k l
 | [],_=>rfl
 | c::r,h=>by
  simp only [mG,iK,Jo (l:=r) λx hx=>h x (by simp [hx]),h c (by simp),and_true]
theorem E2:∀{l:pz oL},(∀c∈l,¬c.1<t)->mG k l t=0
 | [],_=>rfl
 | c::r,h=>by
  simp only [mG,E2 (l:=r) λx hx=>h x (by simp [hx]),h c (by simp),and_false,if_false];omega
theorem tu {k':Int}(hk:k≠k'):∀{l:pz Sp},mG k (l.flatMap (jN k')) t=0
 | []=>rfl
 | s::r=>by
  rw [Qy0,nE,tu hk (l:=r)];have hk':¬k'=k:=λe=>hk e.symm;unfold jN;cases s.a<;>cases s.b<;>simp [mG,hk']
theorem BL {k:Int}{t:Rat}:∀{l:pz Sp},(∀s∈l,s.good)->(∀s∈l,¬s.cQ t)->mN l+mG k (l.flatMap (jN k)) t=(l.countP λs=>s.innB t:Nat)
 | [],_,_=>rfl
 | s::r,hg,he=>by
  have ih:=BL (k:=k) (t:=t) (l:=r) (λx c=>hg x (by simp [c])) λx c=>he x (by simp [c]);have d:=(hg s (by simp)).2;have e:=he s (by simp);rw [Qy0,nE,List.countP_cons];simp only [mN];rw [Sp.iG] at d;unfold Sp.cQ at e
  have key:(if s.a=true then (1:Int) else 0)+mG k (jN k s) t=(if s.innB t=true then 1 else 0:Nat):=by
   unfold jN Sp.innB;cases ha:s.a<;>cases hb:s.b<;>simp [hb] at d e<;>simp [mG]<;>(try (by_cases f:s.lo<t))<;>(try (by_cases g:s.hi<t))<;>(try (by_cases h:t<s.hi))<;>simp_all<;>grind
  omega
theorem HR {l:pz Sp}:decide ((0:Int)<(l.countP λs=>s.innB t:Nat))=inB l t:=by refine yV ⟨λh=>?_,λh=>?_⟩;{have h:=of_decide_eq_true h;have:0<l.countP λs=>s.innB t:=by{omega};have ⟨s,a,h⟩:=Qr1.1 this;exact Qt6.2 ⟨s,a,h⟩};{have ⟨s,a,h⟩:=Qt6.1 h;have:0<l.countP λs=>s.innB t:=Qr1.2 ⟨s,a,h⟩;grind}
theorem TS {A B:pz Sp}{c:oL}:c∈oY A B->∃s∈A++B,s.cQ c.1:=by intro h;have one:∀{k:Int} {s:Sp},c∈jN k s->s.cQ c.1:=λ{k s} h=>by{unfold jN at h;unfold Sp.cQ;cases ha:s.a<;>cases hb:s.b<;>simp [ha,hb] at h ⊢;{rcases h with rfl|rfl<;>simp};{subst h;rfl};{subst h;rfl}};rcases Qw3.1 h with h|h<;>grind
def mZ (s:Sp):Sp:=⟨s.lo,0,s.a,true⟩
def BN (was:Bool)(last:Sp)(out:List Sp):List Sp:=out++if was then [mZ last] else []
def Py (acc:Bool->Bool->Bool)(A B:List Sp)(t:Rat):Bool:=acc (inB A t) (inB B t)
structure VM (acc:Bool->Bool->Bool) (A B:List Sp) (cs:List oL) (i:Nat) (was:Bool) (last:Sp) (out:List Sp):Prop where
 rg:vJ (BN was last out)
 lo:∀s∈BN was last out,∀h:i<cs.length,s.a=false->s.lo<cs[i].1
 hi:∀s∈out,s.b=false/\∀h:i<cs.length,s.hi<cs[i].1
 inn:∀t,(∀s∈A++B,¬s.cQ t)->(∀h:i<cs.length,t<cs[i].1)->inB (BN was last out) t=Py acc A B t
 fr:was=true->last.hi=0/\last.b=false
section
variable {acc:Bool->Bool->Bool} {A B:List Sp} {cs:List oL} {i:Nat} {was:Bool} {last:Sp} {out:List Sp}
theorem SW (hp:cs.Perm (oY A B))(hA:∀s∈A,s.good)(hB:∀s∈B,s.good)(hs:cs.Pairwise λx y=>x.1<=y.1){t:Rat}(ht:∀s∈A++B,¬s.cQ t)
  (h1:∀c∈cs.take i,c.1<t)(h2:∀h:i<cs.length,t<cs[i].1) :
  acc (decide ((0:Int)<mN A+iK 0 (cs.take i))) (decide ((0:Int)<mN B+iK 1 (cs.take i)))=Py acc A B t:=by
 have a:∀c∈cs.drop i,¬c.1<t:=by grind [List.getElem_of_mem,List.pairwise_iff_getElem.1]
 have e:∀k,iK k (cs.take i)=mG k (oY A B) t:=λk=>by
  rw [←O0 hp,←Jo h1]
  conv=>rhs;rw [←Qb1 i cs]
  rw [nE,E2 a];omega
 have b:=BL (k:=0) (t:=t) hA λs hs=>ht s (Qz5 _ hs);have d:=BL (k:=1) (t:=t) hB λs hs=>ht s (Qk6 _ hs);have f:mG 0 (B.flatMap (jN 1)) t=0:=tu (by decide);have g:mG 1 (A.flatMap (jN 0)) t=0:=tu (by decide);rw [e,e];unfold oY Py;rw [nE,nE,f,g,←HR,←HR,←b,←d,Wx0,Int.zero_add]
theorem zd {x y:pz Sp}{t:Rat}:inB (x++y) t=(inB x t||inB y t):=by unfold inB;rw [List.any_append]
theorem SX {was:md}(hw:was=acc (decide ((0:Int)<mN A)) (decide ((0:Int)<mN B)))(hp:cs.Perm (oY A B))(hA:∀s∈A,s.good)(hB:∀s∈B,s.good)(hs:cs.Pairwise λx y=>x.1<=y.1) :
  VM acc A B cs 0 was ⟨0,0,true,false⟩ []:=by refine ⟨?_,λs h _ a=>?_,λs h=>(by cases h),λt b d=>?_,λ_=>⟨rfl,rfl⟩⟩;{unfold BN;cases was;{exact ⟨λs h=>by simp at h,by simp⟩};{refine ⟨λs h=>?_,by simp⟩;obtain rfl:s=mZ ⟨0,0,true,false⟩:=by{simpa using h};exact ⟨⟨λ_=>rfl,λ_=>rfl⟩,rfl⟩}};{unfold BN at h;cases was<;>simp at h;subst h;cases a};{have:=SW (acc:=acc) (i:=0) hp hA hB hs b (λc e=>by simp at e) d;simp only [Qd4,iK,Wx0] at this;rw [←this,←hw];unfold BN mZ inB Sp.innB;cases was<;>simp}
theorem Vj (h:VM acc A B cs i was last out)(hi:i+1<cs.length)(he:cs[i].1=cs[i+1].1):VM acc A B cs (i+1) was last out:=
 ⟨h.rg,λs a _ b=>by rw [←he];exact h.lo s a (by omega) b,λs a=>⟨(h.hi s a).1,λ_=>by rw [←he];exact (h.hi s a).2 (by omega)⟩,
  λt c d=>h.inn t c λ_=>by rw [he];exact d hi,h.fr⟩
theorem UT (h:VM acc A B cs i was last out)(hi:i<cs.length){t:Rat}(ht:cs[i].1<t):inB out t=false:=by refine Bool.eq_false_iff.2 λhe=>?_;have ⟨s,b,a⟩:=Qt6.1 he;have ⟨c,e⟩:=h.hi s b;rw [innB_iff] at a;obtain ⟨-,d⟩:=a;rw [c] at d;grind
def lI (was now:Bool)(last:Sp)(x:Rat):Sp:=if now&&!was then ⟨x,0,false,false⟩ else if was&&!now then ⟨last.lo,x,last.a,last.b⟩ else last
def BM (was now:Bool)(last:Sp)(x:Rat)(out:List Sp):List Sp:=if was&&!now then out++[⟨last.lo,x,last.a,last.b⟩] else out
theorem Vk (h:VM acc A B cs i was last out)(hi:i<cs.length)(hn:∀h:i+1<cs.length,cs[i].1<cs[i+1].1)(hp:cs.Perm (oY A B))(hA:∀s∈A,s.good)(hB:∀s∈B,s.good)(hs:cs.Pairwise λx y=>x.1<=y.1)
  {now:md}(hw:now=acc (decide ((0:Int)<mN A+iK 0 (cs.take (i+1)))) (decide ((0:Int)<mN B+iK 1 (cs.take (i+1))))) :
  VM acc A B cs (i+1) now (lI was now last cs[i].1) (BM was now last cs[i].1 out):=by have z:∃s∈A++B,s.cQ cs[i].1:=TS (hp.mem_iff.1 (Qq9 hi));have g:∀t,(∀s∈A++B,¬s.cQ t)->cs[i].1<t->(∀h:i+1<cs.length,t<cs[i+1].1)->Py acc A B t=now:=λt f d o=>by{rw [hw,SW (acc:=acc) hp hA hB hs f (λc D=>?_) o];obtain ⟨j,E,rfl⟩:=Qh1 D;rw [Qq7] at E;rw [Wy0];by_cases e:j=i;{subst e;exact d};{have:=Qc2.1 hs j i (by omega) hi (by omega);grind}};have apart:∀t,(∀s∈A++B,¬s.cQ t)->t<cs[i].1\/cs[i].1<t:=λt f=>by{obtain ⟨s,d,o⟩:=z;grind};have on:∀{t:Rat},cs[i].1<t->inB out t=false:=λ{t}=>UT (t:=t) h hi;have m:∀s∈BN was last out,s.a=false->s.lo<cs[i].1:=λs hs l=>h.lo s hs hi l;have n:∀s∈out,s.hi<cs[i].1:=λs hs=>(h.hi s hs).2 hi;have q:∀s∈out,s.b=false:=λs hs=>(h.hi s hs).1;have inn:∀t,(∀s∈A++B,¬s.cQ t)->t<cs[i].1->inB (BN was last out) t=Py acc A B t:=λt f d=>h.inn t f λ_=>d;have p:=h.rg;have u:=h.fr;generalize cs[i].1=x at *;clear z hw hp hs h;unfold lI BM;cases was<;>cases now<;>simp only [Bool.not_true,Bool.not_false,Bool.and_true,Wk3]<;>unfold BN at*<;> simp only [Qj0,if_true,if_false,Qx2] at *;{refine ⟨by simpa [BN] using p,λs hs d l=>?_,λs hs=>⟨q s hs,λd=>?_⟩,λt f o=>?_,λh=>nomatch h⟩;{have:=m s (by simpa [BN] using hs) l;have:=hn d;grind};{have:=n s hs;have:=hn d;grind};{simp only [BN,Qj0,if_false,Qx2];rcases apart t f with k|k;{exact inn t f k};{rw [g t f k o,on k]}}};{have e:inB (out++[mZ ⟨x,0,false,false⟩])=λt=>inB out t||decide (x<t):=by{funext t;rw [zd];unfold inB mZ Sp.innB;simp};refine ⟨?_,λs hs d l=>?_,λs hs=>⟨q s hs,λd=>?_⟩,λt f o=>?_,λ_=>⟨rfl,rfl⟩⟩;{simp only [BN,if_true];exact uL p ⟨⟨(λh=>nomatch h),λ_=>rfl⟩,rfl⟩ λy r=>⟨q y r,rfl,n y r⟩};{simp only [BN,if_true] at hs;rcases Qw3.1 hs with hs|hs;{have:=m s hs l;have:=hn d;grind};{obtain rfl:s=mZ ⟨x,0,false,false⟩:=by{simpa using hs};exact hn d}};{have:=n s hs;have:=hn d;grind};{simp only [BN,if_true];rw [e];dsimp only;rcases apart t f with k|k;{rw [inn t f k,decide_eq_false (by grind),Bool.or_false]};{rw [g t f k o,decide_eq_true k,Bool.or_true]}}};{obtain ⟨f1,f2⟩:last.hi=0/\last.b=false:=by{simpa using u};obtain ⟨F,G,C⟩:=I7 p;have v:last.a=false->last.lo<x:=λl=>m (mZ last) (by simp) l;have e:inB (out++[(⟨last.lo,x,last.a,last.b⟩:Sp)])=λt=>inB out t||((last.a||decide (last.lo<t))&&decide (t<x)):=by{funext t;rw [zd];unfold inB Sp.innB;simp [f2]};have w:inB (out++[mZ last])=λt=>inB out t||(last.a||decide (last.lo<t)):=by{funext t;rw [zd];unfold inB mZ Sp.innB;simp};refine ⟨?_,λs hs d l=>?_,λs hs=>?_,λt f o=>?_,λh=>nomatch h⟩;{simp only [BN,Qj0,if_false,Qx2];refine uL F ⟨⟨λh=>G.1.1 h,λh=>by rw [f2] at h;cases h⟩,?_⟩ λy r=>⟨q y r,(C y r).2.1,(C y r).2.2⟩;rw [Sp.iG];cases l:last.a;{exact .inr (.inr (v l))};{exact .inl rfl}};{simp only [BN,Qj0,if_false,Qx2] at hs;rcases Qw3.1 hs with hs|hs;{have:=m s (Qz5 _ hs) l;grind};{obtain rfl:s=⟨last.lo,x,last.a,last.b⟩:=by{simpa using hs};have:=v l;dsimp only;grind}};{rcases Qw3.1 hs with hs|hs;{exact ⟨q s hs,λd=>by have:=n s hs;have:=hn d;grind⟩};{obtain rfl:s=⟨last.lo,x,last.a,last.b⟩:=by{simpa using hs};exact ⟨f2,λd=>hn d⟩}};{simp only [BN,Qj0,if_false,Qx2];rw [e];dsimp only;rcases apart t f with k|k;{rw [←inn t f k,w,decide_eq_true k,Bool.and_true]};{rw [g t f k o,on k,decide_eq_false (show ¬t<x by grind),Wk3];rfl}}};{have w:inB (out++[mZ last])=λt=>inB out t||(last.a||decide (last.lo<t)):=by{funext t;rw [zd];unfold inB mZ Sp.innB;simp};have v:last.a=false->last.lo<x:=λl=>m (mZ last) (by simp) l;refine ⟨by simpa [BN] using p,λs hs d l=>?_,λs hs=>⟨q s hs,λd=>?_⟩,λt f o=>?_,λ_=>by simpa using u⟩;{have:=m s (by simpa [BN] using hs) l;have:=hn d;grind};{have:=n s hs;have:=hn d;grind};{simp only [BN,if_true];rcases apart t f with k|k;{exact inn t f k};{rw [g t f k o,w];dsimp only;cases l:last.a;{have:=v l;rw [decide_eq_true (show last.lo<t by grind)];simp};{simp}}}}
end
end Go.Proofs.Tryz
namespace Go.Proofs.Tryz
open Go.Eng Go.Big
def Di (k:Nat)(hk:0<k:=by omega):Sz k (0:Rat):=⟨by show (0:Int).natAbs<_;exact Qy6 (by decide) (Nat.one_le_two_pow),Qc8 (by omega)⟩
end Go.Proofs.Tryz
