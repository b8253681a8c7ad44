import Derived.Test.YtapnijmlbakblaaGreatDoorZP15
import Derived.Test.YtapnijmlbakblaaGreatDoorZP8
import Derived.Test.YtapnijmlbakblaaGreatDoorZP9
import Derived.Test.YtapnijmlbakblaaGreatDoorZP11
import Derived.Test.YtapnijmlbakblaaGreatDoorZP6
set_option linter.unusedVariables false
open Go.IntKind (i64 u64 u32)
namespace Go.Proofs.Tryz
open Go.Eng Go.Big
theorem jo {V:View}{v:Value}(h:Be V v false [] []):aa prog 130 #[v] V fun r V'=>r=.bool true:=by
 obtain ⟨p,n,c,q,m,e,rfl,a,b⟩:=h;obtain rfl:=a.len;obtain rfl:=b.len;exact ny false p _ c q _ e V _ ⟨fun _=>⟨fun _ d f=>rfl,(fun h=>nomatch h)⟩,(fun h=>nomatch h)⟩
theorem zV {V:View}{v w:Value}{s:Sp}(h:J7 V v s)(h':J7 V w s){k:Nat}(hs:s.sz k)(hk:k<=1099511627776) :
  aa prog 69 #[v,w] V fun r V'=>r=.bool true:=by
 obtain ⟨lo,hi,a,b⟩:=s;obtain ⟨b1,p,n,c,p',n',c',d,q,m,e,N,O,P,rfl,H,I⟩:=h;obtain ⟨b2,i,j,t,i',j',t',f,o,u,g,Q,R,S,rfl,J,K⟩:=h';dsimp only at H I J K ⊢;refine yo _ _ _ _ _ _ _ _ _ _ _ _ _ _ _ _ _ _ _ _ _ _ _ _ _ _ _ _ _ _ _ _ V _ ⟨fun _=>⟨fun _=>?_,(by intro h;simp at h)⟩,(by intro h;simp at h)⟩;have T:∀x:View,V.Le x->b=true->aa prog 130 #[.agg #[.bool d,.slice q m e,.slice N O P]] x fun r V'=>r=.bool true:=fun x z l=>jo ((I.1 l).le z);have D:∀x:View,V.Le x->b=true->aa prog 130 #[.agg #[.bool f,.slice o u g,.slice Q R S]] x fun r V'=>r=.bool true:=fun x z l=>jo ((K.1 l).le z);have U:∀x:View,V.Le x->b=false->aa prog 131 #[.agg #[.bool d,.slice q m e,.slice N O P],.agg #[.bool f,.slice o u g,.slice Q R S]] x fun r V'=>r=.bool true:=fun x z l=>(m_ ((I.2 l).le z) ((K.2 l).le z) hs.2 hk).mono fun r B _ h=>by rw [h];simp
 cases a with
 | true=>
  refine ⟨fun _ Y C=>(jo ((H.1 rfl).le C)).mono ?_,(fun h=>nomatch h)⟩;rintro r V2 W rfl;refine ⟨_,rfl,fun _ V3 X=>(jo ((J.1 rfl).le (C.trans (W.trans X)))).mono ?_,(fun h=>nomatch h)⟩;rintro r x z rfl;have L:=C.trans (W.trans (X.trans z));refine ⟨_,rfl,fun _=>⟨fun l B A=>(T B (L.trans A) l).mono ?_,fun l=>⟨fun _ B A=>(U B (L.trans A) l).mono ?_,fun y=>by rw [l] at y;cases y⟩⟩,(fun h=>nomatch h)⟩
  ·rintro r M E rfl;refine ⟨_,rfl,fun _ F G=>(D F (L.trans (A.trans (E.trans G))) l).mono ?_,(fun h=>nomatch h)⟩;rintro r Z l8 rfl;exact ⟨_,rfl,fun _ V9 l9=>rfl,(fun h=>nomatch h)⟩
  ·rintro r M E rfl;exact ⟨_,rfl,fun F G=>rfl⟩
 | false=>
  refine ⟨(fun h=>nomatch h),fun _=>⟨fun _ Y C=>(m_ ((H.2 rfl).le C) ((J.2 rfl).le C) hs.1 hk).mono ?_,(fun h=>nomatch h)⟩⟩;rintro r x z rfl;have L:=C.trans z;refine ⟨_,rfl,fun _=>⟨fun l B A=>(T B (L.trans A) l).mono ?_,fun l=>⟨fun _ B A=>(U B (L.trans A) l).mono ?_,fun y=>by rw [l] at y;cases y⟩⟩,(by intro h;simp at h)⟩
  ·rintro r M E rfl;refine ⟨_,rfl,fun _ F G=>(D F (L.trans (A.trans (E.trans G))) l).mono ?_,(fun h=>nomatch h)⟩;rintro r Z l8 rfl;exact ⟨_,rfl,fun _ V9 l9=>rfl,(fun h=>nomatch h)⟩
  ·rintro r M E rfl;exact ⟨_,rfl,fun F G=>rfl⟩
theorem xu {V:View}{v:Value}{s:Sp}(h:Hj V v s){k:Nat}(hs:s.sz k)(hk:k<=1099511627776):aa prog 43 #[v] V fun r V'=>J7 V' r s:=by
 obtain ⟨G,p,n,c,H,I,J,d,q,m,e,K,L,M,rfl,z,l⟩:=h
 have t:∀{V:View} {v:Value} {x:Rat} {no:Bool},RA V v x->(!no)=true->RE V v x no:=fun h e=>by
  rw [Qw7] at e;subst e;exact ⟨(fun h=>nomatch h),fun _=>h⟩
 have f:∀{V:View} {x:Rat} {no:Bool},(!no)=false->RE V (.agg #[.bool false,.slice none 0 0,.slice none 0 0]) x no:=fun e=>by
  rw [Qy7] at e;subst e;exact ⟨fun _=>Be.nil,(fun h=>nomatch h)⟩
 refine wK _ _ _ _ _ _ _ _ _ _ _ _ _ _ _ _ V _ ⟨fun g N o=>(eT (z.le o) hs.1 hk).mono ?_,fun g=>⟨fun a O A=>(eT (l.le A) hs.2 hk).mono ?_,fun a P B=>?_⟩⟩
 ·rintro r Q C u;have i:=u;obtain ⟨_,_,_,_,_,_,_,rfl⟩:=u.shape;refine ⟨_,_,_,_,_,_,_,rfl,fun a R w=>(eT (l.le (o.trans (C.trans w))) hs.2 hk).mono ?_,fun a S D=>?_⟩
  ·rintro r T E j;have b:=j;obtain ⟨_,_,_,_,_,_,_,rfl⟩:=j.shape;exact ⟨_,_,_,_,_,_,_,rfl,fun U y=>⟨_,_,_,_,_,_,_,_,_,_,_,_,_,_,rfl,t (i.le (w.trans (E.trans y))) g,t (b.le y) a⟩⟩
  ·exact ⟨_,_,_,_,_,_,_,_,_,_,_,_,_,_,rfl,t (i.le D) g,f a⟩
 ·rintro r W X j;have b:=j;obtain ⟨_,_,_,_,_,_,_,rfl⟩:=j.shape;exact ⟨_,_,_,_,_,_,_,rfl,fun Y F=>⟨_,_,_,_,_,_,_,_,_,_,_,_,_,_,rfl,f g,t (b.le F) a⟩⟩
 ·exact ⟨_,_,_,_,_,_,_,_,_,_,_,_,_,_,rfl,f g,f a⟩
theorem gL.ai {k:Nat}{l:L3}(h:gL k l)(hk:k<=1099511627776):(ai l.1.natAbs).length<=1099511627776/\(ai l.2.1.natAbs).length<=1099511627776/\(ai l.2.2.natAbs).length<=1099511627776:=by
 have d1:=ag (show l.1.natAbs<2^k from h.1.1);have d2:=ag (show l.2.1.natAbs<2^k from h.2.1.1);have d3:=ag (show l.2.2.natAbs<2^k from h.2.2.1);exact ⟨by omega,by omega,by omega⟩
theorem uF {V:View}{v:Value}{l:L3}{s:Sp}(h:RF V v l s){k:Nat}(sl:gL k l)(hs:s.sz k)(hk:k<=1099511627776):aa prog 13 #[v] V fun r V'=>qn V' r l s:=by
 obtain ⟨d1,d2,d3⟩:=sl.ai hk;obtain ⟨z,A,B,C,D,E,F,G,H,I,J,K,b,p,n,c,L,M,N,d,q,m,e,O,P,Q,rfl,u,w⟩:=h;refine tL _ _ _ _ _ _ _ _ _ _ _ _ _ _ _ _ _ _ _ _ _ _ _ _ _ _ _ _ V _ fun R g=>(BE (u.le g) d1 d2 d3).mono ?_;rintro r S x i;have a:=i;obtain ⟨_,_,_,_,_,_,_,_,_,_,_,_,rfl⟩:=fy i;refine ⟨_,_,_,_,_,_,_,_,_,_,_,_,rfl,fun T j=>(xu (w.le (g.trans (x.trans j))) hs hk).mono ?_⟩;rintro r U y o;have f:=o;obtain ⟨_,_,_,_,_,_,_,_,_,_,_,_,_,_,rfl,-,-⟩:=o;exact ⟨_,_,_,_,_,_,_,_,_,_,_,_,_,_,_,_,rfl,fun W t=>⟨_,_,_,_,_,_,_,_,_,_,_,_,_,_,_,_,_,_,_,_,_,_,_,_,_,_,rfl,a.le (j.trans (y.trans t)),f.le t⟩⟩
def Qm (V:View)(ad:Addr)(l:L3)(s:Sp):Prop:=∃xs:List Value,qn V (.agg xs.toArray) l s/\∀i x,xs[i]?=some x->V.at (ad.add i) x
theorem Qm.le {V V':View}{ad:Addr}{l:L3}{s:Sp}(h:Qm V ad l s)(e:V.Le V'):Qm V' ad l s:=by
 obtain ⟨xs,a,b⟩:=h;exact ⟨xs,a.le e,fun i x c=>e.at (b i x c)⟩
structure oJ (V:View) (p:OA) (n:Nat) (fs:List (L3×Sp)):Prop where
 len:n=fs.length
 at_:∀(i:Nat)(h:i<fs.length),∃ad,ah p (i*14)=some ad/\Qm V ad fs[i].1 fs[i].2
theorem oJ.le {V V':View}{p:OA}{n:Nat}{fs:List (L3×Sp)}(h:oJ V p n fs)(e:V.Le V'):oJ V' p n fs:=⟨h.len,fun i a=>by obtain ⟨b,c,d⟩:=h.at_ i a;exact ⟨b,c,d.le e⟩⟩
theorem bL {p:OA}{j:Nat}{ad:Addr}(h:ah p j=some ad):p.isSome=true:=by
 cases p with
 | none=>cases h
 | some a=>rfl
theorem wZ {V:View}{p q:OA}{n c m e:Nat}{fs:List (L3×Sp)}(hp:oJ V p n fs)(hq:oJ V q m fs){k:Nat}(sz:∀f∈fs,gL k f.1/\f.2.sz k)(hk:k<=1099511627776)(hn:fs.length<4611686018427387904:=by omega) :
  aa prog 28 #[.slice p n c,.slice q m e] V fun r V'=>r=.bool true:=by
 obtain rfl:=hp.len;obtain rfl:=hq.len;refine tK p _ c q _ e V _ ⟨(by intro h;simp at h),fun _=>⟨fun z V'=>0<=z/\z<=fs.length,fun z=>(fs.length-z).toNat,⟨0,by and_intros<;>rfl,by omega,by omega⟩,?_⟩⟩;rintro z W D ⟨X,Y⟩;refine ⟨rfl,fun g=>?_,fun g Z l9=>rfl⟩;have g:z<fs.length:=of_decide_eq_true g;obtain ⟨i,rfl⟩:∃i:Nat,z=i:=⟨z.toNat,by omega⟩;have u:i<fs.length:=by omega
 rw [Qq0];have w:i64.wrap ((i:Int)+1)=(i:Int)+1:=ar (by omega);rw [w];obtain ⟨s1,s2⟩:=sz _ (Qy3 u);obtain ⟨v,y,xs,⟨b1,p1,n1,c1,b2,p2,n2,c2,b3,p3,n3,c3,bb,pp,nn,cc,ZL,Zy,G,dd,qq,mm,ee,ZN,Zu,Zi,ex,H,I⟩,l⟩:=(hp.le D).at_ i u;obtain ⟨A,o,ys,⟨J,ZD,K,M,N,ZJ,Zw,O,P,ZK,Zx,Q,R,ZM,Zz,Zf,Yn,Yk,W_,Zh,ZO,Zv,Zj,Yq,Yi,Xe,t,S,T⟩,s⟩:=(hq.le D).at_ i u;have ex:=congrArg Array.toList (Value.agg.inj ex);have t:=congrArg Array.toList (Value.agg.inj t);dsimp only at ex t;subst ex t;have d:=s1.ai hk;rw [y,o];refine ⟨bL y,⟨by omega,g⟩,rfl,_,_,_,_,_,_,_,_,_,_,_,_,v.add 0,rfl,l 0 _ rfl,l 1 _ rfl,l 2 _ rfl,l 3 _ rfl,l 4 _ rfl,l 5 _ rfl,bL o,⟨by omega,g⟩,rfl,_,_,_,_,_,_,_,_,_,_,_,_,A.add 0,rfl,s 0 _ rfl,s 1 _ rfl,s 2 _ rfl,s 3 _ rfl,s 4 _ rfl,s 5 _ rfl,fun V3 B=>(xq (H.le B) (S.le B) d.1 d.2.1 d.2.2).mono ?_⟩;rintro r E U rfl;have L:=B.trans U;have a:∀j x,_->E.at ((v.add 6).add j) x:=fun j x C=>by rw [hZ];exact L.at (l (6+j) x C)
 have b:∀j x,_->E.at ((A.add 6).add j) x:=fun j x C=>by rw [hZ];exact L.at (s (6+j) x C)
 refine ⟨_,rfl,(by intro h;simp at h),fun _=>⟨bL y,⟨by omega,g⟩,rfl,_,_,_,_,_,_,_,_,_,_,_,_,_,_,_,_,v.add 6,rfl,a 0 _ rfl,a 1 _ rfl,a 2 _ rfl,a 3 _ rfl,a 4 _ rfl,a 5 _ rfl,a 6 _ rfl,a 7 _ rfl,bL o,⟨by omega,g⟩,rfl,_,_,_,_,_,_,_,_,_,_,_,_,_,_,_,_,A.add 6,rfl,b 0 _ rfl,b 1 _ rfl,b 2 _ rfl,b 3 _ rfl,b 4 _ rfl,b 5 _ rfl,b 6 _ rfl,b 7 _ rfl,fun V6 F=>(zV (I.le (L.trans F)) (T.le (L.trans F)) s2 hk).mono ?_⟩⟩;rintro r V7 l7 rfl;exact ⟨_,rfl,(fun h=>nomatch h),fun _=>⟨(i:Int)+1,by dsimp only;omega,by and_intros<;>rfl,by omega,by omega⟩⟩
def DY (a b:Int):Int:=if 0<a/\b<0 then 2 else if (a=0/\b<=0)\/(b=0/\0<=a) then 1 else 0
def Sp.la (s:Sp)(t:Rat):Int:=if s.a then 1 else cmpQ t s.lo
def Sp.lb (s:Sp)(t:Rat):Int:=if s.b then -1 else cmpQ t s.hi
def Gf:List Sp->Rat->Int
 | [],_=>0
 | s::r,t=>if DY (s.la t) (s.lb t)≠0 then DY (s.la t) (s.lb t) else Gf r t
theorem cmpQ_swap (x y:Rat):cmpQ y x=- cmpQ x y:=by
 unfold cmpQ;rw [show y-x=-(x-y) from by grind];exact Int.sign_neg _
theorem FA {V:View}{r:Value}{l:L3}(h:RL V r (-l.1) (-l.2.1) (-l.2.2)):RL V r (revL l).1 (revL l).2.1 (revL l).2.2:=h
theorem nK {V:View}{v:Value}{q:Rat}(h:RQ V v q):aa prog 80 #[v] V fun r V'=>RQ V' r (-q):=by
 obtain ⟨p,n,c,d,e,f,rfl,a,b⟩:=h;exact kc q a b
theorem BF {V:View}{v:Value}{l:L3}{s:Sp}(h:RF V v l s):aa prog 64 #[v] V fun r V'=>RF V' r (revL l) s.neg:=by
 obtain ⟨W,X,Y,Z,b2,p2,n2,c2,b3,p3,n3,c3,b,p,n,c,p',n',c',d,q,m,e,q',m',e',rfl,y,O⟩:=h;obtain ⟨_,_,_,_,_,_,_,_,_,_,_,_,_,_,F,G,P⟩:=O;simp only [Value.agg.injEq,Qb1,Qy2,Value.bool.injEq,Value.slice.injEq,true_and,and_true] at F;obtain ⟨rfl,⟨rfl,rfl,rfl⟩,⟨rfl,rfl,rfl⟩,rfl,⟨rfl,rfl,rfl⟩,⟨rfl,rfl,rfl⟩⟩:=F;have z:∀V:View,RQ V (.agg #[.bool false,.slice none 0 0,.slice none 0 0]) 0:=fun V=>by have:=RQ.zero (V:=V);simpa using this
 have t:∀{V:View} {v:Value} {x:Rat} {no:Bool},RQ V v (-x)->(!no)=true->RQ V v (if no=true then 0 else -x):=fun h e=>by
  rw [Qw7] at e;rw [e];exact h
 have f:∀{V:View} {x:Rat} {no:Bool},(!no)=false->RQ V (.agg #[.bool false,.slice none 0 0,.slice none 0 0]) (if no=true then 0 else -x):=fun e=>by
  rw [Qy7] at e;rw [e];exact z _
 refine A4 _ _ _ _ _ _ _ _ _ _ _ _ _ _ _ _ _ _ _ _ _ _ _ _ _ _ _ _ V _ ⟨fun k V1 A=>(nK (P.le A)).mono ?_,fun k=>⟨fun g fH H=>(nK (G.le H)).mono ?_,fun g sM Q=>(jm (y.le Q)).mono ?_⟩⟩
 ·rintro r V2 B I;have o:=I;obtain ⟨_,_,_,_,_,_,rfl⟩:=I.shape;refine ⟨_,_,_,_,_,_,_,rfl,fun g V3 C=>(nK (G.le (A.trans (B.trans C)))).mono ?_,fun g V8 J=>(jm (y.le (A.trans (B.trans J)))).mono ?_⟩
  ·rintro r V4 K u;have i:=u;obtain ⟨_,_,_,_,_,_,rfl⟩:=u.shape;refine ⟨_,_,_,_,_,_,_,rfl,fun V5 D=>(jm (y.le (A.trans (B.trans (C.trans (K.trans D)))))).mono ?_⟩;rintro r V6 L a;have j:=FA a;obtain ⟨_,_,_,_,_,_,_,_,_,_,_,_,rfl⟩:=fy a;exact ⟨_,_,_,_,_,_,_,_,_,_,_,_,rfl,fun V7 E=>⟨_,_,_,_,_,_,_,_,_,_,_,_,_,_,_,_,_,_,_,_,_,_,_,_,_,_,rfl,j.le E,_,_,_,_,_,_,_,_,_,_,_,_,_,_,rfl,t (o.le (C.trans (K.trans (D.trans (L.trans E))))) k,t (i.le (D.trans (L.trans E))) g⟩⟩
  ·rintro r V9 R a;have j:=FA a;obtain ⟨_,_,_,_,_,_,_,_,_,_,_,_,rfl⟩:=fy a;exact ⟨_,_,_,_,_,_,_,_,_,_,_,_,rfl,fun gm w=>⟨_,_,_,_,_,_,_,_,_,_,_,_,_,_,_,_,_,_,_,_,_,_,_,_,_,_,rfl,j.le w,_,_,_,_,_,_,_,_,_,_,_,_,_,_,rfl,t (o.le (J.trans (R.trans w))) k,f g⟩⟩
 ·rintro r jC S u;have i:=u;obtain ⟨_,_,_,_,_,_,rfl⟩:=u.shape;refine ⟨_,_,_,_,_,_,_,rfl,fun oH M=>(jm (y.le (H.trans (S.trans M)))).mono ?_⟩;rintro r mD T a;have j:=FA a;obtain ⟨_,_,_,_,_,_,_,_,_,_,_,_,rfl⟩:=fy a;exact ⟨_,_,_,_,_,_,_,_,_,_,_,_,rfl,fun mE N=>⟨_,_,_,_,_,_,_,_,_,_,_,_,_,_,_,_,_,_,_,_,_,_,_,_,_,_,rfl,j.le N,_,_,_,_,_,_,_,_,_,_,_,_,_,_,rfl,f k,t (i.le (M.trans (T.trans N))) g⟩⟩
 ·rintro r nF dw a;have j:=FA a;obtain ⟨_,_,_,_,_,_,_,_,_,_,_,_,rfl⟩:=fy a;exact ⟨_,_,_,_,_,_,_,_,_,_,_,_,rfl,fun uf U=>⟨_,_,_,_,_,_,_,_,_,_,_,_,_,_,_,_,_,_,_,_,_,_,_,_,_,_,rfl,j.le U,_,_,_,_,_,_,_,_,_,_,_,_,_,_,rfl,f k,f g⟩⟩
theorem JL {px py qx qy:Rat}:((mo px py qx qy).1.num / (bC (mo px py qx qy).1.num (mo px py qx qy).2.1.num (mo px py qx qy).2.2.num:Int),(mo px py qx qy).2.1.num / (bC (mo px py qx qy).1.num (mo px py qx qy).2.1.num (mo px py qx qy).2.2.num:Int),(mo px py qx qy).2.2.num / (bC (mo px py qx qy).1.num (mo px py qx qy).2.1.num (mo px py qx qy).2.2.num:Int))=gI px py qx qy:=by
 unfold mo gI rf vm;have e:∀x:Rat,(-x).den=x.den:=fun x=>rfl;rw [e (-(qy-py)*px+(qx-px)*py)];rfl
theorem JM {px py qx qy:Rat}:((mo px py qx qy).1.num=0/\(mo px py qx qy).2.1.num=0)↔(px=qx/\py=qy):=by
 unfold mo;dsimp only;generalize hf:(-(qy-py)).den*(qx-px).den*(-(-(qy-py)*px+(qx-px)*py)).den=f;have b:f≠0:=by rw [←hf];exact Qj7 (Qj7 (Rat.den_nz _) (Rat.den_nz _)) (Rat.den_nz _)
 have a:((f:Int):Rat)≠0:=by exact_mod_cast b
 rw [Qn5,Qn5,Qh2,Qh2,or_iff_left a,or_iff_left a];exact FO.symm
theorem GY {V:View}{u w:Value}{px py qx qy:Rat}(hp:RP V u px py)(hq:RP V w qx qy){k:Nat}(s1:Sz k px)(s2:Sz k py)(s3:Sz k qx)(s4:Sz k qy)(hk1:1<=k)(hk:64*k+64<274877906944:=by omega) :
  aa prog 37 #[u,w] V fun r V'=>(px=qx/\py=qy->∃l,r=.tuple #[l,.bool false]/\RL V' l 0 0 0)/\(¬(px=qx/\py=qy)->∃l,r=.tuple #[l,.bool true]/\RL V' l (gI px py qx qy).1 (gI px py qx qy).2.1 (gI px py qx qy).2.2):=by
 refine (lx hp hq s1 s2 s3 s4 hk1 hk).mono ?_;rintro r d f ⟨a,b⟩;have e:=JL (px:=px) (py:=py) (qx:=qx) (qy:=qy);rw [JM] at a b;refine ⟨a,fun h=>?_⟩;obtain ⟨l,c,g⟩:=b h;rw [←e];exact ⟨l,c,g⟩
theorem sS {V:View}{u v:Value}{px py qx qy:Rat}(hp:RP V u px py)(hq:RP V v qx qy){k:Nat}(s1:Sz k px)(s2:Sz k py)(s3:Sz k qx)(s4:Sz k qy)(hk1:1<=k)(hk:400*k+400<274877906944:=by omega) :
  aa prog 33 #[u,v] V fun r V'=>(px=qx/\py=qy->∃l,r=.tuple #[l,.bool false]/\RF V' l (0,0,0) Sp.zero)/\(¬(px=qx/\py=qy)->∃l,r=.tuple #[l,.bool true]/\RF V' l (gI px py qx qy) (xE px py qx qy)):=by
 have a:=hp;have b:=hq;obtain ⟨_,_,_,_,_,_,_,_,_,_,_,_,_,_,rfl⟩:=iS hp;obtain ⟨_,_,_,_,_,_,_,_,_,_,_,_,_,_,rfl⟩:=iS hq;refine rH _ _ _ _ _ _ _ _ _ _ _ _ _ _ _ _ _ _ _ _ _ _ _ _ _ _ _ _ V _ fun y d=>(GY (a.le d) (b.le d) s1 s2 s3 s4 hk1).mono ?_;rintro r A o ⟨w,x⟩;by_cases h:px=qx/\py=qy
 ·obtain ⟨l,rfl,e⟩:=w h;obtain ⟨_,_,_,_,_,_,_,_,_,_,_,_,rfl⟩:=fy e;have z:∀V:View,RQ V (.agg #[.bool false,.slice none 0 0,.slice none 0 0]) 0:=fun V=>by have:=RQ.zero (V:=V);simpa using this
  refine ⟨_,_,_,_,_,_,_,_,_,_,_,_,_,rfl,fun _ B C=>⟨fun _=>⟨_,rfl,?_⟩,fun h'=>absurd h h'⟩,fun h=>nomatch h⟩;exact ⟨_,_,_,_,_,_,_,_,_,_,_,_,_,_,_,_,_,_,_,_,_,_,_,_,_,_,rfl,⟨_,_,_,_,_,_,_,_,_,rfl,RD.nil,RD.nil,RD.nil⟩,_,_,_,_,_,_,_,_,_,_,_,_,_,_,rfl,z _,z _⟩
 ·obtain ⟨l,rfl,e⟩:=x h;have g:=e;have sl:=mR s1 s2 s3 s4 h;have p:=FP h;obtain ⟨_,_,_,_,_,_,_,_,_,_,_,_,rfl⟩:=fy e;refine ⟨_,_,_,_,_,_,_,_,_,_,_,_,_,rfl,(fun h=>nomatch h),fun _ D c=>(Fz (g.le c) (a.le (d.trans (o.trans c))) p sl (Sz.mono s1) (Sz.mono s2)).mono ?_⟩;rintro r E i q;have j:=q;obtain ⟨_,_,_,_,_,_,rfl⟩:=q.shape;refine ⟨_,_,_,_,_,_,_,rfl,fun F f=>(Fz (g.le (c.trans (i.trans f))) (b.le (d.trans (o.trans (c.trans (i.trans f))))) p sl (Sz.mono s3) (Sz.mono s4)).mono ?_⟩;rintro r G s t;have m:=t;obtain ⟨_,_,_,_,_,_,rfl⟩:=t.shape;refine ⟨_,_,_,_,_,_,_,rfl,fun H n=>⟨fun h'=>absurd h' h,fun _=>⟨_,rfl,?_⟩⟩⟩;exact ⟨_,_,_,_,_,_,_,_,_,_,_,_,_,_,_,_,_,_,_,_,_,_,_,_,_,_,rfl,g.le (c.trans (i.trans (f.trans (s.trans n)))),_,_,_,_,_,_,_,_,_,_,_,_,_,_,rfl,j.le (f.trans (s.trans n)),m.le n⟩
theorem FV.ex {V:View}{v:Value}{l:L3}{s:Sp}(h:qo V v l s):∃(x1 x2:Int)(p:OA)(y1 y2:Int)(q:OA)(z1 z2:Int)(r:OA)(u1 u2:Int)(t:OA)(w1 w2:Int)(o:OA),
 v=.agg #[.int .i64 x1,.int .i64 x2,.pointer p,.int .i64 y1,.int .i64 y2,.pointer q,.int .i64 z1,.int .i64 z2,.pointer r,.int .i64 u1,.int .i64 u2,.pointer t,.int .i64 w1,.int .i64 w2,.pointer o,.bool s.a,.bool s.b]:=by
 obtain ⟨_,_,_,_,_,_,_,_,_,_,_,_,_,_,_,e,-⟩:=h;exact ⟨_,_,_,_,_,_,_,_,_,_,_,_,_,_,_,e⟩
theorem du {V:View}{v:Value}{l:L3}{s:Sp}(h:qn V v l s):∃b1 p1 n1 c1 b2 p2 n2 c2 b3 p3 n3 c3 b p n c p' n' c' d q m e q' m' e',
 v=.agg #[.bool b1,.slice p1 n1 c1,.bool b2,.slice p2 n2 c2,.bool b3,.slice p3 n3 c3,.bool b,.slice p n c,.slice p' n' c',.bool d,.slice q m e,.slice q' m' e',.bool s.a,.bool s.b]:=by
 obtain ⟨_,_,_,_,_,_,_,_,_,_,_,_,_,_,_,_,_,_,_,_,_,_,_,_,_,_,e,-⟩:=h;exact ⟨_,_,_,_,_,_,_,_,_,_,_,_,_,_,_,_,_,_,_,_,_,_,_,_,_,_,e⟩
theorem cX {V:View}{v:Value}{x y:Rat}(h:zA V v x y):∃b p n c p' n' c' d q m e q' m' e',v=.agg #[.bool b,.slice p n c,.slice p' n' c',.bool d,.slice q m e,.slice q' m' e']:=by
 obtain ⟨_,_,_,_,_,_,_,_,_,_,_,_,_,_,e,-⟩:=h;exact ⟨_,_,_,_,_,_,_,_,_,_,_,_,_,_,e⟩
theorem kn {V:View}{v:Value}{x y:Rat}(h:lF V v x y):∃(x1 x2:Int)(p:OA)(y1 y2:Int)(q:OA),v=.agg #[.int .i64 x1,.int .i64 x2,.pointer p,.int .i64 y1,.int .i64 y2,.pointer q]:=by
 obtain ⟨_,_,_,_,_,_,e,-⟩:=h;exact ⟨_,_,_,_,_,_,e⟩
def NU (v:Value):Prop:=v=.agg #[.bool false,.slice none 0 0,.bool false,.slice none 0 0,.bool false,.slice none 0 0,.bool false,.slice none 0 0,.slice none 0 0,.bool false,.slice none 0 0,.slice none 0 0,.bool false,.bool false]
def Hv (v:Value):Prop:=v=.agg #[.bool false,.slice none 0 0,.slice none 0 0,.bool false,.slice none 0 0,.slice none 0 0]
theorem DI {V:View}{v:Value}{l:L3}{s:Sp}(h:qn V v l s)(ho:A7 l s){k:Nat}(sl:gL k l)(hs:s.sz k)(hk:4*k+4<274877906944:=by omega) :
  aa prog 56 #[v] V fun r V'=>r=.bool true:=by
 have a:=h;obtain ⟨_,_,_,_,_,_,_,_,_,_,_,_,_,_,_,_,_,_,_,_,_,_,_,_,_,_,rfl⟩:=du h;refine p_ _ _ _ _ _ _ _ _ _ _ _ _ _ _ _ _ _ _ _ _ _ _ _ _ _ _ _ _ V _ fun c b=>(j7 (a.le b) ho sl hs).mono ?_;rintro r d e ⟨w,rfl,g⟩;obtain ⟨_,_,_,_,_,_,_,_,_,_,_,_,_,_,_,rfl⟩:=FV.ex g;exact ⟨_,_,_,_,_,_,_,_,_,_,_,_,_,_,_,_,_,_,rfl,fun f i=>rfl⟩
theorem AF {px py qx qy:Rat}{k:Nat}(s1:Sz k px)(s2:Sz k py)(s3:Sz k qx)(s4:Sz k qy)(h:¬(px=qx/\py=qy)):(xE px py qx qy).sz (400*k+400):=by
 have sl:=mR s1 s2 s3 s4 h;exact ⟨Sz.mono (AE sl (Sz.mono s1) (Sz.mono s2)),Sz.mono (AE sl (Sz.mono s3) (Sz.mono s4))⟩
theorem zJ {V:View}{u v:Value}{px py qx qy:Rat}(hp:zA V u px py)(hq:zA V v qx qy){k:Nat}(s1:Sz k px)(s2:Sz k py)(s3:Sz k qx)(s4:Sz k qy)(hk:2000*k+2000<274877906944:=by omega) :
  aa prog 53 #[u,v] V fun r V'=>(px=qx/\py=qy->∃l,r=.tuple #[l,.bool false]/\NU l)/\(¬(px=qx/\py=qy)->∃l,r=.tuple #[l,.bool true]/\qn V' l (gI px py qx qy) (xE px py qx qy)):=by
 have a:=hp;have b:=hq;obtain ⟨_,_,_,_,_,_,_,_,_,_,_,_,_,_,rfl⟩:=cX hp;obtain ⟨_,_,_,_,_,_,_,_,_,_,_,_,_,_,rfl⟩:=cX hq;refine ll _ _ _ _ _ _ _ _ _ _ _ _ _ _ _ _ _ _ _ _ _ _ _ _ _ _ _ _ V _ fun z i=>(fM (a.le i) s1 s2).mono ?_;rintro r A p j;have c:=j;obtain ⟨_,_,_,_,_,_,rfl⟩:=kn j;refine ⟨_,_,_,_,_,_,rfl,fun B m=>(fM (b.le (i.trans (p.trans m))) s3 s4).mono ?_⟩;rintro r C q n;have d:=n;obtain ⟨_,_,_,_,_,_,rfl⟩:=kn n;refine ⟨_,_,_,_,_,_,rfl,fun D o=>(xk (c.le (m.trans (q.trans o))) (d.le o) s1 s2 s3 s4).mono ?_⟩;rintro r E F ⟨s,t⟩;by_cases h:px=qx/\py=qy
 ·obtain ⟨l,rfl,g⟩:=s h;obtain ⟨_,_,_,_,_,_,_,_,_,_,_,_,_,_,_,rfl⟩:=FV.ex g;exact ⟨_,_,_,_,_,_,_,_,_,_,_,_,_,_,_,_,_,_,rfl,fun _ G H=>⟨fun _=>⟨_,rfl,rfl⟩,fun h'=>absurd h h'⟩,(fun h=>nomatch h)⟩
 ·obtain ⟨l,rfl,g⟩:=t h;have w:=g;have sl:=mR s1 s2 s3 s4 h;have x:=AF s1 s2 s3 s4 h;obtain ⟨_,_,_,_,_,_,_,_,_,_,_,_,_,_,_,rfl⟩:=FV.ex g;refine ⟨_,_,_,_,_,_,_,_,_,_,_,_,_,_,_,_,_,_,rfl,(fun h=>nomatch h),fun _ I y=>(Bt (w.le y) (k:=400*k+400) ⟨Sz.mono sl.1,Sz.mono sl.2.1,Sz.mono sl.2.2⟩ x).mono ?_⟩;rintro r J K f;have f0:=f;obtain ⟨_,_,_,_,_,_,_,_,_,_,_,_,_,_,_,_,_,_,_,_,_,_,_,_,_,_,rfl⟩:=du f;exact ⟨_,_,_,_,_,_,_,_,_,_,_,_,_,_,_,_,_,_,_,_,_,_,_,_,_,_,_,_,rfl,fun L e=>⟨fun h'=>absurd h' h,fun _=>⟨_,rfl,f0.le e⟩⟩⟩
theorem F6 {V:View}{v:Value}{l:L3}{s:Sp}(h:qn V v l s)(ho:A7 l s){k:Nat}(sl:gL k l)(hs:s.sz k)(hk:20*k+20<274877906944) :
  aa prog 115 #[v,.func (.func 116) #[] #[]] V fun r V'=>∃w,r=.tuple #[w,.bool (!s.b)]/\(s.b=false->zA V' w (E8 l s.hi) (E9 l s.hi))/\(s.b=true->Hv w):=by
 have d:=h;obtain ⟨_,_,_,_,_,_,_,_,_,_,_,_,_,_,_,_,_,_,_,_,_,_,_,_,_,_,rfl⟩:=du h;refine mW _ _ _ _ _ _ _ _ _ _ _ _ _ _ _ _ _ _ _ _ _ _ _ _ _ _ _ _ V _ fun q i=>(j7 (d.le i) ho sl hs).mono ?_;rintro r t u ⟨w,rfl,g⟩;have j:=g;obtain ⟨_,_,_,_,_,_,_,_,_,_,_,_,_,_,_,rfl⟩:=FV.ex g;refine ⟨_,_,_,_,_,_,_,_,_,_,_,_,_,_,_,_,_,_,rfl,(fun h=>nomatch h),fun _ x m=>(HR (j.le m) sl hs).mono ?_⟩;rintro r y z ⟨w,rfl,f⟩;have f0:=f;obtain ⟨_,_,_,_,_,_,rfl⟩:=kn f;refine ⟨_,_,_,_,_,_,_,rfl,fun c A B=>?_,fun c C n=>?_⟩
 ·have a:s.b=true:=by simpa using c
  rw [a];exact ⟨_,rfl,(fun h=>nomatch h),fun _=>rfl⟩
 ·have a:s.b=false:=by simpa using c
  rw [a] at f0;refine (oT (f0.le n) (k:=20*k+19) (JI sl hs.2) (JJ sl hs.2)).mono ?_;rintro r D E e;have o:=e;obtain ⟨_,_,_,_,_,_,_,_,_,_,_,_,_,_,rfl⟩:=cX e;exact ⟨_,_,_,_,_,_,_,_,_,_,_,_,_,_,rfl,fun F p=>⟨_,by rw [a];rfl,fun _=>o.le p,fun h=>by rw [a] at h;cases h⟩⟩
theorem Gj {V:View}{w:Value}{x y:Rat}{c:Bool}(h1:c=false->zA V w x y)(h2:c=true->Hv w):∃b p n c p' n' c' d q m e q' m' e',w=.agg #[.bool b,.slice p n c,.slice p' n' c',.bool d,.slice q m e,.slice q' m' e']:=by
 cases c with
 | false=>exact cX (h1 rfl)
 | true=>exact ⟨_,_,_,_,_,_,_,_,_,_,_,_,_,_,h2 rfl⟩
theorem Om {V:View}{v:Value}{l:L3}{s:Sp}(h:qn V v l s)(ho:A7 l s){k:Nat}(sl:gL k l)(hs:s.sz k)(hk:20*k+20<274877906944:=by omega) :
  aa prog 55 #[v] V fun r V'=>∃w,r=.tuple #[w,.bool (!s.b)]/\(s.b=false->zA V' w (E8 l s.hi) (E9 l s.hi))/\(s.b=true->Hv w):=by
 have g:=h;obtain ⟨_,_,_,_,_,_,_,_,_,_,_,_,_,_,_,_,_,_,_,_,_,_,_,_,_,_,rfl⟩:=du h;refine tz _ _ _ _ _ _ _ _ _ _ _ _ _ _ _ _ _ _ _ _ _ _ _ _ _ _ _ _ V _ fun m i=>(F6 (g.le i) ho sl hs hk).mono ?_;rintro r n o ⟨w,rfl,d,f⟩;have a:=d;have c:=f;obtain ⟨_,_,_,_,_,_,_,_,_,_,_,_,_,_,rfl⟩:=Gj d f;exact ⟨_,_,_,_,_,_,_,_,_,_,_,_,_,_,_,rfl,fun p j=>⟨_,rfl,fun e=>(a e).le j,c⟩⟩
theorem DE {V:View}{v w:Value}{l:L3}{s:Sp}{x y:Rat}(h:qn V v l s)(hp:zA V w x y)(ho:A7 l s){k:Nat}(sl:gL k l)(hs:s.sz k)(s1:Sz k x)(s2:Sz k y)(hk:20*k+20<274877906944:=by omega) :
  aa prog 73 #[v,w] V fun r V'=>r=.tuple #[.bool (Ac l s x y),.nilIface]:=by
 have e:=h;have a:=hp;obtain ⟨_,_,_,_,_,_,_,_,_,_,_,_,_,_,_,_,_,_,_,_,_,_,_,_,_,_,rfl⟩:=du h;obtain ⟨_,_,_,_,_,_,_,_,_,_,_,_,_,_,rfl⟩:=cX hp;refine mz _ _ _ _ _ _ _ _ _ _ _ _ _ _ _ _ _ _ _ _ _ _ _ _ _ _ _ _ _ _ _ _ _ _ _ _ _ _ _ _ _ _ V _ fun n b=>(j7 (e.le b) ho sl hs).mono ?_;rintro r o i ⟨w,rfl,g⟩;have j:=g;obtain ⟨_,_,_,_,_,_,_,_,_,_,_,_,_,_,_,rfl⟩:=FV.ex g;refine ⟨_,_,_,_,_,_,_,_,_,_,_,_,_,_,_,_,_,_,rfl,(fun h=>nomatch h),fun _ p c=>(fM (a.le (b.trans (i.trans c))) s1 s2).mono ?_⟩;rintro r q m f;have f0:=f;obtain ⟨_,_,_,_,_,_,rfl⟩:=kn f;refine ⟨_,_,_,_,_,_,rfl,fun t d=>(HS (j.le (c.trans (m.trans d))) (f0.le d) sl hs s1 s2 hk).mono ?_⟩;rintro r u z rfl;exact ⟨_,rfl,fun A B=>rfl⟩
theorem nH {V:View}(x y:Int)(h0:-1000<=x)(h1:x<=1000)(h2:-1000<=y)(h3:y<=1000:=by omega) :
  aa prog 54 #[.int .i64 x,.int .i64 y] V fun r V'=>zA V' r (x:Rat) (y:Rat):=by
 have g:Sz 10 (x:Rat):=oc (by omega);have h:Sz 10 (y:Rat):=oc (by omega);refine qi x y V _ fun m n=>(iC x (by omega)).mono ?_;rintro r o p c;have a:=c;obtain ⟨_,_,_,rfl⟩:=c.shape;refine ⟨_,_,_,rfl,fun q i=>(iC y (by omega)).mono ?_⟩;rintro r s j d;have b:=d;obtain ⟨_,_,_,rfl⟩:=d.shape;refine ⟨_,_,_,rfl,fun t f=>(oT ⟨_,_,_,_,_,_,rfl,a.le (i.trans (j.trans f)),b.le f⟩ g h).mono ?_⟩;rintro r u v e;have k:=e;obtain ⟨_,_,_,_,_,_,_,_,_,_,_,_,_,_,rfl⟩:=cX e;exact ⟨_,_,_,_,_,_,_,_,_,_,_,_,_,_,rfl,fun w l=>k.le l⟩
theorem zQ {V:View}{v w:Value}{x y x' y':Rat}(hp:zA V v x y)(hq:zA V w x' y'){k:Nat}(s1:Sz k x)(s2:Sz k y)(s3:Sz k x')(s4:Sz k y')(hk:2*k<1099511627776:=by omega) :
  aa prog 57 #[v,w] V fun r V'=>r=.bool (decide (x=x'/\y=y')):=by
 have a:=hp;have b:=hq;obtain ⟨_,_,_,_,_,_,_,_,_,_,_,_,_,_,rfl⟩:=cX hp;obtain ⟨_,_,_,_,_,_,_,_,_,_,_,_,_,_,rfl⟩:=cX hq;refine yj _ _ _ _ _ _ _ _ _ _ _ _ _ _ _ _ _ _ _ _ _ _ _ _ _ _ _ _ V _ fun m e=>(fM (a.le e) s1 s2).mono ?_;rintro r n j f;have c:=f;obtain ⟨_,_,_,_,_,_,rfl⟩:=kn f;refine ⟨_,_,_,_,_,_,rfl,fun o g=>(fM (b.le (e.trans (j.trans g))) s3 s4).mono ?_⟩;rintro r p l h;have d:=h;obtain ⟨_,_,_,_,_,_,rfl⟩:=kn h;refine ⟨_,_,_,_,_,_,rfl,fun q i=>(uz (c.le (g.trans (l.trans i))) (d.le i) s1 s2 s3 s4 hk).mono ?_⟩;rintro r s t rfl;exact ⟨_,rfl,fun u z=>rfl⟩
theorem sZ (x y:Rat):0<=(cY x y).num:=by
 unfold cY;rw [Qh4];split
 ·omega
 ·exact Int.ediv_nonneg (Wq0 _) (Wq0 _)
theorem Jw {px py qx qy:Rat}(h:¬(px=qx/\py=qy)):lZ (gI px py qx qy) qx qy-lZ (gI px py qx qy) px py=cY (cY (-(qy-py)) (qx-px)) (-(-(qy-py)*px+(qx-px)*py)):=by
 obtain ⟨f,d,e,-⟩:=km (a:=-(qy-py)) (b:=qx-px) (c:=-(-(qy-py)*px+(qx-px)*py)) (mS h);have j:=(FP h).norm;change _=((gI px py qx qy).1:Rat) at d;change _=((gI px py qx qy).2.1:Rat) at e;generalize cY (cY (-(qy-py)) (qx-px)) (-(-(qy-py)*px+(qx-px)*py))=g at *;have m:=Qr3 g f;have k:=Qr3 _ j;unfold lZ
 have l:eX (gI px py qx qy)=((qy-py)*(qy-py)+(qx-px)*(qx-px))*(g⁻¹*g⁻¹):=by
  unfold eX;rw [←d,←e];grind
 rw [←d,←e];generalize (eX (gI px py qx qy))⁻¹=N at *;generalize g⁻¹=i at *;rw [l] at k;grind
theorem Lc {px py qx qy:Rat}(h:¬(px=qx/\py=qy)):(xE px py qx qy).emp=false:=by
 obtain ⟨d,-⟩:=km (a:=-(qy-py)) (b:=qx-px) (c:=-(-(qy-py)*px+(qx-px)*py)) (mS h);have f:=Jw h;have i:=sZ (cY (-(qy-py)) (qx-px)) (-(-(qy-py)*px+(qx-px)*py));unfold xE Sp.emp;dsimp only;generalize cY (cY (-(qy-py)) (qx-px)) (-(-(qy-py)*px+(qx-px)*py))=g at *
 have e:cmpQ (lZ (gI px py qx qy) px py) (lZ (gI px py qx qy) qx qy)=- g.num.sign:=by
  rw [cmpQ_swap,←f];rfl
 rw [e];have j:g.num≠0:=Ck d;have:g.num.sign=1:=Qd4 (by omega);rw [this];rfl
theorem Jx {px py qx qy:Rat}(h:¬(px=qx/\py=qy)):A7 (gI px py qx qy) (xE px py qx qy):=⟨I1 h,⟨(fun h=>nomatch h),(fun h=>nomatch h)⟩,Lc h⟩
theorem Nj:∀i:Fin 6,(mkRat ((i.1:Int)+1) 2).num.sign=1/\Sz 10 (mkRat ((i.1:Int)+1) 2):=by unfold Sz;decide +kernel
theorem QJ (V:View):RQ V (.agg #[.bool false,.slice none 0 0,.slice none 0 0]) 0:=by have:=RQ.zero (V:=V);simpa using this
theorem QN (k:Nat)(hk:0<k:=by omega):Sz k (0:Rat):=⟨by show (0:Int).natAbs<_;exact Qx2 (by decide) (Wq1),Qf1 (by omega)⟩
theorem zT {V:View}:aa prog 75 #[] V fun r V'=>Hj V' r ⟨0,0,true,true⟩:=
 ym V _ fun a b=>⟨_,_,_,_,_,_,_,_,_,_,_,_,_,_,rfl,QJ _,QJ _⟩
theorem pO {V:View}{v:Value}{s:Sp}(h:Hj V v s):∃b p n c p' n' c' d q m e q' m' e',v=.agg #[.bool b,.slice p n c,.slice p' n' c',.bool d,.slice q m e,.slice q' m' e',.bool s.a,.bool s.b]:=by
 obtain ⟨_,_,_,_,_,_,_,_,_,_,_,_,_,_,e,-⟩:=h;exact ⟨_,_,_,_,_,_,_,_,_,_,_,_,_,_,e⟩
theorem mg {V:View}{v:Value}{l:L3}{s:Sp}(h:RF V v l s):∃b1 p1 n1 c1 b2 p2 n2 c2 b3 p3 n3 c3 b p n c p' n' c' d q m e q' m' e',
 v=.agg #[.bool b1,.slice p1 n1 c1,.bool b2,.slice p2 n2 c2,.bool b3,.slice p3 n3 c3,.bool b,.slice p n c,.slice p' n' c',.bool d,.slice q m e,.slice q' m' e',.bool s.a,.bool s.b]:=by
 obtain ⟨_,_,_,_,_,_,_,_,_,_,_,_,_,_,_,_,_,_,_,_,_,_,_,_,_,_,e,-⟩:=h;exact ⟨_,_,_,_,_,_,_,_,_,_,_,_,_,_,_,_,_,_,_,_,_,_,_,_,_,_,e⟩
theorem U9 {V:View}{tb:Nat}{p:OA}{n c:Nat}{at_:Int}(hr:E5 V p n)(hn:n<=400)(hw:jX V tb p n c at_)(hx:V.X tb)(h0:0<=at_) :
  aa prog 32 #[.pointer (some ⟨tb,0,none⟩)] V fun r V'=>∃(s:Sp)(at':Int),Hj V' r s/\s.can/\s.emp=false/\s.sz 40/\0<=at'/\jX V' tb p n c at':=by
 refine tQ tb p n c at_ V _ hw hx fun V1 w A e1 h1=>(U8 (V:=V1.ax [A]) (hr.le fun b o h=>w b o h) hn e1 ⟨by simp,h1⟩ h0).mono ?_;rintro r Q R ⟨d,Hl,S,u,t1,B⟩;have j:=S;obtain ⟨qa,qb,qc,qd,qe,qf,rfl⟩:=S.shape;refine ⟨_,_,_,_,_,_,_,rfl,_,_,_,_,B,fun V3 C W6 e3 h3=>(gO (V:=V3.ax [W6]) 6 (hr.le fun b o h=>C b o (R b o (w b o h))) hn e3 ⟨by simp,h3⟩ t1 (by omega)).mono ?_⟩;rintro r V4 T ⟨x,a0,rfl,x0,x1,t2,D⟩;obtain ⟨i,rfl⟩:∃i:Nat,x=i:=⟨x.toNat,by omega⟩;obtain ⟨U,E⟩:=Nj ⟨i,by omega⟩;dsimp only at U E;have w1:i64.wrap (1+(i:Int))=(i:Int)+1:=by rw [ar (by omega)];omega
 refine ⟨_,rfl,_,_,_,_,D,fun V5 Y=>?_⟩;rw [w1];refine (nM ((i:Int)+1) 2 (by omega) (by omega) (by omega)).mono ?_;generalize mkRat ((i:Int)+1) 2=q at *;rintro r V6 Z gp;have NF:=gp;obtain ⟨_,_,_,_,_,_,rfl⟩:=gp.shape;have wV:∀{F:View},V6.Le F->Q.Le F:=fun l b o h=>l b o (Z b o (Y b o (T b o (C b o h))));refine ⟨_,_,_,_,_,_,_,rfl,fun F l=>(fQ (j.le (wV l)) (NF.le l) u E).mono ?_⟩;rintro r V8 l8 gh;have Vm:=gh;obtain ⟨ga,gb,gc,gd,ge,Xp,rfl⟩:=gh.shape;have sh:Sz 21 (d+q):=u.add E;have GD:∀{v:View},V8.Le v->V.Le v:=fun m b o h=>m b o (l8 b o (l b o (Z b o (Y b o (T b o (C b o (R b o (w b o h))))))));refine ⟨_,_,_,_,_,_,_,rfl,fun v m Rh e9 h9=>(gO (V:=v.ax [Rh]) 8 (hr.le fun b o h=>GD m b o h) hn e9 ⟨by simp,h9⟩ t2 (by omega)).mono ?_⟩;rintro r G t ⟨y,k,rfl,y0,y1,t3,H⟩;have I:∀{f:View},G.shut.Le f->V8.Le f:=fun g b o h=>g b o (t b o (m b o h));have LO:∀{f:View},G.shut.Le f->Q.Le f:=fun g=>(wV l).trans (l8.trans (I g))
 have full:∀(f W:View),G.shut.Le f->f.Le W->∀a,0<=a->jX W tb p n c a->∃(s:Sp)(at':Int),Hj W (.agg #[.bool (decide (d.num<0)),.slice qa qb qc,.slice qd qe qf,.bool (decide ((d+q).num<0)),.slice ga gb gc,.slice gd ge Xp,.bool false,.bool false]) s/\s.can/\s.emp=false/\s.sz 40/\0<=at'/\jX W tb p n c at':=fun f W g lw a t4 e4=>
  ⟨⟨d,d+q,false,false⟩,a,⟨_,_,_,_,_,_,_,_,_,_,_,_,_,_,rfl,j.le ((LO g).trans lw),Vm.le ((I g).trans lw)⟩,⟨(fun h=>nomatch h),(fun h=>nomatch h)⟩,by
   have e:cmpQ d (d+q)=- q.num.sign:=by
    rw [cmpQ_swap];unfold cmpQ;rw [show d+q-d=q from by grind]
   unfold Sp.emp;dsimp only;rw [e,U];rfl,⟨Sz.mono u,Sz.mono sh⟩,t4,e4⟩
 refine ⟨_,rfl,_,_,_,_,H,fun _ f g J=>?_,fun _=>⟨fun _ jC cM K=>?_,fun _=>⟨fun _ oH cN Ri L NG=>(gO (V:=oH.ax [Ri]) 4 (hr.le fun b o h=>cN b o (t b o (GD m b o h))) hn L ⟨by simp,NG⟩ t3 (by omega)).mono ?_,fun _ A8 gj M=>full _ _ gj (View.Le.refl _) k t3 M⟩⟩⟩
 ·exact ⟨⟨0,d+q,true,false⟩,k,⟨_,_,_,_,_,_,_,_,_,_,_,_,_,_,rfl,QJ _,Vm.le (I g)⟩,⟨fun _=>rfl,(fun h=>nomatch h)⟩,rfl,⟨QN _,Sz.mono sh⟩,t3,J⟩
 ·exact ⟨⟨d,0,false,true⟩,k,⟨_,_,_,_,_,_,_,_,_,_,_,_,_,_,rfl,j.le (LO cM),QJ _⟩,⟨(fun h=>nomatch h),fun _=>rfl⟩,rfl,⟨Sz.mono u,QN _⟩,t3,K⟩
 ·rintro r mD dP ⟨z,a,rfl,-,-,t4,N⟩;refine ⟨_,rfl,_,_,_,_,N,fun _ mE dj=>zT.mono ?_,fun _ uf fF O=>full _ _ cN (fun b o h=>fF b o (dP b o h)) a t4 O⟩;rintro r sM dY gf;have Ks:=gf;obtain ⟨_,_,_,_,_,_,_,_,_,_,_,_,_,_,rfl⟩:=pO gf;exact ⟨_,_,_,_,_,_,_,_,_,_,_,_,_,_,_,_,rfl,fun nF dw P=>⟨⟨0,0,true,true⟩,a,Ks.le dw,⟨fun _=>rfl,fun _=>rfl⟩,rfl,⟨QN _,QN _⟩,t4,P⟩⟩
theorem Rq {V:View}{tb:Nat}{p:OA}{n c:Nat}{at_:Int}(hr:E5 V p n)(hn:n<=400)(hw:jX V tb p n c at_)(hx:V.X tb)(h0:0<=at_) :
  aa prog 8 #[.pointer (some ⟨tb,0,none⟩)] V fun r V'=>∃(l:L3)(s:Sp)(at':Int),RF V' r l s/\A7 l s/\gL 1000 l/\s.sz 5000/\0<=at'/\jX V' tb p n c at':=by
 refine tM tb p n c at_ V _ hw hx fun V1 i A v h1=>(gO (V:=V1.ax [A]) 3 (hr.le fun b o h=>i b o h) hn v ⟨by simp,h1⟩ h0 (by omega)).mono ?_;rintro r V2 z ⟨x,Hl,rfl,-,-,t1,B⟩;refine ⟨_,rfl,_,_,_,_,B,fun _ V3 O N_ e3 h3=>(W9 (V:=V3.ax [N_]) (hr.le fun b o h=>O b o (z b o (i b o h))) hn e3 ⟨by simp,h3⟩ t1).mono ?_,fun _ V8 P Rj e8 h8=>(Qp (V:=V8.ax [Rj]) (hr.le fun b o h=>P b o (z b o (i b o h))) hn e8 ⟨by simp,h8⟩ t1).mono ?_⟩
 ·rintro r V4 l4 ⟨l,C,Q,ho,hb,t2,a⟩;have Xq:=Q;obtain ⟨_,_,_,_,_,_,_,_,_,_,_,_,rfl⟩:=fy Q;refine ⟨_,_,_,_,_,_,_,_,_,_,_,_,rfl,_,_,_,_,a,fun V5 R Rg e5 h5=>(U9 (V:=V5.ax [Rg]) (hr.le fun b o h=>R b o (l4 b o (O b o (z b o (i b o h))))) hn e5 ⟨by simp,h5⟩ t2).mono ?_⟩;rintro r V6 l6 ⟨s,d,gs,hc,e,j,t3,g⟩;have D:=gs;obtain ⟨_,_,_,_,_,_,_,_,_,_,_,_,_,_,rfl⟩:=pO gs;obtain ⟨z1,z2,z3⟩:=hb.sz;exact ⟨_,_,_,_,_,_,_,_,_,_,_,_,_,_,_,_,rfl,_,_,_,_,g,fun V7 S e7=>⟨l,s,d,⟨_,_,_,_,_,_,_,_,_,_,_,_,_,_,_,_,_,_,_,_,_,_,_,_,_,_,rfl,Xq.le fun b o h=>S b o (l6 b o (R b o h)),D.le fun b o h=>S b o h⟩,⟨ho,hc,e⟩,⟨Sz.mono z1,Sz.mono z2,Sz.mono z3⟩,⟨Sz.mono j.1,Sz.mono j.2⟩,t3,e7⟩⟩
 ·rintro r V9 l9 ⟨x,y,C,T,a0,a1,t2,a⟩;have q:=T;obtain ⟨_,_,_,_,_,_,_,_,_,_,_,_,_,_,rfl⟩:=iS T;refine ⟨_,_,_,_,_,_,_,_,_,_,_,_,_,_,rfl,_,_,_,_,a,fun gm t=>(ka 1 (by omega)).mono ?_⟩;rintro r fH U W;have E:=W;obtain ⟨_,_,_,_,_,_,rfl⟩:=W.shape;refine ⟨_,_,_,_,_,_,_,rfl,fun jC F Rk G H=>(U_ (V:=jC.ax [Rk]) (hr.le fun b o h=>F b o (U b o (t b o (l9 b o (P b o (z b o (i b o h))))))) hn G ⟨by simp,H⟩ t2).mono ?_⟩;rintro r oH Y ⟨u,w,d,Z,a2,OZ,e,t3,g⟩;have I:=Z;obtain ⟨_,_,_,_,_,_,_,_,_,_,_,_,_,_,rfl⟩:=iS Z;refine ⟨_,_,_,_,_,_,_,_,_,_,_,_,_,_,rfl,_,_,_,_,g,fun J K=>?_⟩;have LU:V9.Le J:=fun b o h=>K b o (Y b o (F b o (U b o (t b o h))));have MX:fH.Le J:=fun b o h=>K b o (Y b o (F b o h));have MY:oH.Le J:=fun b o h=>K b o h;refine (jj (q.le LU) (E.le MX) (I.le MY) (k:=10) (m:=10) (tm) (tm) (tm) (tm) (tm)).mono ?_;rintro r mE dj L;have f1:(x:Rat)+((1:Int):Rat)*(u:Rat)=((x+u:Int):Rat):=by rw [←Qn6,←Qg3,Qs1]
  have f2:(y:Rat)+((1:Int):Rat)*(w:Rat)=((y+w:Int):Rat):=by rw [←Qn6,←Qg3,Qs1]
  rw [f1,f2] at L;have M:=L;obtain ⟨_,_,_,_,_,_,_,_,_,_,_,_,_,_,rfl⟩:=iS L
  have ne:¬((x:Rat)=((x+u:Int):Rat)/\(y:Rat)=((y+w:Int):Rat)):=by
   rintro ⟨v,e2⟩;have v:x=x+u:=by exact_mod_cast v
   have e2:y=y+w:=by exact_mod_cast e2
   exact e ⟨by omega,by omega⟩
  have s1:Sz 10 (x:Rat):=tm;have s2:Sz 10 (y:Rat):=tm;have s3:Sz 10 ((x+u:Int):Rat):=tm;have s4:Sz 10 ((y+w:Int):Rat):=tm;refine ⟨_,_,_,_,_,_,_,_,_,_,_,_,_,_,rfl,fun sM dY=>(sS (q.le (LU.trans (dj.trans dY))) (M.le dY) s1 s2 s3 s4 (by omega)).mono ?_⟩;rintro r nF dw ⟨-,m2⟩;obtain ⟨f,rfl,gf⟩:=m2 ne;have Ks:=gf;have sl:=mR s1 s2 s3 s4 ne;have j:=AF s1 s2 s3 s4 ne;obtain ⟨_,_,_,_,_,_,_,_,_,_,_,_,_,_,_,_,_,_,_,_,_,_,_,_,_,_,rfl⟩:=mg gf;exact ⟨_,_,_,_,_,_,_,_,_,_,_,_,_,_,_,_,_,_,_,_,_,_,_,_,_,_,_,_,_,rfl,fun uf fF N=>⟨_,_,d,Ks.le fF,Jx ne,⟨Sz.mono sl.1,Sz.mono sl.2.1,Sz.mono sl.2.2⟩,⟨Sz.mono j.1,Sz.mono j.2⟩,t3,N⟩⟩
theorem eK (x y:Rat):(x<y/\cmpQ x y=-1)\/(x=y/\cmpQ x y=0)\/(y<x/\cmpQ x y=1):=by
 by_cases a:x<y
 ·exact .inl ⟨a,Fh.1 a⟩
 ·by_cases b:x=y
  ·exact .inr (.inl ⟨b,kK.1 b⟩)
  ·have c:y<x:=by grind
   exact .inr (.inr ⟨c,Fg.1 c⟩)
theorem Sp.kM {s:Sp}:s.emp=false↔(s.a=true\/s.b=true\/s.lo<s.hi):=by
 unfold Sp.emp;rcases eK s.lo s.hi with ⟨h,e⟩|⟨h,e⟩|⟨h,e⟩<;>rw [e]<;>cases s.a<;>cases s.b<;>simp<;>grind
def Sp.inn (s:Sp)(t:Rat):Prop:=(s.a=true\/s.lo<t)/\(s.b=true\/t<s.hi)
def q_ (ss:List Sp)(t:Rat):Prop:=∃s∈ss,s.inn t
def Sp.good (s:Sp):Prop:=s.can/\s.emp=false
def Sp.DA (s t:Sp):Prop:=s.b=false/\t.a=false/\s.hi<t.lo
def tY (ss:List Sp):Prop:=(∀s∈ss,s.good)/\ss.Pairwise Sp.DA
theorem pick (E:List Rat):∀l u:Rat,l<u->∃t,l<t/\t<u/\t∉E:=by
 induction E with
 | nil=>exact fun l u h=>⟨(l+u) / 2,by grind,by grind,by simp⟩
 | cons e r ih=>
  intro l u h;by_cases c:l<e/\e<u
  ·obtain ⟨t,a,b,d⟩:=ih l e c.1;refine ⟨t,a,by grind,fun hm=>?_⟩;rcases Qq4.1 hm with rfl|hm
   ·grind
   ·exact d hm
  ·obtain ⟨t,a,b,d⟩:=ih l u h;refine ⟨t,a,b,fun hm=>?_⟩;rcases Qq4.1 hm with rfl|hm
   ·exact c ⟨a,b⟩
   ·exact d hm
theorem SI:∀l:List Rat,l=[]\/∃m∈l,∀x∈l,x<=m:=by
 intro l
 induction l with
 | nil=>exact .inl rfl
 | cons y r ih=>
  rcases ih with rfl|⟨m,hm,h⟩
  ·exact .inr ⟨y,by simp,by intro x a;simp at a;grind⟩
  ·by_cases c:m<y
   ·exact .inr ⟨y,by simp,fun x a=>(Qq4.1 a).elim (fun e=>by grind) fun e=>by have:=h x e;grind⟩
   ·exact .inr ⟨m,by simp [hm],fun x a=>(Qq4.1 a).elim (fun e=>by grind) fun e=>h x e⟩
theorem Ph:∀l:List Rat,l=[]\/∃m∈l,∀x∈l,m<=x:=by
 intro l
 induction l with
 | nil=>exact .inl rfl
 | cons y r ih=>
  rcases ih with rfl|⟨m,hm,h⟩
  ·exact .inr ⟨y,by simp,by intro x a;simp at a;grind⟩
  ·by_cases c:y<m
   ·exact .inr ⟨y,by simp,fun x a=>(Qq4.1 a).elim (fun e=>by grind) fun e=>by have:=h x e;grind⟩
   ·exact .inr ⟨m,by simp [hm],fun x a=>(Qq4.1 a).elim (fun e=>by grind) fun e=>h x e⟩
theorem vC (E Ls Us:List Rat)(h:∀l∈Ls,∀u∈Us,l<u):∃t,(∀l∈Ls,l<t)/\(∀u∈Us,t<u)/\t∉E:=by
 have key:∃a b:Rat,a<b/\(∀l∈Ls,l<=a)/\∀u∈Us,b<=u:=by
  rcases SI Ls with rfl|⟨m,hm,d⟩
  ·rcases Ph Us with rfl|⟨n,e,c⟩
   ·exact ⟨0,1,by decide,(fun _ h=>by cases h),(fun _ h=>by cases h)⟩
   ·exact ⟨n-1,n,by grind,(fun _ h=>by cases h),c⟩
  ·rcases Ph Us with rfl|⟨n,e,c⟩
   ·exact ⟨m,m+1,by grind,d,(fun _ h=>by cases h)⟩
   ·exact ⟨m,n,h m hm n e,d,c⟩
 obtain ⟨a,b,f,d,c⟩:=key;obtain ⟨t,t1,t2,t3⟩:=pick E a b f;exact ⟨t,fun l g=>by have:=d l g;grind,fun u hu=>by have:=c u hu;grind,t3⟩
def Sp.Ce (s:Sp):List Rat:=if s.a then [] else [s.lo]
def Sp.A9 (s:Sp):List Rat:=if s.b then [] else [s.hi]
theorem tV {s:Sp}{t:Rat}:s.inn t↔(∀l∈s.Ce,l<t)/\∀u∈s.A9,t<u:=by
 unfold Sp.inn Sp.Ce Sp.A9;cases s.a<;>cases s.b<;>simp
theorem kS {s:Sp}{l:Rat}(h:l∈s.Ce):s.a=false/\l=s.lo:=by
 unfold Sp.Ce at h;cases ha:s.a<;>simp [ha] at h;exact ⟨rfl,h⟩
theorem mJ {s:Sp}{l:Rat}(h:l∈s.A9):s.b=false/\l=s.hi:=by
 unfold Sp.A9 at h;cases ha:s.b<;>simp [ha] at h;exact ⟨rfl,h⟩
theorem kh {s:Sp}(h:s.emp=false)(ha:s.a=false)(hb:s.b=false):s.lo<s.hi:=by
 rcases Sp.kM.1 h with h|h|h
 ·rw [ha] at h;cases h
 ·rw [hb] at h;cases h
 ·exact h
theorem Fx {s:Sp}(h:s.emp=false)(E:List Rat):∃t,s.inn t/\t∉E:=by
 obtain ⟨t,a,b,c⟩:=vC E s.Ce s.A9 (fun l d u hu=>by
  obtain ⟨e,rfl⟩:=kS d;obtain ⟨hb,rfl⟩:=mJ hu;exact kh h e hb)
 exact ⟨t,tV.2 ⟨a,b⟩,c⟩
theorem tY.tail {s:Sp}{r:List Sp}(h:tY (s::r)):tY r:=⟨fun x a=>h.1 x (by simp [a]),(Qk9.1 h.2).2⟩
theorem tY.DA {s:Sp}{r:List Sp}(h:tY (s::r)){x:Sp}(hx:x∈r):s.DA x:=(Qk9.1 h.2).1 x hx
theorem Ai {s:Sp}{r:List Sp}(h:tY (s::r))(ha:s.a=false){t:Rat}(ht:t<=s.lo):¬q_ (s::r) t:=by
 rintro ⟨x,c,b,f⟩;rcases Qq4.1 c with rfl|c
 ·rcases b with b|b
  ·rw [ha] at b;cases b
  ·grind
 ·obtain ⟨d,e,g⟩:=h.DA c;have:=kh (h.1 s (by simp)).2 ha d;rcases b with b|b
  ·rw [e] at b;cases b
  ·grind
def nl:List Sp->List Rat
 | []=>[]
 | x::_=>[x.lo]
theorem Fu {s:Sp}{r:List Sp}(h:tY (s::r))(hb:s.b=false){t:Rat}(h1:s.hi<=t)(h2:∀x∈nl r,t<=x):¬q_ (s::r) t:=by
 rintro ⟨x,c,d,a⟩;rcases Qq4.1 c with rfl|c
 ·rcases a with a|a
  ·rw [hb] at a;cases a
  ·grind
 ·cases r with
  | nil=>cases c
  | cons y r=>exact Ai h.tail (h.DA (by simp)).2.1 (h2 y.lo (by simp [nl])) ⟨x,c,d,a⟩
set_option linter.unusedSectionVars false
section
variable {s s':Sp} {r r':List Sp} {E:List Rat} (h:tY (s :: r)) (h':tY (s' :: r')) (e:∀t,t ∉ E->q_ (s :: r) t->q_ (s' :: r') t)
include h h' e
theorem P0 (ha:s.a=true):s'.a=true:=by
 cases ha':s'.a with
 | true=>rfl
 | false=>
  obtain ⟨t,-,c,d⟩:=vC E [] (s'.lo::s.A9) (fun l b=>by cases b);have:=e t d ⟨s,by simp,.inl ha,(tV.2 ⟨(fun l b=>by unfold Sp.Ce at b;rw [if_pos ha] at b;cases b),fun u hu=>c u (by simp [hu])⟩).2⟩;exact absurd this (Ai h' ha' (by have:=c s'.lo (by simp);grind))
theorem Mc (ha:s.a=false)(ha':s'.a=false):¬s.lo<s'.lo:=by
 intro b
 obtain ⟨t,f,d,g⟩:=vC E [s.lo] (s'.lo::s.A9) (fun l c u hu=>by
  obtain rfl:l=s.lo:=by simpa using c
  rcases Qq4.1 hu with rfl|hu
  ·exact b
  ·obtain ⟨i,rfl⟩:=mJ hu;exact kh (h.1 s (by simp)).2 ha i)
 have:=e t g ⟨s,by simp,tV.2 ⟨(fun l c=>by obtain ⟨-,rfl⟩:=kS c;exact f _ (by simp)),fun u hu=>d u (by simp [hu])⟩⟩;exact absurd this (Ai h' ha' (by have:=d s'.lo (by simp);grind))
theorem P1 (h0 : s.a = false → s'.a = false ∧ s.lo = s'.lo)(hb : s.b = true) : s'.b = true := by
  cases hb' : s'.b with
  | true => rfl
  | false =>
    have d : ∀ u∈nl r', s'.hi<u := fun u hu => by
      cases r' with
      | nil => cases hu
      | cons y r' => obtain rfl : u = y.lo := by simpa [nl] using hu
                     exact (h'.DA (by simp)).2.2
    obtain ⟨t, f, h, i⟩ := vC E (s'.hi::s.Ce) (nl r') (fun l c u hu => by
      rcases Qq4.1 c with rfl|c
      · exact d u hu
      · obtain ⟨g, rfl⟩ := kS c;have := kh (h'.1 s' (by simp)).2 (h0 g).1 hb';have := d u hu;rw [(h0 g).2];grind)
    have := e t i ⟨s, by simp, (tV.2 ⟨(fun l c => f l (by simp [c])), (fun u hu => by unfold Sp.A9 at hu;rw [if_pos hb] at hu;cases hu)⟩ : s.inn t)⟩;exact absurd this (Fu h' hb' (by have := f s'.hi (by simp);grind) (fun x j => by have := h x j;grind))
theorem Mb (h0 : s.a = false → s'.a = false ∧ s.lo = s'.lo)(hb : s.b = false)(hb' : s'.b = false) : ¬s'.hi<s.hi := by
  intro c
  have g : ∀ u∈nl r', s'.hi<u := fun u hu => by
    cases r' with
    | nil => cases hu
    | cons y r' => obtain rfl : u = y.lo := by simpa [nl] using hu
                   exact (h'.DA (by simp)).2.2
  obtain ⟨t, h, f, i⟩ := vC E [s'.hi] (s.hi::nl r') (fun l j u hu => by
    obtain rfl : l = s'.hi := by simpa using j
    rcases Qq4.1 hu with rfl|hu
    · exact c
    · exact g u hu)
  have m := h s'.hi (by simp)
  have d : s.inn t := by
    refine ⟨?_, .inr (f s.hi (by simp))⟩
    cases ha : s.a with
    | true => exact .inl rfl
    | false =>
      have := kh (h'.1 s' (by simp)).2 (h0 ha).1 hb';rw [(h0 ha).2];exact .inr (by grind)
  exact absurd (e t i ⟨s, by simp, d⟩) (Fu h' hb' (by grind) (fun x k => by have := f x (by simp [k]);grind))
end
theorem Sp.ext' {s t:Sp}(h1:s.a=t.a)(h2:s.b=t.b)(h3:s.lo=t.lo)(h4:s.hi=t.hi):s=t:=by
 cases s;cases t;simp at *;exact ⟨h3,h4,h1,h2⟩
theorem Ew {E:List Rat}:∀{xs ys:List Sp},tY xs->tY ys->(∀t,t∉E->(q_ xs t↔q_ ys t))->xs=ys:=by
 intro xs
 induction xs with
 | nil=>
  intro ys _ f e
  cases ys with
  | nil=>rfl
  | cons s r=>
   obtain ⟨t,c,i⟩:=Fx (f.1 s (by simp)).2 E;obtain ⟨x,d,-⟩:=(e t i).2 ⟨s,by simp,c⟩;cases d
 | cons s r ih=>
  intro ys d f e
  cases ys with
  | nil=>
   obtain ⟨t,c,i⟩:=Fx (d.1 s (by simp)).2 E;obtain ⟨x,d,-⟩:=(e t i).1 ⟨s,by simp,c⟩;cases d
  | cons s' r'=>
   have l:=fun t j=>(e t j).1;have n:=fun t j=>(e t j).2
   have beq:∀{a b:Bool},(a=true->b=true)->(b=true->a=true)->a=b:=fun {a b} c i=>by
    cases a<;>cases b<;>simp at c i ⊢
   have g:s.a=s'.a:=beq (P0 d f l) (P0 f d n)
   have w:s.a=false->s.lo=s'.lo:=fun c=>by
    have A:=Mc d f l c (g▸c);have B:=Mc f d n (g▸c) c;grind
   have y:s.a=false->s'.a=false/\s.lo=s'.lo:=fun h=>⟨g▸h,w h⟩;have o:s'.a=false->s.a=false/\s'.lo=s.lo:=fun h=>⟨g.symm▸h,(w (g.symm▸h)).symm⟩;have u:s.b=s'.b:=beq (P1 d f l y) (P1 f d n o)
   have C:s.b=false->s.hi=s'.hi:=fun c=>by
    have A:=Mb d f l y c (u▸c);have B:=Mb f d n o (u▸c) c;grind
   have gs:=(d.1 s (by simp)).1;have p:=(f.1 s' (by simp)).1
   have es:s=s':=by
    refine Sp.ext' g u ?_ ?_
    ·cases c:s.a with
     | false=>exact w c
     | true=>rw [gs.1 c,p.1 (g▸c)]
    ·cases c:s.b with
     | false=>exact C c
     | true=>rw [gs.2 c,p.2 (u▸c)]
   subst es
   have z:∀{q:List Sp} {t:Rat},tY (s::q)->q_ q t->¬s.inn t:=by
    rintro q t D ⟨x,d,c,i⟩ ⟨v,k⟩;obtain ⟨F,G,H⟩:=D.DA d;rw [F] at k;rw [G] at c;simp at k c;grind
   rw [ih d.tail f.tail (fun t j=>⟨fun m=>?_,fun m=>?_⟩)]
   ·obtain ⟨x,hm,hi⟩:=l t j (by obtain ⟨x,v,k⟩:=m;exact ⟨x,by simp [v],k⟩);rcases Qq4.1 hm with rfl|hm
    ·exact absurd hi (z d m)
    ·exact ⟨x,hm,hi⟩
   ·obtain ⟨x,hm,hi⟩:=n t j (by obtain ⟨x,v,k⟩:=m;exact ⟨x,by simp [v],k⟩);rcases Qq4.1 hm with rfl|hm
    ·exact absurd hi (z f m)
    ·exact ⟨x,hm,hi⟩
end Go.Proofs.Tryz
namespace Go.Eng
theorem Bi (a:Addr)(m n:Nat):(a.add m).add n=a.add (m+n):=by
 unfold Addr.add;by_cases b:m=0
 ·subst b;simp
 ·by_cases c:n=0
  ·subst c;simp [b]
  ·rw [if_neg b,if_neg c,if_neg (by omega)];simp only [Qj2]
variable {α:Type} {sz:Nat} {R:View->Value->α->Prop} {V V':View}
structure Row (sz:Nat) (R:View->Value->α->Prop) (V:View) (vs:List Value) (al:List α):Prop where
 at_:∀(i:Nat)(h:i<al.length),∃xs:List Value,xs.length=sz/\R V (.agg xs.toArray) al[i]/\∀j x,xs[j]?=some x->vs[i*sz+j]?=some x
structure lC (sz:Nat) (R:View->Value->α->Prop) (V:View) (p:OA) (n:Nat) (al:List α):Prop where
 len:n=al.length
 at_:∀(i:Nat)(h:i<al.length),∃ad,ah p (i*sz)=some ad/\∃xs:List Value,xs.length=sz/\R V (.agg xs.toArray) al[i]/\∀j x,xs[j]?=some x->V.at (ad.add j) x
theorem Row.nil {vs:List Value}:Row sz R V vs []:=⟨fun i h=>absurd h (Qr5 i)⟩
theorem lC.nil {p:OA}:lC sz R V p 0 []:=⟨rfl,fun i h=>absurd h (Qr5 i)⟩
theorem Row.le {vs:List Value}{al:List α}(h:Row sz R V vs al)(m:∀v a,R V v a->R V' v a):Row sz R V' vs al:=
 ⟨fun i b=>by obtain ⟨xs,c,d,e⟩:=h.at_ i b;exact ⟨xs,c,m _ _ d,e⟩⟩
theorem lC.le {p:OA}{n:Nat}{al:List α}(h:lC sz R V p n al)(l:V.Le V')(m:∀v a,R V v a->R V' v a):lC sz R V' p n al:=
 ⟨h.len,fun i b=>by obtain ⟨c,d,xs,e,f,g⟩:=h.at_ i b;exact ⟨c,d,xs,e,m _ _ f,fun j x k=>l.at (g j x k)⟩⟩
theorem Row.lU {vs:List Value}{al:List α}(h:Row sz R V vs al)(hs:0<sz):al.length*sz<=vs.length:=by
 by_cases a:al.length=0
 ·rw [a];omega
 ·obtain ⟨xs,d,-,b⟩:=h.at_ (al.length-1) (by omega);have c:sz-1<xs.length:=by omega
  have:=(Qz1.1 (b (sz-1) _ (Qq1 c))).1
  have e:al.length*sz=(al.length-1)*sz+sz:=by
   obtain ⟨m,hm⟩:∃m,al.length=m+1:=⟨al.length-1,by omega⟩;rw [hm,Qv6,Qc5]
  omega
theorem Row.snoc {vs:List Value}{al:List α}(h:Row sz R V vs al){xs sp:List Value}{a:α}(hx:xs.length=sz)(ha:R V (.agg xs.toArray) a)(hs:0<sz) :
  Row sz R V (vs.take (al.length*sz)++xs++sp) (al++[a]):=by
 have p:=h.lU hs;have g:(vs.take (al.length*sz)).length=al.length*sz:=by rw [Qw0];omega
 refine ⟨fun i k=>?_⟩;rw [Qq5,Qn8] at k;by_cases e:i=al.length
 ·subst e;refine ⟨xs,hx,by rw [Wq6 (Qq3 _)];simpa using ha,fun j x c=>?_⟩;have d:=(Qz1.1 c).1;rw [Qk6,Qv7 (by rw [g];omega),g,Qr6,Qx4 d];exact c
 ·have b:i<al.length:=by omega
  obtain ⟨l,m,n,o⟩:=h.at_ i b;refine ⟨l,m,by rw [Ww1 b];exact n,fun j x c=>?_⟩;have d:=(Qz1.1 c).1
  have f:i*sz+j<al.length*sz:=by
   have:(i+1)*sz<=al.length*sz:=Qq9 _ b;rw [Qc5] at this;omega
  rw [Qk6,Qx4 (by rw [g];exact f),Qv3,if_pos f];exact o j x c
theorem lC.M6 {bk:Nat}{ty:TypeId}{m:Nat×Nat}{vs:List Value}{al:List α}(hb:V.bI bk (.cells vs.toArray ty m))(h:Row sz R V vs al):lC sz R V (some ⟨bk,0,none⟩) al.length al:=by
 refine ⟨rfl,fun i a=>?_⟩;obtain ⟨xs,b,c,d⟩:=h.at_ i a;refine ⟨⟨bk,i*sz,none⟩,by simp [ah,add_zero'],xs,b,c,fun j x f=>?_⟩;have e:(⟨bk,i*sz,none⟩:Addr).add j=⟨bk,i*sz+j,none⟩:=by rw [←add_zero',Bi,add_zero']
 rw [e];exact fJ hb (d j x f)
theorem lC.jw {bk c:Nat}{ty:TypeId}{m:Nat×Nat}{vs:List Value}{al:List α}(hb:vs≠[]->V.bI bk (.cells vs.toArray ty m))(h:Row sz R V vs al)(hs:0<sz)(hc:al.length<=c):lC sz R V (mA bk c) al.length al:=by
 cases al with
 | nil=>exact lC.nil
 | cons a r=>
  have b:vs≠[]:=fun e=>by
   have:=h.lU hs;rw [e,Qz2,Qc5] at this;simp at this;omega
  have:mA bk c=some ⟨bk,0,none⟩:=by unfold mA;rw [if_neg];rw [Qz2] at hc;omega
  rw [this];exact lC.M6 (hb b) h
end Go.Eng
namespace Go.Proofs.Tryz
open Go.Eng Go.Big
structure GR {α:Type} (sz:Nat) (R:View->Value->α->Prop) (V:View) (n c:Nat) (vs:List Value) (l:List α):Prop where
 len:n=l.length
 le:n<=c
 cap:c*sz<=vs.length
 row:Row sz R V vs l
theorem GR.nil {α:Type}{sz:Nat}{R:View->Value->α->Prop}{V:View}:GR sz R V 0 0 [] []:=⟨rfl,Qq3 _,by simp,Row.nil⟩
theorem GR.mono {α:Type}{sz:Nat}{R:View->Value->α->Prop}{V V':View}{n c:Nat}{vs:List Value}{l:List α}(h:GR sz R V n c vs l)(m:∀v a,R V v a->R V' v a):GR sz R V' n c vs l:=⟨h.len,h.le,h.cap,h.row.le m⟩
theorem GR.snoc {α:Type}{sz:Nat}{R:View->Value->α->Prop}{V:View}{n c:Nat}{vs:List Value}{l:List α}(h:GR sz R V n c vs l){xs:List Value}{a:α}(hx:xs.length=sz)(ha:R V (.agg xs.toArray) a)(h0:0<sz){sp:List Value}{c':Nat}(h1:n+1<=c')(h2:c'*sz<=(n+1)*sz+sp.length) :
  GR sz R V (n+1) c' (vs.take (n*sz)++xs++sp) (l++[a]):=by
 have b:=h.len;have e:=h.cap;have f:n*sz<=c*sz:=Qq9 _ h.le;refine ⟨by rw [Qq5,b];rfl,h1,?_,?_⟩
 ·have d:(vs.take (n*sz)).length=n*sz:=by rw [Qw0];omega
  rw [Qq5,Qq5,d,hx];rw [Qc5] at h2;exact h2
 ·have:=h.row.snoc (sp:=sp) hx ha h0;rw [←b] at this;exact this
theorem GN {α:Type}{sz:Nat}{R:View->Value->α->Prop}{V:View}{p:OA}{n:Nat}{ls:List α}(h:lC sz R V p n ls)(hs:0<sz):∃xs:List Value,V.sl p xs/\xs.length=ls.length*sz/\Row sz R V xs ls:=by
 have step:∀k,k<=ls.length->∃xs:List Value,V.sl p xs/\xs.length=k*sz/\Row sz R V xs (ls.take k):=by
  intro k
  induction k with
  | zero=>exact fun _=>⟨[],fun i v b=>by simp at b,by simp,by rw [Qc2];exact Row.nil⟩
  | succ k ih=>
   intro s;obtain ⟨xs,f,d,e⟩:=ih (by omega);obtain ⟨l,g,m,j,o,q⟩:=h.at_ k (by omega);have r:(ls.take k).length=k:=by rw [Qw0];omega
   refine ⟨xs++m,fun i v b=>?_,by rw [Qq5,d,j,Qc5],?_⟩
   ·by_cases c:i<xs.length
    ·rw [Qx4 c] at b;exact f i v b
    ·rw [Qv7 (by omega)] at b
     cases p with
     | none=>cases g
     | some a=>
      obtain rfl:=Qm5 (show some (a.add (k*sz))=some l from g);have:=q _ v b;rw [Bi,d] at this;rw [show k*sz+(i-k*sz)=i by omega] at this;exact ⟨a,rfl,this⟩
   ·have:=e.snoc (sp:=[]) j o hs;rw [r,Qk2,Qc1 (by omega)] at this;rw [Qs2,Qq1 (by omega)];exact this
 obtain ⟨xs,f,d,e⟩:=step ls.length (Qq3 _);rw [Qv2] at e;exact ⟨xs,f,d,e⟩
theorem Ez {α:Type}{sz:Nat}{R:View->Value->α->Prop}{V:View}{vs xs sp:List Value}{ls ms:List α}(h:Row sz R V vs ls)(h':Row sz R V xs ms)(hs:0<sz):Row sz R V (vs.take (ls.length*sz)++xs++sp) (ls++ms):=by
 have q:=h.lU hs;have o:=h'.lU hs;have n:(vs.take (ls.length*sz)).length=ls.length*sz:=by rw [Qw0];omega
 refine ⟨fun i p=>?_⟩;by_cases c:i<ls.length
 ·obtain ⟨d,f,g,k⟩:=h.at_ i c;refine ⟨d,f,by rw [Ww1 c];exact g,fun j x a=>?_⟩;have l:=(Qz1.1 a).1
  have b:i*sz+j<ls.length*sz:=by
   have:(i+1)*sz<=ls.length*sz:=Qq9 _ c;rw [Qc5] at this;omega
  rw [Qk6,Qx4 (by omega),Qv3,if_pos b];exact k j x a
 ·rw [Qq5] at p;obtain ⟨m,rfl⟩:∃m,i=ls.length+m:=⟨i-ls.length,by omega⟩;have hm:m<ms.length:=by omega
  obtain ⟨d,f,g,k⟩:=h'.at_ m hm;refine ⟨d,f,?_,fun j x a=>?_⟩
  ·have e:(ls++ms)[ls.length+m]=ms[m]:=by rw [Wq6 (by omega)];simp
   rw [e];exact g
  ·have l:=(Qz1.1 a).1
   have b:m*sz+j<xs.length:=by
    have:(m+1)*sz<=ms.length*sz:=Qq9 _ hm;rw [Qc5] at this;omega
   rw [Qk6,Qv7 (by rw [n,Qj4];omega),n,Qj4,Qx4 (by omega)];rw [show ls.length*sz+m*sz+j-ls.length*sz=m*sz+j by omega];exact k j x a
theorem Az {α:Type}{sz:Nat}{R:View->Value->α->Prop}{V:View}{vs:List Value}{al:List α}(h:Row sz R V vs al)(hs:0<sz)(hc:∀xs a,R V (.agg (List.toArray xs)) a->∀v∈xs,v.oneCell'=true){m:Nat}(hm:m<al.length*sz){v:Value}(hv:vs[m]?=some v):v.oneCell'=true:=by
 have d:m / sz<al.length:=Nat.div_lt_of_lt_mul (by rw [Qn1];exact hm);obtain ⟨xs,e,f,c⟩:=h.at_ (m / sz) d;have b:m%sz<xs.length:=by rw [e];exact Qv9 _ hs
 have g:m=m / sz*sz+m%sz:=by rw [Qn1];exact (Qc6 m sz).symm
 have:=c (m%sz) _ (Qq1 b);rw [←g,hv] at this;obtain rfl:=Qm5 this;exact hc xs _ f _ (Qy3 b)
theorem nO {V:View}{v:Value}{b:Bool}{xs ys:List Nat}(h:Be V v b xs ys):aa prog 130 #[v] V fun r V'=>r=.bool (yr b xs ys):=by
 obtain ⟨p,n,c,q,m,e,rfl,g,i⟩:=h;have f:=g.len;have j:=i.len;refine ny b p n c q m e V _ ⟨fun h=>⟨fun a l o=>?_,fun a s t=>?_⟩,fun h u w=>?_⟩
 ·have d:xs=[]:=by
   have h:((n:Nat):Int)=0:=by simpa using a
   exact Qq6.1 (by omega)
  have k:(((m:Nat):Int)==0)=decide (ys=[]):=by
   rw [Qx6,beq_iff_eq,decide_eq_true_eq,←Qq6];omega
  rw [Qw7] at h;simp [yr,h,d,←k]
 ·have d:xs≠[]:=fun e=>by
   have h:¬((n:Nat):Int)=0:=by simpa using a
   rw [e] at f;exact h (by simp at f;omega)
  simp [yr,d]
 ·rw [Qy7] at h;simp [yr,h]
theorem yN {V:View}{p:OA}{n c:Nat}{ds:List Nat}(h:RD V p n c ds)(hm:ds.length<=1099511627776:=by omega) :
  aa prog 180 #[.slice p n c] V fun r V'=>∃p1 n1 c1,r=.slice p1 n1 c1/\RN V' p1 n1 c1 (val ds):=by
 have a:=h.len;refine E1 p n c V _ ⟨aG ds,h.sl,by simp [a],by omega,by omega,by simp,by simp [a],?_,?_⟩
 ·intro v e;simp only [aG,Qy0] at e;obtain ⟨d,-,rfl⟩:=e;rfl
 ·intro l J sp m f o q s b i;simp only [Qy1,Qd8,Qc2,Qm3] at i f ⊢;refine (cJ (copied h.cV a f i)).mono ?_;rintro r t u ⟨k,rfl,g⟩;rw [aQ h.cV] at g;exact ⟨_,_,_,rfl,fun w x j=>⟨_,_,_,rfl,g.le j⟩⟩
theorem mF {V:View}(b:Bool){p:OA}{n c:Nat}{ds:List Nat}(h:RD V p n c ds)(hm:ds.length<=1099511627776:=by omega) :
  aa prog 133 #[.agg #[.bool b,.slice p n c]] V fun r V'=>RI V' r (aA b ds):=by
 refine E0 b p n c V _ fun i a=>(yN (h.le a) hm).mono ?_;rintro r j k ⟨l,m,o,rfl,g⟩;refine ⟨_,_,_,rfl,fun q d=>(dq b (g.le d)).mono ?_⟩;rintro r s t ⟨u,v,w,rfl,e⟩;exact ⟨_,_,_,_,rfl,fun x f=>⟨_,_,_,rfl,e.le f⟩⟩
theorem pC {b:Bool}{ds:List Nat}(h:bK ds):(ai (aA b ds).natAbs).length<=ds.length:=by
 rw [ct];exact aW h
theorem qJ {V:View}{v:Value}{b:Bool}{xs ys:List Nat}(h:Be V v b xs ys)(m1:xs.length<=274877906944)(m2:ys.length<=274877906944:=by omega) :
  aa prog 138 #[v] V fun r V'=>RQ V' r (kZ b xs ys):=by
 obtain ⟨p,n,c,q,m,e,rfl,d,f⟩:=h;have d1:=pC (b:=b) d.cV;have d2:=aW f.cV;refine E2 b p n c q m e V _ fun B i=>(yN (f.le i)).mono ?_;rintro r C t ⟨D,j,E,rfl,g⟩;have l:=g.len;refine ⟨_,_,_,rfl,fun a u F=>?_,fun a G o=>(mF b (d.le (i.trans (t.trans o)))).mono ?_⟩
 ·have a:((j:Nat):Int)=0:=by simpa using a
  have:ai (val ys)=[]:=Qq6.1 (by omega);have:val ys=0:=bd.1 this;unfold kZ;rw [this,Wq5];have:=RQ.zero (V:=u);simpa using this
 ·have w:val ys≠0:=fun e=>by
   rw [e] at l;have a:¬((j:Nat):Int)=0:=by simpa using a
   exact a (by rw [l];rfl)
  rintro r H x ⟨I,J,K,rfl,y⟩;refine ⟨_,_,_,_,rfl,fun L s=>(iG _ (y.le s) (g.le (o.trans (x.trans s))) (by omega) (by omega) w).mono ?_⟩;rintro r M N k;have z:=k;obtain ⟨_,_,_,_,_,_,rfl⟩:=k.shape;exact ⟨_,_,_,_,_,_,_,rfl,fun O A=>z.le A⟩
theorem sR {V:View}{p:OA}{n c:Nat}{ds:List Nat}(h:RD V p n c ds)(hm:ds.length<=1099511627776) :
  aa prog 179 #[.slice p n c] V fun r V'=>r=.bool (decide (ai (val ds)=ds)):=by
 have d:=h.len;refine rE p n c V _ ⟨fun a e f=>?_,fun a=>?_⟩
 ·have:ds=[]:=Qq6.1 (by simp at a;omega);subst this;rfl
 ·have a:0<n:=by simp at a;omega
  simp (disch:=omega) only [ar];refine h.rd (n-1) (by omega) (by omega) fun e f=>?_;congr 1;rw [Qx6];simp only [bne_iff_ne,ne_eq,decide_eq_true_eq];subst d;constructor
  ·intro b;exact oY h.cV (sk fun _=>by simpa using b)
  ·intro he b;have:rO ds:=by rw [←he];exact gG _
   exact this.last (by omega) (by simpa using b)
theorem gP {V:View}(b:Bool){p:OA}{n c:Nat}{ds:List Nat}(h:RD V p n c ds)(hm:ds.length<=1099511627776:=by omega) :
  aa prog 132 #[.agg #[.bool b,.slice p n c]] V fun r V'=>r=.bool (fE b ds):=by
 have g:=h.len;refine rD b p n c V _ fun i f=>(sR (h.le f) hm).mono ?_;rintro r j k rfl;refine ⟨_,rfl,fun d=>⟨fun a l m=>?_,fun a o q=>?_⟩,fun d s t=>?_⟩
 ·rw [Qw7] at a;simp [fE,d,a]
 ·rw [Qy7] at a
  have e:decide (((n:Nat):Int)>0)=!decide (ds=[]):=by
   rw [Qx6,decide_eq_true_eq,Qw7,decide_eq_false_iff_not,←Qq6];omega
  rw [e];simp [fE,d,a]
 ·simp [fE,d]
theorem Bv {V:View}{v w:Value}{b:Bool}{xs ys:List Nat}{q:Rat}(h:Be V v b xs ys)(h':RA V w q)(m1:xs.length<=1099511627776)(m2:ys.length<=1099511627776:=by omega) :
  aa prog 131 #[v,w] V fun r V'=>r=.bool (decide (b=decide (q.num<0))&&decide (xs=ai q.num.natAbs)&&decide (ys=ai q.den)):=by
 obtain ⟨p,n,c,B,C,D,rfl,l,s⟩:=h;obtain ⟨o,m,e,E,F,G,rfl,t,u⟩:=h'
 have x:∀a:View,V.Le a->aa prog 129 #[.agg #[.bool b,.slice p n c],.agg #[.bool (decide (q.num<0)),.slice o m e]] a fun r V'=>r=.bool (decide (b=decide (q.num<0))&&decide (xs=ai q.num.natAbs)):=by
  intro a d;refine mB b p n c _ o m e a _ ⟨fun f y g=>(f_ (l.le (d.trans g)) (t.le (d.trans g)) m1).mono ?_,fun f k i=>?_⟩
  ·rintro r k i rfl;exact ⟨_,rfl,fun z A=>by rw [beq_iff_eq] at f;simp [f]⟩
  ·rw [beq_eq_false_iff_ne] at f;simp [f]
 refine mC _ _ _ _ _ _ _ _ _ _ _ _ _ _ V _ fun a d=>(x a d).mono ?_;rintro r y g rfl;refine ⟨_,rfl,fun j k i=>(f_ (s.le (d.trans (g.trans i))) (u.le (d.trans (g.trans i))) m2).mono ?_,fun j H I=>by rw [j];rfl⟩;rintro r z A rfl;exact ⟨_,rfl,fun J K=>by rw [j];rfl⟩
theorem Cj {b:Bool}{xs ys:List Nat}:vy b xs ys=(decide (b=decide ((kZ b xs ys).num<0))&&decide (xs=ai (kZ b xs ys).num.natAbs)&&decide (ys=ai (kZ b xs ys).den)&&!decide (ys=[])):=by
 rw [Qx6];constructor
 ·intro h;unfold vy fE at h;simp only [Qx1,decide_eq_true_eq,Qw7,decide_eq_false_iff_not,Qm4] at h;obtain ⟨⟨⟨⟨a,f⟩,c⟩,g⟩,k⟩:=h;have l:val ys≠0:=fun e=>g (by rw [←c,e];rfl);obtain ⟨i,j⟩:=zh (z:=aA b xs) (d:=val ys) l (by rw [ct];exact k);have i:(kZ b xs ys).num=aA b xs:=i;have j:(kZ b xs ys).den=val ys:=j;rw [i,j,ct,a,c]
  have m:b=decide (aA b xs<0):=by
   cases b with
   | false=>simp [aA]
   | true=>
    have:xs≠[]:=by simpa using f
    have:val xs≠0:=fun e=>this (by rw [←a,e];rfl);simp [aA];omega
  simp [←m,g]
 ·intro h;simp only [Qx1,decide_eq_true_eq,Qw7,decide_eq_false_iff_not] at h;obtain ⟨⟨⟨a,f⟩,c⟩,g⟩:=h;have:=(Aj (q:=kZ b xs ys)).1
  rwa [←a,←f,←c] at this
theorem rq {b:Bool}{xs ys:List Nat}(hx:bK xs)(hy:bK ys){k:Nat}(h1:xs.length<=k)(h2:ys.length<=k):Sz (32*k+1) (kZ b xs ys):=by
 have d:∀{a:List Nat},bK a->a.length<=k->val a<2^(32*k):=by
  intro a f g;have:=eQ f;refine Qx2 this ?_;have e:(4294967296:Nat)^a.length<=4294967296^k:=Qw9 (by omega) g;refine Qx3 e ?_;rw [show (4294967296:Nat)=2^32 from rfl,←Qs0];exact Qq3 _
 have h:=d hx h1;have i:=d hy h2;have up:(2:Nat)^(32*k)<=2^(32*k+1):=Qw9 (by omega) (by omega);have one:1<2^(32*k+1):=Qf1 (by omega);unfold kZ;by_cases c:val ys=0
 ·rw [c,Wq5];exact ⟨by show (0:Int).natAbs<_;omega,one⟩
 ·unfold Sz;rw [Qh4,Qp9,if_neg c,if_neg c];constructor
  ·refine Qv5 ?_ (Qx2 h up);refine Qx3 (Int.natAbs_ediv_le_natAbs _ _) ?_;rw [ct];exact Qq3 _
  ·exact Qv5 (Qn3 _ _) (Qx2 i up)
theorem jE {V:View}{v:Value}{b:Bool}{xs ys:List Nat}(h:Be V v b xs ys)(m1:xs.length<=1000000)(m2:ys.length<=1000000) :
  aa prog 137 #[v] V fun r V'=>r=.bool (vy b xs ys):=by
 have d:=h;obtain ⟨p,n,c,q,m,e,rfl,o,f⟩:=h;have z:=f.len;obtain ⟨K,s⟩:∃K:Nat,K=32*1000000+1:=⟨_,rfl⟩;have t:Sz K (kZ b xs ys):=by rw [s];exact rq o.cV f.cV m1 m2
 refine rF b p n c q m e V _ fun A i=>(qJ (d.le i) (by omega)).mono ?_;rintro r B u g;have w:=g;obtain ⟨_,_,_,_,_,_,rfl⟩:=g.shape;refine ⟨_,_,_,_,_,_,_,rfl,fun C j=>(eT (w.le j) t).mono ?_⟩;rintro r D x k;have y:=k;obtain ⟨_,_,_,_,_,_,_,rfl⟩:=k.shape;refine ⟨_,_,_,_,_,_,_,rfl,fun E l=>(Bv (d.le (i.trans (u.trans (j.trans (x.trans l))))) (y.le l) (by omega)).mono ?_⟩;rintro r F G rfl
 have e:decide (((m:Nat):Int)>0)=!decide (ys=[]):=by
  rw [Qx6,decide_eq_true_eq,Qw7,decide_eq_false_iff_not,←Qq6];omega
 refine ⟨_,rfl,fun a H I=>?_,fun a J L=>?_⟩
 ·rw [e,Cj,a,Qh6]
 ·rw [Cj,a,Bool.false_and]
def NX (V:View)(v:Value)(b1:Bool)(xs:List Nat)(b2:Bool)(ys:List Nat)(b3:Bool)(zs:List Nat):Prop:=∃p n c q m e s i j,v=.agg #[.bool b1,.slice p n c,.bool b2,.slice q m e,.bool b3,.slice s i j]/\RD V p n c xs/\RD V q m e ys/\RD V s i j zs
theorem NX.le {V V':View}{v:Value}{b1:Bool}{xs:List Nat}{b2:Bool}{ys:List Nat}{b3:Bool}{zs:List Nat}(h:NX V v b1 xs b2 ys b3 zs)(l:V.Le V'):NX V' v b1 xs b2 ys b3 zs:=by
 obtain ⟨p,n,c,q,m,e,s,i,j,rfl,a,b,d⟩:=h;exact ⟨_,_,_,_,_,_,_,_,_,rfl,a.le l,b.le l,d.le l⟩
def Ux (v:Value):Prop:=∃b1 p1 n1 c1 b2 p2 n2 c2 b3 p3 n3 c3,v=.agg #[.bool b1,.slice p1 n1 c1,.bool b2,.slice p2 n2 c2,.bool b3,.slice p3 n3 c3]
def KM (b1:Bool)(xs:List Nat)(b2:Bool)(ys:List Nat)(b3:Bool)(zs:List Nat):L3:=(aA b1 xs,aA b2 ys,aA b3 zs)
theorem pH {b1:Bool}{xs:List Nat}{b2:Bool}{ys:List Nat}{b3:Bool}{zs:List Nat}:lE b1 xs b2 ys b3 zs=(fE b1 xs&&fE b2 ys&&fE b3 zs&&nj (KM b1 xs b2 ys b3 zs)):=by
 have e:=vz (a:=aA b1 xs) (b:=aA b2 ys) (c:=aA b3 zs)
 have d:∀z:Int,fE (decide (z<0)) (ai z.natAbs)=true:=by
  intro z;unfold fE;rw [ae];by_cases h:z<0
  ·have:ai z.natAbs≠[]:=fun e=>by have:=bd.1 e;omega
   simp [h,this]
  ·simp [h]
 unfold lE at e ⊢;rw [d,d,d,aE,aE,aE] at e;simp only [Qh6] at e;unfold KM;rw [←e];simp only [Bool.and_assoc]
theorem DW {V:View}{v:Value}{b1:Bool}{xs:List Nat}{b2:Bool}{ys:List Nat}{b3:Bool}{zs:List Nat}(h:NX V v b1 xs b2 ys b3 zs)(m1:xs.length<=1000000)(m2:ys.length<=1000000)(m3:zs.length<=1000000) :
  aa prog 71 #[v] V fun r V'=>∃w,r=.tuple #[w,.bool (lE b1 xs b2 ys b3 zs)]/\Ux w/\(lE b1 xs b2 ys b3 zs=true->RL V' w (aA b1 xs) (aA b2 ys) (aA b3 zs)):=by
 obtain ⟨p,n,c,q,m,e,s,i,j,rfl,A,B,C⟩:=h;have d1:=pC (b:=b1) A.cV;have d2:=pC (b:=b2) B.cV;have d3:=pC (b:=b3) C.cV
 have bad:∀{V':View},lE b1 xs b2 ys b3 zs=false->∃w,Value.tuple #[.agg #[.bool false,.slice none 0 0,.bool false,.slice none 0 0,.bool false,.slice none 0 0],.bool false]=.tuple #[w,.bool (lE b1 xs b2 ys b3 zs)]/\Ux w/\(lE b1 xs b2 ys b3 zs=true->RL V' w (aA b1 xs) (aA b2 ys) (aA b3 zs)):=fun h=>by
  rw [h];exact ⟨_,rfl,⟨_,_,_,_,_,_,_,_,_,_,_,_,rfl⟩,(fun h=>nomatch h)⟩
 refine Di b1 p n c b2 q m e b3 s i j V _ fun V1 D=>(gP b1 (A.le D)).mono ?_;rintro r V2 L rfl;refine ⟨_,rfl,fun f V3 l3=>bad (by rw [Qw7] at f;rw [pH];simp [f]),fun f V4 M=>(gP b2 (B.le (D.trans (L.trans M)))).mono ?_⟩;rintro r V5 Y rfl;refine ⟨_,rfl,fun g V6 l6=>bad (by rw [Qw7] at g;rw [pH];simp [g]),fun g Z l7=>?_⟩;have N:V.Le Z:=D.trans (L.trans (M.trans (Y.trans l7)));refine (gP b3 (C.le N)).mono ?_;rintro r V8 l8 rfl;refine ⟨_,rfl,fun k V9 l9=>bad (by rw [Qw7] at k;rw [pH];simp [k]),fun k gm E=>?_⟩;rw [Qy7] at f g k;have F:V.Le gm:=N.trans (l8.trans E);refine (mF b1 (A.le F)).mono ?_;rintro r fH O ⟨pa,na,ca,rfl,P⟩;refine ⟨_,_,_,_,rfl,fun jC o=>(mF b2 (B.le (F.trans (O.trans o)))).mono ?_⟩;rintro r oH G ⟨pb,nb,cb,rfl,Q⟩;refine ⟨_,_,_,_,rfl,fun mD l=>(mF b3 (C.le (F.trans (O.trans (o.trans (G.trans l)))))).mono ?_⟩;rintro r mE t ⟨pc,nc,cc,rfl,gc⟩;refine ⟨_,_,_,_,rfl,fun sM d=>(fp (x:=(aA b1 xs).natAbs) (y:=(aA b2 ys).natAbs) (P.le (o.trans (G.trans (l.trans (t.trans d))))) (Q.le (l.trans (t.trans d))) (by omega)).mono ?_⟩;rintro r nF u ⟨pg,H,cg,rfl,R⟩;have hg:=R.len
 have Yh:(ai (Nat.gcd (aA b1 xs).natAbs (aA b2 ys).natAbs)).length<=274877906944:=by
  by_cases S:(aA b1 xs).natAbs=0
  ·rw [S,Qh5];omega
  ·have:=aD (Qr1 (aA b2 ys).natAbs (Qg6 S));omega
 have ok:lE b1 xs b2 ys b3 zs=nj (KM b1 xs b2 ys b3 zs):=by rw [pH,f,g,k];rfl
 have rl:∀V':View,nF.Le V'->RL V' (.agg #[.bool (decide (aA b1 xs<0)),.slice pa na ca,.bool (decide (aA b2 ys<0)),.slice pb nb cb,.bool (decide (aA b3 zs<0)),.slice pc nc cc]) (aA b1 xs) (aA b2 ys) (aA b3 zs):=fun V' I=>
  ⟨_,_,_,_,_,_,_,_,_,rfl,P.le (o.trans (G.trans (l.trans (t.trans (d.trans (u.trans I)))))),Q.le (l.trans (t.trans (d.trans (u.trans I)))),gc.le (d.trans (u.trans I))⟩
 have T:(Nat.gcd (aA b1 xs).natAbs (aA b2 ys).natAbs=0)↔(aA b1 xs=0/\aA b2 ys=0):=by rw [Qd3];omega
 have U:H=0↔(aA b1 xs=0/\aA b2 ys=0):=by
  rw [←T,←@bd (Nat.gcd (aA b1 xs).natAbs (aA b2 ys).natAbs),←Qq6];omega
 refine ⟨_,_,_,rfl,fun a uf J=>?_,fun a JW xB=>?_⟩
 ·have a:¬H=0:=by have:=of_decide_eq_true a;omega
  rw [U] at a;refine (fp (x:=Nat.gcd (aA b1 xs).natAbs (aA b2 ys).natAbs) (y:=(aA b3 zs).natAbs) (R.le J) (gc.le (d.trans (u.trans J))) Yh).mono ?_;rintro r A8 gj ⟨ph,nh,ch,rfl,gh⟩;refine ⟨_,_,_,rfl,fun Bg W=>kb.mono ?_⟩;rintro r Bh X ⟨po,no,co,rfl,go⟩
  have Yg:(ai (Nat.gcd (Nat.gcd (aA b1 xs).natAbs (aA b2 ys).natAbs) (aA b3 zs).natAbs)).length<=1099511627776:=by
   have:=aD (Qr1 (aA b3 zs).natAbs (Qg6 fun e=>a (T.1 e)));omega
  refine ⟨_,_,_,rfl,fun Dv K=>(fP (x:=Nat.gcd (Nat.gcd (aA b1 xs).natAbs (aA b2 ys).natAbs) (aA b3 zs).natAbs) (y:=1) (gh.le (W.trans (X.trans K))) (go.le K) Yg (by decide)).mono ?_⟩;rintro r Dm lT rfl
  have z:(jF (Nat.gcd (Nat.gcd (aA b1 xs).natAbs (aA b2 ys).natAbs) (aA b3 zs).natAbs) 1==0)=nj (KM b1 xs b2 ys b3 zs):=by
   unfold nj KM bC;dsimp only;rw [decide_eq_true a,Qh6];rw [Qx6,beq_iff_eq,decide_eq_true_eq];exact ir
  refine ⟨_,rfl,fun JV Fp=>⟨_,by rw [ok,←z],⟨_,_,_,_,_,_,_,_,_,_,_,_,rfl⟩,fun _=>rl JV (J.trans (gj.trans (W.trans (X.trans (K.trans (lT.trans Fp))))))⟩⟩
 ·have a:H=0:=by have:=of_decide_eq_false a;omega
  rw [U] at a;have z:nj (KM b1 xs b2 ys b3 zs)=false:=by unfold nj KM;simp [a.1,a.2]
  exact ⟨_,by rw [ok,z],⟨_,_,_,_,_,_,_,_,_,_,_,_,rfl⟩,fun h=>by rw [ok,z] at h;cases h⟩
def QU (v:Value):Prop:=∃b p n c p' n' c' d q m e q' m' e' b1 b2,v=.agg #[.bool b,.slice p n c,.slice p' n' c',.bool d,.slice q m e,.slice q' m' e',.bool b1,.bool b2]
theorem BO {b:Bool}{xs ys:List Nat}{no:Bool}(h:fI b xs ys no=true):Gi b xs ys no=kZ b xs ys:=by
 cases no with
 | false=>rfl
 | true=>
  have h:yr b xs ys=true:=h;unfold yr at h;simp only [Qx1,decide_eq_true_eq] at h;obtain ⟨⟨a,rfl⟩,rfl⟩:=h;show (0:Rat)=mkRat _ (val []);rw [show val []=0 from rfl,Wq5]
theorem zU {V:View}{v:Value}{b1:Bool}{xs1 ys1:List Nat}{b2:Bool}{xs2 ys2:List Nat}{na nb:Bool}(h:Nw V v b1 xs1 ys1 b2 xs2 ys2 na nb)(m1:xs1.length<=1000000)(m2:ys1.length<=1000000)(m3:xs2.length<=1000000)(m4:ys2.length<=1000000) :
  aa prog 72 #[v] V fun r V'=>∃w,r=.tuple #[w,.bool (okW b1 xs1 ys1 b2 xs2 ys2 na nb)]/\QU w/\(okW b1 xs1 ys1 b2 xs2 ys2 na nb=true->Hj V' w (EB b1 xs1 ys1 b2 xs2 ys2 na nb)):=by
 obtain ⟨p,n,c,P,Q,R,q,m,e,S,T,U,rfl,o,f⟩:=h;have i:bK xs1/\bK ys1:=by obtain ⟨_,_,_,_,_,_,-,t,u⟩:=o;exact ⟨t.cV,u.cV⟩
 have j:bK xs2/\bK ys2:=by obtain ⟨_,_,_,_,_,_,-,t,u⟩:=f;exact ⟨t.cV,u.cV⟩
 obtain ⟨K,G⟩:∃K:Nat,K=32*1000000+1:=⟨_,rfl⟩;have s1:Sz K (kZ b1 xs1 ys1):=by rw [G];exact rq i.1 i.2 m1 m2
 have s2:Sz K (kZ b2 xs2 ys2):=by rw [G];exact rq j.1 j.2 m3 m4
 refine yn b1 p n c P Q R b2 q m e S T U na nb V _ ⟨fun z _=>z=!(fI b1 xs1 ys1 na&&fI b2 xs2 ys2 nb),⟨?_,?_⟩,?_⟩
 ·rintro rfl W l;refine (nO (o.le l)).mono ?_;rintro r X y rfl;refine ⟨_,rfl,fun a=>⟨true,by and_intros<;>rfl,by rw [Qw7] at a;simp [fI,a]⟩,fun b=>⟨(fun h=>nomatch h),fun _=>?_⟩⟩;have L:=l.trans y
  cases nb with
  | true=>
   refine ⟨fun _ A d=>(nO (f.le (L.trans d))).mono ?_,(fun h=>nomatch h)⟩;rintro r B C rfl;exact ⟨_,rfl,fun a=>⟨true,by and_intros<;>rfl,by rw [Qw7] at a;simp [fI,a]⟩,fun a=>⟨(fun h=>nomatch h),fun _=>⟨false,by and_intros<;>rfl,by rw [Qy7] at a b;simp [fI,a,b]⟩⟩⟩
  | false=>
   refine ⟨(fun h=>nomatch h),fun _=>⟨fun _ A d=>(jE (f.le (L.trans d)) m3 m4).mono ?_,(fun h=>nomatch h)⟩⟩;rintro r B C rfl;exact ⟨_,rfl,_,by and_intros<;>rfl,by rw [Qy7] at b;simp [fI,b]⟩
 ·rintro rfl;refine ⟨fun _ W l=>(jE (o.le l) m1 m2).mono ?_,(fun h=>nomatch h)⟩;rintro r X y rfl;refine ⟨_,rfl,fun a=>⟨true,by and_intros<;>rfl,by rw [Qw7] at a;simp [fI,a]⟩,fun b=>?_⟩;have L:=l.trans y
  cases nb with
  | true=>
   refine ⟨fun _ A d=>(nO (f.le (L.trans d))).mono ?_,(fun h=>nomatch h)⟩;rintro r B C rfl;exact ⟨_,rfl,fun a=>⟨true,by and_intros<;>rfl,by rw [Qw7] at a;simp [fI,a]⟩,fun a=>⟨(fun h=>nomatch h),fun _=>⟨false,by and_intros<;>rfl,by rw [Qy7] at a b;simp [fI,a,b]⟩⟩⟩
  | false=>
   refine ⟨(fun h=>nomatch h),fun _=>⟨fun _ A d=>(jE (f.le (L.trans d)) m3 m4).mono ?_,(fun h=>nomatch h)⟩⟩;rintro r B C rfl;exact ⟨_,rfl,_,by and_intros<;>rfl,by rw [Qy7] at b;simp [fI,b]⟩
 rintro z QV H rfl;refine ⟨rfl,fun a Uz QA=>?_,fun a QW I=>?_⟩
 ·rw [Qw7] at a;have e:okW b1 xs1 ys1 b2 xs2 ys2 na nb=false:=by unfold okW;rw [a];rfl
  rw [e];exact ⟨_,rfl,⟨_,_,_,_,_,_,_,_,_,_,_,_,_,_,_,_,rfl⟩,(fun h=>nomatch h)⟩
 ·rw [Qy7,Qx1] at a;have Y:=BO a.1;have Z:=BO a.2;have ok:okW b1 xs1 ys1 b2 xs2 ys2 na nb=!(EB b1 xs1 ys1 b2 xs2 ys2 na nb).emp:=by unfold okW;rw [a.1,a.2];rfl
  refine (qJ (o.le (H.trans I)) (by omega)).mono ?_;rintro r Wp Ya g;have J:=g;obtain ⟨_,_,_,_,_,_,rfl⟩:=g.shape;refine ⟨_,_,_,_,_,_,_,rfl,fun Wq D=>(qJ (f.le (H.trans (I.trans (Ya.trans D)))) (by omega)).mono ?_⟩;rintro r UA M k;have N:=k;obtain ⟨_,_,_,_,_,_,rfl⟩:=k.shape;have es:EB b1 xs1 ys1 b2 xs2 ys2 na nb=⟨kZ b1 xs1 ys1,kZ b2 xs2 ys2,na,nb⟩:=by unfold EB;rw [Y,Z]
  have rs:∀V':View,UA.Le V'->Hj V' _ (EB b1 xs1 ys1 b2 xs2 ys2 na nb):=fun V' O=>by rw [es];exact ⟨_,_,_,_,_,_,_,_,_,_,_,_,_,_,rfl,J.le (D.trans (M.trans O)),N.le O⟩
  refine ⟨_,_,_,_,_,_,_,rfl,fun s UB M0=>⟨_,by rw [ok,es,s];rfl,⟨_,_,_,_,_,_,_,_,_,_,_,_,_,_,_,_,rfl⟩,fun _=>rs UB M0⟩,fun s=>⟨fun E UC QC=>⟨_,by rw [ok,es,s,E];rfl,⟨_,_,_,_,_,_,_,_,_,_,_,_,_,_,_,_,rfl⟩,fun _=>rs UC QC⟩,fun E Wr F=>(zP (J.le (D.trans (M.trans F))) (N.le F) s1 s2).mono ?_⟩⟩;rintro r Ws VK rfl;refine ⟨_,rfl,fun UD VL=>⟨_,?_,⟨_,_,_,_,_,_,_,_,_,_,_,_,_,_,_,_,rfl⟩,fun _=>rs UD (F.trans (VK.trans VL))⟩⟩;rw [ok,es];simp only [Sp.emp,s,E,Bool.not_false,Qh6];have e:∀x:Int,decide (x<0)=!decide (x≥0):=fun x=>by rw [Qx6,decide_eq_true_eq,Qw7,decide_eq_false_iff_not];omega
  rw [e (cmpQ _ _)]
structure FW where
 b1:Bool
 xs:List Nat
 b2:Bool
 ys:List Nat
 b3:Bool
 zs:List Nat
 c1:Bool
 us:List Nat
 vs:List Nat
 c2:Bool
 ws:List Nat
 ts:List Nat
 na:Bool
 nb:Bool
def FW.ln (f:FW):L3:=KM f.b1 f.xs f.b2 f.ys f.b3 f.zs
def FW.sp (f:FW):Sp:=EB f.c1 f.us f.vs f.c2 f.ws f.ts f.na f.nb
def FW.ok (f:FW):Bool:=lE f.b1 f.xs f.b2 f.ys f.b3 f.zs&&okW f.c1 f.us f.vs f.c2 f.ws f.ts f.na f.nb
structure FW.short (f:FW):Prop where
 x:f.xs.length<=1000000
 y:f.ys.length<=1000000
 z:f.zs.length<=1000000
 u:f.us.length<=1000000
 v:f.vs.length<=1000000
 w:f.ws.length<=1000000
 t:f.ts.length<=1000000
def Uy (V:View)(v:Value)(f:FW):Prop:=∃p1 n1 d1 p2 n2 d2 p3 n3 d3 p n c p' n' c' q m e q' m' e',
 v=.agg #[.bool f.b1,.slice p1 n1 d1,.bool f.b2,.slice p2 n2 d2,.bool f.b3,.slice p3 n3 d3,.bool f.c1,.slice p n c,.slice p' n' c',.bool f.c2,.slice q m e,.slice q' m' e',.bool f.na,.bool f.nb] /\
 NX V (.agg #[.bool f.b1,.slice p1 n1 d1,.bool f.b2,.slice p2 n2 d2,.bool f.b3,.slice p3 n3 d3]) f.b1 f.xs f.b2 f.ys f.b3 f.zs /\
 Nw V (.agg #[.bool f.c1,.slice p n c,.slice p' n' c',.bool f.c2,.slice q m e,.slice q' m' e',.bool f.na,.bool f.nb]) f.c1 f.us f.vs f.c2 f.ws f.ts f.na f.nb
def Wo (v:Value):Prop:=∃b1 p1 n1 c1 b2 p2 n2 c2 b3 p3 n3 c3 b p n c p' n' c' d q m e q' m' e' x y,v=.agg #[.bool b1,.slice p1 n1 c1,.bool b2,.slice p2 n2 c2,.bool b3,.slice p3 n3 c3,.bool b,.slice p n c,.slice p' n' c',.bool d,.slice q m e,.slice q' m' e',.bool x,.bool y]
theorem xr {V:View}{v:Value}{f:FW}(h:Uy V v f)(hs:f.short) :
  aa prog 30 #[v] V fun r V'=>∃w,r=.tuple #[w,.bool f.ok]/\Wo w/\(f.ok=true->RF V' w f.ln f.sp):=by
 obtain ⟨E,F,d1,G,H,d2,I,J,d3,p,n,c,K,L,M,q,m,e,N,O,b,rfl,l,o⟩:=h;refine wJ _ _ _ _ _ _ _ _ _ _ _ _ _ _ _ _ _ _ _ _ _ _ _ _ _ _ _ _ V _ fun P i=>(DW (l.le i) hs.x hs.y hs.z).mono ?_;rintro r Q s ⟨w,rfl,⟨_,_,_,_,_,_,_,_,_,_,_,_,rfl⟩,g⟩;refine ⟨_,_,_,_,_,_,_,_,_,_,_,_,_,rfl,fun R j=>(zU (o.le (i.trans (s.trans j))) hs.u hs.v hs.w hs.t).mono ?_⟩;rintro r S A ⟨w,rfl,⟨_,_,_,_,_,_,_,_,_,_,_,_,_,_,_,_,rfl⟩,k⟩;refine ⟨_,_,_,_,_,_,_,_,_,_,_,_,_,_,_,_,_,rfl,fun a T d=>⟨_,by unfold FW.ok;rw [a];rfl,⟨_,_,_,_,_,_,_,_,_,_,_,_,_,_,_,_,_,_,_,_,_,_,_,_,_,_,_,_,rfl⟩,fun h=>?_⟩,fun a U W=>⟨_,by unfold FW.ok;rw [a];rfl,⟨_,_,_,_,_,_,_,_,_,_,_,_,_,_,_,_,_,_,_,_,_,_,_,_,_,_,_,_,rfl⟩,fun h=>by unfold FW.ok at h;rw [a] at h;cases h⟩⟩;have B:okW f.c1 f.us f.vs f.c2 f.ws f.ts f.na f.nb=true:=by unfold FW.ok at h;rw [a] at h;exact h
 have k:=k B;obtain ⟨_,_,_,_,_,_,_,_,_,_,_,_,_,_,e,C,D⟩:=k;have b:=congrArg Array.toList (Value.agg.inj e);simp only [Qy2,Value.bool.injEq,Value.slice.injEq,and_true] at b;obtain ⟨rfl,⟨rfl,rfl,rfl⟩,⟨rfl,rfl,rfl⟩,rfl,⟨rfl,rfl,rfl⟩,⟨rfl,rfl,rfl⟩,rfl,rfl⟩:=b;exact ⟨_,_,_,_,_,_,_,_,_,_,_,_,_,_,_,_,_,_,_,_,_,_,_,_,_,_,rfl,(g a).le (j.trans (A.trans d)),_,_,_,_,_,_,_,_,_,_,_,_,_,_,rfl,C.le d,D.le d⟩
theorem qn.raw {V:View}{v:Value}{l:L3}{s:Sp}(h:qn V v l s)(ho:A7 l s){k:Nat}(sl:gL k l)(ss:s.sz k)(hk:k<=1000000):∃f:FW,Uy V v f/\f.ok=true/\f.ln=l/\f.sp=s/\f.short:=by
 obtain ⟨I,J,K,L,M,N,O,P,Q,R,S,T,b,p,n,c,U,W,X,d,q,m,e,Y,Z,e',rfl,u,w⟩:=h;obtain ⟨_,_,_,_,_,_,_,_,_,el,x,y,A⟩:=u;have el:=congrArg Array.toList (Value.agg.inj el);simp only [Qy2,Value.bool.injEq,Value.slice.injEq,and_true] at el;obtain ⟨rfl,⟨rfl,rfl,rfl⟩,rfl,⟨rfl,rfl,rfl⟩,rfl,rfl,rfl,rfl⟩:=el;obtain ⟨_,_,_,_,_,_,_,_,_,_,_,_,_,_,es,B,C⟩:=w;have es:=congrArg Array.toList (Value.agg.inj es);simp only [Qy2,Value.bool.injEq,Value.slice.injEq,and_true] at es;obtain ⟨rfl,⟨rfl,rfl,rfl⟩,⟨rfl,rfl,rfl⟩,rfl,⟨rfl,rfl,rfl⟩,⟨rfl,rfl,rfl⟩⟩:=es;obtain ⟨ok,can,emp⟩:=ho;obtain ⟨w1,us,g,i,D,j,E⟩:=B.raw can.1;obtain ⟨w2,ws,o,r,F,t,G⟩:=C.raw can.2;have i1:=i;have i2:=r;obtain ⟨_,_,_,_,_,_,f1,-,-⟩:=i1;obtain ⟨_,_,_,_,_,_,f2,-,-⟩:=i2;have f1:=congrArg Array.toList (Value.agg.inj f1);have f2:=congrArg Array.toList (Value.agg.inj f2);simp only [Qy2,Value.bool.injEq,Value.slice.injEq,and_true] at f1 f2;obtain ⟨rfl,-⟩:=f1;obtain ⟨rfl,-⟩:=f2;have len:∀{z:Int},Sz k (z:Rat)->(ai z.natAbs).length<=1000000:=fun h=>Qx3 (ag h.1) hk;have d1:=E k ss.1;have d2:=G k ss.2;refine ⟨⟨decide (l.1<0),ai l.1.natAbs,decide (l.2.1<0),ai l.2.1.natAbs,decide (l.2.2<0),ai l.2.2.natAbs,b,us,g,d,ws,o,s.a,s.b⟩,⟨_,_,_,_,_,_,_,_,_,_,_,_,_,_,_,_,_,_,_,_,_,rfl,⟨_,_,_,_,_,_,_,_,_,rfl,x,y,A⟩,⟨_,_,_,_,_,_,_,_,_,_,_,_,rfl,i,r⟩⟩,?_,?_,?_,⟨len sl.1,len sl.2.1,len sl.2.2,Qx3 d1.1 hk,Qx3 d1.2 hk,Qx3 d2.1 hk,Qx3 d2.2 hk⟩⟩
 ·have H:EB b us g d ws o s.a s.b=s:=by unfold EB;rw [j,t]
  unfold FW.ok okW;dsimp only;rw [vz,D,F,H,emp];show nj l&&true=true;rw [ok];rfl
 ·unfold FW.ln KM;dsimp only;rw [aE,aE,aE]
 ·unfold FW.sp EB;dsimp only;rw [j,t]
theorem DG {V:View}{v:Value}{l:L3}{s:Sp}(h:qn V v l s)(ho:A7 l s){k:Nat}(sl:gL k l)(ss:s.sz k)(hk:k<=1000000:=by omega) :
  aa prog 30 #[v] V fun r V'=>∃w,r=.tuple #[w,.bool true]/\RF V' w l s:=by
 obtain ⟨f,a,ok,b,c,d⟩:=h.raw ho sl ss hk;refine (xr a d).mono ?_;rintro r V' l ⟨w,rfl,-,g⟩;rw [ok];exact ⟨w,rfl,by rw [←b,←c];exact g ok⟩
end Go.Proofs.Tryz
namespace Go.Proofs.Tryz
open Go.Eng Go.Big
def KY (c:List Rat)(i:Nat):List Rat:=(c.getD 0 0-((1:Int):Rat))::(List.range (i-1)).map fun k=>(c.getD k 0+c.getD (k+1) 0)*((2:Int):Rat)⁻¹
def jy (c:List Rat):List Rat:=if c.length=0 then [0] else KY c c.length++[c.getD (c.length-1) 0+((1:Int):Rat)]
theorem Co (c:List Rat){i:Nat}(h:1<=i:=by omega):(KY c i).length=i:=by unfold KY;simp;omega
theorem kR {c:List Rat}{i:Nat}(h:i<c.length:=by omega):c.getD i 0=c[i]:=by rw [Qw6,Qq1 h];rfl
def eN (x:Rat):List Rat->List Rat
 | []=>[x]
 | y::r=>if y<x then y::eN x r else if y=x then y::r else x::y::r
def nr (s:Sp)(o:List Rat):Nat->List Rat
 | 0=>o
 | 1=>if s.a then o else eN s.lo o
 | _=>if s.b then (if s.a then o else eN s.lo o) else eN s.hi (if s.a then o else eN s.lo o)
def endsL (ss:List Sp):List Rat:=ss.foldl (fun o s=>nr s o 2) []
theorem B6 {x q:Rat}:∀{o:List Rat},q∈eN x o->q=x\/q∈o:=by
 intro o
 induction o with
 | nil=>intro h;simp [eN] at h;exact .inl h
 | cons y r ih=>
  unfold eN;split
  ·intro h;rcases Qq4.1 h with h|h
   ·exact .inr (by simp [h])
   ·rcases ih h with h|h
    ·exact .inl h
    ·exact .inr (by simp [h])
  ·split
   ·exact .inr
   ·intro h;rcases Qq4.1 h with h|h
    ·exact .inl h
    ·exact .inr h
theorem u_ {x:Rat}:∀{o:List Rat},(eN x o).length<=o.length+1:=by
 intro o
 induction o with
 | nil=>simp [eN]
 | cons y r ih=>
  unfold eN;split
  ·simp;omega
  ·split<;>simp
theorem G3 {s:Sp}{o:List Rat}{y:Nat}(hy:y<=2){q:Rat}(h:q∈nr s o y):q=s.lo\/q=s.hi\/q∈o:=by
 have c:q∈(if s.a then o else eN s.lo o)->q=s.lo\/q=s.hi\/q∈o:=by
  split
  ·exact fun h=>.inr (.inr h)
  ·intro h;rcases B6 h with h|h
   ·exact .inl h
   ·exact .inr (.inr h)
 have:y=0\/y=1\/y=2:=by omega
 rcases this with rfl|rfl|rfl
 ·exact .inr (.inr h)
 ·exact c h
 ·replace h:q∈(if s.b=true then (if s.a=true then o else eN s.lo o) else eN s.hi (if s.a=true then o else eN s.lo o)):=h
  by_cases d:s.b=true
  ·rw [if_pos d] at h;exact c h
  ·rw [if_neg d] at h;rcases B6 h with h|h
   ·exact .inr (.inl h)
   ·exact c h
theorem Gk {ss:List Sp}{q:Rat}(h:q∈endsL ss):∃s∈ss,q=s.lo\/q=s.hi:=by
 have:∀(ss:List Sp)(o:List Rat),q∈(ss.foldl (fun o s=>nr s o 2) o)->q∈o\/∃s∈ss,q=s.lo\/q=s.hi:=by
  intro ss
  induction ss with
  | nil=>exact fun o h=>.inl h
  | cons s r ih=>
   intro o h;rcases ih _ h with h|⟨t,a,h⟩
   ·rcases G3 (Qq3 2) h with h|h|h
    ·exact .inr ⟨s,by simp,.inl h⟩
    ·exact .inr ⟨s,by simp,.inr h⟩
    ·exact .inl h
   ·exact .inr ⟨t,by simp [a],h⟩
 rcases this ss [] h with h|h
 ·simp at h
 ·exact h
theorem cmpQ_neg {a b:Rat}:cmpQ a b<0↔a<b:=by
 rcases eK a b with ⟨h,e⟩|⟨h,e⟩|⟨h,e⟩<;>rw [e]<;>constructor<;>intro h'<;>first|exact h|omega|(exfalso;grind)
def cQ (cuts:List Rat)(i:Nat):Sp:=⟨if 0<i then cuts.getD (i-1) 0 else 0,if i<cuts.length then cuts.getD i 0 else 0,decide (i=0),decide (i=cuts.length)⟩
def vi (out:List Sp)(s:Sp):List Sp:=out.dropLast++[⟨(out.getLastD Sp.zero).lo,s.hi,(out.getLastD Sp.zero).a,s.b⟩]
def cK (cuts:List Rat)(marks:List Bool):Nat->List Sp
 | 0=>[]
 | i+1=>if marks.getD i false=true then (if 0<i/\marks.getD (i-1) false=true/\0<(cK cuts marks i).length then vi (cK cuts marks i) (cQ cuts i) else cK cuts marks i++[cQ cuts i]) else cK cuts marks i
def BS (cuts:List Rat)(marks:List Bool):List Sp:=cK cuts marks marks.length
theorem Eg {out:List Sp}{s:Sp}(h:0<out.length):(vi out s).length=out.length:=by
 unfold vi;rw [Qq5,List.length_dropLast];simp;omega
theorem Gs (cuts:List Rat)(marks:List Bool)(i:Nat):(cK cuts marks i).length<=i:=by
 induction i with
 | zero=>simp [cK]
 | succ i ih=>
  unfold cK;split
  ·split
   ·rename_i h;rw [Eg h.2.2];omega
   ·rw [Qq5];simp;omega
  ·omega
end Go.Proofs.Tryz
