import Derived.Test.YtckenacdnbolaaaGreatDoorR20
import Derived.Test.YtckenacdnbolaaaGreatDoorR18
import Derived.Test.YtckenacdnbolaaaGreatDoorR17
import Derived.Test.YtckenacdnbolaaaGreatDoorR19
import Derived.Test.YtckenacdnbolaaaGreatDoorR9
import Derived.Test.YtckenacdnbolaaaGreatDoorR5
import Derived.Test.YtckenacdnbolaaaGreatDoorR15
import Derived.Test.YtckenacdnbolaaaGreatDoorR13
import Derived.Test.YtckenacdnbolaaaGreatDoorR8
set_option linter.all false
open Go.IntKind (i64 u64 u32)
namespace Go.Proofs.Tryz
open Go.Eng Go.Big
open Go.Value renaming slice→hF,agg→dB,bool→qvQ,pointer→qvW,tuple→qvZ,int→qvK
variable{L l:L3}{V:View}{v y z:Value}{vs xs:List Value}{p p2:OA}{c c2 i n n2:Nat}{root:Int}
def sideL (m:L3)(k:Int):L3:=if k=1 then m else revL m
theorem IQ {q:Rat}{k:Int}(hk:k=1\/k=-1):(q.num.sign==k)=decide (0<(if k=1 then q else -q)):=by
 rcases dV q with ⟨h,e⟩|⟨h,e⟩|⟨h,e⟩<;>rcases hk with rfl|rfl<;>rw [e]<;>simp<;>grind
theorem IY (m:L3)(k:Int)(x y:Rat):aq (sideL m k) x y=if k=1 then aq m x y else -aq m x y:=by
 unfold sideL;split
 ·rfl
 ·exact val_rev ..
theorem IX (m l:L3)(k:Int):dotL (sideL m k) l=if k=1 then dotL m l else -dotL m l:=by
 unfold sideL;split
 ·rfl
 ·exact dot_rev ..
theorem side_cross (m l:L3)(k:Int):crossL l (sideL m k)=0↔crossL l m=0:=by
 rw [cross_dot,cross_dot,IX];split<;>grind
theorem Ss {m:L3}(k:Int)(h:dotL m l≠0):cutP (sideL m k) l=cutP m l:=by
 unfold sideL;split
 ·rfl
 ·exact cutP_rev h
def Zj (l m:L3):Bool:=decide (crossL l m=0/\aq m (eK l 0) (eN l 0)=0)
theorem tL {w:un}{l m:L3}{k:Int}(hk:k=1\/k=-1)(hl:cA V v l)(hm:cA V w m)(nz:Nz l)(bl:Bd l)(bm:Bd m) :
  aa prog 247 #[v,w,qvK .i64 k] V λr V'=>∃q n c,r=qvZ #[hF q n c,qvQ (Zj l m)]/\bI 8 oT V' q n (halfU l (sideL m k)):=by
 have i:=hl;have j:=hm;obtain ⟨_,_,_,_,_,_,_,_,_,_,_,_,rfl⟩:=bR hl;obtain ⟨_,_,_,_,_,_,_,_,_,_,_,_,rfl⟩:=bR hm;have sl:=bl.jf;have sm:=bm.jf;refine Dx V _ λV1 z=>(R_ (cA.le i z) (cA.le j z) sl sm).s ?_;rintro r V2 l2 ⟨u,rfl,q0,q1⟩;have ⟨s1,s2⟩:=MS sl sm;have s:=z.m l2;by_cases f:crossL l m=0
 ·have J:=q0 f;unfold O7 at J;subst J;refine ⟨_,_,_,_,_,_,_,_,_,_,_,_,_,_,_,rfl,λ_ V3 L=>(MD (cA.le i (s.m L)) nz bl).s ?_,λh=>by simp [f] at h⟩;rintro r V4 l4 M;have A:=M;obtain ⟨_,_,_,_,_,_,_,_,_,_,_,_,rfl,-⟩:=M;have N:=s.m (L.m l4);refine qyK ⟨rfl,λV5 B=>(F7 (cA.le j (N.m B)) (A.le B) (sm.up (K:=30000) (by omega)) (Gl bl).1 (Gl bl).2).s ?_⟩;rintro r V6 l6 rfl;have Cm:=N.m (B.m l6)
  have a:((aq m (eK l 0) (eN l 0)).num.sign==(0:Int))=Zj l m:=by
   unfold Zj;rcases dV (aq m (eK l 0) (eN l 0)) with ⟨h,e⟩|⟨h,e⟩|⟨h,e⟩<;>rw [e]<;>simp [f]<;>grind
  have b:halfU l (sideL m k)=if ((aq m (eK l 0) (eN l 0)).num.sign==k)=true then [fullSp] else []:=by
   unfold halfU;rw [if_pos ((side_cross m l k).2 f),IQ hk,IY];by_cases g:0<(if k=1 then aq m (eK l 0) (eN l 0) else -aq m (eK l 0) (eN l 0))
   ·rw [if_pos g,if_pos (decide_eq_true g)]
   ·rw [if_neg g,if_neg (by rw [decide_eq_false g];exact Qv7)]
  refine ⟨_,rfl,λh V7 l7=>tK.s ?_,λh fQ a0=>⟨_,_,_,by rw [a],?_⟩⟩
  ·rintro r V8 l8 O;have XN:=O;obtain ⟨_,_,_,_,_,_,_,_,_,_,_,_,_,_,rfl,-⟩:=O;refine ⟨_,_,_,_,_,_,_,_,_,_,_,_,_,_,_,_,rfl,λV9 l9 P d=>⟨_,_,_,by rw [a],?_⟩⟩;rw [b,if_pos h];exact bI.hU (V:=V9) d (row_one rfl (XN.le l9))
  ·rw [b,if_neg (by rw [h];exact Qv7)];exact bI.nil
 have Q:dotL m l≠0:=λh=>f (by rw [cross_dot,h];grind);have R:=q1 f;have C:=R;obtain ⟨_,_,_,_,_,_,_,_,_,_,_,_,rfl,-⟩:=R;have a:Zj l m=false:=by unfold Zj;rw [decide_eq_false λh=>f h.1]
 refine ⟨_,_,_,_,_,_,_,_,_,_,_,_,_,_,_,rfl,λh=>by simp [f] at h,λ_ fD D=>(yT (cA.le i (s.m D)) (C.le D) nz (sl.up (K:=30000) (by omega)) (s1.s (by omega)) (s2.s (by omega))).s ?_⟩;rintro r gS bS gt;have o:RQ gS r (ni l m):=gt;rw [AW nz f] at o;clear gt;have p:=o;obtain ⟨_,_,_,_,_,_,rfl⟩:=o.shape;have st:Sz 70000 (cutP m l):=(oH sl sm).s (by omega);have H9:=s.m (D.m bS);refine qyZ ⟨rfl,λj7 bU=>(dS 1 (by omega)).s ?_⟩;rintro r lB cz S;have E:=S;obtain ⟨_,_,_,_,_,_,rfl⟩:=S.shape;have F:=bU.m cz;refine qyZ ⟨rfl,λjI t=>(dG (p.le (F.m t)) (E.le t) st jx).s ?_⟩;rintro r lH T gs;have G:=gs;obtain ⟨_,_,_,_,_,_,rfl⟩:=gs.shape;have U:=H9.m (F.m (t.m T));have H:Sz 80000 (cutP m l+((1:Int):Rat)):=(st.add jx).s (by omega);refine qyZ ⟨rfl,λlC x=>(r_At (cA.le i (U.m x)) (G.le x) nz (sl.up (K:=80000) (by omega)) H).s ?_⟩;rintro r mE W X;have I:=X;obtain ⟨_,_,_,_,_,_,_,_,_,_,_,_,rfl,-⟩:=X;have Y:=U.m (x.m W);have sx:=Lc (sl.up (K:=80000) (by omega)) H;have sy:=Ld (sl.up (K:=80000) (by omega)) H;refine qyK ⟨rfl,λpf y=>(F7 (k:=10000000) (cA.le j (Y.m y)) (I.le y) (sm.up (by omega)) (sx.s (by omega)) (sy.s (by omega))).s ?_⟩;rintro r vh Z rfl;have Um:=Y.m (y.m Z)
 have ev:aq m (eK l (cutP m l+((1:Int):Rat))) (eN l (cutP m l+((1:Int):Rat)))=dotL m l:=by
  rw [tj];have hi:=Qb9 _ Q;unfold cutP;have e1:((1:Int):Rat)=1:=rfl;rw [e1];grind
 rw [ev];have Wn:=F.m (t.m (T.m (x.m (W.m (y.m Z)))))
 have b:halfU l (sideL m k)=if ((dotL m l).num.sign==k)=true then [⟨cutP m l,0,false,true⟩] else [⟨0,cutP m l,true,false⟩]:=by
  unfold halfU;rw [if_neg (λh=>f ((side_cross m l k).1 h)),IQ hk,IX,Ss k Q];by_cases g:0<(if k=1 then dotL m l else -dotL m l)
  ·rw [if_pos g,if_pos (decide_eq_true g)]
  ·rw [if_neg g,if_neg (by rw [decide_eq_false g];exact Qv7)]
 refine ⟨_,rfl,λh qB gi P d=>⟨_,_,_,by rw [a],?_⟩,λh tC gV P d=>⟨_,_,_,by rw [a],?_⟩⟩
 ·rw [b,if_pos h];exact bI.hU (V:=qB) d (row_one rfl (qyK ⟨rfl,p.le (Wn.m gi),Zl _⟩))
 ·rw [b,if_neg (by rw [h];exact Qv7)];exact bI.hU (V:=tC) d (row_one rfl (qyK ⟨rfl,Zl _,p.le (Wn.m gV)⟩))
theorem Mx {bk:Nat}{ty:TypeId}{m:Nat×Nat}{s:Sp}(hb:V.a_ bk (.cells xs.toArray ty m))(h:oT V (.agg xs.toArray) s):LQ V (some ⟨bk,0,none⟩) 1 [s]:=
 uj (bI.hU hb (row_one (by obtain ⟨_,_,_,_,_,_,_,_,_,_,_,_,_,_,e,-⟩:=uC h;rw [e];rfl) h))
def rS (V:View)(v:Value)(x:L3×Sp):Prop:=RF V v x.1 x.2
theorem rS.le {V V':ut}{x:L3×Sp}(h:rS V v x)(l:V.Le V'):rS V' v x:=RF.le h l
theorem yH {m:L3}(h:Zj l m=true)(k:Int):halfU l (sideL m k)=[]:=by
 have h:crossL l m=0/\aq m (eK l 0) (eN l 0)=0:=of_decide_eq_true h;unfold halfU;rw [if_pos ((side_cross m l k).2 h.1),IY,h.2];split<;>rw [if_neg (by grind)]
theorem Ua {m:L3}(bl:Bd l)(bm:Bd m)(k:Int):∀s∈halfU l (sideL m k),s.sz 100000:=by
 have b:Bd (sideL m k):=by unfold sideL;split;exact bm;exact bm.rev
 have st:Sz 100000 (cutP (sideL m k) l):=(oH bl.jf b.jf).s (by omega);have z:=CZ 100000;intro s a;unfold halfU at a;split at a
 ·split at a
  ·rw [Qq5.1 a];exact ⟨z,z⟩
  ·cases a
 ·split at a
  ·rw [Qq5.1 a];exact ⟨st,z⟩
  ·rw [Qq5.1 a];exact ⟨z,st⟩
theorem CN {s:Sp}(hs:s.can)(l m:L3):(combL 2 [s] (halfU l m)).length<=1:=by
 rcases vQ l m with h|⟨u,h,hu⟩
 ·rw [h,comb_nil];exact Qq4 _
 ·rw [h,tQ hs hu];split
  ·exact Qq4 _
  ·exact Qq2 _
theorem Qq (l m:L3):(halfU l m).length<=1:=by
 rcases vQ l m with h|⟨u,h,hu⟩<;>rw [h]
 ·exact Qq4 _
 ·exact Qq2 _
theorem Mr {al:pz Sp}(h:bI 8 oT V p n al)(hi:i<al.length) :
  p.isSome=true/\∃(b:md)(p1:OA)(n1 c1:Nat)(p2:OA)(n2 c2:Nat)(d:md)(p3:OA)(n3 c3:Nat)(p4:OA)(n4 c4:Nat)(a:Addr),ae p (i*8)=some a/\V.at (a.add 0) (qvQ b)/\V.at (a.add 1) (hF p1 n1 c1)/\V.at (a.add 2) (hF p2 n2 c2)/\V.at (a.add 3) (qvQ d)/\V.at (a.add 4) (hF p3 n3 c3)/\V.at (a.add 5) (hF p4 n4 c4)/\V.at (a.add 6) (qvQ al[i].a)/\V.at (a.add 7) (qvQ al[i].b) /\
   oT V (dB #[qvQ b,hF p1 n1 c1,hF p2 n2 c2,qvQ d,hF p3 n3 c3,hF p4 n4 c4,qvQ al[i].a,qvQ al[i].b]) al[i]:=by
 have ⟨j,f,xs,k,g,c⟩:=h.at_ i hi;have e:=g;obtain ⟨_,_,_,_,_,_,_,_,_,_,_,_,_,_,ex,-,-⟩:=g;have ex:=congrArg Array.toList (Value.agg.inj ex);dsimp only at ex;subst ex;refine ⟨?_,_,_,_,_,_,_,_,_,_,_,_,_,_,_,j,f,c 0 _ rfl,c 1 _ rfl,c 2 _ rfl,c 3 _ rfl,c 4 _ rfl,c 5 _ rfl,c 6 _ rfl,c 7 _ rfl,e⟩
 cases p with
 | none=>cases f
 | some a=>rfl
theorem Mw {b1:md}{p1:OA}{n1 c1:Nat}{b2:md}{b3:md}{p3:OA}{n3 c3:Nat}{b:md}{q1:OA}{m1 e1:Nat}{q2:OA}{m2 e2:Nat}{d:md}{q3:OA}{m3 e3:Nat}{q4:OA}{m4 e4:Nat}{x y:md} :
  ∀v∈([qvQ b1,hF p1 n1 c1,qvQ b2,hF p2 n2 c2,qvQ b3,hF p3 n3 c3,qvQ b,hF q1 m1 e1,hF q2 m2 e2,qvQ d,hF q3 m3 e3,hF q4 m4 e4,qvQ x,qvQ y]:pz un),v.oneCell'=true:=by
 intro v a;simp only [Qq6,Qy0,or_false] at a;rcases a with rfl|rfl|rfl|rfl|rfl|rfl|rfl|rfl|rfl|rfl|rfl|rfl|rfl|rfl<;>rfl
def xQ (l:L3)(s:Sp)(m:L3):List (L3×Sp):=(combL 2 [s] (halfU l m)).map λu=>(l,u)
theorem CH {w:un}{l m:L3}{s:Sp}(hf:RF V v l s)(hm:cA V w m)(nz:Nz l)(bl:Bd l)(bm:Bd m)(hs:s.can)(ss:s.sz 1000000) :
  aa prog 204 #[v,w] V λr V'=>∃p1 n1 c1 p2 n2 c2,r=qvZ #[hF p1 n1 c1,hF p2 n2 c2]/\bI 14 rS V' p1 n1 (xQ l s m)/\bI 14 rS V' p2 n2 (xQ l s (revL m)):=by
 have x:=hm;obtain ⟨_,_,_,_,_,_,_,_,_,_,_,_,_,_,_,_,_,_,_,_,_,_,_,_,_,_,rfl,G,hS⟩:=hf;obtain ⟨_,_,_,_,_,_,_,_,_,_,_,_,rfl⟩:=bR hm;have s1:sideL m 1=m:=rfl;have s2:sideL m (-1)=revL m:=rfl;have c:=Ua bl bm;have i:=λk=>CN hs l (sideL m k);have n:=λk=>Qq l (sideL m k);refine B4 V _ ⟨λ_=>⟨by decide,λV1 K=>(tL (l:=l) (.inl rfl) (RL.le G K) (cA.le x K) nz bl bm).s ?_⟩,λh=>by cases h⟩;rintro r V2 l2 ⟨q1,n1,c1,rfl,hH⟩;have nD:=K.m l2;refine qyQ ⟨rfl,λp V3 l3=>⟨_,_,_,_,_,_,rfl,?_,?_⟩,λp V4 H VM L=>(oM (op:=2) (la':=[s]) (lb':=halfU l (sideL m 1)) (Mx L (hS.le (nD.m H))) (uj (hH.le H λ_ _ g=>oT.le g H)) (by have:=n 1;rw [Qc2];omega) (k:=1000000) (λz d=>Qq5.1 d▸ss) (λz d=>⟨(c 1 z d).1.s (by omega),(c 1 z d).2.s (by omega)⟩) (by omega)).s ?_⟩
 ·unfold xQ;rw [←s1,yH p,comb_nil];exact bI.nil
 ·unfold xQ;rw [←s2,yH p,comb_nil];exact bI.nil
 rintro r V5 l5 ⟨p4,n4,c4,rfl,I⟩;have Un:=nD.m (H.m l5);have I:=I.lst;have la:=i 1;have a5:=I.len;generalize hA:combL 2 [s] (halfU l (sideL m 1))=A at *;refine ⟨_,_,_,rfl,λ_=>⟨λz V'=>∃j:Nat,z.1=(j:Int)/\j<=A.length/\z.2.2.2.1=0/\z.2.2.2.2.1=0/\z.2.2.2.2.2.2=[]/\GR 14 rS V' z.2.1 z.2.2.1 z.2.2.2.2.2.1 ((A.take j).map λu=>(l,u)),λz=>A.length-z.1.toNat,⟨(0,0,0,0,0,[],[]),by and_intros<;>rfl,0,rfl,Qq4 _,rfl,rfl,rfl,GR.nil⟩,?_⟩⟩;rintro ⟨zi,x1,x2,x3,x4,xs,ys⟩ V6 M ⟨j,y,wX,e3,e4,e5,q⟩;dsimp only at y e3 e4 e5 q ⊢;subst y e3 e4 e5;have C:=Un.m M;refine ⟨by trivial,λb=>?_,λb=>⟨λ_=>⟨by decide,λV7 N=>(tL (l:=l) (.inr rfl) (RL.le G (C.m N)) (cA.le x (C.m N)) nz bl bm).s ?_⟩,λh=>by cases h⟩⟩
 ·have b:(j:Int)<n4:=of_decide_eq_true b;have t:j<A.length:=by omega
  have wr:i64.wrap ((j:Int)+1)=((j+1:Nat):Int):=by rw [au (by omega)];rfl
  rw [wr,Qq0];obtain ⟨is,_,_,_,_,_,_,_,_,_,_,_,_,_,_,O,P,Q,R,S,T,U,W,X,Y,gs⟩:=Mr (I.le M λ_ _ g=>oT.le g M) t;have Z:A.take (j+1)=A.take j++[A[j]]:=(Qg8 t).symm;have lx:=q.len;rw [Qk3,Qq7] at lx;generalize A[j]=u at *;refine ⟨is,⟨by omega,by omega⟩,_,_,_,_,_,_,_,_,_,_,_,_,_,_,_,_,O,P,Q,R,S,T,U,W,X,Y,by decide,by omega,q.le,q.cap,rfl,Mw,λsp c' k1 k2=>⟨by decide,(((j+1:Nat):Int),x1+1,c',0,0,_,[]),by dsimp only;omega,by and_intros<;>rfl,j+1,rfl,t,rfl,rfl,rfl,?_⟩⟩;rw [Z,Qh8];exact q.snoc (a:=(l,u)) rfl ⟨_,_,_,_,_,_,_,_,_,_,_,_,_,_,_,_,_,_,_,_,_,_,_,_,_,_,rfl,RL.le G C,gs⟩ (by decide) k1 k2
 have b:¬(j:Int)<n4:=of_decide_eq_false b;obtain rfl:j=A.length:=by omega
 rw [Qy5] at q;rintro r V8 l8 ⟨q2,n2,c2,rfl,a1⟩;have QI:=N.m l8;refine qyQ ⟨rfl,λp V9 l9=>⟨_,_,_,_,_,_,rfl,?_,?_⟩,λp fQ e Tq D=>(oM (op:=2) (la':=[s]) (lb':=halfU l (sideL m (-1))) (Mx D (hS.le (C.m (QI.m e)))) (uj (a1.le e λ_ _ g=>oT.le g e)) (by have:=n (-1);rw [Qc2];omega) (k:=1000000) (λz d=>Qq5.1 d▸ss) (λz d=>⟨(c (-1) z d).1.s (by omega),(c (-1) z d).2.s (by omega)⟩) (by omega)).s ?_⟩
 ·unfold xQ;rw [←s1,yH p,comb_nil];exact bI.nil
 ·unfold xQ;rw [←s2,yH p,comb_nil];exact bI.nil
 rintro r fD bq ⟨a6,E,a7,rfl,J⟩;have J:=J.lst;have lb:=i (-1);have a4:=J.len;generalize hB:combL 2 [s] (halfU l (sideL m (-1)))=B at *;have o:=QI.m (e.m bq);refine ⟨_,_,_,rfl,λ_=>⟨λz V'=>∃j:Nat,z.1=(j:Int)/\j<=B.length/\GR 14 rS V' z.2.1 z.2.2.1 z.2.2.2.2.2.1 (A.map λu=>(l,u))/\GR 14 rS V' z.2.2.2.1 z.2.2.2.2.1 z.2.2.2.2.2.2 ((B.take j).map λu=>(l,u)),λz=>B.length-z.1.toNat,⟨(0,x1,x2,0,0,xs,[]),by and_intros<;>rfl,0,rfl,Qq4 _,q.s λ_ _ g=>rS.le g o,GR.nil⟩,?_⟩⟩;rintro ⟨zi,y1,y2,y3,y4,us,ws⟩ gS bS ⟨j,y,wX,F,f⟩;dsimp only at y F f ⊢;subst y;have H9:=C.m (o.m bS);refine ⟨by trivial,λb=>?_,λb=>⟨(λh=>by cases h),λ_=>⟨by decide,by decide,λj7 bU a8 a9 a2 a3=>?_⟩⟩⟩
 ·have b:(j:Int)<E:=of_decide_eq_true b;have t:j<B.length:=by omega
  have wr:i64.wrap ((j:Int)+1)=((j+1:Nat):Int):=by rw [au (by omega)];rfl
  rw [wr,Qq0];obtain ⟨is,_,_,_,_,_,_,_,_,_,_,_,_,_,_,O,P,Q,R,S,T,U,W,X,Y,gs⟩:=Mr (J.le bS λ_ _ g=>oT.le g bS) t;have Z:B.take (j+1)=B.take j++[B[j]]:=(Qg8 t).symm;have lx:=f.len;rw [Qk3,Qq7] at lx;generalize B[j]=u at *;refine ⟨is,⟨by omega,by omega⟩,_,_,_,_,_,_,_,_,_,_,_,_,_,_,_,_,O,P,Q,R,S,T,U,W,X,Y,by decide,by omega,f.le,f.cap,rfl,Mw,λsp c' k1 k2=>⟨by decide,(((j+1:Nat):Int),y1,y2,y3+1,c',us,_),by dsimp only;omega,by and_intros<;>rfl,j+1,rfl,t,F,?_⟩⟩;rw [Z,Qh8];exact f.snoc (a:=(l,u)) rfl ⟨_,_,_,_,_,_,_,_,_,_,_,_,_,_,_,_,_,_,_,_,_,_,_,_,_,_,rfl,RL.le G H9,gs⟩ (by decide) k1 k2
 ·have b:¬(j:Int)<E:=of_decide_eq_false b;obtain rfl:j=B.length:=by omega
  rw [Qy5] at f;have e1:=F.len;have e2:=f.len;have f1:=F.le;have f2:=f.le;have g1:xQ l s m=A.map λu=>(l,u):=by unfold xQ;rw [←hA];rfl
  have g2:xQ l s (revL m)=B.map λu=>(l,u):=by unfold xQ;rw [←hB];rfl
  rw [g1,g2];subst e1 e2;exact qyW ⟨rfl,bI.bJ a2 (F.row.le λ_ _ g=>rS.le g bU) (by decide) f1,bI.bJ a3 (f.row.le λ_ _ g=>rS.le g bU) (by decide) f2⟩
def Nb (l:List Rat):List Rat:=l.foldl (λo x=>dz x o) []
theorem Nc (l:pz Rat):asc (Nb l)/\∀x,x∈Nb l↔x∈l:=by
 have:∀(l o:pz Rat),asc o->asc (l.foldl (λo x=>dz x o) o)/\∀x,x∈l.foldl (λo x=>dz x o) o↔x∈o\/x∈l:=by
  intro l
  induction l<;>grind [H3,An]
 have ⟨a,b⟩:=this l [] List.Pairwise.nil;grind [Nb]
theorem NW {m:L3}:∀u∈halfU l m,u.good:=λu hu=>by
 unfold halfU at hu;split at hu
 ·grind [fh]
 ·split at hu
  ·rw [Qq5.1 hu];exact ⟨⟨(λh=>by cases h),λ_=>rfl⟩,rfl⟩
  ·rw [Qq5.1 hu];exact ⟨⟨λ_=>rfl,(λh=>by cases h)⟩,rfl⟩
theorem Rw (l m:L3):combL 2 [fullSp] (halfU l m)=halfU l m:=by grind [vQ,comb_nil,AQ,NW]
theorem Sv {m:L3}{s:Sp}(hs:s.good):xQ l s m=oO l s m:=by
 have h:=OG (l:=l) (m:=m) hs;rw [Rw] at h;unfold xQ oO;rw [h];split<;>rfl
theorem YL {ws:pz un}{m:pz (L3×Sp)}(h:Row 17 oS V ws m)(hi:i<m.length) :
  ∃(x1 x2:Int)(p:OA)(y1 y2:Int)(q:OA)(z1 z2:Int)(r:OA)(u1 u2:Int)(t:OA)(w1 w2:Int)(o:OA),((i*17+0)+9<=ws.length/\(ws.drop (i*17+0)).take 9=[qvK .i64 x1,qvK .i64 x2,qvW p,qvK .i64 y1,qvK .i64 y2,qvW q,qvK .i64 z1,qvK .i64 z2,qvW r]) /\
   ((i*17+9)+8<=ws.length/\(ws.drop (i*17+9)).take 8=[qvK .i64 u1,qvK .i64 u2,qvW t,qvK .i64 w1,qvK .i64 w2,qvW o,qvQ m[i].2.a,qvQ m[i].2.b]) /\
   o_ V (dB #[qvK .i64 x1,qvK .i64 x2,qvW p,qvK .i64 y1,qvK .i64 y2,qvW q,qvK .i64 z1,qvK .i64 z2,qvW r]) m[i].1/\eC V (dB #[qvK .i64 u1,qvK .i64 u2,qvW t,qvK .i64 w1,qvK .i64 w2,qvW o,qvQ m[i].2.a,qvQ m[i].2.b]) m[i].2:=by
 obtain ⟨xs,-,c,k,f⟩:=h.get (d:=dCF) hi (by decide);have e:m.getD i dCF=m[i]:=by rw [Qx8,Qq1 hi];rfl
 rw [e] at c;obtain ⟨_,_,_,_,_,_,_,_,_,_,_,_,_,_,_,ex,g,j⟩:=c;have ex:=congrArg Array.toList (Value.agg.inj ex);subst ex;refine ⟨_,_,_,_,_,_,_,_,_,_,_,_,_,_,_,⟨by omega,?_⟩,⟨by omega,?_⟩,g,j⟩
 ·have:=congrArg (List.take 9) f;rw [Wk6] at this;exact this
 ·have:=congrArg (List.drop 9) f;rw [List.drop_take,Qh5] at this;exact this
theorem U5 {V:ut}{x:Sp}(h:eC V (.agg xs.toArray) x):∀v∈xs,v.oneCell'=true:=by
 obtain ⟨_,_,_,_,_,_,ex,-,-⟩:=h;have ex:=congrArg Array.toList (Value.agg.inj ex);subst ex;intro v a;simp only [Qq6,Qy0,or_false] at a;rcases a with rfl|rfl|rfl|rfl|rfl|rfl|rfl|rfl<;>rfl
theorem U3 {fs:pz (L3×Sp)}(h:bI 17 oS V p n fs):JQ V p n fs:=⟨h.len,λi a=>by
 obtain ⟨b,c,xs,-,d,e⟩:=h.at_ i a;exact ⟨b,c,xs,d,e⟩⟩
theorem Pl (l:pz Rat):(Nb l).length<=l.length:=by
 have:∀(l o:pz Rat),(l.foldl (λo x=>dz x o) o).length<=o.length+l.length:=by
  intro l
  induction l with
  | nil=>exact λo=>Qq2 _
  | cons y r ih=>intro o;have a:=ih (dz y o);have b:=@mV y o;rw [Qd7,Qw9];omega
 have:=this l [];simpa [Nb] using this
theorem gU {l:pz Nd}(hb:∀x∈l,Bd x.ln)(h:AT V v root l)(hy:mc V 0 y)(hz:mc V 1 z) :
  aa prog 38 #[v] V λr V'=>(xf l root=none->r=qvZ #[qvW none,y])/\∀t,xf l root=some t->t.depth<=1024->∃q,r=qvZ #[qvW q,.nilIface]/\RT V' q t:=by
 have s:=h;obtain ⟨q,n,c,rfl,-⟩:=h;refine wh V _ λC i=>(Nq hb (s.le i)).s ?_;rintro r V2 u ⟨a,rfl,j⟩;have m:=i.m u;refine ⟨_,_,rfl,λg=>⟨y,⟨_,rfl,hy.le m⟩,λD E=>?_⟩,λg F o=>?_⟩
 ·have g:xf l root=none:=by cases e:xf l root with
   | none=>rfl
   | some t=>rw [e] at g;cases g
  exact ⟨λ_=>rfl,λt b=>by rw [g] at b;cases b⟩
 ·cases e:xf l root with
  | none=>rw [e] at g;cases g
  | some t=>
   have G:=Ro e;refine (pE t ((j t e).le o) (by omega)).s ?_;rintro r H w rfl;have p:=o.m w;refine ⟨_,rfl,λd=>⟨z,⟨_,rfl,hz.le (m.m p)⟩,λI J=>⟨(λk=>by cases k),λA b f=>?_⟩⟩,λd K B=>⟨(λk=>by cases k),λA b f=>?_⟩⟩
   ·cases b;have d:=of_decide_eq_true d;omega
   ·cases b;exact ⟨_,rfl,(j t e).le (p.m B)⟩
theorem Xk {S:pz L3}{t:Tr}(bl:Bd L)(ht:t.eU λl=>Bd l/\l∈S)(hs:S.length<=24)(hb:∀l∈S,Bd l):LO L (Nb (S.map λm=>cutP m L)) t:=by
 have ⟨b,a⟩:=Nc (S.map λm=>cutP m L);refine ⟨(PS (ht.imp λ_ h=>h.2)).imp λm h c=>(a _).2 (h c),b,?_,λx d=>?_⟩
 ·have:=Pl (S.map λm=>cutP m L);rw [Qk3] at this;omega
 ·obtain ⟨m,hm,rfl⟩:=Qz0.1 ((a x).1 d);exact (oH bl.jf (hb m hm).jf).s (by omega)
theorem E2 {t:Tr}{P:pz Rat}(hc:LO L P t):wb (xC L t)/\(∀s∈xC L t,s.sz 1000000)/\(xC L t).length<=49:=by
 have r:wb (xC L t):=comb_reg _ _ _;refine ⟨r,zU hc.sz λs a=>⟨r.1 s a,YA hc.Z9 s a⟩,?_⟩;have:=Hx 3 (mW L true t) (mW L false t);obtain ⟨-,-,f1,-⟩:=ug hc true;obtain ⟨-,-,f2,-⟩:=ug hc false;show (combL 3 (mW L true t) (mW L false t)).length<=49;omega
theorem Cu {w:un}{l:pz Nd}(hb:∀x∈l,Bd x.ln)(h:AT V v root l){t:Tr}(ht:xf l root=some t)(hd:t.depth<=1024)(ha:t.eU Bd)(hl:RL V w L.1 L.2.1 L.2.2)(ok:cX L=true)(bl:Bd L){P:pz Rat}(hc:LO L P t)(so:∀i,i<=48->pe i)(hy:mc V 0 y)(hz:mc V 1 z) :
  aa prog 11 #[v,w] V λr V'=>∃p n c,r=qvZ #[hF p n c,.nilIface]/\bI 8 JJ V' p n (xC L t):=by
 have D:=h;have b:=hl;obtain ⟨q,n,c,rfl,-⟩:=h;obtain ⟨_,_,_,_,_,_,_,_,_,_,_,_,rfl⟩:=zd hl;refine qm V _ λO f=>(Nk (b.le f) ok bl.jf).s ?_;rintro r V2 E ⟨u,rfl,j⟩;have d:=j;obtain ⟨_,_,_,_,_,_,_,_,_,rfl,-,-,-⟩:=j;have e:=f.m E;refine ⟨_,_,_,_,_,_,_,_,_,_,rfl,(λh=>nomatch h),λ_ Q a=>(gU hb (D.le (e.m a)) (hy.le (e.m a)) (hz.le (e.m a))).s ?_⟩;rintro r R F ⟨-,g⟩;obtain ⟨p,rfl,gt⟩:=g t ht hd;refine ⟨p,.nilIface,rfl,.inl rfl,(λh=>nomatch h),λ_ S m=>(Hh (gt.le m) ha (d.le (a.m (F.m m))) bl hc so).s ?_⟩;rintro r T U ⟨G,H,I,rfl,J⟩;have ⟨W,s1,K⟩:=E2 hc;refine ⟨G,H,I,rfl,λX o=>(Nm (J.le o λ_ _ k=>eC.le k o) (by omega) s1).s ?_⟩;rintro r Y M ⟨s,A,B,rfl,N⟩;exact ⟨s,A,B,rfl,λZ C=>⟨s,A,B,rfl,N.le C λ_ _ k=>JJ.le k C⟩⟩
def wT (t:Tr)(L:L3):List (L3×Sp):=(xC L t).map λs=>(L,s)
def Mg (t:Tr)(D:List L3):List (L3×Sp):=D.flatMap λl=>wT t l++wT t (revL l)
def JP (fs F:List (L3×Sp)):Prop:=∀{V:View} {p:OA} {n c:Nat},bI 17 oS V p n fs->(fs=[]->p=none)->aa prog 126 #[.slice p n c] V λr V'=>∃q m e,r=.slice q m e/\bI 17 oS V' q m F
def Tg (V:View)(n c:Nat)(vs:List Value)(l:List (L3×Sp)):Prop:=GR 17 oS V n c vs l/\(l=[]->c=0)
theorem Tg.le {V V':ut}{l:pz (L3×Sp)}(h:Tg V n c vs l)(g:V.Le V'):Tg V' n c vs l:=⟨h.1.s λ_ _ k=>GU.le k g,h.2⟩
set_option maxHeartbeats 4000000 in
theorem zG {q:OA}{t:Tr}(h:RT V q t)(ha:t.eU Bd)(hs:t.size<50)(hc:∀l∈eF t.n_,∃P P',LO l P t/\LO (revL l) P' t)(so:∀i,i<=48->pe i)(sl:EU t.n_.length)(cl:LN t.n_.length){F:pz (L3×Sp)}(hJ:JP (Mg t (eF t.n_)) F) :
  aa prog 62 #[qvW q] V λr V'=>∃p n c,r=hF p n c/\bI 17 oS V' p n F:=by
 refine uU V _ λV1 l1=>(Hg (h.le l1) ha hs sl cl).s ?_;rintro r V2 l2 ⟨p,n,c,m,rfl,gD,sD⟩;rw [QR sD] at gD;have b5:(eF t.n_).length<=50:=Qw8 (D8 _) (by rw [qM];omega);generalize eF t.n_=D at *;obtain rfl:=gD.len;have nD:=l1.m l2
 have Fy:∀l∈D,(wT t l).length<=49/\(wT t (revL l)).length<=49:=λl R=>by
  have ⟨P,P',c1,c2⟩:=hc l R;unfold wT;rw [Qk3,Qk3];exact ⟨(E2 c1).2.2,(E2 c2).2.2⟩
 have M:∀j,(Mg t (D.take j)).length<=98*50:=λj=>by
  have:∀E:pz L3,(∀l∈E,l∈D)->(Mg t E).length<=98*E.length:=λE hE=>by
   induction E with
   | nil=>exact Qq2 _
   | cons l E ih=>
    have h1:=ih λx hx=>hE x (Qq8 _ hx);have ⟨f1,f2⟩:=Fy l (hE l (Qw6 ..));unfold Mg at *;rw [Qy2,Qq3,Qq3,Qw9];omega
  have h1:=this (D.take j) λl R=>Wq2 _ _ R;rw [Qq7] at h1;omega
 refine ⟨p,_,c,rfl,λz V'=>∃j:Nat,z.2.2.2=(j:Int)/\j<=D.length/\Tg V' z.1 z.2.1 z.2.2.1 (Mg t (D.take j)),λz=>D.length-z.2.2.2.toNat,⟨(0,0,[],0),by and_intros<;>rfl,0,rfl,Qq4 _,GR.nil,λ_=>rfl⟩,?_⟩;rintro ⟨z1,z2,vs,z4⟩ V3 l3 ⟨j,N,wX,O⟩;dsimp only at N O;subst N;dsimp only;rw [Qq0];have Ar:=nD.m l3;refine ⟨rfl,λA=>?_,λA fQ b0 bk hb=>?_⟩;rotate_left
 ·have A:¬(j:Int)<D.length:=of_decide_eq_false A;obtain rfl:j=D.length:=by omega
  rw [Qy5] at O;obtain ⟨O,h0⟩:=O;obtain rfl:=O.len;refine (hJ (bI.bJ hb (O.row.le λ_ _ g=>GU.le g b0) (by decide) O.le) λe=>by rw [h0 e];rfl).s ?_;rintro r fD bq ⟨q',m',e',rfl,g⟩;exact ⟨q',m',e',rfl,λ_ gS bS=>⟨q',m',e',rfl,g.le bS λ_ _ g=>GU.le g bS⟩⟩
 have A:(j:Int)<D.length:=of_decide_eq_true A;have hi:j<D.length:=by omega
 have w:i64.wrap ((j:Int)+1)=((j+1:Nat):Int):=by rw [au (by omega)];rfl
 rw [w];have ⟨ps,S,T,U,W,X,Y,v,y,Z,a,b1,a0,a1,a2,a3,a4,a5,a6,a7,a8,gl⟩:=Uu (gD.le l3 λ_ _ k=>nF.le k l3) hi;have R:=Qq9 hi
 have et:Mg t (D.take (j+1))=Mg t (D.take j)++(wT t D[j]++wT t (revL D[j])):=by
  unfold Mg;rw [Qz9,Qq1 hi];show List.flatMap _ (_++[D[j]])=_;rw [Qm8,Qy2,Wz3,Qx3]
 have ⟨P,P',c1,c2⟩:=hc _ R;have ⟨f1,f2⟩:=Fy _ R;have fj:=M j;have b2:=M (j+1);rw [et] at b2;generalize D[j]=L at *;obtain ⟨gl,bl⟩:=gl;have gl:o_ V3 _ L:=gl;refine ⟨ps,⟨by omega,by omega⟩,S,T,U,W,X,Y,v,y,Z,a,b1,a0,a1,a2,a3,a4,a5,a6,a7,a8,λV4 l4=>(kq (gl.le l4) bl.jf).s ?_⟩;rintro r V5 l5 gr;have Ai:o_ V5 r (revL L):=gr;obtain ⟨s1,s2,s3,s4,s5,s6,s7,s8,s9,rfl,-,-,-⟩:=gr;have yN:=l4.m l5
 refine ⟨s1,s2,s3,s4,s5,s6,s7,s8,s9,rfl,λz V'=>∃i:Nat,z.2.2.2.1=(i:Int)/\i<=2/\z.2.2.2.2=[qvK .i64 S,qvK .i64 T,qvW U,qvK .i64 W,qvK .i64 X,qvW Y,qvK .i64 v,qvK .i64 y,qvW Z,qvK .i64 s1,qvK .i64 s2,qvW s3,qvK .i64 s4,qvK .i64 s5,qvW s6,qvK .i64 s7,qvK .i64 s8,qvW s9]/\V5.Le V'/\Tg V' z.1 z.2.1 z.2.2.1 (Mg t (D.take j)++([L,revL L].take i).flatMap (wT t)),λz=>2-z.2.2.2.1.toNat,
  ⟨(z1,z2,vs,0,_),by and_intros<;>rfl,0,rfl,by omega,rfl,View.Le.refl _,by show Tg V5 z1 z2 vs (_++[]);rw [Qx3];exact O.le yN⟩,?_⟩
 rintro ⟨u1,u2,us,u4,lits⟩ V6 l6 ⟨i,N,Ta,e5,N9,K⟩;dsimp only at N e5 K;subst N e5;dsimp only;rw [Qq0];refine ⟨rfl,λf=>?_,λf=>?_⟩;rotate_left
 ·have f:¬(i:Int)<2:=of_decide_eq_false f;obtain rfl:i=2:=by omega
  have e:([L,revL L].take 2).flatMap (wT t)=wT t L++wT t (revL L):=by
   show wT t L++(wT t (revL L)++[])=_;rw [Qx3]
  rw [e,←et] at K;exact ⟨(u1,u2,us,((j+1:Nat):Int)),by dsimp only;omega,by and_intros<;>rfl,j+1,rfl,hi,K⟩
 have f:(i:Int)<2:=of_decide_eq_true f;have wi:i64.wrap ((i:Int)+1)=((i+1:Nat):Int):=by rw [au (by omega)];rfl
 have b3:∃(YV Tf:Int)(B:OA)(C G:Int)(H:OA)(SS SU:Int)(I:OA)(d:L3),((0+i*9)+9<=([qvK .i64 S,qvK .i64 T,qvW U,qvK .i64 W,qvK .i64 X,qvW Y,qvK .i64 v,qvK .i64 y,qvW Z,qvK .i64 s1,qvK .i64 s2,qvW s3,qvK .i64 s4,qvK .i64 s5,qvW s6,qvK .i64 s7,qvK .i64 s8,qvW s9]:pz un).length/\(([qvK .i64 S,qvK .i64 T,qvW U,qvK .i64 W,qvK .i64 X,qvW Y,qvK .i64 v,qvK .i64 y,qvW Z,qvK .i64 s1,qvK .i64 s2,qvW s3,qvK .i64 s4,qvK .i64 s5,qvW s6,qvK .i64 s7,qvK .i64 s8,qvW s9]:pz un).drop (0+i*9)).take 9=[qvK .i64 YV,qvK .i64 Tf,qvW B,qvK .i64 C,qvK .i64 G,qvW H,qvK .i64 SS,qvK .i64 SU,qvW I]) /\
   o_ V6 (dB #[qvK .i64 YV,qvK .i64 Tf,qvW B,qvK .i64 C,qvK .i64 G,qvW H,qvK .i64 SS,qvK .i64 SU,qvW I]) d/\Bd d/\(∃P,LO d P t)/\([L,revL L].take (i+1)).flatMap (wT t)=([L,revL L].take i).flatMap (wT t)++wT t d/\(([L,revL L].take i).flatMap (wT t)).length<=49:=by
  rcases (show i=0\/i=1 by omega) with rfl|rfl
  ·exact ⟨S,T,U,W,X,Y,v,y,Z,L,⟨by show 0+0*9+9<=18;omega,rfl⟩,gl.le (yN.m N9),bl,⟨P,c1⟩,by show wT t L++[]=[]++wT t L;rw [Qx3];rfl,Qq4 _⟩
  ·exact ⟨s1,s2,s3,s4,s5,s6,s7,s8,s9,revL L,⟨by show 0+1*9+9<=18;omega,rfl⟩,Ai.le N9,bl.rev,⟨P',c2⟩,by show wT t L++(wT t (revL L)++[])=(wT t L++[])++wT t (revL L);rw [Qx3,Qx3],by show (wT t L++[]).length<=49;rw [Qx3];exact f1⟩
 obtain ⟨YV,Tf,B,C,G,H,SS,SU,I,d,a9,gL,bL,⟨PL,cL⟩,eT,fT⟩:=b3;have Cm:=Ar.m (yN.m N9);refine ⟨⟨by omega,by omega⟩,YV,Tf,B,C,G,H,SS,SU,I,a9,λV7 l7=>(Hh (h.le (Cm.m l7)) ha (gL.le l7) bL cL so).s ?_⟩;rintro r V8 l8 ⟨p8,n8,c8,rfl,g8⟩;obtain rfl:=g8.len;have QI:=l7.m l8;have b6:=(E2 cL).2.2
 refine ⟨p8,_,c8,rfl,λz V'=>∃k:Nat,z.2.2.2.1=(k:Int)/\k<=(xC d t).length/\z.2.2.2.2=[qvK .i64 S,qvK .i64 T,qvW U,qvK .i64 W,qvK .i64 X,qvW Y,qvK .i64 v,qvK .i64 y,qvW Z,qvK .i64 s1,qvK .i64 s2,qvW s3,qvK .i64 s4,qvK .i64 s5,qvW s6,qvK .i64 s7,qvK .i64 s8,qvW s9]/\V8.Le V'/\Tg V' z.1 z.2.1 z.2.2.1 ((Mg t (D.take j)++([L,revL L].take i).flatMap (wT t))++((xC d t).take k).map λs=>(d,s)),λz=>(xC d t).length-z.2.2.2.1.toNat,
  ⟨(u1,u2,us,0,_),by and_intros<;>rfl,0,rfl,Qq4 _,rfl,View.Le.refl _,by show Tg V8 u1 u2 us (_++[]);rw [Qx3];exact K.le QI⟩,?_⟩
 rintro ⟨w1,w2,ws,w4,lits⟩ V9 l9 ⟨k,N,b7,e5,J,Q⟩;dsimp only at N e5 Q;subst N e5;dsimp only;rw [Qq0];refine ⟨rfl,λo=>?_,λo=>?_⟩;rotate_left
 ·have o:¬(k:Int)<(xC d t).length:=of_decide_eq_false o;obtain rfl:k=(xC d t).length:=by omega
  rw [Qy5] at Q;refine ⟨(w1,w2,ws,((i+1:Nat):Int),_),by dsimp only;omega,by and_intros<;>first|rfl|exact wi,i+1,rfl,by omega,rfl,N9.m (QI.m J),?_⟩;show Tg V9 w1 w2 ws _;rw [eT,←Qy6];exact Q
 have o:(k:Int)<(xC d t).length:=of_decide_eq_true o;have hk:k<(xC d t).length:=by omega
 have wk:i64.wrap ((k:Int)+1)=((k+1:Nat):Int):=by rw [au (by omega)];rfl
 obtain ⟨ad,hd,xs,-,hq,u⟩:=(g8.le J λ_ _ g=>eC.le g J).at_ k hk;have b4:=hq;obtain ⟨v1,v2,v3,v4,v5,v6,ex,-,-⟩:=hq;have ex:=congrArg Array.toList (Value.agg.inj ex);dsimp only at ex;subst ex;have zl:=Q.1.len;rw [Qq3,Qq3,Qk3,Qq7] at zl
 have ek:(((xC d t).take (k+1)).map λs=>(d,s))=(((xC d t).take k).map λs=>(d,s))++[(d,(xC d t)[k])]:=by
  rw [Qz9,Qq1 hk,Qh8];rfl
 have rf:oS V9 (dB #[qvK .i64 YV,qvK .i64 Tf,qvW B,qvK .i64 C,qvK .i64 G,qvW H,qvK .i64 SS,qvK .i64 SU,qvW I,qvK .i64 v1,qvK .i64 v2,qvW v3,qvK .i64 v4,qvK .i64 v5,qvW v6,qvQ (xC d t)[k].a,qvQ (xC d t)[k].b]) (d,(xC d t)[k]):=⟨_,_,_,_,_,_,_,_,_,_,_,_,_,_,_,rfl,gL.le (QI.m J),b4⟩;refine ⟨aX hd,⟨by omega,by omega⟩,v1,v2,v3,v4,v5,v6,_,_,ad,hd,u 0 _ rfl,u 1 _ rfl,u 2 _ rfl,u 3 _ rfl,u 4 _ rfl,u 5 _ rfl,u 6 _ rfl,u 7 _ rfl,by omega,Q.1.le,Q.1.cap,rfl,one17,λsp c' h1 h2=>⟨(w1+1,c',_,((k+1:Nat):Int),_),by dsimp only;omega,by and_intros<;>first|rfl|exact wk,k+1,rfl,hk,rfl,J,?_,λe=>?_⟩⟩
 ·show GR 17 oS V9 _ _ _ _;rw [ek,←Qy6];exact Q.1.snoc rfl rf (by decide) h1 h2
 ·rw [ek,←Qy6] at e;simp at e
theorem pD {l:pz Nd}(hb:∀x∈l,Bd x.ln)(h:AT V v root l){t:Tr}(ht:xf l root=some t)(hd:t.depth<=1024)(ha:t.eU Bd)(hs:t.size<50)(hc:∀l∈eF t.n_,∃P P',LO l P t/\LO (revL l) P' t)(so:∀i,i<=48->pe i)(sl:EU t.n_.length)(cl:LN t.n_.length){F:pz (L3×Sp)}(hJ:JP (Mg t (eF t.n_)) F)(Fy:F.length<=1000)(sz:∀f∈F,lA 1000000 f.1/\f.2.sz 1000000)(hy:mc V 0 y)(hz:mc V 1 z) :
  aa prog 20 #[v] V λr V'=>∃p n c,r=qvZ #[hF p n c,.nilIface]/\O8 V' p n F:=by
 have k:=h;obtain ⟨q,n,c,rfl,-⟩:=h;refine iP V _ λC a=>(gU hb (k.le a) (hy.le a) (hz.le a)).s ?_;rintro r V2 D ⟨-,g⟩;obtain ⟨p,rfl,gt⟩:=g t ht hd;refine ⟨p,.nilIface,rfl,.inl rfl,(λh=>nomatch h),λ_ E m=>(zG (gt.le m) ha hs hc so sl cl hJ).s ?_⟩;rintro r G H ⟨o,s,u,rfl,w⟩;refine ⟨o,s,u,rfl,λI b=>(J4 (U3 (w.le b λ_ _ g=>GU.le g b)) Fy sz).s ?_⟩;rintro r J K ⟨d,e,j,rfl,A⟩;exact ⟨d,e,j,rfl,λL B=>⟨d,e,j,rfl,A.le B⟩⟩
theorem Cw {V:ut}{lb:Nat}(hw:V.w.heap[lb]?=some (.cells vs.toArray 142 (0,0)))(hx:V.X lb) :
  aa prog 267 #[hF (some ⟨lb,0,none⟩) n c,qvK .i64 0,qvK .i64 1,.func (.func 180) #[] #[]] V λr V'=>r=qvZ #[]/\V'.w.heap[lb]?=some (.cells vs.toArray 142 (0,0)):=by
 refine iL lb n c vs 0 1 V _ hw hx ⟨λz _=>z=(1,vs),λ_=>0,⟨(1,vs),by and_intros<;>first|rfl|exact au (by omega),rfl⟩,?_⟩;rintro z b d rfl;exact ⟨rfl,λh=>absurd (of_decide_eq_true h) (show ¬(1:Int)<1 by decide),λ_ V2 e a=>⟨rfl,a⟩⟩
theorem Kj {V:ut}{lb:Nat}(hw:V.w.heap[lb]?=some (.cells vs.toArray 142 (0,0)))(hx:V.X lb) :
  aa prog 232 #[hF (some ⟨lb,0,none⟩) 1 c,qvK .i64 1,.func (.func 180) #[] #[]] V λr V'=>r=qvZ #[]/\V'.w.heap[lb]?=some (.cells vs.toArray 142 (0,0)):=by
 refine lF lb 1 c vs 1 V _ hw hx ⟨λz _=>z=(0,20,vs),λ_=>0,⟨(0,20,vs),by and_intros<;>rfl,rfl⟩,?_⟩;rintro z i j rfl;dsimp only;refine ⟨rfl,λa=>absurd (of_decide_eq_true a) (by decide),λ_ d k e f g=>(Cw (V:=d.ar [e]) f ⟨by simp,g⟩).s ?_⟩;rintro r l m ⟨rfl,b⟩;refine ⟨rfl,vs,b,λz _=>z=(20,vs),λ_=>0,⟨(20,vs),by and_intros<;>rfl,rfl⟩,?_⟩;rintro z n o rfl;dsimp only;exact ⟨rfl,λa=>absurd (of_decide_eq_true a) (by decide),λ_ p q h=>⟨rfl,h⟩⟩
theorem J3 {V:ut}{lb c:Nat}{vs:pz un}(hw:V.w.heap[lb]?=some (.cells vs.toArray 142 (0,0)))(hx:V.X lb) :
  aa prog 179 #[hF (some ⟨lb,0,none⟩) 1 c,.func (.func 180) #[] #[]] V λr V'=>r=qvZ #[]/\V'.w.heap[lb]?=some (.cells vs.toArray 142 (0,0)):=by
 refine lq lb 1 c vs V _ hw hx λb h d e f=>(Kj (V:=b.ar [d]) e ⟨by simp,f⟩).s ?_;rintro r V2 i ⟨rfl,g⟩;exact ⟨rfl,vs,g,λj k a=>⟨rfl,a⟩⟩
theorem D6:combL 1 [bH] []=[bH]:=by
 refine reg_eq (endsL ([bH]++[])) (comb_reg ..) ⟨λs h=>by rw [Qq5.1 h];exact nZ,Qd2 _ _⟩ λt a=>?_;rw [comb_inB 1 _ _ a];simp [opB,inB]
set_option maxHeartbeats 1000000 in
theorem J0 (hL:lA 10000 L)(h:bI 17 oS V p n [(L,bH)]) :
  aa prog 126 #[hF p n c] V λr V'=>∃q m e,r=hF q m e/\bI 17 oS V' q m [(L,bH)]:=by
 obtain rfl:=h.len;refine BE V _ λV1 l1=>(PB (h.le l1 λ_ _ g=>GU.le g l1) (by simp) (λh=>by cases h)).s ?_;rintro r V2-⟨U,vs,a1,a2,e,rfl,hle,ve,vf,row,lW⟩;refine ⟨U,vs,a1,λh=>.inl (a2 h),none,_,e,rfl,?_⟩;have t:Row 17 oS (V2.shut.bg (vs≠[]) U) vs [(L,bH)]:=row.le λ_ _ g=>GU.le g λb o h=>h;clear a1 a2 row lW;generalize V2.shut.bg (vs≠[]) U=W at t ⊢;have y:vs≠[]:=vf.2 (by simp);have hle:1<=e:=hle;refine ⟨λws V'=>Row 17 oS V' ws [(L,bH)],⟨λh=>absurd h y,λ_ V5 l5 I e1 e2=>?_⟩,?_⟩
 ·have X:e≠0:=λh=>y (ve.2 h);have Qt:∀b,mA b e=some ⟨b,0,none⟩:=λb=>by unfold mA;rw [if_neg X]
  rw [Qt];refine (J3 (V:=V5.ar [vb vs V5.w.heap.size I]) (lb:=I) (vs:=vs) (e1 y) ⟨by simp [rM y],e2 y⟩).s ?_;rintro r V6 l6 ⟨rfl,e3⟩;exact ⟨rfl,y,vs,y,e3,vs,by and_intros<;>rfl,t.le λ_ _ g=>GU.le g λb o h=>l6 b o (l5 b o h)⟩
 rintro ws V7 l7 F;have one:([(L,bH)]:pz (L3×Sp)).length=1:=rfl;rw [one];refine ⟨rfl,λz V'=>∃j:Nat,z.2.2.2=(j:Int)/\j<=1/\GR 17 oS V' z.1 z.2.1 z.2.2.1 ([(L,bH)].take j),λz=>1-z.2.2.2.toNat,⟨(0,0,[],0),by and_intros<;>rfl,0,rfl,Qq4 _,GR.nil⟩,?_⟩;rintro ⟨n1,c1,os,i1⟩ V8 l8 ⟨j,ej,wX,D⟩;dsimp only at ej D;subst ej;refine ⟨rfl,λd=>?_,λd lH cq I A=>?_⟩;rotate_left
 ·have d:¬(j:Int)<(1:Nat):=of_decide_eq_false d;obtain rfl:j=1:=by omega
  have:=bI.bJ A (D.row.le λ_ _ g=>GU.le g cq) (by decide) (by rw [←D.len];exact D.le);rw [←D.len] at this;exact ⟨_,_,_,rfl,this⟩
 have d:(j:Int)<(1:Nat):=of_decide_eq_true d;obtain rfl:j=0:=by omega
 dsimp only;have Y:V7.Le V8:=l8;refine ⟨λz V'=>∃k:Nat,z.2.2.2=(k:Int)/\k<=1/\GR 8 eC V' z.1 z.2.1 z.2.2.1 ([bH].take k),λz=>1-z.2.2.2.toNat,⟨(0,0,[],((0:Nat):Int)),by and_intros<;>rfl,0,rfl,Qq4 _,GR.nil⟩,?_⟩;rintro ⟨n2,c2,us,i2⟩ V9 l9 ⟨k,ek,a0,f⟩;dsimp only at ek f;subst ek;have Z:Row 17 oS V9 ws [(L,bH)]:=F.le λ_ _ g=>GU.le g (Y.m l9);obtain ⟨K,M,N,O,P,Q,R,S,T,d1,d2,d3,d4,d5,d6,jl,kl,jr,kr⟩:=YL Z (i:=0) (Nat.succ_pos _);refine ⟨rfl,λb V'=>V9.Le V'/\b=decide (k=0),⟨λl=>?_,λl=>?_⟩,?_⟩
 ·have l:(k:Int)<(1:Nat):=of_decide_eq_true l;obtain rfl:k=0:=by omega
  dsimp only;rw [Qq0];refine ⟨⟨by omega,by omega⟩,hle,K,M,N,O,P,Q,R,S,T,jl,⟨by omega,by omega⟩,hle,K,M,N,O,P,Q,R,S,T,jl,λfQ B=>(qK (o_.le jr B) (o_.le jr B) hL hL).s ?_⟩;rintro r fD bq rfl;exact ⟨_,rfl,_,by and_intros<;>rfl,B.m bq,decide_eq_decide.2 ⟨λ_=>rfl,λ_=>rfl⟩⟩
 ·have l:¬(k:Int)<(1:Nat):=of_decide_eq_false l;exact ⟨false,by and_intros<;>rfl,View.Le.refl _,(decide_eq_false (by omega)).symm⟩
 rintro b gS bS ⟨G,rfl⟩;refine ⟨rfl,λl=>?_,λl j7 bU I A=>?_⟩
 ·obtain rfl:k=0:=of_decide_eq_true l;have w:i64.wrap (((0:Nat):Int)+1)=((0+1:Nat):Int):=by rw [au (by omega)];rfl
  dsimp only;rw [Qq0,w];have u:=eC.le kr G;have sl:n2=0:=f.len;refine ⟨⟨by omega,by omega⟩,hle,d1,d2,d3,d4,d5,d6,_,_,kl,by omega,f.le,f.cap,rfl,U5 (V:=gS) (x:=bH) u,λsp c' k1 k2=>⟨(n2+1,c',_,((0+1:Nat):Int)),by dsimp only;omega,by and_intros<;>rfl,1,rfl,Qq2 _,?_⟩⟩;exact (f.s λ_ _ g=>eC.le g G).snoc rfl u (by decide) k1 k2
 have a3:¬k=0:=of_decide_eq_false l;obtain rfl:k=1:=by omega
 have hA:=bI.bJ A (f.row.le λ_ _ g=>eC.le g (G.m bU)) (by decide) (by rw [←f.len];exact f.le);rw [←f.len] at hA;have UC:([bH]:pz Sp).take 1=[bH]:=rfl;rw [UC] at hA;refine (zI hA (λs hs=>by rw [Qq5.1 hs];exact nZ) (λs hs=>by rw [Qq5.1 hs];exact ⟨CZ _,CZ _⟩) (by decide) (by decide) (K9 _)).s ?_;rintro r lB cz ⟨q,n3,c3,rfl,hC⟩;rw [D6] at hC;refine ⟨_,_,_,rfl,λJ=>?_⟩;have C:=l9.m (G.m (bU.m cz));obtain rfl:=hC.len;refine ⟨λz V'=>∃i:Nat,z.2.2.2=(i:Int)/\i<=1/\GR 17 oS V' z.1 z.2.1 z.2.2.1 ([(L,bH)].take i),λz=>1-z.2.2.2.toNat,⟨(n1,c1,os,0),by and_intros<;>rfl,0,rfl,Qq4 _,D.s λ_ _ g=>GU.le g C⟩,?_⟩;rintro ⟨n4,c4,ts,i4⟩ jI cE ⟨i,ei,Ta,E⟩;dsimp only at ei E;subst ei;refine ⟨rfl,λH=>?_,λH=>?_⟩
 ·have H:(i:Int)<(1:Nat):=of_decide_eq_true H;obtain rfl:i=0:=by omega
  have w:i64.wrap (((0:Nat):Int)+1)=((0+1:Nat):Int):=by rw [au (by omega)];rfl
  dsimp only;rw [Qq0,w];obtain ⟨ad,h0,xs,-,y2,v⟩:=(hC.le cE λ_ _ g=>eC.le g cE).at_ 0 (by decide);obtain ⟨_,_,_,_,_,_,ex,g1,g2⟩:=y2;have ex:=congrArg Array.toList (Value.agg.inj ex);dsimp only at ex;subst ex;have he:GU jI (dB #[qvK .i64 K,qvK .i64 M,qvW N,qvK .i64 O,qvK .i64 P,qvW Q,qvK .i64 R,qvK .i64 S,qvW T,qvK .i64 _,qvK .i64 _,qvW _,qvK .i64 _,qvK .i64 _,qvW _,qvQ true,qvQ true]) L bH:=⟨_,_,_,_,_,_,_,_,_,_,_,_,_,_,_,rfl,o_.le jr (G.m (bU.m (cz.m cE))),_,_,_,_,_,_,rfl,g1,g2⟩;have tl:n4=0:=E.len;refine ⟨aX h0,⟨by decide,by decide⟩,_,_,_,_,_,_,_,_,ad,h0,v 0 _ rfl,v 1 _ rfl,v 2 _ rfl,v 3 _ rfl,v 4 _ rfl,v 5 _ rfl,v 6 _ rfl,v 7 _ rfl,⟨by omega,by omega⟩,hle,K,M,N,O,P,Q,R,S,T,jl,by omega,E.le,E.cap,rfl,IM (V:=jI) (x:=(_,_)) he,λsp c' k1 k2=>⟨(n4+1,c',_,((0+1:Nat):Int)),by dsimp only;omega,by and_intros<;>rfl,1,rfl,Qq2 _,?_⟩⟩;exact E.snoc (a:=(L,bH)) rfl he (by decide) k1 k2
 ·have H:¬(i:Int)<(1:Nat):=of_decide_eq_false H;obtain rfl:i=1:=by omega
  exact ⟨(n4,c4,ts,((1:Nat):Int)),by dsimp only;omega,by and_intros<;>rfl,1,rfl,Qq2 _,E⟩
def xo:Tr:=.node LL (.leaf true) (.leaf false)
theorem Gn:xo.eU nE:=⟨⟨Zs,O6⟩,trivial,trivial⟩
theorem VJ:xC LL xo=[bH]/\xC (revL LL) xo=[]:=by
 have b:combL 1 [] []=[]:=reg_eq (endsL ([]++[])) (comb_reg ..) ⟨λs h=>(by cases h),List.Pairwise.nil⟩ λt a=>by rw [comb_inB 1 _ _ a];simp [opB,inB]
 have c:bh LL true xo bH=[bH]:=by unfold xo;rw [bh,if_pos (.inl ⟨rfl,rfl⟩)];rfl
 have d:bh LL false xo bH=[]:=by unfold xo;rw [bh,if_neg (by decide),if_pos (.inl rfl)];rfl
 have e:bh (revL LL) true xo bH=[]:=by unfold xo;rw [bh,if_neg (by decide),if_pos (.inr (by decide))];rfl
 have f:bh (revL LL) false xo bH=[bH]:=by unfold xo;rw [bh,if_pos (.inr ⟨by decide,rfl⟩)];rfl
 unfold xC;rw [c,d,e,f,b,D6];refine ⟨?_,?_⟩
 ·refine reg_eq (endsL ([bH]++[])) (comb_reg ..) ⟨λs h=>by rw [Qq5.1 h];exact nZ,Qd2 _ _⟩ λt a=>?_;rw [comb_inB 3 _ _ a];simp [opB,inB]
 ·refine reg_eq (endsL ([]++[bH])) (comb_reg ..) ⟨λs h=>(by cases h),List.Pairwise.nil⟩ λt a=>?_;rw [comb_inB 3 _ _ a];simp [opB,inB]
theorem PR (h:dotL LL L=0):LO L [] xo:=⟨⟨λg=>absurd h g,trivial,trivial⟩,List.Pairwise.nil,by simp,λx h=>by cases h⟩
theorem fr_HP:Mg xo (eF xo.n_)=[(LL,bH)]:=by
 have e:eF xo.n_=[LL]:=by decide +kernel
 rw [e];unfold Mg wT;rw [Qy2,VJ.1,VJ.2];rfl
set_option maxHeartbeats 1000000 in
theorem DX (hy:mc V 0 y)(hz:mc V 1 z):aa prog 14 #[] V λr V'=>r=qvQ true:=by
 refine BN V _ λV1 X=>(dH 0 0 (by omega) (by omega) (by omega)).s ?_;rintro r V2 Y K;have A:=K;obtain ⟨_,_,_,_,_,_,_,_,_,_,_,_,rfl,-⟩:=K;refine qyK ⟨rfl,λV3 L=>(dH 1 0 (by omega) (by omega) (by omega)).s ?_⟩;rintro r V4 M N;have B:=N;obtain ⟨_,_,_,_,_,_,_,_,_,_,_,_,rfl,-⟩:=N;refine qyK ⟨rfl,λV5 C=>(Fj (A.le (L.m (M.m C))) (B.le C)).s ?_⟩;rintro r Z l6 ⟨l,rfl,j⟩;obtain ⟨b1,u1,v1,w1,b2,u2,v2,w2,b3,u3,v3,w3,rfl⟩:=zd j;have Cm:=X.m (Y.m (L.m (M.m (C.m l6))));refine ⟨_,_,_,_,_,_,_,_,_,_,_,_,_,rfl,λV7 l7=>(cP true).s ?_⟩;rintro r V8 l8 ⟨pa,rfl,ha⟩;refine ⟨_,rfl,λV9 O=>(cP false).s ?_⟩;rintro r fQ k ⟨pb,rfl,hb⟩;have D:=l7.m (l8.m (O.m k));refine ⟨_,rfl,λm s bk e1 e2=>(rY (V:=m.ar [bk]) (ln:=LL) (x:=.leaf true) (y:=.leaf false) e1 (RL.le (V:=Z) (V':=m.ar _) j λb o h=>(D.m s) b o h) (RW.le (V:=V8) (V':=m.ar _) (λb o h=>(O.m (k.m s)) b o h) ha) (RW.le (V:=fQ) (V':=m.ar _) (λb o h=>s b o h) hb) Gn (by decide)).s ?_⟩;rintro r E bS ⟨e3,a⟩;have g:AT E r (rt 0 xo) (wr 0 xo):=a;clear a;have XS:=g;obtain ⟨q,n,c,rfl,-⟩:=g;have Q:m.Le E:=λb o h=>bS b o h;have M5:=Cm.m (D.m (s.m Q));refine qyQ ⟨rfl,_,_,_,_,_,_,_,_,_,_,_,_,_,_,_,_,e3,λj7 t=>?_⟩;have t:E.Le j7:=λb o h=>t b o h;have R:=M5.m t;have eT:xf (wr 0 xo) (rt 0 xo)=some xo:=Rp (Gn.imp λ_ h=>h.1) (by decide)
 have hJ:JP (Mg xo (eF xo.n_)) [(LL,bH)]:=by
  rw [fr_HP];exact λh _=>J0 (O6.jf.up (by omega)) h
 have F:∀l∈eF xo.n_,∃P P',LO l P xo/\LO (revL l) P' xo:=λl j=>by
  rw [show eF xo.n_=[LL] by decide +kernel] at j;rw [Qq5.1 j];exact ⟨[],[],PR (by decide +kernel),PR (by decide +kernel)⟩
 refine (pD (ui (Ru Gn)) (XS.le t) eT (by decide) (Gn.imp λ_ h=>h.2) (by decide) F (λi hi=>K9 i) (YQ _) Xi hJ (by decide) (λf hf=>by rw [Qq5.1 hf];exact ⟨O6.jf.up (by omega),CZ _,CZ _⟩) (hy.le R) (hz.le R)).s ?_;rintro r lB cz ⟨p,n,c,rfl,S⟩;obtain rfl:=S.len;obtain ⟨d,e,xs,⟨c1,c2,c3,c4,c5,c6,c7,c8,c9,d1,d2,d3,d4,d5,d6,d7,d8,d9,d10,d11,d12,d13,d14,d15,d16,d17,ex,G,-⟩,a⟩:=S.at_ 0 (by decide);have ex:=congrArg Array.toList (Value.agg.inj ex);dsimp only at ex;subst ex;have H:=aX e;have e:ae p 0=some d:=e;have az:d.add 0=d:=by simp [Addr.add]
 have u:=D.m (s.m (Q.m (t.m cz)));have G:RL lB _ LL.1 LL.2.1 LL.2.2:=G;have T:ae (some d) 6=some (d.add 6):=rfl;refine ⟨p,1,c,.nilIface,rfl,.inl rfl,λ_=>⟨λ_=>⟨H,⟨by decide,by decide⟩,by rw [e];rfl,_,_,_,_,_,_,_,_,_,_,_,_,d,by rw [e];show some (d.add 0)=_;rw [az],a 0 _ rfl,a 1 _ rfl,a 2 _ rfl,a 3 _ rfl,a 4 _ rfl,a 5 _ rfl,λjI I=>(wO (j.le (u.m I)) (by decide) (by decide) (by decide)).s ?_⟩,(λh=>nomatch h)⟩,(λh=>nomatch h)⟩;rintro r lH U v;have w:=v;obtain ⟨_,_,_,_,_,_,_,_,_,_,_,_,rfl⟩:=zd v;refine qxW ⟨rfl,λlC J=>(CF (G.le (I.m (U.m J))) (w.le J) (by decide) (by decide) (by decide)).s ?_⟩;rintro r mE cj rfl;have W:=I.m (U.m (J.m cj));refine ⟨_,rfl,λ_=>⟨H,⟨by decide,by decide⟩,by rw [e];rfl,by rw [e];rfl,true,⟨d.add 12,by rw [e,T];show some ((d.add 6).add 6)=_;rw [jY],W.at (a 12 _ rfl)⟩,λ_=>⟨H,⟨by decide,by decide⟩,by rw [e];rfl,by rw [e];rfl,true,⟨d.add 13,by rw [e,T];show some ((d.add 6).add 7)=_;rw [jY],W.at (a 13 _ rfl)⟩,λpf du=>rfl⟩,(λh=>nomatch h)⟩,λh=>by simp at h⟩
structure Vy (f:L3×Sp):Prop where
 ok:cX f.1=true
 bd:Bd f.1
 gd:f.2.good
 sz:f.2.sz 100000
theorem DR (l:L3)(h:Nz l):jJ l l=0:=by unfold jJ;exact (nG h 0).1
theorem K7 (h:Nz l)(s:Sp):oO l s l=[]/\oO l s (revL l)=[]:=by
 have a:dotL l l=0:=by unfold dotL;grind
 have b:dotL (revL l) l=0:=by unfold dotL revL;simp only [Qs2];grind
 have c:jJ (revL l) l=0:=by
  have:=DR l h;unfold jJ at *;rw [val_rev,this];rfl
 refine ⟨?_,?_⟩<;>unfold oO cH
 ·rw [a,DR l h];rfl
 ·rw [b,c];rfl
theorem we (l:L3)(s:Sp)(m:L3):(oO l s m).length<=1:=by
 unfold oO;split<;>simp
theorem Sr {m:L3}{s:Sp}(h:Vy (l,s))(bm:Bd m):∀u∈oO l s m,Vy u:=λu hu=>by
 unfold oO at hu;split at hu
 ·rename_i g;rw [Qq5.1 hu];exact ⟨h.ok,h.bd,iD h.gd g,yV h.bd.jf bm.jf h.sz⟩
 ·cases hu
def kY (m:L3)(fs:List (L3×Sp)):List (L3×Sp):=fs.flatMap λf=>oO f.1 f.2 m
theorem Iv {m:L3}{fs:pz (L3×Sp)}(h:∀f∈fs,Vy f)(bm:Bd m):∀u∈kY m fs,Vy u:=λu hu=>by
 have ⟨f,a,b⟩:=Qy4.1 hu;grind [Sr]
theorem qP (m:L3):∀fs:pz (L3×Sp),(kY m fs).length<=fs.length
 | []=>Qq2 _
 | f::fs=>by
  have:=qP m fs;grind [we,kY]
theorem KP {f:L3×Sp}{fs:pz (L3×Sp)}(h:Nz f.1):(kY f.1 (f::fs)).length<=fs.length/\(kY (revL f.1) (f::fs)).length<=fs.length:=by
 have ⟨a,b⟩:=K7 h f.2;refine ⟨?_,?_⟩<;>unfold kY<;>rw [Qy2]
 ·rw [a];exact qP _ fs
 ·rw [b];exact qP _ fs
theorem FK {al:pz (L3×Sp)}(h:bI 14 rS V p n al)(hi:i<al.length) :
  p.isSome=true/\∃(b1:md)(p1:OA)(n1 c1:Nat)(b2:md)(p2:OA)(n2 c2:Nat)(b3:md)(p3:OA)(n3 c3:Nat)(b:md)(q1:OA)(m1 e1:Nat)(q2:OA)(m2 e2:Nat)(d:md)(q3:OA)(m3 e3:Nat)(q4:OA)(m4 e4:Nat)(a:Addr),ae p (i*14)=some a /\
   V.at (a.add 0) (qvQ b1)/\V.at (a.add 1) (hF p1 n1 c1)/\V.at (a.add 2) (qvQ b2)/\V.at (a.add 3) (hF p2 n2 c2)/\V.at (a.add 4) (qvQ b3)/\V.at (a.add 5) (hF p3 n3 c3) /\
   V.at (a.add 6) (qvQ b)/\V.at (a.add 7) (hF q1 m1 e1)/\V.at (a.add 8) (hF q2 m2 e2)/\V.at (a.add 9) (qvQ d)/\V.at (a.add 10) (hF q3 m3 e3)/\V.at (a.add 11) (hF q4 m4 e4)/\V.at (a.add 12) (qvQ al[i].2.a)/\V.at (a.add 13) (qvQ al[i].2.b) /\
   cA V (dB #[qvQ b1,hF p1 n1 c1,qvQ b2,hF p2 n2 c2,qvQ b3,hF p3 n3 c3]) al[i].1 /\
   oT V (dB #[qvQ b,hF q1 m1 e1,hF q2 m2 e2,qvQ d,hF q3 m3 e3,hF q4 m4 e4,qvQ al[i].2.a,qvQ al[i].2.b]) al[i].2:=by
 have ⟨f,e,xs,l,g,c⟩:=h.at_ i hi;obtain ⟨_,_,_,_,_,_,_,_,_,_,_,_,_,_,_,_,_,_,_,_,_,_,_,_,_,_,ex,j,k⟩:=g;have ex:=congrArg Array.toList (Value.agg.inj ex);subst ex;refine ⟨?_,_,_,_,_,_,_,_,_,_,_,_,_,_,_,_,_,_,_,_,_,_,_,_,_,_,_,f,e,c 0 _ rfl,c 1 _ rfl,c 2 _ rfl,c 3 _ rfl,c 4 _ rfl,c 5 _ rfl,c 6 _ rfl,c 7 _ rfl,c 8 _ rfl,c 9 _ rfl,c 10 _ rfl,c 11 _ rfl,c 12 _ rfl,c 13 _ rfl,j,k⟩
 cases p with
 | none=>cases e
 | some a=>rfl
theorem U2 {x:L3×Sp}(h:rS V (.agg xs.toArray) x):∀v∈xs,v.oneCell'=true:=by
 have ⟨_,_,_,_,_,_,_,_,_,_,_,_,_,_,_,_,_,_,_,_,_,_,_,_,_,_,ex⟩:=IL h;have ex:=congrArg Array.toList (Value.agg.inj ex);subst ex;exact Mw
theorem Tz {x y:Rat}(h:WZ V v x y){k:Nat}(s1:Sz k x)(s2:Sz k y)(hk:k<=274877906944:=by omega):aa prog 205 #[v] V λr V'=>RP V' r x y:=by
 obtain ⟨_,_,_,_,_,_,_,_,_,_,_,_,_,_,rfl,e,f⟩:=h;refine JE V _ λn c=>(PE (e.le c) s1 hk).s ?_;rintro r V2 g ⟨o,p,q,s,t,u,rfl,i,j⟩;refine qyZ ⟨rfl,λw b=>(PE (f.le (c.m (g.m b))) s2 hk).s ?_⟩;rintro r z d ⟨A,B,C,D,E,F,rfl,l,m⟩;exact qyZ ⟨rfl,λG a=>⟨_,_,_,_,_,_,_,_,_,_,_,_,rfl,⟨_,_,_,_,_,_,rfl,i.le (b.m (d.m a)),j.le (b.m (d.m a))⟩,⟨_,_,_,_,_,_,rfl,l.le a,m.le a⟩⟩⟩
theorem Sk {b1 b2:md}{p1 p3 p4:OA}{n1 c1 n3 c3 n4 c4:Nat}{c:Rat×Rat}(h:cM V (dB #[qvQ b1,hF p1 n1 c1,hF p2 n2 c2,qvQ b2,hF p3 n3 c3,hF p4 n4 c4]) c) :
  RQ V (dB #[qvQ b1,hF p1 n1 c1,hF p2 n2 c2]) c.1/\RQ V (dB #[qvQ b2,hF p3 n3 c3,hF p4 n4 c4]) c.2:=by
 obtain ⟨_,_,_,_,_,_,_,_,_,_,_,_,e,a,b⟩:=h;have e:=congrArg Array.toList (Value.agg.inj e);simp only [Qk5,Value.bool.injEq,Value.slice.injEq,and_true] at e;obtain ⟨rfl,⟨rfl,rfl,rfl⟩,⟨rfl,rfl,rfl⟩,rfl,⟨rfl,rfl,rfl⟩,⟨rfl,rfl,rfl⟩⟩:=e;exact ⟨a,b⟩
theorem zL {u w:un}{a b c:Rat×Rat}(ha:cM V u a)(hb:cM V v b)(hc:cM V w c){k:Nat}(h1:1<=k)(sa:Sz k a.1/\Sz k a.2)(sb:Sz k b.1/\Sz k b.2)(sc:Sz k c.1/\Sz k c.2)(hk:40*k+40<274877906944:=by omega) :
  aa prog 275 #[u,v,w] V λr V'=>∃x,r=qvK .i64 x:=by
 have j:=ha;have t:=hb;have y:=hc;obtain ⟨_,_,_,_,_,_,_,_,_,_,_,_,_,_,rfl⟩:=ha.shape;obtain ⟨_,_,_,_,_,_,_,_,_,_,_,_,_,_,rfl⟩:=hb.shape;obtain ⟨_,_,_,_,_,_,_,_,_,_,_,_,_,_,rfl⟩:=hc.shape;refine yk V _ λC f=>(pH (RP.le t f) (RP.le j f) sb.1 sb.2 sa.1 sa.2 h1).s ?_;rintro r V2 l o;have g:=o;obtain ⟨_,_,_,_,_,_,_,_,_,_,_,_,_,_,rfl⟩:=uB o;refine qyK ⟨rfl,λD h=>(pH (RP.le y (f.m (l.m h))) (RP.le j (f.m (l.m h))) sc.1 sc.2 sa.1 sa.2 h1).s ?_⟩;rintro r E z q;have i:=q;obtain ⟨_,_,_,_,_,_,_,_,_,_,_,_,_,_,rfl⟩:=uB q;have m:k+(k+1)<=2*k+1:=by omega
 refine qyK ⟨rfl,λF s=>(jm (k:=2*k+1) (g.le (h.m (z.m s))) (i.le s) ((sb.1.sub sa.1).s (by omega)) ((sb.2.sub sa.2).s (by omega)) ((sc.1.sub sa.1).s (by omega)) ((sc.2.sub sa.2).s (by omega))).s ?_⟩;rintro r G H ⟨p,n,d,I,J,K,rfl,A,L⟩;exact qyZ ⟨rfl,λM B=>(qC _ (A.le B)).s λr N O e=>⟨_,e,λP Q=>⟨_,rfl⟩⟩⟩
theorem xH (f n:Int):aa prog 246 #[qvK .i64 f,qvK .i64 n] V λr V'=>∃b,r=qvQ b:=
 wF V _ ⟨λ_=>⟨by decide,λ_ a c=>⟨_,rfl⟩,λ_=>⟨λ_ V2 d=>⟨_,rfl⟩,λ_ e g=>⟨_,rfl⟩⟩⟩,λ_=>⟨λ_ h i=>⟨_,rfl⟩,λ_ j k=>⟨_,rfl⟩⟩⟩
def SY (k:Nat)(l:List (Rat×Rat)):Prop:=∀p∈l,Sz k p.1/\Sz k p.2
theorem zQ {l:pz (Rat×Rat)}{q:Rat×Rat}(h:bI 6 cM V p n l)(hl:l.length<=1000)(hs:SY 600000000 l)(hq:cM V v q)(sq:Sz 600000000 q.1/\Sz 600000000 q.2) :
  aa prog 245 #[hF p n c,v] V λr V'=>∃x,r=qvK .i64 x:=by
 obtain rfl:=h.len;have P:=hq;obtain ⟨Q1,Q2,Q3,Q4,Q5,Q6,Q7,Q,R,U,X,Y,Z,Qe,rfl⟩:=hq.shape;refine yv V _ ⟨λz _=>∃j:Nat,z.2=(j:Int)/\j<=l.length,λz=>l.length-z.2.toNat,⟨(0,0),by and_intros<;>rfl,0,rfl,Qq4 _⟩,?_⟩;rintro ⟨z1,z2⟩ m o ⟨j,e,wX⟩;dsimp only at e;subst e;refine ⟨rfl,λd=>?_,λ_ j7 bU=>⟨_,rfl⟩⟩;have d:(j:Int)<l.length:=of_decide_eq_true d;have s:j<l.length:=by omega
 have w:i64.wrap ((j:Int)+1)=((j+1:Nat):Int):=by rw [au (by omega)];rfl
 have hm:(((j+1:Nat):Int)).tmod (l.length:Int)=(((j+1)%l.length:Nat):Int):=by rw [Wk7]
 have hk:(j+1)%l.length<l.length:=Qj8 _ (by omega);dsimp only;rw [w,hm];rw [Qq0,Qq0];have hL:=h.le o λ_ _ g=>cM.le g o;obtain ⟨ps,b1,p1,n1,c1,p2,n2,c2,t,u,A,B,C,D,E,a,ha,a0,a1,a2,a3,a4,a5,gu⟩:=sG cM.shape hL s;obtain ⟨-,B1,P1,N1,C1,P2,N2,C2,F,G,H,I,J,K,L,b,hb,A0,A1,A2,A3,A4,A5,gw⟩:=sG cM.shape hL hk;have S:=hs _ (Qq9 s);have T:=hs _ (Qq9 hk);have uy:∀{W:ut},m.Le W->RQ W (dB #[qvQ t,hF u A B,hF C D E]) l[j].2:=λg=>(Sk gu).2.le g;have wy:∀{W:ut},m.Le W->RQ W (dB #[qvQ F,hF G H I,hF J K L]) l[(j+1)%l.length].2:=λg=>(Sk gw).2.le g;have qy:∀{W:ut},m.Le W->RQ W (dB #[qvQ Q,hF R U X,hF Y Z Qe]) q.2:=λg=>(Sk P).2.le (o.m g)
 have f:∀{W:ut},m.Le W->aa prog 275 #[dB #[qvQ b1,hF p1 n1 c1,hF p2 n2 c2,qvQ t,hF u A B,hF C D E],dB #[qvQ B1,hF P1 N1 C1,hF P2 N2 C2,qvQ F,hF G H I,hF J K L],dB #[qvQ Q1,hF Q2 Q3 Q4,hF Q5 Q6 Q7,qvQ Q,hF R U X,hF Y Z Qe]] W λr V'=>∃x,r=qvK .i64 x:=λg=>
  zL (k:=600000000) (cM.le gu g) (cM.le gw g) (cM.le P (o.m g)) (by omega) S T sq
 refine ⟨ps,⟨by omega,by omega⟩,b1,p1,n1,c1,p2,n2,c2,t,u,A,B,C,D,E,a,ha,a0,a1,a2,a3,a4,a5,by omega,ps,⟨by omega,by omega⟩,B1,P1,N1,C1,P2,N2,C2,F,G,H,I,J,K,L,b,hb,A0,A1,A2,A3,A4,A5,λV2 i=>(fw (uy i) (qy i) S.2 sq.2).s ?_⟩;rintro r V3 M rfl;refine ⟨_,rfl,λV4 N=>(fw (wy (i.m (M.m N))) (qy (i.m (M.m N))) T.2 sq.2).s ?_⟩;rintro r V5 l5 rfl;have L5:=i.m (M.m (N.m l5));refine ⟨_,rfl,λ_ _=>True,⟨λ_=>⟨λ_ V6 l6=>(f (L5.m l6)).s ?_,λ_=>⟨_,by and_intros<;>rfl,trivial⟩⟩,λ_=>⟨_,by and_intros<;>rfl,trivial⟩⟩,λz V8 l8 _=>⟨rfl,λ_ _=>True,⟨λ_=>⟨_,by and_intros<;>rfl,trivial⟩,λ_=>⟨_,by and_intros<;>rfl,trivial⟩⟩,λy V9 l9 _=>⟨rfl,λ_ _=>True,⟨λ_=>⟨λ_ fQ O=>(f (L5.m (l8.m (l9.m O)))).s ?_,λ_=>⟨_,by and_intros<;>rfl,trivial⟩⟩,λ_=>⟨_,by and_intros<;>rfl,trivial⟩⟩,λx gS bS _=>⟨rfl,λ_=>⟨(_,((j+1:Nat):Int)),by dsimp only;omega,by and_intros<;>rfl,j+1,rfl,s⟩,λ_=>⟨(_,((j+1:Nat):Int)),by dsimp only;omega,by and_intros<;>rfl,j+1,rfl,s⟩⟩⟩⟩⟩
 ·rintro r V7 l7 ⟨x,rfl⟩;exact ⟨_,rfl,_,by and_intros<;>rfl,trivial⟩
 ·rintro r fD bq ⟨x,rfl⟩;exact ⟨_,rfl,_,by and_intros<;>rfl,trivial⟩
def LP (R:View->Value->Rat×Rat->Prop)(V:View)(v:Value)(l:List (Rat×Rat)):Prop:=∃p n c,v=.agg #[.slice p n c]/\bI 6 R V p n l
abbrev Ci:=LP cM
theorem LP.s {R:ut->un->Rat×Rat->Prop}{V':ut}{l:pz (Rat×Rat)}(h:LP R V v l)(m:∀v a,R V v a->R V' v a)(g:V.Le V'):LP R V' v l:=by
 obtain ⟨p,n,c,rfl,h⟩:=h;exact ⟨p,n,c,rfl,h.le g m⟩
theorem Ci.le {V V':ut}{l:pz (Rat×Rat)}(h:Ci V v l)(g:V.Le V'):Ci V' v l:=LP.s h (λ_ _ k=>cM.le k g) g
theorem FJ {R:ut->un->Rat×Rat->Prop}{L:pz (pz (Rat×Rat))}(h:bI 1 (LP R) V p n L)(hi:i<L.length):p.isSome=true/\∃(q:OA)(m e:Nat),(∃a,ae p (i*1)=some a/\V.at a (hF q m e))/\bI 6 R V q m L[i]:=by
 have ⟨a,b,xs,j,⟨q,m,e,d,f⟩,g⟩:=h.at_ i hi;have c:=congrArg Array.toList (Value.agg.inj d);dsimp only at c;subst c;refine ⟨?_,q,m,e,⟨a,b,?_⟩,f⟩
 ·cases p with
  | none=>simp [ae] at b
  | some a=>rfl
 ·have:=g 0 _ rfl;simpa [Addr.add] using this
theorem YB:∀v∈([hF p n c]:pz un),v.oneCell'=true:=λv a=>by rw [Qq5.1 a];rfl
structure Pgs (L:List (List (Rat×Rat))):Prop where
 len:L.length<=1000
 each:∀l∈L,l.length<=1000/\SY 600000000 l
theorem Ki {fill:Int}{L:pz (pz (Rat×Rat))}{q:Rat×Rat}(h:bI 1 Ci V p n L)(hL:Pgs L)(hq:cM V v q)(sq:Sz 600000000 q.1/\Sz 600000000 q.2) :
  aa prog 203 #[dB #[hF p n c,qvK .i64 fill,hF p2 n2 c2],v] V λr V'=>∃b,r=qvQ b:=by
 obtain rfl:=h.len;have m:=hq;have C:=hL.len;obtain ⟨_,_,_,_,_,_,_,_,_,_,_,_,_,_,rfl⟩:=hq.shape;refine DA V _ ⟨λz _=>∃j:Nat,z.2=(j:Int)/\j<=L.length,λz=>L.length-z.2.toNat,⟨(0,0),by and_intros<;>rfl,0,rfl,Qq4 _⟩,?_⟩;rintro ⟨o,D⟩ E d ⟨j,e,F⟩;dsimp only at e;subst e;refine ⟨rfl,λa=>?_,λ_ G H=>(xH fill o).s λr I J ⟨b,e⟩=>⟨b,e,λK M=>⟨b,rfl⟩⟩⟩;have a:(j:Int)<L.length:=of_decide_eq_true a;have f:j<L.length:=by omega
 have w:i64.wrap ((j:Int)+1)=((j+1:Nat):Int):=by rw [au (by omega)];rfl
 dsimp only;rw [w,Qq0];have ⟨s,t,u,y,i,g⟩:=FJ (h.le d λ_ _ k=>Ci.le k d) f;have ⟨A,B⟩:=hL.each _ (Qq9 f);refine ⟨s,⟨by omega,by omega⟩,t,u,y,i,λV2 l=>(zQ (g.le l λ_ _ k=>cM.le k l) A B (cM.le m (d.m l)) sq).s ?_⟩;rintro r N O ⟨x,rfl⟩;exact ⟨x,rfl,(_,((j+1:Nat):Int)),by dsimp only;omega,by and_intros<;>rfl,j+1,rfl,f⟩
theorem Ho {A:pz (Rat×Rat)}(h:bI 6 kz V p n A)(hn:A.length<=1000000)(hs:SY 600000000 A) :
  aa prog 137 #[hF p n c] V λr V'=>∃q m e,r=hF q m e/\bI 6 cM V' q m A:=by
 obtain rfl:=h.len;refine GH V _ ⟨λz V'=>∃j:Nat,z.2.2.2=(j:Int)/\j<=A.length/\GR 6 cM V' z.1 z.2.1 z.2.2.1 (A.take j),λz=>A.length-z.2.2.2.toNat,⟨(0,0,[],0),by and_intros<;>rfl,0,rfl,Qq4 _,GR.nil⟩,?_⟩;rintro ⟨t,N,O,P⟩ Q i ⟨j,k,R,d⟩;dsimp only at k d;subst k;have u:=d.len;rw [Qq7] at u;refine ⟨rfl,λb=>?_,λb S v T x=>?_⟩
 ·have b:(j:Int)<A.length:=of_decide_eq_true b;have f:j<A.length:=by omega
  have w:i64.wrap ((j:Int)+1)=((j+1:Nat):Int):=by rw [au (by omega)];rfl
  dsimp only;rw [Qq0,w];obtain ⟨y,U,W,X,Y,Z,n2,c2,b2,p3,n3,c3,p4,n4,c4,a,B,C,D,E,F,G,H,g⟩:=sG kz.shape (h.le i λ_ _ g=>kz.le g i) f;have ⟨s1,s2⟩:=hs _ (Qq9 f);refine ⟨y,⟨by omega,by omega⟩,_,_,_,_,_,_,_,_,_,_,_,_,_,_,a,B,C,D,E,F,G,H,λV2 l=>(Tz (kz.le g l) s1 s2).s ?_⟩;rintro r o I J;have s:cM o r A[j]:=J;obtain ⟨_,_,_,_,_,_,_,_,_,_,_,_,_,_,rfl⟩:=s.shape;refine qyK ⟨rfl,by omega,d.le,d.cap,rfl,Rv,λsp K L M=>⟨(t+1,K,_,((j+1:Nat):Int)),by dsimp only;omega,by and_intros<;>rfl,j+1,rfl,f,?_⟩⟩;dsimp only;rw [Qz9,Qq1 f];exact (d.s (V':=o) λ_ _ g=>cM.le g (l.m I)).snoc rfl s (by decide) L M
 ·have b:¬(j:Int)<A.length:=of_decide_eq_false b;obtain rfl:j=A.length:=by omega
  rw [Qy5] at d;obtain rfl:=d.len;exact ⟨_,_,_,rfl,bI.bJ x (d.row.le λ_ _ g=>cM.le g v) (by decide) d.le⟩
def Y7 (l:List (Rat×Rat))(i:Nat):L3×Sp:=
 (mu (l.getD i (0,0)).1 (l.getD i (0,0)).2 (l.getD ((i+1)%l.length) (0,0)).1 (l.getD ((i+1)%l.length) (0,0)).2,K6 (l.getD i (0,0)).1 (l.getD i (0,0)).2 (l.getD ((i+1)%l.length) (0,0)).1 (l.getD ((i+1)%l.length) (0,0)).2)
def kM (l:List (Rat×Rat)):List (L3×Sp):=(List.range l.length).map (Y7 l)
structure Pg (l:List (Rat×Rat)):Prop where
 len:l.length<=6
 sm:SY 10 l
 ne:∀i,i<l.length->¬((l.getD i (0,0)).1=(l.getD ((i+1)%l.length) (0,0)).1/\(l.getD i (0,0)).2=(l.getD ((i+1)%l.length) (0,0)).2)
theorem gI {l:pz (Rat×Rat)}(h:i<l.length):l.getD i (0,0)=l[i]:=by rw [Qx8,Qq1 h];rfl
theorem Pg.at_ {l:pz (Rat×Rat)}(h:Pg l)(hi:i<l.length):Sz 10 (l.getD i (0,0)).1/\Sz 10 (l.getD i (0,0)).2:=by rw [gI hi];exact h.sm _ (Qq9 hi)
theorem Pg.nxt {l:pz (Rat×Rat)}(hi:i<l.length):(i+1)%l.length<l.length:=Qj8 _ (by omega)
theorem Pg.edge {l:pz (Rat×Rat)}(h:Pg l)(hi:i<l.length):Vy (Y7 l i):=by
 have ⟨s1,s2⟩:=h.at_ hi;obtain ⟨s3,s4⟩:=h.at_ (Pg.nxt hi);have ok:=YN (h.ne i hi);have sl:=Gm s1 s2 s3 s4 (h.ne i hi);have a:=Vh s1 s2 s3 s4 (h.ne i hi);exact ⟨ok.1,Xb ⟨Sz.s sl.1,Sz.s sl.2.1,Sz.s sl.2.2⟩,⟨ok.2.1,ok.2.2⟩,⟨Sz.s a.1,Sz.s a.2⟩⟩
theorem Pg.VW {l:pz (Rat×Rat)}(h:Pg l):∀f∈kM l,Vy f:=λf a=>by
 obtain ⟨i,b,rfl⟩:=Qz0.1 a;exact h.edge (Wk5.1 b)
theorem mP (l:pz (Rat×Rat)):(kM l).length=l.length:=by unfold kM;simp
theorem NG {l:pz (Rat×Rat)}{j:Nat}(hj:j<l.length):(kM l).take (j+1)=(kM l).take j++[Y7 l j]:=by
 rw [Qz9,Qq1 (by rw [mP];exact hj)];unfold kM;simp
theorem rA {l:pz (Rat×Rat)}(h:bI 6 cM V p n l)(hg:Pg l) :
  aa prog 135 #[hF p n c] V λr V'=>∃q m e,r=hF q m e/\bI 14 rS V' q m (kM l):=by
 obtain rfl:=h.len;have h6:=hg.len;refine B8 V _ ⟨λz V'=>∃j:Nat,z.2.2.2=(j:Int)/\j<=l.length/\GR 14 rS V' z.1 z.2.1 z.2.2.1 ((kM l).take j),λz=>l.length-z.2.2.2.toNat,⟨(0,0,[],0),by and_intros<;>rfl,0,rfl,Qq4 _,GR.nil⟩,?_⟩;rintro ⟨C,z2,vs,z4⟩ V1 u ⟨j,v,wX,i⟩;dsimp only at v i;subst v;have D:=i.len;rw [Qq7,mP] at D;refine ⟨rfl,λd=>?_,λd V4 F bk s=>?_⟩
 ·have d:(j:Int)<l.length:=of_decide_eq_true d;have k:j<l.length:=by omega
  have w:i64.wrap ((j:Int)+1)=((j+1:Nat):Int):=by rw [au (by omega)];rfl
  have hm:(((j+1:Nat):Int)).tmod (l.length:Int)=(((j+1)%l.length:Nat):Int):=by rw [Wk7]
  have o:=Pg.nxt k;dsimp only;rw [w,hm];rw [Qq0,Qq0];have x:=h.le u λ_ _ g=>cM.le g u;obtain ⟨y,G,H,I,J,K,L,M,O,P,Q,R,U,W,X,a,Y,Z,a1,a2,a3,a4,a5,gu⟩:=sG cM.shape x k;obtain ⟨-,B1,P1,N1,C1,P2,N2,C2,B2,P3,N3,C3,P4,N4,C4,b,s,A0,A1,A2,A3,A4,A5,gw⟩:=sG cM.shape x o;have S:=hg.at_ k;have T:=hg.at_ o;have N:=hg.ne j k;have E:Y7 l j=(mu l[j].1 l[j].2 l[(j+1)%l.length].1 l[(j+1)%l.length].2,K6 l[j].1 l[j].2 l[(j+1)%l.length].1 l[(j+1)%l.length].2):=by unfold Y7;rw [gI k,gI o]
  rw [gI k] at S;rw [gI o] at T;rw [gI k,gI o] at N;refine ⟨y,⟨by omega,by omega⟩,G,H,I,J,K,L,M,O,P,Q,R,U,W,X,a,Y,Z,a1,a2,a3,a4,a5,by omega,y,⟨by omega,by omega⟩,B1,P1,N1,C1,P2,N2,C2,B2,P3,N3,C3,P4,N4,C4,b,s,A0,A1,A2,A3,A4,A5,λV2 t=>(xG (cM.le gu t) (cM.le gw t) S.1 S.2 T.1 T.2 (by omega)).s ?_⟩;rintro r A l3 ⟨-,m2⟩;obtain ⟨f,rfl,B⟩:=m2 N;have g0:rS A f (Y7 l j):=by rw [E];exact B
  obtain ⟨_,_,_,_,_,_,_,_,_,_,_,_,_,_,_,_,_,_,_,_,_,_,_,_,_,_,rfl⟩:=IL B;refine ⟨_,_,_,_,_,_,_,_,_,_,_,_,_,_,_,_,_,_,_,_,_,_,_,_,_,_,_,_,_,rfl,by omega,i.le,i.cap,rfl,Mw,λsp c' h1 h2=>⟨(C+1,c',_,((j+1:Nat):Int)),by dsimp only;omega,by and_intros<;>rfl,j+1,rfl,k,?_⟩⟩;dsimp only;rw [NG k];exact (i.s (V':=A) λ_ _ g=>rS.le g (t.m l3)).snoc rfl g0 (by decide) h1 h2
 ·have d:¬(j:Int)<l.length:=of_decide_eq_false d;obtain rfl:j=l.length:=by omega
  rw [show (kM l).take l.length=kM l by rw [←mP l];exact Qy5] at i;obtain rfl:=i.len;exact ⟨_,_,_,rfl,bI.bJ s (i.row.le λ_ _ g=>rS.le g F) (by decide) i.le⟩
theorem wP {L:pz (pz (Rat×Rat))}(h:bI 1 Ci V p n L)(hn:L.length<=1000)(hL:∀l∈L,Pg l) :
  aa prog 79 #[hF p n c] V λr V'=>∃q m e,r=hF q m e/\bI 1 (LP kz) V' q m L:=by
 obtain rfl:=h.len;refine GP V _ ⟨λz V'=>∃j:Nat,z.2.2.2=(j:Int)/\j<=L.length/\GR 1 (LP kz) V' z.1 z.2.1 z.2.2.1 (L.take j),λz=>L.length-z.2.2.2.toNat,⟨(0,0,[],0),by and_intros<;>rfl,0,rfl,Qq4 _,GR.nil⟩,?_⟩;rintro ⟨B,P,Q,R⟩ S o ⟨j,s,T,b⟩;dsimp only at s b;subst s;have C:=b.len;rw [Qq7] at C;refine ⟨rfl,λa=>?_,λa U t W D=>?_⟩
 ·have a:(j:Int)<L.length:=of_decide_eq_true a;have d:j<L.length:=by omega
  have w:i64.wrap ((j:Int)+1)=((j+1:Nat):Int):=by rw [au (by omega)];rfl
  dsimp only;rw [Qq0,w];have ⟨E,F,G,H,i,g⟩:=FJ (h.le o λ_ _ k=>Ci.le k o) d;have k:=hL _ (Qq9 d);have X:=k.len;refine ⟨E,⟨by omega,by omega⟩,F,G,H,i,λV2 f=>(Fg (k:=10) (g.le f λ_ _ k=>cM.le k f) (by omega) (λx I=>k.sm x I)).s ?_⟩;rintro r J u ⟨v,y,A,rfl,K⟩;refine ⟨v,y,A,rfl,by omega,b.le,b.cap,rfl,YB,λsp M N O=>⟨(B+1,M,_,((j+1:Nat):Int)),by dsimp only;omega,by and_intros<;>rfl,j+1,rfl,d,?_⟩⟩;dsimp only;rw [Qz9,Qq1 d];exact (b.s (V':=J) λ_ _ g=>LP.s g (λ_ _ k=>kz.le k (f.m u)) (f.m u)).snoc rfl ⟨v,y,A,rfl,K⟩ (by decide) N O
 ·have a:¬(j:Int)<L.length:=of_decide_eq_false a;obtain rfl:j=L.length:=by omega
  rw [Qy5] at b;obtain rfl:=b.len;exact ⟨_,_,_,rfl,bI.bJ D (b.row.le λ_ _ g=>LP.s g (λ_ _ k=>kz.le k t) t) (by decide) b.le⟩
theorem tN {L:pz (pz (Rat×Rat))}(fill:Int)(h:bI 1 (LP kz) V p n L)(hn:L.length<=1000)(hL:∀l∈L,Pg l) :
  aa prog 78 #[hF p n c,qvK .i64 fill] V λr V'=>∃p n c q m e,r=dB #[hF p n c,qvK .i64 fill,hF q m e]/\bI 1 Ci V' p n L:=by
 obtain rfl:=h.len
 refine Dz V _ ⟨λz V'=>∃(j:Nat)(ls:pz L3),z.2.2.2.1=(j:Int)/\j<=L.length/\z.2.2.2.2.2.2.1=fill/\GR 6 cA V' z.1 z.2.1 z.2.2.1 ls/\ls.length<=6*j/\(∀l∈ls,Bd l)/\GR 1 Ci V' z.2.2.2.2.1 z.2.2.2.2.2.1 z.2.2.2.2.2.2.2.2.2.2 (L.take j),λz=>L.length-z.2.2.2.1.toNat,
  ⟨(0,0,[],0,0,0,fill,none,0,0,[]),by and_intros<;>rfl,0,[],rfl,Qq4 _,rfl,GR.nil,by simp,(λl h=>nomatch h),GR.nil⟩,?_⟩
 rintro ⟨z1,z2,vs,z4,D,r2,z7,z8,z9,E,us⟩ V1 F ⟨j,ls,Y,wX,Z,v,G,hb,t⟩;dsimp only at Y Z v t;subst Y Z;have zl:=v.len;have rl:=t.len;rw [Qq7] at rl;dsimp only;rw [Qq0];refine ⟨rfl,λs=>?_,λs V7 l7 bk H=>?_⟩
 ·have s:(j:Int)<L.length:=of_decide_eq_true s;have B:j<L.length:=by omega
  have w:i64.wrap ((j:Int)+1)=((j+1:Nat):Int):=by rw [au (by omega)];rfl
  rw [w];have ⟨ps,q1,m1,e1,I,g⟩:=FJ (h.le F λ_ _ k=>LP.s k (λ_ _ k=>kz.le k F) F) B;have k:=hL _ (Qq9 B);have k6:=k.len;refine ⟨ps,⟨by omega,by omega⟩,q1,m1,e1,I,λV2 J=>(Ho (g.le J λ_ _ k=>kz.le k J) (by omega) (λx hx=>⟨(k.sm x hx).1.s (by omega),(k.sm x hx).2.s (by omega)⟩)).s ?_⟩;rintro r V3 l3 ⟨K,M,N,rfl,gp⟩;refine ⟨K,M,N,rfl,by omega,t.le,t.cap,rfl,YB,λsp c' h1 h2 V4 y=>(rA (gp.le y λ_ _ k=>cM.le k y) k).s ?_⟩;rintro r V5 O ⟨q3,m3,e3,rfl,ge⟩;have cE:=J.m (l3.m (y.m O))
  have r5:GR 1 Ci V5 (D+1) c' (us.take (D*1)++([hF K M N]:pz un)++sp) (L.take (j+1)):=by
   rw [Qz9,Qq1 B];exact (t.s λ_ _ g=>Ci.le g cE).snoc rfl ⟨K,M,N,rfl,gp.le (y.m O) λ_ _ k=>cM.le k (y.m O)⟩ (by decide) h1 h2
  obtain rfl:=ge.len;have el:=mP L[j]
  refine ⟨q3,_,e3,rfl,λz V'=>∃(i:Nat)(ms:pz L3),z.2.2.2=(i:Int)/\i<=(kM L[j]).length/\V5.Le V'/\GR 6 cA V' z.1 z.2.1 z.2.2.1 ms/\ms.length<=6*j+i/\∀l∈ms,Bd l,λz=>(kM L[j]).length-z.2.2.2.toNat,
   ⟨(z1,z2,vs,0),by and_intros<;>rfl,0,ls,rfl,Qq4 _,View.Le.refl _,v.s λ_ _ g=>cA.le g cE,G,hb⟩,?_⟩
  rintro ⟨y1,y2,ws,y4⟩ V6 l6 ⟨i,ms,f4,Ta,C,o,hm,A⟩;dsimp only at f4 o;subst f4;have yl:=o.len;dsimp only;rw [Qq0];refine ⟨rfl,λf=>?_,λf=>?_⟩
  ·have f:(i:Int)<(kM L[j]).length:=of_decide_eq_true f;have u:i<(kM L[j]).length:=by omega
   have w':i64.wrap ((i:Int)+1)=((i+1:Nat):Int):=by rw [au (by omega)];rfl
   rw [w'];obtain ⟨P,b1,p1,n1,c1,b2,p2,n2,c2,b3,p3,n3,c3,b,s1,s2,s3,s4,s5,s6,d,t1,t2,t3,t4,t5,t6,a,ha,a0,a1,a2,a3,a4,a5,a6,a7,a8,a9,Q,R,S,T,gl,-⟩:=FK (ge.le C λ_ _ k=>rS.le k C) u;refine ⟨P,⟨by omega,by omega⟩,b1,p1,n1,c1,b2,p2,n2,c2,b3,p3,n3,c3,b,s1,s2,s3,s4,s5,s6,d,t1,t2,t3,t4,t5,t6,_,_,a,ha,a0,a1,a2,a3,a4,a5,a6,a7,a8,a9,Q,R,S,T,by omega,o.le,o.cap,rfl,Oh,λb0 U h3 h4=>⟨(y1+1,U,_,((i+1:Nat):Int)),by dsimp only;omega,by and_intros<;>rfl,i+1,ms++[(kM L[j])[i].1],rfl,u,C,o.snoc rfl gl (by decide) h3 h4,by simp;omega,λl W=>(Qw3.1 W).elim (A l) λW=>by rw [Qq5.1 W];exact (k.VW _ (Qq9 u)).bd⟩⟩
  ·have f:¬(i:Int)<(kM L[j]).length:=of_decide_eq_false f;exact ⟨(y1,y2,ws,((j+1:Nat):Int),D+1,c',z7,z8,z9,E,_),by dsimp only;omega,by and_intros<;>rfl,j+1,ms,rfl,B,rfl,o,by omega,A,r5.s λ_ _ g=>Ci.le g C⟩
 ·have s:¬(j:Int)<L.length:=of_decide_eq_false s;obtain rfl:j=L.length:=by omega
  rw [Qy5] at t;obtain rfl:=v.len;refine (tI (bI.bJ H (v.row.le λ_ _ g=>cA.le g l7) (by decide) v.le) (by omega) hb).s ?_;rintro r V8 l8 ⟨q,m,e,rfl,-⟩;obtain rfl:=t.len;exact ⟨q,m,e,rfl,λ_ V9 l9 VL X=>⟨_,_,_,_,_,_,rfl,bI.bJ X (t.row.le λ_ _ g=>Ci.le g (l7.m (l8.m l9))) (by decide) t.le⟩⟩
theorem GR.app {α:Type}{sz:Nat}{R:ut->un->α->Prop}{l:pz α}(h:GR sz R V n c vs l){ms:pz α}(h':Row sz R V xs ms)(hx:xs.length=ms.length*sz)(h0:0<sz){sp:pz un}{c':Nat}(h1:n+ms.length<=c')(h2:c'*sz<=(n+ms.length)*sz+sp.length) :
  GR sz R V (n+ms.length) c' (vs.take (n*sz)++xs++sp) (l++ms):=by
 have a:=h.len;have d:=h.cap;have e:n*sz<=c*sz:=Qw0 _ h.le;refine ⟨by rw [Qq3,a],h1,?_,?_⟩
 ·have b:(vs.take (n*sz)).length=n*sz:=by rw [Qq7];omega
  rw [Qq3,Qq3,b,hx];rw [Qk1] at h2;exact h2
 ·rw [a];exact hZ h.row h' h0
theorem Ex {m:L3}{fs:pz (L3×Sp)}{q:L3->Prop}(h:∀f∈fs,q f.1):∀u∈kY m fs,q u.1:=λu hu=>by
 have ⟨f,b,a⟩:=Qy4.1 hu;unfold oO at a;split at a
 ·rw [Qq5.1 a];exact h f b
 ·cases a
theorem AX {m:L3}{fs:pz (L3×Sp)}{j:Nat}(hj:j<fs.length):kY m (fs.take (j+1))=kY m (fs.take j)++oO fs[j].1 fs[j].2 m:=by
 unfold kY;rw [Qz9,Qq1 hj];show List.flatMap _ (_++[fs[j]])=_;rw [Qm8,Qy2,Wz3,Qx3]
theorem Gc {l:pz (L3×Sp)}(h:Row 14 rS V xs l)(hl:xs.length=l.length*14):∀v∈xs,v.oneCell'=true:=λv a=>by
 have ⟨m,hm,e⟩:=Qd1.1 a;exact kh h (by decide) (λ_ _=>U2) (m:=m) (by omega) (by rw [←e];exact Qq1 hm)
theorem Hq {q:L3->Prop}:∀(k:Nat) {fs:pz (L3×Sp)} {c:pz L3} {L:pz (pz (Rat×Rat))} {V:ut} {lp cp r0p r2p:OA} {ln lc cn cc r0n r0c r2n r2c:Nat} {fill:Int},fs.length<=k->bI 14 rS V lp ln fs->(∀f∈fs,Vy f)->(∀f∈fs,q f.1)->bI 6 cA V cp cn c->(∀m∈c,nE m)->c.length+k<=980->bI 1 Ci V r0p r0n L->Pgs L ->
  aa prog 136 #[dB #[hF r0p r0n r0c,qvK .i64 fill,hF r2p r2n r2c],hF lp ln lc,hF cp cn cc] V λr V'=>∃o t,r=qvW o/\RW V' o t/\t.eU q/\t.depth<=k:=by
 intro k
 induction k using Nat.strongRecOn with
 | ind k ih=>
  intro fs c L V lp cp r0p r2p ln lc cn cc r0n r0c r2n r2c fill hk hf Z hq hc kc f6 hL hP;obtain rfl:=hf.len;obtain rfl:=hc.len;have hC:∀{W:ut},V.Le W->bI 6 cA W cp c.length c:=λg=>hc.le g λ_ _ k=>cA.le k g;have hR:∀{W:ut},V.Le W->bI 1 Ci W r0p r0n L:=λg=>hL.le g λ_ _ k=>Ci.le k g;refine GO V _ ⟨λh0 V1 l1=>(ry (hC l1) (λm h=>(kc m h).2) (λm h=>(kc m h).1)).s ?_,λh0=>?_⟩
  ·rintro r V2 l2 ⟨u,p,rfl,g,s1,s2⟩;have g0:cM V2 u p:=g;obtain ⟨_,_,_,_,_,_,_,_,_,_,_,_,_,_,rfl⟩:=g0.shape;refine ⟨_,_,_,_,_,_,_,_,_,_,_,_,_,_,_,rfl,λV3 l3=>(Ki (hR (l1.m (l2.m l3))) hP (cM.le g0 l3) ⟨s1.s (by omega),s2.s (by omega)⟩).s ?_⟩;rintro r V4 l4 ⟨b,rfl⟩;refine ⟨b,rfl,λV5 l5=>(cP b).s ?_⟩;rintro r V6 l6 ⟨o,rfl,g⟩;exact ⟨o,rfl,λV7 l7=>⟨o,_,rfl,g.le l7,trivial,Qq4 _⟩⟩
  have C:0<fs.length:=by have:=of_decide_eq_false h0;omega
  obtain ⟨f0,e,rfl⟩:∃f0 e,fs=f0::e:=by cases fs with
   | nil=>simp at C
   | cons f r=>exact ⟨f,r,rfl⟩
  have D:=Z f0 (Qw6 ..);obtain ⟨ps,b1,p1,n1,c1,b2,p2,n2,c2,b3,p3,n3,c3,_,_,_,_,_,_,_,_,_,_,_,_,_,_,a,ha,a0,a1,a2,a3,a4,a5,_,_,_,_,_,_,_,_,E,-⟩:=FK hf C;have E:cA V (dB #[qvQ b1,hF p1 n1 c1,qvQ b2,hF p2 n2 c2,qvQ b3,hF p3 n3 c3]) f0.1:=E;have ea:ae lp 0=some a:=ha;have az:a.add 0=a:=by simp [Addr.add]
  have i:nE f0.1:=⟨D.ok,D.bd⟩;have nz:=pW D.ok;refine ⟨ps,⟨by omega,by omega⟩,by rw [ea];rfl,b1,p1,n1,c1,b2,p2,n2,c2,b3,p3,n3,c3,a,by rw [ea];show some (a.add 0)=_;rw [az],a0,a1,a2,a3,a4,a5,?_⟩
  refine ⟨λz V'=>∃j:Nat,z.2.2.2.2.2.2=(j:Int)/\j<=(f0::e).length/\GR 14 rS V' z.1 z.2.1 z.2.2.1 (kY f0.1 ((f0::e).take j))/\GR 14 rS V' z.2.2.2.1 z.2.2.2.2.1 z.2.2.2.2.2.1 (kY (revL f0.1) ((f0::e).take j)),λz=>(f0::e).length-z.2.2.2.2.2.2.toNat,
   ⟨(0,0,[],0,0,[],0),by and_intros<;>rfl,0,rfl,Qq4 _,GR.nil,GR.nil⟩,?_⟩
  rintro ⟨z1,z2,vs,y1,y2,us,z4⟩ V8 v ⟨j,e4,wX,y,A⟩;dsimp only at e4 y A;subst e4;have zl:=y.len;have yl:=A.len;have H:∀m:L3,(kY m ((f0::e).take j)).length<=(f0::e).length:=λm=>Qw8 (qP _ _) (by rw [Qq7];omega);have f7:=H f0.1;have f8:=H (revL f0.1);dsimp only;rw [Qq0];refine ⟨rfl,λn=>?_,λn=>?_⟩
  ·have n:(j:Int)<(f0::e).length:=of_decide_eq_true n;have I:j<(f0::e).length:=by omega
   have w:i64.wrap ((j:Int)+1)=((j+1:Nat):Int):=by rw [au (by omega)];rfl
   rw [w];have F:=Z _ (Qq9 I);obtain ⟨a6,d1,q1,m1,e1,d2,q2,m2,e2,d3,q3,m3,e3,d,s1,s2,s3,s4,s5,s6,t0,t1,t2,t3,t4,t5,t6,a',a7,a8,a9,b0,b4,b5,b6,b7,b8,b9,c0,J,K,M,N,c6,c8⟩:=FK (hf.le v λ_ _ k=>rS.le k v) I;refine ⟨a6,⟨by omega,by omega⟩,d1,q1,m1,e1,d2,q2,m2,e2,d3,q3,m3,e3,d,s1,s2,s3,s4,s5,s6,t0,t1,t2,t3,t4,t5,t6,_,_,a',a7,a8,a9,b0,b4,b5,b6,b7,b8,b9,c0,J,K,M,N,λV9 l9=>(CH (l:=(f0::e)[j].1) (s:=(f0::e)[j].2) ⟨_,_,_,_,_,_,_,_,_,_,_,_,_,_,_,_,_,_,_,_,_,_,_,_,_,_,rfl,cA.le c6 l9,oT.le c8 l9⟩ (cA.le E (v.m l9)) (pW F.ok) F.bd i.2 F.gd.1 ⟨F.sz.1.s (by omega),F.sz.2.s (by omega)⟩).s ?_⟩;rintro r fQ c9 ⟨p4,n4,c4,p5,n5,c5,rfl,k1,k2⟩;rw [Sv F.gd] at k1 k2;obtain rfl:=k1.len;obtain rfl:=k2.len;have ⟨xs,x1,B,O⟩:=eH k1 (by decide);have ⟨ws,w1,G,w3⟩:=eH k2 (by decide);have o1:=we (f0::e)[j].1 (f0::e)[j].2 f0.1;have o2:=we (f0::e)[j].1 (f0::e)[j].2 (revL f0.1);have N_:=l9.m c9;refine ⟨p4,_,c4,p5,_,c5,rfl,xs,x1,B,by omega,y.le,y.cap,B,Gc O B,λsp c' u1 u2=>⟨ws,w1,G,by omega,A.le,A.cap,G,Gc w3 G,λsp' d0 u3 u4=>⟨(z1+_,c',_,y1+_,d0,_,((j+1:Nat):Int)),by dsimp only;omega,by and_intros<;>rfl,j+1,rfl,I,?_,?_⟩⟩⟩
   ·rw [AX I];exact (y.s λ_ _ g=>rS.le g N_).app O B (by decide) u1 u2
   ·rw [AX I];exact (A.s λ_ _ g=>rS.le g N_).app w3 G (by decide) u3 u4
  have n:¬(j:Int)<(f0::e).length:=of_decide_eq_false n;obtain rfl:j=(f0::e).length:=by omega
  rw [Qy5] at y A;have ⟨f1,f2⟩:=KP (f:=f0) (fs:=e) nz;have sm:(kY f0.1 (f0::e)).length<k/\(kY (revL f0.1) (f0::e)).length<k:=by simp only [Qw9] at hk;omega
  obtain ⟨k',rfl⟩:∃k',k=k'+1:=⟨k-1,by omega⟩;have ⟨xs,x1,B,O⟩:=eH (hC v) (by decide);have ln:∀m:L3,(c++[m]).length=(0+c.length)+1:=λm=>by rw [Qq3];simp
  have P:∀m,nE m->∀x∈c++[m],nE x:=λm hm x hx=>(Qw3.1 hx).elim (kc x) λh=>by rw [Qq5.1 h];exact hm
  refine ⟨xs,x1,B,by omega,Qq2 _,by simp,B,uA O B,λTs J5 d4 c3 u1 u2=>⟨by omega,u1,by simp;omega,rfl,Oh,λVN J9 d5 c7 u3 u4 fD Q To f3 d6 d7=>?_⟩⟩;have r1:=qe (V:=fD) (ys:=[_,_,_,_,_,_]) (sp:=d4) (sp':=d5) rfl (O.le λ_ _ g=>cA.le g Q) B rfl (cA.le E (v.m Q));have L1:=bI.hU d7 r1;rw [ln] at L1;obtain rfl:=y.len;have F1:=bI.bJ d6 (y.row.le λ_ _ g=>rS.le g Q) (by decide) y.le;refine (ih k' (by omega) (by omega) F1 (Iv Z i.2) (Ex hq) L1 (P _ i) (by rw [ln];omega) (hR (v.m Q)) hP).s ?_;rintro r gS bS ⟨o1,t1,rfl,w1,d8,f9⟩;have Yk:=Q.m bS;have ⟨d9,YV,Tf,R⟩:=eH (hC (v.m Yk)) (by decide);refine ⟨o1,rfl,d9,YV,Tf,by omega,Qq2 _,by simp,Tf,uA R Tf,λf4 g3 S g4 e0 g5 j7 bU=>(jA (cA.le E (v.m (Yk.m bU)))).s ?_⟩;rintro r lB cz gr;have Ai:cA lB r (revL f0.1):=gr;obtain ⟨_,_,_,_,_,_,_,_,_,_,_,_,rfl⟩:=bR Ai;refine qxW ⟨rfl,by omega,e0,by simp;omega,rfl,Oh,λf5 g6 T g7 g8 g9 jI cE e5 e6 U X=>?_⟩;have QC:=bU.m (cz.m cE);have Yl:=Yk.m QC;have e7:=qe (V:=jI) (ys:=[_,_,_,_,_,_]) (sp:=S) (sp':=T) rfl (R.le λ_ _ g=>cA.le g QC) Tf rfl (cA.le Ai cE);have Y:=bI.hU X e7;rw [ln] at Y;obtain rfl:=A.len;have e8:=bI.bJ U (A.row.le λ_ _ g=>rS.le g Yl) (by decide) A.le;refine (ih k' (by omega) (by omega) e8 (Iv Z i.2.rev) (Ex hq) Y (P _ (uq i)) (by rw [ln];omega) (hR (v.m Yl)) hP).s ?_;rintro r lH cq ⟨o2,t2,rfl,G,e9,h1⟩;refine ⟨o2,rfl,λlC b_ bk hb=>⟨_,.node f0.1 t1 t2,rfl,MJ hb (cA.le E (v.m (Yl.m (cq.m b_)))) (w1.le (QC.m (cq.m b_))) (G.le b_),⟨hq _ (Qw6 ..),d8,e9⟩,by simp only [Tr.depth];omega⟩⟩
end Go.Proofs.Tryz
