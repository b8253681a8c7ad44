import Derived.Test.YtapnijmlbakblaaGreatDoorS16
import Derived.Test.YtapnijmlbakblaaGreatDoorS9
import Derived.Test.YtapnijmlbakblaaGreatDoorS11
import Derived.Test.YtapnijmlbakblaaGreatDoorS6
set_option linter.unusedVariables false
open Go.IntKind (i64 u64 u32)
namespace Go.Proofs.Tryz
open Go.Eng Go.Big
theorem MY:Sz 2 (((2:Int):Rat)):=⟨by show (2:Int).natAbs<_;decide,by show (1:Nat)<_;decide⟩
theorem nF:Sz 2 (((1:Int):Rat)):=⟨by show (1:Int).natAbs<_;decide,by show (1:Nat)<_;decide⟩
theorem EH {V:View}{v:Value}{x:Rat}(h:RQ V v x){k:Nat}(sx:Sz k x)(hk:k+2<274877906944) :
  ae prog 205 #[v] V fun r V'=>RQ V' r (x*((2:Int):Rat)⁻¹):=by
 have b:=h;obtain ⟨_,_,_,_,_,_,rfl⟩:=h.shape;refine D2 _ _ _ _ _ _ _ V _ fun j c=>(eM 2 (by decide) (by decide)).mono ?_;rintro r V2 d g;have e:=g;obtain ⟨_,_,_,_,_,_,rfl⟩:=g.shape;refine ⟨_,_,_,_,_,_,_,rfl,fun l a=>(iR (b.le (c.trans (d.trans a))) (e.le a) (by show (2:Int)≠0;decide) sx MY hk).mono ?_⟩;rintro r m n q;have f:=q;obtain ⟨_,_,_,_,_,_,rfl⟩:=q.shape;exact ⟨_,_,_,_,_,_,_,rfl,fun o i=>f.le i⟩
theorem Hn {V:View}{v w:Value}{x y:Rat}(h:RQ V v x)(h':RQ V w y){k:Nat}(sx:Sz k x)(sy:Sz k y)(hk:4*k+4<274877906944) :
  ae prog 166 #[v,w] V fun r V'=>RQ V' r ((x+y)*((2:Int):Rat)⁻¹):=by
 have c:=h;have a:=h';obtain ⟨_,_,_,_,_,_,rfl⟩:=h.shape;obtain ⟨_,_,_,_,_,_,rfl⟩:=h'.shape;refine F0 _ _ _ _ _ _ _ _ _ _ _ _ _ _ V _ fun j b=>(cC (c.le b) (a.le b) sx sy (by omega)).mono ?_;rintro r V2 l g;have d:=g;obtain ⟨_,_,_,_,_,_,rfl⟩:=g.shape;refine ⟨_,_,_,_,_,_,_,rfl,fun m e=>(EH (d.le e) (sx.add sy) (by omega)).mono ?_⟩;rintro r n o q;have f:=q;obtain ⟨_,_,_,_,_,_,rfl⟩:=q.shape;exact ⟨_,_,_,_,_,_,_,rfl,fun p i=>f.le i⟩
theorem xD.raw {V:View}{v:Value}{l:L3}{s:Sp}(h:xD V v l s)(ho:Lp l s){k:Nat}(sl:eG k l)(ss:s.sz k)(hk:k<=1000000):∃f:FW,Tg V v f/\f.ok=true/\f.ln=l/\f.sp=s/\f.short:=by
 obtain ⟨b1,I,J,K,b2,L,M,N,b3,O,P,Q,b,p,n,c,R,S,T,d,q,m,e,U,W,X,rfl,u,w⟩:=h;obtain ⟨_,_,_,_,_,_,_,_,_,el,x,y,A⟩:=u;have el:=congrArg Array.toList (Value.agg.inj el);simp only [List.cons.injEq,Value.bool.injEq,Value.slice.injEq,and_true] at el;obtain ⟨rfl,⟨rfl,rfl,rfl⟩,rfl,⟨rfl,rfl,rfl⟩,rfl,rfl,rfl,rfl⟩:=el;obtain ⟨_,_,_,_,_,_,_,_,_,_,_,_,_,_,es,B,C⟩:=w;have es:=congrArg Array.toList (Value.agg.inj es);simp only [List.cons.injEq,Value.bool.injEq,Value.slice.injEq,and_true] at es;obtain ⟨rfl,⟨rfl,rfl,rfl⟩,⟨rfl,rfl,rfl⟩,rfl,⟨rfl,rfl,rfl⟩,⟨rfl,rfl,rfl⟩⟩:=es;obtain ⟨ok,can,emp⟩:=ho;obtain ⟨Y,us,g,i,D,j,E⟩:=B.raw can.1;obtain ⟨Z,ws,o,r,F,t,G⟩:=C.raw can.2;have i1:=i;have i2:=r;obtain ⟨_,_,_,_,_,_,f1,-,-⟩:=i1;obtain ⟨_,_,_,_,_,_,f2,-,-⟩:=i2;have f1:=congrArg Array.toList (Value.agg.inj f1);have f2:=congrArg Array.toList (Value.agg.inj f2);simp only [List.cons.injEq,Value.bool.injEq,Value.slice.injEq,and_true] at f1 f2;obtain ⟨rfl,-⟩:=f1;obtain ⟨rfl,-⟩:=f2;have len:∀{z:Int},Sz k (z:Rat)->(ai z.natAbs).length<=1000000:=fun h=>Nat.le_trans (ag h.1) hk;have d1:=E k ss.1;have d2:=G k ss.2;refine ⟨⟨decide (l.1<0),ai l.1.natAbs,decide (l.2.1<0),ai l.2.1.natAbs,decide (l.2.2<0),ai l.2.2.natAbs,b,us,g,d,ws,o,s.a,s.b⟩,⟨_,_,_,_,_,_,_,_,_,_,_,_,_,_,_,_,_,_,_,_,_,rfl,⟨_,_,_,_,_,_,_,_,_,rfl,x,y,A⟩,⟨_,_,_,_,_,_,_,_,_,_,_,_,rfl,i,r⟩⟩,?_,?_,?_,⟨len sl.1,len sl.2.1,len sl.2.2,Nat.le_trans d1.1 hk,Nat.le_trans d1.2 hk,Nat.le_trans d2.1 hk,Nat.le_trans d2.2 hk⟩⟩
 ·have H:Ln b us g d ws o s.a s.b=s:=by unfold Ln;rw [j,t]
  unfold FW.ok okW;dsimp only;rw [Da,D,F,H,emp];show jO l&&true=true;rw [ok];rfl
 ·unfold FW.ln YL;dsimp only;rw [aE,aE,aE]
 ·unfold FW.sp Ln;dsimp only;rw [j,t]
theorem wu {V:View}{p:OA}{n:Nat}{qs:List Rat}(h:dR 3 RQ V p n qs){i:Nat}(hi:i<qs.length):∃ad b p1 n1 c1 p2 n2 c2,ah p (i*3)=some ad/\RQ V (.agg #[.bool b,.slice p1 n1 c1,.slice p2 n2 c2]) qs[i] /\
  V.at (ad.add 0) (.bool b)/\V.at (ad.add 1) (.slice p1 n1 c1)/\V.at (ad.add 2) (.slice p2 n2 c2):=by
 obtain ⟨ad,f,xs,-,d,a⟩:=h.at_ i hi;have c:=d;obtain ⟨p1,n1,c1,p2,n2,c2,e⟩:=d.shape;have e:=congrArg Array.toList (Value.agg.inj e);dsimp only at e;subst e;exact ⟨ad,_,p1,n1,c1,p2,n2,c2,f,c,a 0 _ rfl,a 1 _ rfl,a 2 _ rfl⟩
theorem u_ {V:View}{p:OA}{n c:Nat}{v:Value}{ss:List Sp}{t:Rat}(hl:F_ V p n ss)(ht:RQ V v t){k:Nat}(hs:∀s∈ss,s.sz k)(st:Sz k t)(hk:2*k<274877906944)(hn:ss.length<4611686018427387904) :
  ae prog 99 #[.slice p n c,v] V fun r V'=>r=.bool (lQ ss t==2):=by
 have a:=ht;obtain ⟨_,_,_,_,_,_,rfl⟩:=ht.shape;refine Eg p n c _ _ _ _ _ _ _ V _ fun d b=>(nV (hl.le b) (a.le b) hs st hk hn).mono ?_;rintro r V2 e rfl;exact ⟨_,rfl,fun f g=>rfl⟩
def yg (c:List Rat)(i:Nat):List Rat:=(c.getD 0 0-((1:Int):Rat))::(List.range (i-1)).map fun k=>(c.getD k 0+c.getD (k+1) 0)*((2:Int):Rat)⁻¹
def cw (c:List Rat):List Rat:=if c.length=0 then [0] else yg c c.length++[c.getD (c.length-1) 0+((1:Int):Rat)]
theorem v_ (c:List Rat){i:Nat}(h:1<=i):(yg c i).length=i:=by unfold yg;simp;omega
theorem HO (c:List Rat){i:Nat}(h:1<=i):yg c (i+1)=yg c i++[(c.getD (i-1) 0+c.getD i 0)*((2:Int):Rat)⁻¹]:=by
 obtain ⟨m,rfl⟩:∃m,i=m+1:=⟨i-1,by omega⟩;unfold yg;rw [Nat.add_sub_cancel,Nat.add_sub_cancel,List.range_succ,List.map_append];rfl
theorem fo {c:List Rat}{i:Nat}(h:i<c.length):c.getD i 0=c[i]:=by rw [List.getD_eq_getElem?_getD,List.getElem?_eq_getElem h];rfl
theorem uZ {V:View}{p:OA}{n c:Nat}{cs:List Rat}(h:dR 3 RQ V p n cs)(hn:cs.length<1000000000){k:Nat}(hs:∀q∈cs,Sz k q)(hk:4*k+8<274877906944) :
  ae prog 98 #[.slice p n c] V fun r V'=>∃q m e,r=.slice q m e/\dR 3 RQ V' q m (cw cs):=by
 obtain rfl:=h.len;refine tY p _ c V _ ⟨fun l V1 l1 bk B=>?_,fun l=>?_⟩
 ·have l:cs.length=0:=by simpa using l
  have e:cw cs=[0]:=if_pos l;rw [e];refine ⟨_,_,_,rfl,dR.oM B (row_one rfl ?_)⟩;have:=RQ.zero (V:=V1);simpa using this
 ·have l:¬cs.length=0:=by simpa using l
  have e:cw cs=yg cs cs.length++[cs.getD (cs.length-1) 0+((1:Int):Rat)]:=if_neg l;rw [e];have i0:0<cs.length:=by omega
  obtain ⟨ad,b,p1,n1,c1,p2,n2,c2,R,hq,a0,a1,a2⟩:=wu h i0;refine ⟨aY R,⟨by omega,by omega⟩,_,_,_,_,_,_,_,ad,R,a0,a1,a2,fun V2 S=>(eM 1 (by decide) (by decide)).mono ?_⟩;rintro r V3 T g;have g0:=g;obtain ⟨_,_,_,_,_,_,rfl⟩:=g.shape;refine ⟨_,_,_,_,_,_,_,rfl,fun V4 C=>(kf (hq.le (S.trans (T.trans C))) (g0.le C) (hs _ (List.getElem_mem i0)) nF (by omega)).mono ?_⟩;rintro r V5 l5 U;have Mx:=U;obtain ⟨_,_,_,_,_,_,rfl⟩:=U.shape;have u:V.Le V5:=S.trans (T.trans (C.trans l5))
  refine ⟨_,_,_,_,_,_,_,rfl,fun z V'=>∃i:Nat,z.2.2.2=(i:Int)/\1<=i/\i<=cs.length/\z.1=i/\i<=z.2.1/\z.2.1*3<=z.2.2.1.length/\Row 3 RQ V' z.2.2.1 (yg cs i),fun z=>cs.length-z.2.2.2.toNat,
   ⟨(1,1,_,1),by and_intros<;>first|rfl|decide,1,rfl,Nat.le_refl _,i0,rfl,Nat.le_refl _,Nat.le_refl _,row_one rfl (by rw [fo i0];exact Mx)⟩,?_⟩
  rintro ⟨a,z2,vs,z4⟩ V6 w ⟨i,W,i1,Rv,X,D,hv,E⟩;dsimp only at W X D hv E;subst W X;have hlen:=v_ cs i1;refine ⟨rfl,fun d=>?_,fun d=>?_⟩
  ·have d:(a:Int)<cs.length:=of_decide_eq_true d;have j:a<cs.length:=by omega
   have o:a-1<cs.length:=by omega
   have F:i64.wrap ((a:Int)-1)=((a-1:Nat):Int):=by rw [aw (by omega)];omega
   have w2:i64.wrap ((a:Int)+1)=(a:Int)+1:=aw (by omega);dsimp only;rw [F,w2,Int.toNat_natCast,Int.toNat_natCast];obtain ⟨G,b1,p3,n3,c3,p4,n4,c4,f,s,H,t,b2⟩:=wu (h.le (u.trans w) fun _ _ g=>g.le (u.trans w)) o;obtain ⟨ZU,d1,p5,n5,c5,p6,n6,c6,x,I,d0,J,d2⟩:=wu (h.le (u.trans w) fun _ _ g=>g.le (u.trans w)) j;refine ⟨aY f,⟨by omega,by omega⟩,_,_,_,_,_,_,_,G,f,H,t,b2,aY x,⟨by omega,by omega⟩,_,_,_,_,_,_,_,ZU,x,d0,J,d2,fun V7 K=>(Hn (s.le K) (I.le K) (hs _ (List.getElem_mem o)) (hs _ (List.getElem_mem j)) (by omega)).mono ?_⟩;rintro r V8 l8 y;have M:=y;obtain ⟨_,_,_,_,_,_,rfl⟩:=y.shape;refine ⟨_,_,_,_,_,_,_,rfl,by omega,D,hv,rfl,?_,fun sp N O h2=>⟨(a+1,N,_,(a:Int)+1),by dsimp only;omega,by and_intros<;>rfl,a+1,rfl,by omega,j,rfl,O,?_,?_⟩⟩
   ·intro v hm;simp only [List.mem_cons,List.not_mem_nil,or_false] at hm;rcases hm with rfl|rfl|rfl<;>rfl
   ·dsimp only;have ht:(vs.take (a*3)).length=a*3:=by rw [List.length_take];omega
    rw [List.length_append,List.length_append,ht];simp only [List.length_cons,List.length_nil];omega
   ·dsimp only;rw [HO cs i1,fo o,fo j];have:=(E.le (V':=V8) fun _ _ g=>g.le (K.trans l8)).snoc (sp:=sp) rfl M (by decide);rw [hlen] at this;exact this
  ·have d:¬(a:Int)<cs.length:=of_decide_eq_false d;obtain rfl:a=cs.length:=by omega
   have j:cs.length-1<cs.length:=by omega
   have F:i64.wrap ((cs.length:Int)-1)=((cs.length-1:Nat):Int):=by rw [aw (by omega)];omega
   dsimp only;rw [F,Int.toNat_natCast];obtain ⟨G,b1,p3,n3,c3,p4,n4,c4,f,s,H,t,b2⟩:=wu (h.le (u.trans w) fun _ _ g=>g.le (u.trans w)) j;refine ⟨aY f,⟨by omega,by omega⟩,_,_,_,_,_,_,_,G,f,H,t,b2,fun V9 Y=>(eM 1 (by decide) (by decide)).mono ?_⟩;rintro r gu A Z;have P:=Z;obtain ⟨_,_,_,_,_,_,rfl⟩:=Z.shape;refine ⟨_,_,_,_,_,_,_,rfl,fun fg Q=>(cC (s.le (Y.trans (A.trans Q))) (P.le Q) (hs _ (List.getElem_mem j)) nF (by omega)).mono ?_⟩;rintro r ib cu y;have M:=y;obtain ⟨_,_,_,_,_,_,rfl⟩:=y.shape;refine ⟨_,_,_,_,_,_,_,rfl,by omega,D,hv,rfl,?_,fun sp N O h2 lG ck bk B=>?_⟩
   ·intro v hm;simp only [List.mem_cons,List.not_mem_nil,or_false] at hm;rcases hm with rfl|rfl|rfl<;>rfl
   ·have L:=Y.trans (A.trans (Q.trans (cu.trans ck)));have:=(E.le (V':=lG) fun _ _ g=>g.le L).snoc (sp:=sp) rfl (M.le ck) (by decide);rw [hlen] at this;have k:=dR.eh (c:=N) B this (by decide) (by rw [List.length_append,hlen];exact O);rw [List.length_append,hlen] at k;rw [fo j];exact ⟨_,_,_,rfl,k⟩
def cB (x:Rat):List Rat->List Rat
 | []=>[x]
 | y::r=>if y<x then y::cB x r else if y=x then y::r else x::y::r
theorem Gv {x:Rat}:∀(o:List Rat)(k:Nat),k<=o.length->(∀j (h:j<o.length),j<k->o[j]<x)->(∀h:k<o.length,¬o[k]<x) ->
  cB x o=if (∃h:k<o.length,o[k]=x) then o else o.take k++x::o.drop k:=by
 intro o
 induction o with
 | nil=>
  intro k f _ _;obtain rfl:k=0:=by simpa using f
  simp [cB]
 | cons y r ih=>
  intro k f a b
  cases k with
  | zero=>
   have g:¬y<x:=b (by simp);unfold cB;rw [if_neg g];by_cases e:y=x
   ·rw [if_pos e,if_pos ⟨by simp,e⟩]
   ·rw [if_neg e,if_neg (by rintro ⟨_,h⟩;exact e h)];rfl
  | succ k=>
   have g:y<x:=a 0 (by simp) (by omega);unfold cB;rw [if_pos g,ih k (by simpa using f) (fun j h i=>a (j+1) (by simpa using h) (by omega)) (fun h=>b (by simpa using h))];by_cases e:∃h:k<r.length,r[k]=x
   ·obtain ⟨c,d⟩:=e;rw [if_pos ⟨c,d⟩,if_pos ⟨by simpa using c,d⟩]
   ·rw [if_neg e,if_neg (by rintro ⟨c,d⟩;exact e ⟨by simpa using c,d⟩)];rfl
def dN (s:Sp)(o:List Rat):Nat->List Rat
 | 0=>o
 | 1=>if s.a then o else cB s.lo o
 | _=>if s.b then (if s.a then o else cB s.lo o) else cB s.hi (if s.a then o else cB s.lo o)
def endsL (ss:List Sp):List Rat:=ss.foldl (fun o s=>dN s o 2) []
theorem EP {ss:List Sp}{i:Nat}(hi:i<ss.length):endsL (ss.take (i+1))=dN ss[i] (endsL (ss.take i)) 2:=by
 unfold endsL;rw [List.take_add_one,List.getElem?_eq_getElem hi,List.foldl_append];rfl
theorem CU {x q:Rat}:∀{o:List Rat},q∈cB x o->q=x\/q∈o:=by
 intro o
 induction o with
 | nil=>intro h;simp [cB] at h;exact .inl h
 | cons y r ih=>
  unfold cB;split
  ·intro h;rcases List.mem_cons.1 h with h|h
   ·exact .inr (by simp [h])
   ·rcases ih h with h|h
    ·exact .inl h
    ·exact .inr (by simp [h])
  ·split
   ·exact .inr
   ·intro h;rcases List.mem_cons.1 h with h|h
    ·exact .inl h
    ·exact .inr h
theorem vD {x:Rat}:∀{o:List Rat},(cB x o).length<=o.length+1:=by
 intro o
 induction o with
 | nil=>simp [cB]
 | cons y r ih=>
  unfold cB;split
  ·simp;omega
  ·split<;>simp
theorem FE {s:Sp}{o:List Rat}{y:Nat}(hy:y<2):dN s o (y+1)=if (if y=0 then s.a else s.b)=true then dN s o y else cB (if y=0 then s.lo else s.hi) (dN s o y):=by
 have:y=0\/y=1:=by omega
 rcases this with rfl|rfl<;>rfl
theorem Am {s:Sp}{o:List Rat}{y:Nat}(hy:y<=2):(dN s o y).length<=o.length+y:=by
 have e:=@vD s.lo o;have f:=@vD s.hi (if s.a then o else cB s.lo o);have d:(if s.a then o else cB s.lo o).length<=o.length+1:=by split<;>omega
 have:y=0\/y=1\/y=2:=by omega
 rcases this with rfl|rfl|rfl
 ·exact Nat.le_refl _
 ·exact d
 ·show (if s.b=true then (if s.a=true then o else cB s.lo o) else cB s.hi (if s.a=true then o else cB s.lo o)).length<=_;by_cases c:s.b=true
  ·rw [if_pos c];omega
  ·rw [if_neg c];omega
theorem An {s:Sp}{o:List Rat}{y:Nat}(hy:y<=2){q:Rat}(h:q∈dN s o y):q=s.lo\/q=s.hi\/q∈o:=by
 have c:q∈(if s.a then o else cB s.lo o)->q=s.lo\/q=s.hi\/q∈o:=by
  split
  ·exact fun h=>.inr (.inr h)
  ·intro h;rcases CU h with h|h
   ·exact .inl h
   ·exact .inr (.inr h)
 have:y=0\/y=1\/y=2:=by omega
 rcases this with rfl|rfl|rfl
 ·exact .inr (.inr h)
 ·exact c h
 ·replace h:q∈(if s.b=true then (if s.a=true then o else cB s.lo o) else cB s.hi (if s.a=true then o else cB s.lo o)):=h
  by_cases d:s.b=true
  ·rw [if_pos d] at h;exact c h
  ·rw [if_neg d] at h;rcases CU h with h|h
   ·exact .inr (.inl h)
   ·exact c h
theorem zG (ss:List Sp):(endsL ss).length<=2*ss.length:=by
 have:∀(ss:List Sp)(o:List Rat),(ss.foldl (fun o s=>dN s o 2) o).length<=o.length+2*ss.length:=by
  intro ss
  induction ss with
  | nil=>intro o;simp
  | cons s r ih=>
   intro o;have:=ih (dN s o 2);have a:=Am (s:=s) (o:=o) (Nat.le_refl 2);simp only [List.foldl_cons,List.length_cons];omega
 have:=this ss [];simpa [endsL] using this
theorem zH {ss:List Sp}{q:Rat}(h:q∈endsL ss):∃s∈ss,q=s.lo\/q=s.hi:=by
 have:∀(ss:List Sp)(o:List Rat),q∈(ss.foldl (fun o s=>dN s o 2) o)->q∈o\/∃s∈ss,q=s.lo\/q=s.hi:=by
  intro ss
  induction ss with
  | nil=>exact fun o h=>.inl h
  | cons s r ih=>
   intro o h;rcases ih _ h with h|⟨t,a,h⟩
   ·rcases An (Nat.le_refl 2) h with h|h|h
    ·exact .inr ⟨s,by simp,.inl h⟩
    ·exact .inr ⟨s,by simp,.inr h⟩
    ·exact .inl h
   ·exact .inr ⟨t,by simp [a],h⟩
 rcases this ss [] h with h|h
 ·simp at h
 ·exact h
theorem Bt {V:View}{vs:List Value}{qs:List Rat}(h:Row 3 RQ V vs qs){i:Nat}(hi:i<qs.length):∃b p1 n1 c1 p2 n2 c2,i*3+3<=vs.length/\(vs.drop (i*3)).take 3=[.bool b,.slice p1 n1 c1,.slice p2 n2 c2]/\RQ V (.agg #[.bool b,.slice p1 n1 c1,.slice p2 n2 c2]) qs[i]:=by
 obtain ⟨xs,-,d,a⟩:=h.at_ i hi;have c:=d;obtain ⟨p1,n1,c1,p2,n2,c2,e⟩:=d.shape;have e:=congrArg Array.toList (Value.agg.inj e);dsimp only at e;subst e;have k:=a 0 _ rfl;have l:=a 1 _ rfl;have f:=a 2 _ rfl;have m:=(List.getElem?_eq_some_iff.1 f).1;refine ⟨_,p1,n1,c1,p2,n2,c2,by omega,?_,c⟩;apply List.ext_getElem?;intro j;rw [List.getElem?_take];by_cases g:j<3
 ·rw [if_pos g,List.getElem?_drop];have:j=0\/j=1\/j=2:=by omega
  rcases this with rfl|rfl|rfl
  ·exact k
  ·exact l
  ·exact f
 ·rw [if_neg g,List.getElem?_eq_none (by simp;omega)]
theorem cmpQ_neg {a b:Rat}:cmpQ a b<0↔a<b:=by
 rcases iq a b with ⟨h,e⟩|⟨h,e⟩|⟨h,e⟩<;>rw [e]<;>constructor<;>intro c<;>first|exact h|omega|(exfalso;grind)
theorem KC {V:View}{xs:List Value}{q:Rat}(h:RQ V (.agg xs.toArray) q):∀v∈xs,v.oneCell'=true:=by
 obtain ⟨p,n,c,a,b,d,ex⟩:=h.shape;have ex:=congrArg Array.toList (Value.agg.inj ex);dsimp only at ex;subst ex;intro v hv;simp only [List.mem_cons,List.not_mem_nil,or_false] at hv;rcases hv with rfl|rfl|rfl<;>rfl
set_option maxHeartbeats 1000000 in
theorem AU {V:View}{p:OA}{n c:Nat}{ss:List Sp}(h:F_ V p n ss)(hn:ss.length<100000000){k:Nat}(hs:∀s∈ss,s.sz k)(hk:2*k<274877906944) :
  ae prog 97 #[.slice p n c] V fun r V'=>∃q m e,r=.slice q m e/\dR 3 RQ V' q m (endsL ss):=by
 obtain rfl:=h.len
 refine yS p _ c V _ ⟨fun z V'=>∃i:Nat,z.2.2.2=(i:Int)/\i<=ss.length/\z.1=(endsL (ss.take i)).length/\z.1<=z.2.1/\z.2.1*3<=z.2.2.1.length/\Row 3 RQ V' z.2.2.1 (endsL (ss.take i)),fun z=>ss.length-z.2.2.2.toNat,
  ⟨(0,0,[],0),by and_intros<;>rfl,0,rfl,Nat.zero_le _,rfl,Nat.le_refl _,Nat.le_refl _,Row.nil⟩,?_⟩
 rintro ⟨z1,z2,vs,z4⟩ V1 l1 ⟨i,e4,Rv,e1,ic,hv,hx⟩;dsimp only at e4 e1 ic hv hx;subst e4;refine ⟨rfl,fun f=>?_,fun f lG ck bk hb=>?_⟩
 ·have f:(i:Int)<ss.length:=of_decide_eq_true f;have hi:i<ss.length:=by omega
  have w:i64.wrap ((i:Int)+1)=(i:Int)+1:=aw (by omega);dsimp only;rw [Int.toNat_natCast,w];obtain ⟨ad,M,xs,hf,l⟩:=(h.le l1).at_ i hi;have B:=hs _ (List.getElem_mem hi);have v:=EP hi
  have b6:(endsL (ss.take i)).length<300000000:=by
   have:=zG (ss.take i);rw [List.length_take] at this;omega
  have Vq:∀q∈endsL (ss.take i),Sz k q:=fun q F=>by
   obtain ⟨s,h1,h2⟩:=zH F;have:=hs s (List.mem_of_mem_take h1);rcases h2 with rfl|rfl
   ·exact this.1
   ·exact this.2
  generalize endsL (ss.take i)=o at *;generalize ss[i]=s at *;obtain ⟨b,N,P,Q,S,T,U,d,W,X,f1,Y,Z,f2,ex,a3,a4⟩:=hf;have ex:=congrArg Array.toList (Value.agg.inj ex);dsimp only at ex;subst ex
  refine ⟨aY M,⟨by omega,by omega⟩,b,N,P,Q,S,T,U,d,W,X,f1,Y,Z,f2,s.a,s.b,ad,M,l 0 _ rfl,l 1 _ rfl,l 2 _ rfl,l 3 _ rfl,l 4 _ rfl,l 5 _ rfl,l 6 _ rfl,l 7 _ rfl,
   fun z _=>z=(2,2,[.bool b,.slice N P Q,.slice S T U,.bool d,.slice W X f1,.slice Y Z f2],2,0),⟨(2,2,[.bool b,.slice N P Q,.slice S T U,.bool d,.slice W X f1,.slice Y Z f2],2,0),by and_intros<;>first|rfl|decide,rfl⟩,?_⟩
  rintro z V2 l2 rfl;dsimp only
  refine ⟨rfl,fun z V'=>∃y:Nat,z.2.2.2=(y:Int)/\y<=2/\z.1=(dN s o y).length/\z.1<=z.2.1/\z.2.1*3<=z.2.2.1.length/\Row 3 RQ V' z.2.2.1 (dN s o y),fun z=>2-z.2.2.2.toNat,
   ⟨(z1,z2,vs,0),by and_intros<;>rfl,0,rfl,by omega,e1,ic,hv,hx.le fun _ _ g=>g.le l2⟩,?_⟩
  rintro ⟨A,w2,us,w4⟩ V3 l3 ⟨y,f4,a0,g1,G,fv,H⟩;dsimp only at f4 g1 G fv H;subst f4;refine ⟨rfl,fun hy=>?_,fun hy=>?_⟩
  ·have hy:(y:Int)<2:=of_decide_eq_true hy;have a5:y<2:=by omega
   have a1:=FE (s:=s) (o:=o) a5;have b7:=Am (s:=s) (o:=o) a0
   have Yt:∀q∈dN s o y,Sz k q:=fun q F=>by
    rcases An a0 F with h|h|h
    ·rw [h];exact B.1
    ·rw [h];exact B.2
    ·exact Vq q h
   have wy:i64.wrap ((y:Int)+1)=(y:Int)+1:=aw (by omega);generalize hO:dN s o y=O at *;generalize Q5:dN s o (y+1)=O' at *
   have el:∃eb ep en ec eq em ee x no,([.bool b,.slice N P Q,.slice S T U,.bool d,.slice W X f1,.slice Y Z f2].drop (y*3)).take 3=[Value.bool eb,.slice ep en ec,.slice eq em ee]/\RQ V3 (.agg #[.bool eb,.slice ep en ec,.slice eq em ee]) x/\Sz k x/\O'=(if no=true then O else cB x O) /\
     ((y=0/\no=s.a)\/(y=1/\no=s.b)):=by
    have:y=0\/y=1:=by omega
    rcases this with rfl|rfl
    ·exact ⟨b,N,P,Q,S,T,U,s.lo,s.a,rfl,a3.le (l2.trans l3),B.1,a1,.inl ⟨rfl,rfl⟩⟩
    ·exact ⟨d,W,X,f1,Y,Z,f2,s.hi,s.b,rfl,a4.le (l2.trans l3),B.2,a1,.inr ⟨rfl,rfl⟩⟩
   obtain ⟨eb,ep,en,ec,eq,em,ee,x,no,a6,F,sx,I,a7⟩:=el;dsimp only;rw [Int.toNat_natCast,wy];refine ⟨⟨by omega,by omega⟩,Nat.le_refl _,eb,ep,en,ec,eq,em,ee,⟨by simp;omega,a6⟩,fun z _=>z=no,?_,?_⟩
   ·rcases a7 with ⟨rfl,rfl⟩|⟨rfl,rfl⟩
    ·exact ⟨fun _=>⟨fun M=>⟨true,by and_intros<;>rfl,M.symm⟩,fun M=>⟨(fun h=>by simp at h),fun _=>⟨false,by and_intros<;>rfl,M.symm⟩⟩⟩,fun h=>by simp at h⟩
    ·exact ⟨fun h=>by simp at h,fun _=>⟨fun _=>⟨s.b,by and_intros<;>rfl,rfl⟩,fun h=>by simp at h⟩⟩
   ·rintro z V4 D rfl;refine ⟨rfl,fun u=>⟨(A,w2,us,(y:Int)+1),by dsimp only;omega,by and_intros<;>rfl,y+1,rfl,by omega,?_,G,fv,?_⟩,fun u=>?_⟩
    ·show A=(dN s o (y+1)).length;rw [Q5,I,if_pos u];exact g1
    ·show Row 3 RQ V4 us (dN s o (y+1));rw [Q5,I,if_pos u];exact H.le fun _ _ g=>g.le D
    ·have K:O'=cB x O:=by rw [I,u];rfl
     refine ⟨fun z _=>∃j:Nat,z=(j:Int)/\j<=O.length/\∀(E:Nat)(h:E<O.length),E<j->O[E]<x,fun z=>O.length-z.toNat,⟨0,by and_intros<;>rfl,0,rfl,Nat.zero_le _,fun E _ h=>absurd h (Nat.not_lt_zero E)⟩,?_⟩;rintro z V5 L ⟨j,rfl,B2,jl⟩;have wj:i64.wrap ((j:Int)+1)=(j:Int)+1:=aw (by omega);rw [Int.toNat_natCast,wj];refine ⟨rfl,fun z _=>z=true↔∃h:j<O.length,O[j]<x,⟨fun f=>?_,fun f=>⟨false,by and_intros<;>rfl,?_⟩⟩,?_⟩
     ·have f:(j:Int)<(A:Int):=of_decide_eq_true f;have C:j<O.length:=by omega
      obtain ⟨rb,rp,rn,rc,rq,rm,re,eT,Jg,hr⟩:=Bt H C;refine ⟨⟨by omega,by omega⟩,G,rb,rp,rn,rc,rq,rm,re,⟨eT,Jg⟩,fun V6 l6=>(im (hr.le (D.trans (L.trans l6))) (F.le (D.trans (L.trans l6))) (Yt _ (List.getElem_mem C)) sx (by omega)).mono ?_⟩;rintro r V7 l7 rfl;exact ⟨_,rfl,_,by and_intros<;>rfl,by dsimp only;rw [decide_eq_true_eq,cmpQ_neg];exact ⟨fun h=>⟨C,h⟩,fun ⟨_,h⟩=>h⟩⟩
     ·have f:¬(j:Int)<(A:Int):=of_decide_eq_false f;exact ⟨(fun h=>nomatch h),fun ⟨h,_⟩=>absurd h (by omega)⟩
     ·rintro z V8 l8 NF;refine ⟨rfl,fun u=>?_,fun u=>?_⟩
      ·obtain ⟨C,a8⟩:=NF.1 u;refine ⟨(j:Int)+1,by dsimp only;omega,by and_intros<;>rfl,j+1,rfl,C,fun E h b8=>?_⟩;by_cases e:E=j
       ·subst e;exact a8
       ·exact jl E h (by omega)
      ·have a9:∀h:j<O.length,¬O[j]<x:=fun h h'=>by
        have:=NF.2 ⟨h,h'⟩;rw [u] at this;cases this
       have t:=Gv O j B2 jl a9;refine ⟨fun z _=>z=true↔¬∃h:j<O.length,O[j]=x,⟨fun he=>⟨true,by and_intros<;>rfl,?_⟩,fun he=>?_⟩,?_⟩
       ·have he:(j:Int)=(A:Int):=by simpa using he
        exact ⟨fun _ ⟨h,_⟩=>absurd h (by omega),fun _=>rfl⟩
       ·have he:¬(j:Int)=(A:Int):=by simpa using he
        have C:j<O.length:=by omega
        obtain ⟨rb,rp,rn,rc,rq,rm,re,eT,Jg,hr⟩:=Bt H C;refine ⟨⟨by omega,by omega⟩,G,rb,rp,rn,rc,rq,rm,re,⟨eT,Jg⟩,fun V6 l6=>(im (hr.le (D.trans (L.trans (l8.trans l6)))) (F.le (D.trans (L.trans (l8.trans l6)))) (Yt _ (List.getElem_mem C)) sx (by omega)).mono ?_⟩;rintro r V7 l7 rfl;exact ⟨_,rfl,_,by and_intros<;>rfl,by dsimp only;rw [bne_iff_ne,ne_eq,←dX];exact ⟨fun h ⟨_,h'⟩=>h h',fun h h'=>h ⟨C,h'⟩⟩⟩
       ·rintro z fg bF Ju;refine ⟨rfl,fun u ib cu bk hb J=>?_,fun u=>?_⟩
        ·have b0:=Ju.1 u;rw [if_neg b0] at t;obtain ⟨xs,ys,x1,x2,x3,y1,y2,y3,r1,r2,r3,r4,r5⟩:=A4 (V:=ib) (R:=RQ) (GR.mono ⟨g1,G,fv,H⟩ fun _ _ g=>g.le (D.trans (L.trans (l8.trans (bF.trans cu))))) (by decide) (fun _ _=>KC) hb (es:=[_,_,_]) rfl (F.le (D.trans (L.trans (l8.trans (bF.trans cu))))) (j:=j) (by omega);refine ⟨⟨by omega,by omega⟩,⟨by omega,by omega⟩,⟨by omega,by omega⟩,xs,x1,x2,by omega,Nat.le_refl _,Nat.le_refl _,x2,x3,fun b9 J2 sp c' h1 h2=>?_⟩;rw [r1,r2];refine ⟨ys,y1,y2,Nat.le_refl _,y3,by omega,by omega,r3,r4,fun b5 a2 h3 h4=>⟨(j+(1+(A-j)),a2,_,(y:Int)+1),by dsimp only;omega,by and_intros<;>first|rfl|omega,y+1,rfl,by omega,?_⟩⟩;have r6:=r5 b5 a2 h3 h4;rw [←t,←K,←Q5] at r6;exact ⟨r6.len,r6.le,r6.cap,r6.row⟩
        ·have hex:∃h:j<O.length,O[j]=x:=Classical.byContradiction fun h=>by have:=Ju.2 h;rw [u] at this;cases this
         rw [if_pos hex] at t;refine ⟨(A,w2,us,(y:Int)+1),by dsimp only;omega,by and_intros<;>rfl,y+1,rfl,by omega,?_,G,fv,?_⟩
         ·show A=(dN s o (y+1)).length;rw [Q5,K,t];exact g1
         ·show Row 3 RQ fg us (dN s o (y+1));rw [Q5,K,t];exact H.le fun _ _ g=>g.le (D.trans (L.trans (l8.trans bF)))
  ·have hy:¬(y:Int)<2:=of_decide_eq_false hy;obtain rfl:y=2:=by omega
   exact ⟨(A,w2,us,(i:Int)+1),by dsimp only;omega,by and_intros<;>rfl,i+1,rfl,hi,by dsimp only;rw [v];exact g1,G,fv,by dsimp only;rw [v];exact H⟩
 ·have f:¬(i:Int)<ss.length:=of_decide_eq_false f;obtain rfl:i=ss.length:=by omega
  rw [List.take_length] at e1 hx;subst e1;exact ⟨_,_,_,rfl,dR.eh hb (hx.le fun _ _ g=>g.le ck) (by decide) ic⟩
def cP (cuts:List Rat)(i:Nat):Sp:=⟨if 0<i then cuts.getD (i-1) 0 else 0,if i<cuts.length then cuts.getD i 0 else 0,decide (i=0),decide (i=cuts.length)⟩
def rD (out:List Sp)(s:Sp):List Sp:=out.dropLast++[⟨(out.getLastD Sp.zero).lo,s.hi,(out.getLastD Sp.zero).a,s.b⟩]
def cp (cuts:List Rat)(marks:List Bool):Nat->List Sp
 | 0=>[]
 | i+1=>if marks.getD i false=true then (if 0<i/\marks.getD (i-1) false=true/\0<(cp cuts marks i).length then rD (cp cuts marks i) (cP cuts i) else cp cuts marks i++[cP cuts i]) else cp cuts marks i
def CF (cuts:List Rat)(marks:List Bool):List Sp:=cp cuts marks marks.length
theorem vI {out:List Sp}{s:Sp}(h:0<out.length):(rD out s).length=out.length:=by
 unfold rD;rw [List.length_append,List.length_dropLast];simp;omega
theorem Hz (cuts:List Rat)(marks:List Bool)(i:Nat):(cp cuts marks i).length<=i:=by
 induction i with
 | zero=>simp [cp]
 | succ i ih=>
  unfold cp;split
  ·split
   ·rename_i h;rw [vI h.2.2];omega
   ·rw [List.length_append];simp;omega
  ·omega
theorem KA {α:Type}{sz:Nat}{R:View->Value->α->Prop}{V:View}{vs us:List Value}{ls:List α}(h:Row sz R V vs ls)(h0:0<ls.length){xs:List Value}{a:α}(hx:xs.length=sz)(ha:R V (.agg xs.toArray) a)
  (hlow:∀q,q<(ls.length-1)*sz->us[q]?=vs[q]?)(hlast:∀j x,xs[j]?=some x->us[(ls.length-1)*sz+j]?=some x):Row sz R V us (ls.dropLast++[a]):=by
 refine ⟨fun i o=>?_⟩;have p:(ls.dropLast++[a]).length=ls.length:=by rw [List.length_append,List.length_dropLast];simp;omega
 by_cases e:i=ls.length-1
 ·subst e;refine ⟨xs,hx,?_,hlast⟩
  have b:(ls.dropLast++[a])[ls.length-1]=a:=by
   rw [List.getElem_append_right (by simp)];simp
  rw [b];exact ha
 ·have c:i<ls.length-1:=by omega
  obtain ⟨g,k,l,m⟩:=h.at_ i (by omega);refine ⟨g,k,?_,fun j x f=>?_⟩
  ·have b:(ls.dropLast++[a])[i]=ls[i]:=by
    rw [List.getElem_append_left (by rw [List.length_dropLast];exact c),List.getElem_dropLast]
   rw [b];exact l
  ·have n:=(List.getElem?_eq_some_iff.1 f).1
   have d:i*sz+j<(ls.length-1)*sz:=by
    have:(i+1)*sz<=(ls.length-1)*sz:=Nat.mul_le_mul_right _ (by omega);rw [Nat.succ_mul] at this;omega
   rw [hlow _ d];exact m j x f
def TW (_:View)(v:Value)(b:Bool):Prop:=v=.agg #[.bool b]
theorem N1 {V:View}{p:OA}{n:Nat}{bs:List Bool}(h:dR 1 TW V p n bs){i:Nat}(hi:i<bs.length):∃ad,ah p (i*1)=some ad/\V.at ad (.bool bs[i]):=by
 obtain ⟨ad,a,xs,-,e,b⟩:=h.at_ i hi;have e:=congrArg Array.toList (Value.agg.inj e);dsimp only at e;subst e;have:=b 0 _ rfl;exact ⟨ad,a,by simpa [Addr.add] using this⟩
theorem qm {V:View}{xs:List Value}{s:Sp}(h:pz V (.agg xs.toArray) s):∃b p n c p' n' c' d q m e q' m' e',xs=[.bool b,.slice p n c,.slice p' n' c',.bool d,.slice q m e,.slice q' m' e',.bool s.a,.bool s.b] /\
  RQ V (.agg #[.bool b,.slice p n c,.slice p' n' c']) s.lo/\RQ V (.agg #[.bool d,.slice q m e,.slice q' m' e']) s.hi:=by
 obtain ⟨_,_,_,_,_,_,_,_,_,_,_,_,_,_,ex,f,g⟩:=h;have ex:=congrArg Array.toList (Value.agg.inj ex);exact ⟨_,_,_,_,_,_,_,_,_,_,_,_,_,_,ex,f,g⟩
theorem Bv (V:View):RQ V (.agg #[.bool false,.slice none 0 0,.slice none 0 0]) 0:=by have:=RQ.zero (V:=V);simpa using this
set_option maxHeartbeats 1000000 in
theorem AQ {V:View}{p q:OA}{n c m e:Nat}{cuts:List Rat}{marks:List Bool}(hc:dR 3 RQ V p n cuts)(hm:dR 1 TW V q m marks)(hlen:marks.length=cuts.length+1)(hn:cuts.length<100000000) :
  ae prog 100 #[.slice p n c,.slice q m e] V fun r V'=>∃p' n' c',r=.slice p' n' c'/\dR 8 pz V' p' n' (CF cuts marks):=by
 obtain rfl:=hc.len;obtain rfl:=hm.len
 refine yP p _ c q _ e V _ ⟨fun z V'=>∃i:Nat,z.2.2.2=(i:Int)/\i<=marks.length/\z.1=(cp cuts marks i).length/\z.1<=z.2.1/\z.2.1*8<=z.2.2.1.length/\Row 8 pz V' z.2.2.1 (cp cuts marks i),fun z=>marks.length-z.2.2.2.toNat,
  ⟨(0,0,[],0),by and_intros<;>rfl,0,rfl,Nat.zero_le _,rfl,Nat.le_refl _,Nat.le_refl _,Row.nil⟩,?_⟩
 rintro ⟨f,z2,vs,z4⟩ V1 P ⟨i,e4,Rv,Q,L,hv,hx⟩;dsimp only at e4 Q L hv hx;subst e4;refine ⟨rfl,fun y=>?_,fun y V5 l5 bk D=>?_⟩
 ·have y:(i:Int)<marks.length:=of_decide_eq_true y;have hi:i<marks.length:=by omega
  have w:i64.wrap ((i:Int)+1)=(i:Int)+1:=aw (by omega);have b6:=Hz cuts marks i;have S:marks.getD i false=marks[i]:=by rw [List.getD_eq_getElem?_getD,List.getElem?_eq_getElem hi];rfl
  have T:marks[i]=false->cp cuts marks (i+1)=cp cuts marks i:=fun h=>by
   show (if marks.getD i false=true then _ else _)=_;rw [S,h];rfl
  have l:marks[i]=true->cp cuts marks (i+1)=if 0<i/\marks.getD (i-1) false=true/\0<(cp cuts marks i).length then rD (cp cuts marks i) (cP cuts i) else cp cuts marks i++[cP cuts i]:=fun h=>by
   show (if marks.getD i false=true then _ else _)=_;rw [S,h];rfl
  dsimp only;rw [Int.toNat_natCast,w];obtain ⟨ad,ha,a0⟩:=N1 (hm.le P fun _ _ g=>g) hi;refine ⟨aY ha,⟨by omega,by omega⟩,marks[i],⟨ad,ha,a0⟩,fun D=>?_,fun D=>?_⟩
  ·rw [Bool.not_eq_true'] at D;exact ⟨(f,z2,vs,(i:Int)+1),by dsimp only;omega,by and_intros<;>rfl,i+1,rfl,hi,by dsimp only;rw [T D];exact Q,L,hv,by dsimp only;rw [T D];exact hx⟩
  ·rw [Bool.not_eq_false'] at D;have l:=l D;generalize cp cuts marks i=out at *;generalize hO:cp cuts marks (i+1)=out' at *;refine ⟨fun z V'=>RQ V' (.agg #[.bool z.1,.slice z.2.1 z.2.2.1 z.2.2.2.1,.slice z.2.2.2.2.1 z.2.2.2.2.2.1 z.2.2.2.2.2.2.1]) ((cP cuts i).lo)/\RQ V' (.agg #[.bool z.2.2.2.2.2.2.2.1,.slice z.2.2.2.2.2.2.2.2.1 z.2.2.2.2.2.2.2.2.2.1 z.2.2.2.2.2.2.2.2.2.2.1,.slice z.2.2.2.2.2.2.2.2.2.2.2.1 z.2.2.2.2.2.2.2.2.2.2.2.2.1 z.2.2.2.2.2.2.2.2.2.2.2.2.2.1]) (0)/\z.2.2.2.2.2.2.2.2.2.2.2.2.2.2.1=decide (i=0)/\z.2.2.2.2.2.2.2.2.2.2.2.2.2.2.2=decide (i=cuts.length),⟨fun s=>?_,fun s=>⟨(false,none,0,0,none,0,0,false,none,0,0,none,0,0,(i:Int)==0,(i:Int)==(cuts.length:Int)),by and_intros<;>rfl,?_⟩⟩,?_⟩
   ·have s:(i:Int)>0:=of_decide_eq_true s;have k:i-1<cuts.length:=by omega
    have U:i64.wrap ((i:Int)-1)=((i-1:Nat):Int):=by rw [aw (by omega)];omega
    rw [U,Int.toNat_natCast];obtain ⟨W,b1,p3,n3,c3,p4,n4,c4,t,A,b0,M,b2⟩:=wu (hc.le P fun _ _ g=>g.le P) k;refine ⟨aY t,⟨by omega,by omega⟩,_,_,_,_,_,_,_,W,t,b0,M,b2,(b1,p3,n3,c3,p4,n4,c4,false,none,0,0,none,0,0,(i:Int)==0,(i:Int)==(cuts.length:Int)),by and_intros<;>rfl,?_,Bv _,?_,?_⟩
    ·show RQ V1 _ (if 0<i then cuts.getD (i-1) 0 else 0);rw [if_pos (by omega),fo k];exact A
    ·show ((i:Int)==0)=decide (i=0);rw [Bool.eq_iff_iff,beq_iff_eq,decide_eq_true_eq];omega
    ·show ((i:Int)==(cuts.length:Int))=decide (i=cuts.length);rw [Bool.eq_iff_iff,beq_iff_eq,decide_eq_true_eq];omega
   ·have s:¬(i:Int)>0:=of_decide_eq_false s;refine ⟨?_,Bv _,?_,?_⟩
    ·show RQ V1 _ (if 0<i then cuts.getD (i-1) 0 else 0);rw [if_neg (by omega)];exact Bv _
    ·show ((i:Int)==0)=decide (i=0);rw [Bool.eq_iff_iff,beq_iff_eq,decide_eq_true_eq];omega
    ·show ((i:Int)==(cuts.length:Int))=decide (i=cuts.length);rw [Bool.eq_iff_iff,beq_iff_eq,decide_eq_true_eq];omega
   ·rintro ⟨x1,x2,x3,x4,x5,x6,x7,x8,x9,a1,a2,a3,a4,a5,b7,b8⟩ V2 l2 ⟨hA,hB,hC,hD⟩;dsimp only at hA hB hC hD;subst hC hD;refine ⟨rfl,fun z V'=>RQ V' (.agg #[.bool z.1,.slice z.2.1 z.2.2.1 z.2.2.2.1,.slice z.2.2.2.2.1 z.2.2.2.2.2.1 z.2.2.2.2.2.2.1]) ((cP cuts i).lo)/\RQ V' (.agg #[.bool z.2.2.2.2.2.2.2.1,.slice z.2.2.2.2.2.2.2.2.1 z.2.2.2.2.2.2.2.2.2.1 z.2.2.2.2.2.2.2.2.2.2.1,.slice z.2.2.2.2.2.2.2.2.2.2.2.1 z.2.2.2.2.2.2.2.2.2.2.2.2.1 z.2.2.2.2.2.2.2.2.2.2.2.2.2.1]) ((cP cuts i).hi)/\z.2.2.2.2.2.2.2.2.2.2.2.2.2.2.1=decide (i=0)/\z.2.2.2.2.2.2.2.2.2.2.2.2.2.2.2=decide (i=cuts.length),⟨fun s=>?_,fun s=>⟨(x1,x2,x3,x4,x5,x6,x7,x8,x9,a1,a2,a3,a4,a5,decide (i=0),decide (i=cuts.length)),by and_intros<;>rfl,hA,?_,rfl,rfl⟩⟩,?_⟩
    ·have s:(i:Int)<cuts.length:=of_decide_eq_true s;have k:i<cuts.length:=by omega
     obtain ⟨W,b1,p3,n3,c3,p4,n4,c4,t,A,b0,M,b2⟩:=wu (hc.le (P.trans l2) fun _ _ g=>g.le (P.trans l2)) k;refine ⟨aY t,⟨by omega,by omega⟩,_,_,_,_,_,_,_,W,t,b0,M,b2,(x1,x2,x3,x4,x5,x6,x7,b1,p3,n3,c3,p4,n4,c4,decide (i=0),decide (i=cuts.length)),by and_intros<;>rfl,hA,?_,rfl,rfl⟩;show RQ V2 _ (if i<cuts.length then cuts.getD i 0 else 0);rw [if_pos k,fo k];exact A
    ·have s:¬(i:Int)<cuts.length:=of_decide_eq_false s;show RQ V2 _ (if i<cuts.length then cuts.getD i 0 else 0);rw [if_neg (by omega)];exact hB
    ·rintro ⟨y1,y2,y3,y4,y5,y6,y7,E,F,G,H,I,u,J,b9,c0⟩ V3 l3 ⟨kA,kB,kC,kD⟩;dsimp only at kA kB kC kD;subst kC kD;refine ⟨rfl,fun z _=>z=decide (0<i/\marks.getD (i-1) false=true/\0<out.length),⟨fun s=>?_,fun s=>⟨false,by and_intros<;>rfl,?_⟩⟩,?_⟩
     ·have s:(i:Int)>0:=of_decide_eq_true s;have k:i-1<marks.length:=by omega
      have U:i64.wrap ((i:Int)-1)=((i-1:Nat):Int):=by rw [aw (by omega)];omega
      have a6:marks.getD (i-1) false=marks[i-1]:=by rw [List.getD_eq_getElem?_getD,List.getElem?_eq_getElem k];rfl
      rw [U,Int.toNat_natCast,a6];obtain ⟨W,t,Vb⟩:=N1 (hm.le (P.trans (l2.trans l3)) fun _ _ g=>g) k;refine ⟨aY t,⟨by omega,by omega⟩,marks[i-1],⟨W,t,Vb⟩,fun N=>⟨_,by and_intros<;>rfl,?_⟩,fun N=>⟨false,by and_intros<;>rfl,?_⟩⟩
      ·dsimp only;rw [N,decide_eq_decide];constructor
       ·intro h;exact ⟨by omega,rfl,by omega⟩
       ·rintro ⟨_,_,h⟩;omega
      ·dsimp only;rw [N];simp
     ·have s:¬(i:Int)>0:=of_decide_eq_false s;dsimp only;rw [decide_eq_false];rintro ⟨h,_⟩;omega
     ·rintro z V4 l4 rfl;have gA:pz V4 (.agg #[.bool y1,.slice y2 y3 y4,.slice y5 y6 y7,.bool E,.slice F G H,.slice I u J,.bool (decide (i=0)),.bool (decide (i=cuts.length))]) (cP cuts i):=⟨_,_,_,_,_,_,_,_,_,_,_,_,_,_,rfl,kA.le l4,kB.le l4⟩;have B:=hx.le (V':=V4) fun _ _ g=>pz.le g (l2.trans (l3.trans l4));refine ⟨rfl,fun K=>?_,fun K=>?_⟩
      ·have K:=of_decide_eq_true K;rw [if_pos K] at l;have U:i64.wrap ((f:Int)-1)=((f-1:Nat):Int):=by rw [aw (by omega)];omega
       rw [U,Int.toNat_natCast];have X:0<out.length:=K.2.2;have c1:=B.gF (by decide);have Y:out.length-1<out.length:=by omega
       have a7:out.getLastD Sp.zero=out[out.length-1]:=by
        rw [List.getLastD_eq_getLast?,List.getLast?_eq_getElem?,List.getElem?_eq_getElem Y];rfl
       obtain ⟨c2,-,a8,a9⟩:=B.at_ (out.length-1) Y;obtain ⟨b,s1,s2,s3,s4,s5,s6,d,t1,t2,t3,t4,t5,t6,ex,A,c5⟩:=qm a8;subst ex;have sv:=jj (vs:=vs) (xs:=[.bool E,.slice F G H,.slice I u J]) (o:=(f-1)*8+3) (by simp only [List.length_cons,List.length_nil];omega)
       have b5:(aU vs ((f-1)*8+3) [.bool E,.slice F G H,.slice I u J]).length=vs.length:=by
        rw [sv];simp only [List.length_append,List.length_take,List.length_drop,List.length_cons,List.length_nil];omega
       have sg:∀r,r<(f-1)*8+3\/(f-1)*8+6<=r->(aU vs ((f-1)*8+3) [.bool E,.slice F G H,.slice I u J])[r]?=vs[r]?:=by
        intro r Z;rw [sv,List.append_assoc];have R:(vs.take ((f-1)*8+3)).length=(f-1)*8+3:=by rw [List.length_take];omega
        rcases Z with Z|Z
        ·rw [List.getElem?_append_left (by omega),List.getElem?_take,if_pos Z]
        ·rw [List.getElem?_append_right (by omega),List.getElem?_append_right (by rw [R];simp only [List.length_cons,List.length_nil];omega),List.getElem?_drop,R];congr 1;simp only [List.length_cons,List.length_nil];omega
       have sm:∀j x,([.bool E,.slice F G H,.slice I u J]:List Value)[j]?=some x->(aU vs ((f-1)*8+3) [.bool E,.slice F G H,.slice I u J])[(f-1)*8+3+j]?=some x:=by
        intro j x C;have O:=(List.getElem?_eq_some_iff.1 C).1;have R:(vs.take ((f-1)*8+3)).length=(f-1)*8+3:=by rw [List.length_take];omega
        rw [sv,List.append_assoc,List.getElem?_append_right (by omega),R,Nat.add_sub_cancel_left,List.getElem?_append_left O];exact C
       generalize aU vs ((f-1)*8+3) [.bool E,.slice F G H,.slice I u J]=us at *;refine ⟨⟨by omega,by omega⟩,L,by omega,⟨by omega,by omega⟩,L,by omega,(f,z2,us.set ((f-1)*8+7) (.bool (decide (i=cuts.length))),(i:Int)+1),by dsimp only;omega,by and_intros<;>rfl,i+1,rfl,hi,?_,L,?_,?_⟩
       ·dsimp only;rw [hO,l,vI X];exact Q
       ·dsimp only;rw [List.length_set,b5];exact hv
       ·dsimp only;rw [hO,l];unfold rD;rw [a7];refine KA B X (xs:=[.bool b,.slice s1 s2 s3,.slice s4 s5 s6,.bool E,.slice F G H,.slice I u J,.bool out[out.length-1].a,.bool (cP cuts i).b]) rfl ⟨_,_,_,_,_,_,_,_,_,_,_,_,_,_,rfl,A,kB.le l4⟩ ?_ ?_
        ·intro r Z;rw [List.getElem?_set_ne (by omega),sg r (by omega)]
        ·intro j x C;have O:=(List.getElem?_eq_some_iff.1 C).1;have c6:j<8:=O;by_cases h7:j=7
         ·subst h7;rw [show (out.length-1)*8+7=(f-1)*8+7 by omega,List.getElem?_set_self (by omega)];exact C
         ·rw [List.getElem?_set_ne (by omega)];by_cases h3:j<3\/j=6
          ·rw [sg _ (by omega)];have hc:=a9 j x;have:j=0\/j=1\/j=2\/j=6:=by omega
           rcases this with rfl|rfl|rfl|rfl<;>exact hc C
          ·have:j=3\/j=4\/j=5:=by omega
           rcases this with rfl|rfl|rfl
           ·have:=sm 0 x C;rw [show (out.length-1)*8+3=(f-1)*8+3+0 by omega];exact this
           ·have:=sm 1 x C;rw [show (out.length-1)*8+4=(f-1)*8+3+1 by omega];exact this
           ·have:=sm 2 x C;rw [show (out.length-1)*8+5=(f-1)*8+3+2 by omega];exact this
      ·have K:=of_decide_eq_false K;rw [if_neg K] at l;refine ⟨by omega,L,hv,rfl,?_,fun sp c' h1 h2=>⟨(f+1,c',_,(i:Int)+1),by dsimp only;omega,by and_intros<;>rfl,i+1,rfl,hi,?_,h1,?_,?_⟩⟩
       ·intro v pS;simp only [List.mem_cons,List.not_mem_nil,or_false] at pS;rcases pS with rfl|rfl|rfl|rfl|rfl|rfl|rfl|rfl<;>rfl
       ·dsimp only;rw [hO,l,List.length_append,Q];rfl
       ·dsimp only;have R:(vs.take (f*8)).length=f*8:=by rw [List.length_take];omega
        rw [List.length_append,List.length_append,R];simp only [List.length_cons,List.length_nil];omega
       ·dsimp only;rw [hO,l];have:=B.snoc (sp:=sp) rfl gA (by decide);rw [←Q] at this;exact this
 ·have y:¬(i:Int)<marks.length:=of_decide_eq_false y;obtain rfl:i=marks.length:=by omega
  subst Q;exact ⟨_,_,_,rfl,dR.eh D (hx.le fun _ _ g=>pz.le g l5) (by decide) L⟩
end Go.Proofs.Tryz
namespace Go.Proofs.Tryz
open Go.Eng Go.Big
set_option linter.unusedSectionVars false
theorem OZ {a b:List Rat}{i:Nat}(h:a.length<=i):(a++b).getD i 0=b.getD (i-a.length) 0:=by
 rw [List.getD_eq_getElem?_getD,List.getElem?_append_right h,List.getD_eq_getElem?_getD]
theorem OY {a b:List Rat}{i:Nat}(h:i<a.length):(a++b).getD i 0=a.getD i 0:=by
 rw [List.getD_eq_getElem?_getD,List.getElem?_append_left h,List.getD_eq_getElem?_getD]
def asc (c:List Rat):Prop:=c.Pairwise (·< ·)
theorem vC {x q:Rat}:∀{o:List Rat},q∈cB x o↔q=x\/q∈o:=by
 intro o
 induction o with
 | nil=>simp [cB]
 | cons y r ih=>
  unfold cB;split
  ·rw [List.mem_cons,ih,List.mem_cons];constructor
   ·rintro (h|h|h)
    ·exact .inr (.inl h)
    ·exact .inl h
    ·exact .inr (.inr h)
   ·rintro (h|h|h)
    ·exact .inr (.inl h)
    ·exact .inl h
    ·exact .inr (.inr h)
  ·split
   ·rename_i e;subst e;exact ⟨.inr,fun h=>h.elim (fun e=>by subst e;simp) id⟩
   ·rw [List.mem_cons]
theorem CT {x:Rat}:∀{o:List Rat},asc o->asc (cB x o):=by
 intro o
 induction o with
 | nil=>intro _;simp [cB,asc]
 | cons y r ih=>
  intro h;obtain ⟨b,d⟩:=List.pairwise_cons.1 h;unfold cB;split
  ·rename_i c;refine List.pairwise_cons.2 ⟨fun q a=>?_,ih d⟩;rcases vC.1 a with rfl|a
   ·exact c
   ·exact b q a
  ·split
   ·exact h
   ·rename_i e f;refine List.pairwise_cons.2 ⟨fun q a=>?_,h⟩;rcases List.mem_cons.1 a with rfl|a
    ·grind
    ·have:=b q a;grind
def Sp.mr (s:Sp)(q:Rat):Prop:=(s.a=false/\q=s.lo)\/(s.b=false/\q=s.hi)
theorem KN {s:Sp}{o:List Rat}{q:Rat}:q∈dN s o 2↔s.mr q\/q∈o:=by
 show q∈(if s.b=true then (if s.a=true then o else cB s.lo o) else cB s.hi (if s.a=true then o else cB s.lo o))↔_;unfold Sp.mr;cases s.a<;>cases s.b<;>simp [vC]
 ·constructor
  ·rintro (h|h|h)
   ·exact .inl (.inr h)
   ·exact .inl (.inl h)
   ·exact .inr h
  ·rintro ((h|h)|h)
   ·exact .inr (.inl h)
   ·exact .inl h
   ·exact .inr (.inr h)
theorem KM {s:Sp}{o:List Rat}(h:asc o):asc (dN s o 2):=by
 show asc (if s.b=true then (if s.a=true then o else cB s.lo o) else cB s.hi (if s.a=true then o else cB s.lo o));cases s.a<;>cases s.b<;>simp [CT,h]
theorem zI:∀(ss:List Sp)(o:List Rat),(asc o->asc (ss.foldl (fun o s=>dN s o 2) o))/\∀q,q∈(ss.foldl (fun o s=>dN s o 2) o)↔q∈o\/∃s∈ss,s.mr q:=by
 intro ss
 induction ss with
 | nil=>exact fun o=>⟨id,fun q=>by simp⟩
 | cons s r ih=>
  intro o;refine ⟨fun h=>(ih _).1 (KM h),fun q=>?_⟩;rw [List.foldl_cons,(ih _).2,KN];constructor
  ·rintro ((h|h)|⟨t,a,b⟩)
   ·exact .inr ⟨s,by simp,h⟩
   ·exact .inl h
   ·exact .inr ⟨t,by simp [a],b⟩
  ·rintro (h|⟨t,a,b⟩)
   ·exact .inl (.inr h)
   ·rcases List.mem_cons.1 a with rfl|a
    ·exact .inl (.inl b)
    ·exact .inr ⟨t,a,b⟩
theorem CD (ss:List Sp):asc (endsL ss):=(zI ss []).1 List.Pairwise.nil
theorem Jd {ss:List Sp}{q:Rat}:q∈endsL ss↔∃s∈ss,s.mr q:=by
 have:=(zI ss []).2 q;simpa [endsL] using this
section
variable {c:List Rat} (h:asc c)
include h
theorem qR {i j:Nat}(Is:i<j)(hj:j<c.length):c.getD i 0<c.getD j 0:=by
 rw [fo (by omega),fo hj];exact List.pairwise_iff_getElem.1 h i j (by omega) hj Is
theorem II {i j:Nat}(Is:i<=j)(hj:j<c.length):c.getD i 0<=c.getD j 0:=by
 rcases Nat.lt_or_ge i j with a|a
 ·have:=qR h a hj;grind
 ·obtain rfl:i=j:=by omega
  grind
omit h
theorem LY {i:Nat}{t:Rat}:(cP c i).inn t↔(0<i->c.getD (i-1) 0<t)/\(i≠c.length->i<c.length->t<c.getD i 0)/\(i≠c.length->c.length<i->t<0):=by
 unfold cP Sp.inn;simp only [decide_eq_true_eq];constructor
 ·rintro ⟨d,a⟩;refine ⟨fun b=>?_,fun f e=>?_,fun f e=>?_⟩
  ·rcases d with d|d
   ·omega
   ·rwa [if_pos b] at d
  ·rcases a with a|a
   ·exact absurd a f
   ·rwa [if_pos e] at a
  ·rcases a with a|a
   ·exact absurd a f
   ·rwa [if_neg (by omega)] at a
 ·rintro ⟨d,a,f⟩;refine ⟨?_,?_⟩
  ·by_cases b:i=0
   ·exact .inl b
   ·rw [if_pos (by omega)];exact .inr (d (by omega))
  ·by_cases b:i=c.length
   ·exact .inl b
   ·refine .inr ?_;by_cases e:i<c.length
    ·rw [if_pos e];exact a b e
    ·rw [if_neg e];exact f b (by omega)
theorem mh {i:Nat}(hi:i<=c.length){t:Rat}:(cP c i).inn t↔(0<i->c.getD (i-1) 0<t)/\(i<c.length->t<c.getD i 0):=by
 rw [LY];exact ⟨fun ⟨a,b,_⟩=>⟨a,fun h=>b (by omega) h⟩,fun ⟨a,b⟩=>⟨a,fun _ h=>b h,fun _ h=>by omega⟩⟩
include h
theorem Ji {i:Nat}(hi:i<=c.length):(cP c i).good:=by
 refine ⟨⟨fun e=>?_,fun e=>?_⟩,Sp.kY.2 ?_⟩
 ·have e:i=0:=of_decide_eq_true e;subst e;rfl
 ·have e:i=c.length:=of_decide_eq_true e;subst e;exact if_neg (Nat.lt_irrefl _)
 ·by_cases a:i=0
  ·exact .inl (decide_eq_true a)
  ·by_cases b:i=c.length
   ·exact .inr (.inl (decide_eq_true b))
   ·refine .inr (.inr ?_);show (if 0<i then c.getD (i-1) 0 else 0)<(if i<c.length then c.getD i 0 else 0);rw [if_pos (by omega),if_pos (by omega)];exact qR h (by omega) (by omega)
theorem OX {t:Rat}(ht:t∉c):∃i,i<=c.length/\(cP c i).inn t:=by
 have key:∀k,k<=c.length->(∀j,j<k->c.getD j 0<t)\/∃i,i<=c.length/\(cP c i).inn t:=by
  intro k
  induction k with
  | zero=>exact fun _=>.inl fun j b=>absurd b (Nat.not_lt_zero j)
  | succ k ih=>
   intro h;rcases ih (by omega) with g|g
   ·by_cases a:c.getD k 0<t
    ·refine .inl fun j b=>?_;rcases Nat.lt_or_ge j k with d|d
     ·exact g j d
     ·obtain rfl:j=k:=by omega
      exact a
    ·refine .inr ⟨k,by omega,(mh (by omega)).2 ⟨fun e=>g _ (by omega),fun _=>?_⟩⟩
     have f:c.getD k 0≠t:=by
      rintro rfl;rw [fo (by omega)] at ht;exact ht (List.getElem_mem _)
     grind
   ·exact .inr g
 rcases key c.length (Nat.le_refl _) with g|g
 ·exact ⟨c.length,Nat.le_refl _,(mh (Nat.le_refl _)).2 ⟨fun e=>g _ (by omega),fun e=>by omega⟩⟩
 ·exact g
theorem mi {i:Nat}(hi:i<=c.length){t u x:Rat}(ht:(cP c i).inn t)(hu:(cP c i).inn u)(hx:x∈c):(x<t↔x<u)/\(t<x↔u<x)/\x≠t:=by
 obtain ⟨t1,t2⟩:=(mh hi).1 ht;obtain ⟨d,e⟩:=(mh hi).1 hu;obtain ⟨j,b,rfl⟩:=List.getElem_of_mem hx;rw [←fo b];rcases Nat.lt_or_ge j i with a|a
 ·have:=II h (show j<=i-1 by omega) (by omega);have:=t1 (by omega);have:=d (by omega);grind
 ·have:=II h a b;have:=t2 (by omega);have:=e (by omega);grind
theorem Kj {i:Nat}(hi:i<=c.length):(cP c i).inn ((cw c).getD i 0):=by
 rw [mh hi];unfold cw;by_cases a:c.length=0
 ·exact ⟨fun _=>by omega,fun _=>by omega⟩
 ·rw [if_neg a];have b:=v_ c (show 1<=c.length by omega);by_cases d:i=c.length
  ·subst d;rw [OZ (by omega),b,Nat.sub_self];refine ⟨fun _=>?_,fun _=>by omega⟩;show _<c.getD (c.length-1) 0+((1:Int):Rat);grind
  ·rw [OY (by omega)];unfold yg;by_cases e:i=0
   ·subst e;refine ⟨fun _=>by omega,fun _=>?_⟩;show c.getD 0 0-((1:Int):Rat)<_;grind
   ·obtain ⟨m,rfl⟩:∃m,i=m+1:=⟨i-1,by omega⟩;have:=qR h (show m<m+1 by omega) (by omega)
    have f:((List.range (c.length-1)).map fun k=>(c.getD k 0+c.getD (k+1) 0)*((2:Int):Rat)⁻¹).getD m 0=(c.getD m 0+c.getD (m+1) 0)*((2:Int):Rat)⁻¹:=by
     rw [List.getD_eq_getElem?_getD,List.getElem?_map,List.getElem?_range (by omega)];rfl
    rw [List.getD_cons_succ,f,Nat.add_sub_cancel];generalize c.getD m 0=x at *;generalize c.getD (m+1) 0=y at *;exact ⟨fun _=>by grind,fun _=>by grind⟩
omit h
theorem fD:(cw c).length=c.length+1:=by
 unfold cw;by_cases a:c.length=0
 ·rw [if_pos a,a];rfl
 ·rw [if_neg a,List.length_append,v_ c (by omega)];rfl
end
section
variable {c:List Rat} {ms:List Bool}
structure FI (c:List Rat) (ms:List Bool) (i:Nat):Prop where
 r:xz (cp c ms i)
 mem:∀t,t∉c->(rH (cp c ms i) t↔∃j,j<i/\ms.getD j false=true/\(cP c j).inn t)
 top:0<i->i<=c.length->∀s∈cp c ms i,s.b=false/\s.hi<=c.getD (i-1) 0
 str:0<i->i<=c.length->ms.getD (i-1) false=false->∀s∈cp c ms i,s.hi<c.getD (i-1) 0
 last:0<i->i<=c.length->ms.getD (i-1) false=true->∃l0 l,cp c ms i=l0++[l]/\l.hi=c.getD (i-1) 0
theorem rI {ss:List Sp}{s:Sp}{t:Rat}:rH (ss++[s]) t↔rH ss t\/s.inn t:=by
 unfold rH;constructor
 ·rintro ⟨x,a,b⟩;rcases List.mem_append.1 a with a|a
  ·exact .inl ⟨x,a,b⟩
  ·obtain rfl:x=s:=by simpa using a
   exact .inr b
 ·rintro (⟨x,a,b⟩|b)
  ·exact ⟨x,by simp [a],b⟩
  ·exact ⟨s,by simp,b⟩
theorem Dp {ss:List Sp}{s:Sp}(h:xz ss)(hs:s.good)(hb:∀x∈ss,x.IM s):xz (ss++[s]):=by
 refine ⟨fun x a=>?_,List.pairwise_append.2 ⟨h.2,by simp,fun x a y b=>?_⟩⟩
 ·rcases List.mem_append.1 a with a|a
  ·exact h.1 x a
  ·obtain rfl:x=s:=by simpa using a
   exact hs
 ·obtain rfl:y=s:=by simpa using b
  exact hb x a
theorem Kv {ss:List Sp}{s:Sp}(h:xz (ss++[s])):xz ss/\s.good/\∀x∈ss,x.IM s:=by
 obtain ⟨b,-,c⟩:=List.pairwise_append.1 h.2;exact ⟨⟨fun x a=>h.1 x (by simp [a]),b⟩,h.1 s (by simp),fun x a=>c x a s (by simp)⟩
theorem AZ {P:Nat->Prop}{i:Nat}:(∃j,j<i+1/\P j)↔(∃j,j<i/\P j)\/P i:=by
 constructor
 ·rintro ⟨j,b,a⟩;rcases Nat.lt_or_ge j i with h|h
  ·exact .inl ⟨j,h,a⟩
  ·obtain rfl:j=i:=by omega
   exact .inr a
 ·rintro (⟨j,b,a⟩|a)
  ·exact ⟨j,by omega,a⟩
  ·exact ⟨i,by omega,a⟩
theorem LW (h:asc c){i:Nat}(hi:i<=c.length)(F:FI c ms i):FI c ms (i+1):=by
 have A:=Ji h hi;have B:i<c.length->(cP c i).hi=c.getD i 0:=fun j=>if_pos j;have C:0<i->(cP c i).lo=c.getD (i-1) 0:=fun j=>if_pos j;have D:0<i->(cP c i).a=false:=fun j=>decide_eq_false (by omega);have I:i<c.length->(cP c i).b=false:=fun j=>decide_eq_false (by omega);by_cases hm:ms.getD i false=true
 ·have y:¬ms.getD i false=false:=by rw [hm];decide
  by_cases j:0<i/\ms.getD (i-1) false=true
  ·obtain ⟨J,l,el,G⟩:=F.last j.1 hi j.2
   have e:cp c ms (i+1)=J++[⟨l.lo,(cP c i).hi,l.a,(cP c i).b⟩]:=by
    rw [cp,if_pos hm,if_pos ⟨j.1,j.2,by rw [el];simp⟩,el];simp [rD]
   have K:=F.r;rw [el] at K;obtain ⟨f1,f2,f3⟩:=Kv K;have m:l.b=false:=(F.top j.1 hi l (by rw [el];simp)).1
   have u:(⟨l.lo,(cP c i).hi,l.a,(cP c i).b⟩:Sp).good:=by
    refine ⟨⟨f2.1.1,A.1.2⟩,Sp.kY.2 ?_⟩;dsimp only
    cases ha:l.a with
    | true=>exact .inl rfl
    | false=>
     cases w:(cP c i).b with
     | true=>exact .inr (.inl rfl)
     | false=>
      have n:=nX f2.2 ha m;have q:=nX A.2 (D j.1) w;rw [C j.1] at q;exact .inr (.inr (by grind))
   refine ⟨?_,fun t v=>?_,fun _ d s f=>?_,fun _ d k=>?_,fun _ d _=>?_⟩
   ·rw [e];exact Dp f1 u fun x k=>⟨(f3 x k).1,(f3 x k).2.1,(f3 x k).2.2⟩
   ·rw [e,AZ,←F.mem t v,rI,el,rI,or_assoc];refine or_congr Iff.rfl ?_
    have M:(cP c i).inn t↔c.getD (i-1) 0<t/\((cP c i).b=true\/t<(cP c i).hi):=by
     unfold Sp.inn;rw [D j.1,C j.1];simp
    have L:t≠c.getD (i-1) 0:=by
     rintro rfl;rw [fo (by omega)] at v;exact v (List.getElem_mem _)
    rw [M];show (l.a=true\/l.lo<t)/\((cP c i).b=true\/t<(cP c i).hi)↔((l.a=true\/l.lo<t)/\(l.b=true\/t<l.hi))\/_;rw [G,m]
    have n:l.a=true\/l.lo<c.getD (i-1) 0:=by
     cases ha:l.a with
     | true=>exact .inl rfl
     | false=>have:=nX f2.2 ha m;rw [G] at this;exact .inr this
    have q:(cP c i).b=true\/c.getD (i-1) 0<(cP c i).hi:=by
     cases w:(cP c i).b with
     | true=>exact .inl rfl
     | false=>have:=nX A.2 (D j.1) w;rw [C j.1] at this;exact .inr this
    constructor
    ·rintro ⟨E,o⟩;by_cases g:t<c.getD (i-1) 0
     ·exact .inl ⟨E,.inr g⟩
     ·exact .inr ⟨hm,by grind,o⟩
    ·rintro (⟨E,o⟩|⟨-,E,o⟩)
     ·have N:t<c.getD (i-1) 0:=by
       rcases o with o|o
       ·cases o
       ·exact o
      exact ⟨E,q.imp_right fun q=>by grind⟩
     ·exact ⟨n.imp_right fun n=>by grind,o⟩
   ·rw [e] at f;rw [Nat.add_sub_cancel];rcases List.mem_append.1 f with f|f
    ·have b:=f3 s f;refine ⟨b.1,?_⟩;have n:l.lo<c.getD (i-1) 0:=by have:=nX f2.2 b.2.1 m;rwa [G] at this
     have q:=qR h (show i-1<i by omega) d;have:=b.2.2;grind
    ·obtain rfl:s=_:=by simpa using f
     refine ⟨I d,?_⟩;show (cP c i).hi<=_;rw [B d];grind
   ·rw [Nat.add_sub_cancel] at k;exact absurd k y
   ·rw [Nat.add_sub_cancel];exact ⟨J,_,e,B d⟩
  ·have e:cp c ms (i+1)=cp c ms i++[cP c i]:=by
    rw [cp,if_pos hm,if_neg (fun g=>j ⟨g.1,g.2.1⟩)]
   have w:∀x∈cp c ms i,x.IM (cP c i):=fun x k=>by
    by_cases p:0<i
    ·have H:ms.getD (i-1) false=false:=by
      cases hq:ms.getD (i-1) false with
      | false=>rfl
      | true=>exact absurd ⟨p,hq⟩ j
     exact ⟨(F.top p hi x k).1,D p,by rw [C p];exact F.str p hi H x k⟩
    ·obtain rfl:i=0:=by omega
     cases k
   refine ⟨?_,fun t v=>?_,fun _ d s f=>?_,fun _ d k=>?_,fun _ d _=>?_⟩
   ·rw [e];exact Dp F.r A w
   ·rw [e,AZ,←F.mem t v,rI];exact or_congr Iff.rfl ⟨fun g=>⟨hm,g⟩,fun g=>g.2⟩
   ·rw [e] at f;rw [Nat.add_sub_cancel];rcases List.mem_append.1 f with f|f
    ·refine ⟨(w s f).1,?_⟩;by_cases p:0<i
     ·have n:=(F.top p hi s f).2;have q:=qR h (show i-1<i by omega) d;grind
     ·obtain rfl:i=0:=by omega
      cases f
    ·obtain rfl:s=_:=by simpa using f
     refine ⟨I d,?_⟩;rw [B d];grind
   ·rw [Nat.add_sub_cancel] at k;exact absurd k y
   ·rw [Nat.add_sub_cancel];exact ⟨_,_,e,B d⟩
 ·have e:cp c ms (i+1)=cp c ms i:=by rw [cp,if_neg hm]
  have z:i<c.length->∀s∈cp c ms i,s.b=false/\s.hi<c.getD i 0:=fun d s f=>by
   by_cases p:0<i
   ·obtain ⟨n,q⟩:=F.top p hi s f;have O:=qR h (show i-1<i by omega) d;exact ⟨n,by grind⟩
   ·obtain rfl:i=0:=by omega
    cases f
  refine ⟨by rw [e];exact F.r,fun t v=>?_,fun _ d s f=>?_,fun _ d k s f=>?_,fun _ d k=>?_⟩
  ·rw [e,AZ,F.mem t v];exact ⟨.inl,fun g=>g.elim id fun g=>absurd g.1 hm⟩
  ·rw [e] at f;rw [Nat.add_sub_cancel];obtain ⟨n,q⟩:=z d s f;exact ⟨n,by grind⟩
  ·rw [e] at f;rw [Nat.add_sub_cancel];exact (z d s f).2
  ·rw [Nat.add_sub_cancel] at k;exact absurd k hm
theorem fi (h:asc c):∀{i:Nat},i<=c.length+1->FI c ms i:=by
 intro i
 induction i with
 | zero=>exact fun _=>⟨⟨(fun _ h=>by cases h),List.Pairwise.nil⟩,(fun t _=>⟨(fun ⟨_,h,_⟩=>by cases h),(fun ⟨_,h,_⟩=>absurd h (Nat.not_lt_zero _))⟩),(fun h=>absurd h (Nat.lt_irrefl _)),(fun h=>absurd h (Nat.lt_irrefl _)),(fun h=>absurd h (Nat.lt_irrefl _))⟩
 | succ i ih=>exact fun a=>LW h (by omega) (ih (by omega))
end
def Sp.innB (s:Sp)(t:Rat):Bool:=(s.a||decide (s.lo<t))&&(s.b||decide (t<s.hi))
def inB (ss:List Sp)(t:Rat):Bool:=ss.any fun s=>s.innB t
theorem innB_iff {s:Sp}{t:Rat}:s.innB t=true↔s.inn t:=by unfold Sp.innB Sp.inn;simp
theorem jB {ss:List Sp}{t:Rat}:inB ss t=true↔rH ss t:=by
 unfold inB rH;rw [List.any_eq_true];exact ⟨fun ⟨s,a,b⟩=>⟨s,a,innB_iff.1 b⟩,fun ⟨s,a,b⟩=>⟨s,a,innB_iff.2 b⟩⟩
theorem Ge {a b:Bool}(h:a=true↔b=true):a=b:=by cases a<;>cases b<;>simp at h<;>rfl
theorem Gj {ss:List Sp}{t:Rat}(h:∀s∈ss,¬s.mr t):(lQ ss t==2)=inB ss t:=by
 induction ss with
 | nil=>rfl
 | cons s r d=>
  have d:=d fun x k=>h x (by simp [k]);have g:=h s (by simp)
  have c:s.innB t=decide (nJ (s.la t) (s.lb t)=2)/\(nJ (s.la t) (s.lb t)≠0->nJ (s.la t) (s.lb t)=2):=by
   unfold Sp.mr at g;unfold Sp.innB Sp.la Sp.lb nJ;rcases iq t s.lo with ⟨i,f⟩|⟨i,f⟩|⟨i,f⟩<;>rcases iq t s.hi with ⟨h2,e2⟩|⟨h2,e2⟩|⟨h2,e2⟩<;>rw [f,e2]<;>cases ha:s.a<;>cases c:s.b<;>simp [ha,c] at g⊢<;> grind
  have e:inB (s::r) t=(s.innB t||inB r t):=rfl;rw [e,←d,c.1];by_cases j:nJ (s.la t) (s.lb t)=0
  ·simp [lQ,j]
  ·have:=c.2 j;simp [lQ,this]
def opB (op:Int)(x y:Bool):Bool:=if op=2 then x&&y else if op=3 then x&&!y else if op=4 then x != y else x||y
def i_ (op:Int)(a b:List Sp)(c:List Rat):List Bool:=(cw c).map fun t=>opB op (lQ a t==2) (lQ b t==2)
def combL (op:Int)(a b:List Sp):List Sp:=CF (endsL (a++b)) (i_ op a b (endsL (a++b)))
theorem rG (op:Int)(a b:List Sp)(c:List Rat):(i_ op a b c).length=c.length+1:=by unfold i_;rw [List.length_map,fD]
theorem comb_reg (op:Int)(a b:List Sp):xz (combL op a b):=by
 unfold combL CF;rw [rG];exact (fi (CD _) (Nat.le_refl _)).r
theorem Gq {ss:List Sp}{c:List Rat}(h:asc c)(hc:∀s∈ss,∀q,s.mr q->q∈c){i:Nat}(hi:i<=c.length){t u:Rat}(ht:(cP c i).inn t)(hu:(cP c i).inn u):inB ss t=inB ss u:=by
 induction ss with
 | nil=>rfl
 | cons s r f=>
  have f:=f fun x g=>hc x (by simp [g]);have e:∀t,inB (s::r) t=(s.innB t||inB r t):=fun _=>rfl;rw [e,e,f];congr 1;have d:=hc s (by simp);unfold Sp.innB;cases ha:s.a<;>cases hb:s.b<;>simp
  ·have j:=mi h hi ht hu (d s.lo (.inl ⟨ha,rfl⟩));have k:=mi h hi ht hu (d s.hi (.inr ⟨hb,rfl⟩));rw [decide_eq_decide.2 j.1,decide_eq_decide.2 k.2.1]
  ·exact (mi h hi ht hu (d s.lo (.inl ⟨ha,rfl⟩))).1
  ·exact (mi h hi ht hu (d s.hi (.inr ⟨hb,rfl⟩))).2.1
theorem comb_inB (op:Int)(a b:List Sp){t:Rat}(ht:t∉endsL (a++b)):inB (combL op a b) t=opB op (inB a t) (inB b t):=by
 have g:=CD (a++b);have m:∀s∈a++b,∀q,s.mr q->q∈endsL (a++b):=fun s d q r=>Jd.2 ⟨s,d,r⟩;unfold combL CF;generalize endsL (a++b)=c at ht g m;rw [rG];have o:∀s∈a,∀q,s.mr q->q∈c:=fun s d=>m s (by simp [d]);have p:∀s∈b,∀q,s.mr q->q∈c:=fun s d=>m s (by simp [d])
 have mk:∀j,j<=c.length->(cP c j).inn t->(i_ op a b c).getD j false=opB op (inB a t) (inB b t):=fun j h k=>by
  have l:=Kj g h;have f:(cw c).getD j 0∉c:=fun hm=>(mi g h l l hm).2.2 rfl;unfold i_;rw [List.getD_eq_getElem?_getD,List.getElem?_map,List.getElem?_eq_getElem (by rw [fD];omega)];have e:(cw c)[j]'(by rw [fD];omega)=(cw c).getD j 0:=by rw [List.getD_eq_getElem?_getD,List.getElem?_eq_getElem (by rw [fD];omega)];rfl
  simp only [Option.map_some,Option.getD_some,e];rw [Gj (fun s d he=>f (o s d _ he)),Gj (fun s d he=>f (p s d _ he)),Gq g o h l k,Gq g p h l k]
 refine Ge ?_;rw [jB,(fi g (Nat.le_refl _)).mem t ht];constructor
 ·rintro ⟨j,h,n,u⟩;rw [←mk j (by omega) u];exact n
 ·intro n;obtain ⟨i,v,k⟩:=OX g ht;exact ⟨i,by omega,by rw [mk i v k];exact n,k⟩
theorem reg_eq {xs ys:List Sp}(E:List Rat)(hx:xz xs)(hy:xz ys)(h:∀t,t∉E->inB xs t=inB ys t):xs=ys:=
 Fy (E:=E) hx hy fun t a=>by rw [←jB,←jB,h t a]
end Go.Proofs.Tryz
namespace Go.Proofs.Tryz
open Go.Eng Go.Big
def Sp.ins (s:Sp)(t:Rat):Bool:=(s.a||decide (cmpQ s.lo t<0))&&(s.b||decide (cmpQ s.hi t>0))
theorem Ck {V:View}{v w:Value}{s:Sp}{t:Rat}(h:At V v s)(ht:RR V w t){k:Nat}(hs:s.sz k)(st:Sz k t)(hk:2*k<1099511627776) :
  ae prog 109 #[v,w] V fun r V'=>r=.bool (s.ins t):=by
 have c:=ht;obtain ⟨n,o,p,u,x,q,rfl,y,i⟩:=h;obtain ⟨t0,t1,t2,rfl⟩:=ht.shape;refine rS n o p u x q s.a s.b t0 t1 t2 V _ ⟨fun e=>⟨fun d A B=>by simp [Sp.ins,e,d],fun d V2 j=>(jr (i.le j) (c.le j) hs.2 st (by omega)).mono ?_⟩,fun e C f=>(jr (y.le f) (c.le f) hs.1 st (by omega)).mono ?_⟩
 ·rintro r D E rfl;exact ⟨_,rfl,fun F G=>by simp [Sp.ins,e,d]⟩
 ·rintro r H l rfl;refine ⟨_,rfl,fun g=>⟨fun d I J=>by simp [Sp.ins,e,d,of_decide_eq_true g],fun d K m=>(jr (i.le (f.trans (l.trans m))) (c.le (f.trans (l.trans m))) hs.2 st (by omega)).mono ?_⟩,fun g L M=>by simp [Sp.ins,e,of_decide_eq_false g]⟩;rintro r N O rfl;exact ⟨_,rfl,fun P z=>by simp [Sp.ins,e,d,of_decide_eq_true g]⟩
theorem Mg {s:Sp}{t:Rat}:nJ (s.la t) (s.lb t)=if s.ins t then 2 else if s.has t then 1 else 0:=by
 obtain ⟨d,e,a,b⟩:=s;have f:=cmpQ_swap d t;have g:=cmpQ_swap e t;unfold Sp.ins Sp.has Sp.la Sp.lb nJ;rcases iq d t with ⟨-,c⟩|⟨-,c⟩|⟨-,c⟩<;>rcases iq e t with ⟨-,h2⟩|⟨-,h2⟩|⟨-,h2⟩<;>rw [c] at f<;>rw [h2] at g<;>cases a<;>cases b<;>simp_all<;>omega
end Go.Proofs.Tryz
namespace Go.Proofs.Tryz
open Go.Big
section
variable {α:Type}
structure Ord (c:α->α->Int):Prop where
 P_:∀a b,c a b<0->¬c b a<0
 tr:∀a b d,¬c a b<0->¬c b d<0->¬c a d<0
variable {c:α->α->Int}
theorem Ord.le (h:Ord c){a b:α}(l:c a b<0):¬c b a<0:=h.P_ a b l
theorem Ord.refl (h:Ord c)(a:α):¬c a a<0:=fun l=>h.P_ a a l l
def pr (d:α)(l:List α)(i j:Nat):List α:=(l.set i (l.getD j d)).set j (l.getD i d)
variable {d:α}
theorem f_ {l:List α}{i j:Nat}:(pr d l i j).length=l.length:=by simp [pr]
theorem pP {l:List α}{i k:Nat}{x:α}(hi:i<l.length):(l.set i x).getD k d=if k=i then x else l.getD k d:=by
 simp only [List.getD_eq_getElem?_getD,List.getElem?_set];by_cases h:k=i
 ·subst h;simp [hi]
 ·have:¬i=k:=fun e=>h e.symm;simp [h,this]
theorem oP {l:List α}{i j k:Nat}(hi:i<l.length)(hj:j<l.length):(pr d l i j).getD k d=if k=j then l.getD i d else if k=i then l.getD j d else l.getD k d:=by
 unfold pr;rw [pP (by simpa using hj),pP hi]
theorem KR {l:List α}{i j:Nat}(hi:i<l.length)(hj:j<l.length):(pr d l i j).Perm l:=by
 have h:=Array.swap_perm (xs:=l.toArray) (i:=i) (j:=j) (by simpa using hi) (by simpa using hj)
 have e:(l.toArray.swap i j (by simpa using hi) (by simpa using hj)).toList=pr d l i j:=by
  simp [Array.swap,pr,List.getD_eq_getElem?_getD,hi,hj]
 have:=h.toList;rw [e] at this;simpa using this
structure pj (d:α) (l m:List α) (a b:Nat):Prop where
 len:m.length=l.length
 out:∀k,¬(a<=k/\k<b)->m.getD k d=l.getD k d
 mem:∀k,a<=k->k<b->∃k',a<=k'/\k'<b/\m.getD k d=l.getD k' d
 perm:m.Perm l
theorem pj.refl (l:List α)(a b:Nat):pj d l l a b:=⟨rfl,fun _ _=>rfl,fun k h c=>⟨k,h,c,rfl⟩,.refl _⟩
theorem pj.trans {l m n:List α}{a b:Nat}(h:pj d l m a b)(g:pj d m n a b):pj d l n a b:=
 ⟨g.len.trans h.len,fun k f=>(g.out k f).trans (h.out k f),fun k i j=>by
  obtain ⟨o,p,q,e⟩:=g.mem k i j;obtain ⟨c,r,s,t⟩:=h.mem o p q;exact ⟨c,r,s,e.trans t⟩,g.perm.trans h.perm⟩
theorem pj.wide {l m:List α}{a b a' b':Nat}(h:pj d l m a b)(ha:a'<=a)(hb:b<=b'):pj d l m a' b':=
 ⟨h.len,fun k c=>h.out k (by omega),fun k f g=>by
  by_cases c:a<=k/\k<b
  ·obtain ⟨i,j,n,e⟩:=h.mem k c.1 c.2;exact ⟨i,by omega,by omega,e⟩
  ·exact ⟨k,f,g,h.out k c⟩,h.perm⟩
theorem pj.pr {l:List α}{a b i j:Nat}(hi:a<=i)(hi':i<b)(hj:a<=j)(hj':j<b)(hb:b<=l.length):pj d l (pr d l i j) a b:=by
 refine ⟨f_,fun k f=>?_,fun k c e=>?_,KR (by omega) (by omega)⟩
 ·rw [oP (by omega) (by omega),if_neg (by omega),if_neg (by omega)]
 ·rw [oP (by omega) (by omega)];split
  ·exact ⟨i,hi,hi',rfl⟩
  ·split
   ·exact ⟨j,hj,hj',rfl⟩
   ·exact ⟨k,c,e,rfl⟩
def ui (c:α->α->Int)(d:α)(l:List α)(a b:Nat):Prop:=∀p q,a<=p->p<q->q<b->¬c (l.getD q d) (l.getD p d)<0
theorem ui.short {l:List α}{a b:Nat}(h:b<=a+1):ui c d l a b:=fun p q e f g=>by omega
theorem ui.step (ho:Ord c){l:List α}{a b:Nat}(h:ui c d l a b)(h0:a<b)(hb:¬c (l.getD b d) (l.getD (b-1) d)<0):ui c d l a (b+1):=by
 intro p q f g j;by_cases e:q=b
 ·subst e;by_cases i:p=q-1
  ·subst i;exact hb
  ·exact ho.tr _ _ _ hb (h p (q-1) f (by omega) (by omega))
 ·exact h p q f g (by omega)
def Nc (c:α->α->Int)(d:α)(l:List α)(a i j:Nat):Prop:=∀p q,a<=p->p<q->q<=i->q≠j->¬c (l.getD q d) (l.getD p d)<0
theorem Nc.start {l:List α}{a i:Nat}(h:ui c d l a i):Nc c d l a i i:=fun p q b e f g=>h p q b e (by omega)
theorem Nc.done (ho:Ord c){l:List α}{a i j:Nat}(h:Nc c d l a i j)(hji:j<=i)(hs:j<=a\/¬c (l.getD j d) (l.getD (j-1) d)<0):ui c d l a (i+1):=by
 intro p q b f k;by_cases e:q=j
 ·subst e;rcases hs with hs|hs
  ·omega
  ·by_cases g:p=q-1
   ·subst g;exact hs
   ·exact ho.tr _ _ _ hs (h p (q-1) b (by omega) (by omega) (by omega))
 ·exact h p q b f (by omega) e
theorem Nc.move (ho:Ord c){l:List α}{a i j:Nat}(h:Nc c d l a i j)(hj:a<j)(hji:j<=i)(hi:i<l.length)(hl:c (l.getD j d) (l.getD (j-1) d)<0):Nc c d (pr d l j (j-1)) a i (j-1):=by
 intro p q f n e o;have g:=fun k=>oP (d:=d) (l:=l) (i:=j) (j:=j-1) (k:=k) (by omega) (by omega);rw [g,g];by_cases eq:q=j
 ·subst eq;rw [if_neg (by omega),if_pos rfl];by_cases b:p=q-1
  ·rw [if_pos b];exact ho.P_ _ _ hl
  ·rw [if_neg b,if_neg (by omega)];exact h p (q-1) f (by omega) (by omega) (by omega)
 ·rw [if_neg o,if_neg eq];by_cases b:p=j-1
  ·rw [if_pos b];exact h j q (by omega) (by omega) e eq
  ·rw [if_neg b];by_cases m:p=j
   ·rw [if_pos m];exact h (j-1) q (by omega) (by omega) e eq
   ·rw [if_neg m];exact h p q f n e eq
def Hp (c:α->α->Int)(d:α)(l:List α)(f lo hi:Nat)(r:Option Nat):Prop:=
 (∀i k,lo<=i->(k=2*i+1\/k=2*i+2)->k<hi->r≠some i->¬c (l.getD (f+i) d) (l.getD (f+k) d)<0) /\
 (∀i j k,r=some j->lo<=i->(j=2*i+1\/j=2*i+2)->(k=2*j+1\/k=2*j+2)->k<hi->¬c (l.getD (f+i) d) (l.getD (f+k) d)<0)
theorem Hp.top (ho:Ord c){l:List α}{f hi:Nat}(h:Hp c d l f 0 hi none):∀k,k<hi->¬c (l.getD f d) (l.getD (f+k) d)<0:=by
 intro k
 induction k using Nat.strongRecOn with
 | ind k ih=>
  intro a;by_cases b:k=0
  ·subst b;exact ho.refl _
  ·exact ho.tr _ _ _ (ih ((k-1) / 2) (by omega) (by omega)) (h.1 ((k-1) / 2) k (by omega) (by omega) a (by simp))
theorem Hp.leaf {l:List α}{f lo hi r:Nat}(h:Hp c d l f lo hi (some r))(hr:hi<=2*r+1):Hp c d l f lo hi none:=
 ⟨fun i k a b g _=>by
  by_cases e:r=i
  ·omega
  ·exact h.1 i k a b g (by simpa using e),fun i j k e=>by cases e⟩
theorem Hp.stop (ho:Ord c){l:List α}{f lo hi r k:Nat}(h:Hp c d l f lo hi (some r))(hk:k=2*r+1\/k=2*r+2)(hm:∀k',(k'=2*r+1\/k'=2*r+2)->k'<hi->¬c (l.getD (f+k) d) (l.getD (f+k') d)<0)
  (hs:¬c (l.getD (f+r) d) (l.getD (f+k) d)<0):Hp c d l f lo hi none:=
 ⟨fun i k' g a b _=>by
  by_cases e:r=i
  ·subst e;exact ho.tr _ _ _ hs (hm k' a b)
  ·exact h.1 i k' g a b (by simpa using e),fun i j k e=>by cases e⟩
theorem Hp.down (ho:Ord c){l:List α}{f lo hi r k:Nat}(h:Hp c d l f lo hi (some r))(hlo:lo<=r)(hl:f+hi<=l.length)(hk:k=2*r+1\/k=2*r+2)(hkh:k<hi)(hm:∀k',(k'=2*r+1\/k'=2*r+2)->k'<hi->¬c (l.getD (f+k) d) (l.getD (f+k') d)<0)
  (hs:c (l.getD (f+r) d) (l.getD (f+k) d)<0):Hp c d (pr d l (f+r) (f+k)) f lo hi (some k):=by
 have a:=fun x=>oP (d:=d) (l:=l) (i:=f+r) (j:=f+k) (k:=x) (by omega) (by omega);refine ⟨fun i k' n b g m=>?_,fun i j k' e n b g m=>?_⟩
 ·have m:¬i=k:=fun e=>m (by rw [e]);rw [a,a,if_neg (show ¬f+i=f+k by omega)];by_cases p:i=r
  ·subst p;rw [if_pos rfl];by_cases o:k'=k
   ·rw [if_pos (by omega)];exact ho.P_ _ _ hs
   ·rw [if_neg (by omega),if_neg (by omega)];exact hm k' b g
  ·rw [if_neg (by omega)];by_cases o:k'=r
   ·subst o;rw [if_neg (by omega),if_pos rfl];exact h.2 i k' k rfl n b hk hkh
   ·rw [if_neg (by omega),if_neg (by omega)];exact h.1 i k' n b g (by simp;omega)
 ·cases e;rw [a,a];have:i=r:=by omega
  subst this;rw [if_neg (by omega),if_pos rfl,if_neg (by omega),if_neg (by omega)];exact h.1 k k' (by omega) g m (by simp;omega)
theorem Hp.more {l:List α}{f lo hi:Nat}(h:Hp c d l f (lo+1) hi none):Hp c d l f lo hi (some lo):=
 ⟨fun i k m a b g=>h.1 i k (by have:¬lo=i:=fun e=>g (by rw [e]);omega) a b (by simp),fun i j k e m a b g=>by cases e;omega⟩
def Sep (c:α->α->Int)(d:α)(l:List α)(a m b:Nat):Prop:=∀p q,a<=p->p<m->m<=q->q<b->¬c (l.getD q d) (l.getD p d)<0
theorem pj.sep {l m:List α}{a b x y z:Nat}(h:pj d l m a b)(hs:Sep c d l x y z)(hc:(x<=a/\b<=y)\/(y<=a/\b<=z)\/b<=x\/z<=a):Sep c d m x y z:=by
 intro p q r s t u
 have key:∀k,∃f,m.getD k d=l.getD f d/\(k=f\/a<=k/\k<b/\a<=f/\f<b):=fun k=>by
  by_cases g:a<=k/\k<b
  ·obtain ⟨f,i,j,e⟩:=h.mem k g.1 g.2;exact ⟨f,e,.inr ⟨g.1,g.2,i,j⟩⟩
  ·exact ⟨k,h.out k g,.inl rfl⟩
 obtain ⟨n,i,j⟩:=key p;obtain ⟨o,f1,f2⟩:=key q;rw [i,f1];exact hs n o (by omega) (by omega) (by omega) (by omega)
theorem pj.asc {l m:List α}{a b x y:Nat}(h:pj d l m a b)(hs:ui c d l x y)(hc:y<=a\/b<=x):ui c d m x y:=by
 intro p q e f g;rw [h.out p (by omega),h.out q (by omega)];exact hs p q e f g
theorem ui.join {l:List α}{a m b:Nat}(h1:ui c d l a m)(h2:ui c d l m b)(h3:Sep c d l a m b):ui c d l a b:=by
 intro p q e f g;by_cases h:q<m
 ·exact h1 p q e f h
 ·by_cases i:m<=p
  ·exact h2 p q i f g
  ·exact h3 p q e (by omega) (by omega) g
end
end Go.Proofs.Tryz
namespace Go.Eng
open Go.Proofs.Tryz
variable {α:Type} {sz:Nat} {R:View->Value->α->Prop} {V V':View} {d:α}
theorem Row.get {vs:List Value}{al:List α}(h:Row sz R V vs al){i:Nat}(hi:i<al.length)(hs:0<sz) :
  ∃xs:List Value,xs.length=sz/\R V (.agg xs.toArray) (al.getD i d)/\i*sz+sz<=vs.length/\(vs.drop (i*sz)).take sz=xs:=by
 obtain ⟨xs,b,c,e⟩:=h.at_ i hi;have g:=h.gF hs;have:(i+1)*sz<=al.length*sz:=Nat.mul_le_mul_right _ hi;rw [Nat.succ_mul] at this;refine ⟨xs,b,by simpa [List.getD_eq_getElem?_getD,hi] using c,by omega,?_⟩;apply List.ext_getElem?;intro j;rw [List.getElem?_take];split
 ·rename_i f;rw [List.getElem?_drop];have a:j<xs.length:=by omega
  rw [e j _ (List.getElem?_eq_getElem a),List.getElem?_eq_getElem a]
 ·rename_i f;rw [List.getElem?_eq_none (by omega)]
theorem Row.put {vs:List Value}{al:List α}(h:Row sz R V vs al){i:Nat}(hi:i<al.length)(hs:0<sz){xs:List Value}{a:α}(hx:xs.length=sz)(ha:R V (.agg xs.toArray) a) :
  Row sz R V (aU vs (i*sz) xs) (al.set i a):=by
 have r:=h.gF hs
 have l:∀k,k<al.length->k*sz+sz<=vs.length:=fun k d=>by
  have:(k+1)*sz<=al.length*sz:=Nat.mul_le_mul_right _ d;rw [Nat.succ_mul] at this;omega
 have m:=l i hi;rw [jj (by omega)];have f:(vs.take (i*sz)).length=i*sz:=by rw [List.length_take];omega
 refine ⟨fun k d=>?_⟩;rw [List.length_set] at d;by_cases e:k=i
 ·subst e;refine ⟨xs,hx,by simpa using ha,fun j x b=>?_⟩;have c:=(List.getElem?_eq_some_iff.1 b).1;rw [List.append_assoc,List.getElem?_append_right (by omega),f,Nat.add_sub_cancel_left,List.getElem?_append_left c];exact b
 ·obtain ⟨n,o,p,g⟩:=h.at_ k d;refine ⟨n,o,by rw [List.getElem_set_ne (fun q=>e q.symm)];exact p,fun j x b=>?_⟩;have c:=(List.getElem?_eq_some_iff.1 b).1;by_cases lt:k<i
  ·have:(k+1)*sz<=i*sz:=Nat.mul_le_mul_right _ lt;rw [Nat.succ_mul] at this;rw [List.append_assoc,List.getElem?_append_left (by omega),List.getElem?_take,if_pos (by omega)];exact g j x b
  ·have:(i+1)*sz<=k*sz:=Nat.mul_le_mul_right _ (by omega);rw [Nat.succ_mul] at this;rw [List.getElem?_append_right (by rw [List.length_append];omega),List.length_append,f,hx,List.getElem?_drop];rw [show i*sz+sz+(k*sz+j-(i*sz+sz))=k*sz+j by omega];exact g j x b
theorem fN {vs xs:List Value}{o:Nat}(h:o+xs.length<=vs.length):(aU vs o xs).length=vs.length:=by
 rw [jj h];simp only [List.length_append,List.length_take,List.length_drop];omega
theorem Row.swap {vs:List Value}{al:List α}(h:Row sz R V vs al){i j:Nat}(hi:i<al.length)(hj:j<al.length)(hs:0<sz){xs ys:List Value}(hx:xs.length=sz)(hy:ys.length=sz)(h1:R V (.agg xs.toArray) (al.getD i d))(h2:R V (.agg ys.toArray) (al.getD j d)) :
  Row sz R V (aU (aU vs (i*sz) ys) (j*sz) xs) (pr d al i j):=by
 have:=h.put hi hs hy h2;exact this.put (by simpa using hj) hs hx h1
end Go.Eng
namespace Go.Proofs.Tryz
open Go.Eng Go.Big
theorem CY {V:View}{P:Prop}{b:Nat}(h:P->V.H b):V.Le (V.shut.gX P b):=fun x o g=>⟨fun a=>by
 rcases a with a|a
 ·exact g.1 a
 ·rw [a.2.1] at g;exact g.1 (h a.1),g.2⟩
theorem ae.R5 {f:FuncId}{args:Array Value}{V:View}{R R':Value->View->Prop}(h:ae prog f args V R)(hR:∀r V',V.Le V'->(∀b,V.H b->V'.H b)->R r V'->R' r V'):ae prog f args V R':=
 ⟨h.1,h.2.mono fun _ c ⟨r,he,a,d⟩=>⟨r,he,a,hR r _ (V.NT c a) (fun _ e=>e) d⟩⟩
section
variable {α:Type} (e:α->α->Bool)
def ki:α->List α->List α
 | _,[]=>[]
 | p,a::r=>if e a p then ki a r else a::ki a r
def gT:List α->List α
 | []=>[]
 | a::r=>a::ki e a r
variable {e}
theorem zE {d:α}:∀{r:List α} {p a:α},ki e p (r++[a])=ki e p r++if e a ((p::r).getD r.length d) then [] else [a]
 | [],p,a=>by simp [ki]
 | b::r,p,a=>by
  have ih:=zE (d:=d) (r:=r) (p:=b) (a:=a);have c:(p::b::r).getD (b::r).length d=(b::r).getD r.length d:=rfl;rw [c,List.cons_append];simp only [ki];split
  ·exact ih
  ·rw [ih];rfl
theorem mW {d:α}{l:List α}{k:Nat}(hk:k+1<l.length):gT e (l.take (k+2))=gT e (l.take (k+1))++if e (l.getD (k+1) d) (l.getD k d) then [] else [l.getD (k+1) d]:=by
 cases l with
 | nil=>simp at hk
 | cons a r=>
  have b:k<r.length:=by simpa using hk
  have c:(a::r).take (k+2)=a::(r.take k++[r[k]]):=by
   rw [List.take_succ_cons,List.take_append_getElem b]
  have f:(a::r).take (k+1)=a::r.take k:=List.take_succ_cons;rw [c,f];simp only [gT];rw [zE (d:=d)];have g:(a::r).getD (k+1) d=r[k]:=by rw [List.getD_cons_succ,List.getD_eq_getElem?_getD,List.getElem?_eq_getElem b];rfl
  have h:(a::r.take k).getD (r.take k).length d=(a::r).getD k d:=by
   have i:(r.take k).length=k:=by rw [List.length_take];omega
   rw [i]
   cases k with
   | zero=>rfl
   | succ k=>
    rw [List.getD_cons_succ,List.getD_cons_succ,List.getD_eq_getElem?_getD,List.getD_eq_getElem?_getD,List.getElem?_take,if_pos (by omega)]
  rw [g,h,List.cons_append]
theorem vf:∀{r:List α} {p:α},∀x∈ki e p r,x∈r
 | [],p,x,h=>h
 | b::r,p,x,h=>by
  unfold ki at h;split at h
  ·exact List.mem_cons_of_mem _ (vf x h)
  ·rcases List.mem_cons.1 h with rfl|h
   ·exact List.mem_cons_self ..
   ·exact List.mem_cons_of_mem _ (vf x h)
theorem I8 {l:List α}:∀x∈gT e l,x∈l:=by
 cases l with
 | nil=>exact fun x h=>h
 | cons a r=>
  intro x h;rcases List.mem_cons.1 h with rfl|h
  ·exact List.mem_cons_self ..
  ·exact List.mem_cons_of_mem _ (vf x h)
theorem Cw:∀{r:List α} {p:α},(ki e p r).length<=r.length
 | [],p=>Nat.le_refl _
 | b::r,p=>by
  have:=Cw (r:=r) (p:=b);unfold ki;split<;>simp<;>omega
theorem Ct {l:List α}:(gT e l).length<=l.length:=by
 cases l with
 | nil=>exact Nat.le_refl _
 | cons a r=>have:=Cw (e:=e) (r:=r) (p:=a);simp [gT];omega
theorem LQ {d:α}{l:List α}{k:Nat}(hk:k+1<l.length)(he:e (l.getD (k+1) d) (l.getD k d)=true):(gT e l).length<l.length:=by
 have key:∀j,k+2+j<=l.length->(gT e (l.take (k+2+j))).length<k+2+j:=by
  intro j
  induction j with
  | zero=>
   intro _;rw [Nat.add_zero,mW (d:=d) hk,he,if_pos rfl,List.append_nil];have:=Ct (e:=e) (l:=l.take (k+1));rw [List.length_take] at this;omega
  | succ j ih=>
   intro a;have:=ih (by omega);rw [show k+2+(j+1)=k+1+j+2 by omega,mW (d:=d) (by omega),List.length_append,show k+1+j+1=k+2+j by omega];split<;>simp<;>omega
 have:=key (l.length-(k+2)) (by omega)
 rwa [show k+2+(l.length-(k+2))=l.length by omega,List.take_length] at this
theorem Cu {l:List α}(h:l.length<=1):gT e l=l:=by
 match l,h with
 | [],_=>rfl
 | [a],_=>rfl
 | _::_::_,h=>simp at h
end
end Go.Proofs.Tryz
namespace Go.Eng
open Go.Proofs.Tryz
section
variable {α:Type} {sz:Nat} {R:View->Value->α->Prop} {V:View} {d:α}
theorem Row.LN {vs zs:List Value}{al:List α}(h:Row sz R V vs al){k:Nat}(hk:k<=al.length)(hs:0<sz):Row sz R V (vs.take (k*sz)++zs) (al.take k):=by
 have l:=h.gF hs;refine ⟨fun i b=>?_⟩;rw [List.length_take] at b;obtain ⟨xs,c,d,e⟩:=h.at_ i (by omega);refine ⟨xs,c,by rw [List.getElem_take];exact d,fun j x a=>?_⟩;have f:=(List.getElem?_eq_some_iff.1 a).1;have g:(i+1)*sz<=k*sz:=Nat.mul_le_mul_right _ (by omega);have m:k*sz<=al.length*sz:=Nat.mul_le_mul_right _ hk;rw [Nat.succ_mul] at g;rw [List.getElem?_append_left (by rw [List.length_take];omega),List.getElem?_take,if_pos (by omega)];exact e j x a
end
end Go.Eng
namespace Go.Proofs.Tryz.bE
abbrev V2:=Rat×Rat
def cr (u v:V2):Rat:=u.1*v.2-u.2*v.1
def dt (u v:V2):Rat:=u.1*v.1+u.2*v.2
def SQ (u:V2):V2:=(-u.2,u.1)
def up (u:V2):Prop:=u.2>0\/u.2=0/\u.1>0
def dn (u:V2):Prop:=u.2<0\/u.2=0/\u.1<0
def nz (u:V2):Prop:=u.1≠0\/u.2≠0
def tu (u v:V2):Prop:=(up u/\dn v)\/((up u/\up v\/dn u/\dn v)/\cr u v>0)
def Ll (a:Rat)(u:V2)(b:Rat)(w:V2):V2:=(a*u.1+b*w.1,a*u.2+b*w.2)
def VY (s r:V2):Prop:=∃c:Rat,c>0/\s.1=-(c*r.1)/\s.2=-(c*r.2)
theorem mM {u:V2}(h:nz u):up u\/dn u:=by unfold nz at h;unfold up dn;grind
theorem eV {u:V2}(h:up u)(h':dn u):False:=by unfold up at h;unfold dn at h';grind
theorem gP (u v:V2):cr v u=-cr u v:=by unfold cr;grind
theorem Pk (u w r:V2):cr u r*w.1+cr r w*u.1=cr u w*r.1:=by unfold cr;grind
theorem E6 (u w r:V2):cr u r*w.2+cr r w*u.2=cr u w*r.2:=by unfold cr;grind
theorem EO (r:V2)(a:Rat)(u:V2)(b:Rat)(w:V2):cr r (Ll a u b w)=a*cr r u+b*cr r w:=by unfold cr Ll;grind
theorem OM (r u:V2):cr r (SQ u)=dt r u:=by unfold cr SQ dt;grind
theorem Bh {s r:V2}(h:VY s r)(z:V2):∃c:Rat,c>0/\cr s z=-(c*cr r z)/\cr z s=-(c*cr z r):=by
 obtain ⟨c,d,a,b⟩:=h;exact ⟨c,d,by unfold cr;rw [a,b];grind,by unfold cr;rw [a,b];grind⟩
theorem mp {a b:Rat}(ha:a>0)(hb:b>0):a*b>0:=Rat.mul_pos ha hb
theorem mn {a b:Rat}(ha:a≥0)(hb:b≥0):a*b≥0:=Rat.mul_nonneg ha hb
theorem b1 {u w r:V2}(hu:up u)(hw:dn w)(hr:up r)(a:cr u r>0)(b:cr r w<=0)(c:cr u w≥0):False:=by
 have e:=E6 u w r;unfold up at hu hr;unfold dn at hw;have f:cr u r*(-w.2)≥0:=mn (by grind) (by grind);have g:(-(cr r w))*u.2≥0:=mn (by grind) (by grind);have i:cr u w*r.2≥0:=mn c (by grind);have d:cr u r*w.2=0:=by grind
 have j:w.2=0:=by rcases Rat.mul_eq_zero.1 d with h|h<;>grind
 have k:w.1<0:=by grind
 have l:cr r w=-(r.2*w.1):=by unfold cr;grind
 have m:r.2=0:=by
  by_cases h:r.2>0
  ·have:=mp h (show -w.1>0 by grind);grind
  ·grind
 have n:r.1>0:=by grind
 have o:cr u r=-(u.2*r.1):=by unfold cr;grind
 have:=mn (show u.2≥0 by grind) (show r.1≥0 by grind);grind
theorem b2 {u w r:V2}(hu:up u)(hw:dn w)(hr:dn r)(a:cr u r<=0)(b:cr r w>0)(c:cr u w≥0):False:=by
 have e:=E6 u w r;unfold up at hu;unfold dn at hw hr;have g:(-(cr u r))*(-w.2)≥0:=mn (by grind) (by grind);have i:cr r w*u.2≥0:=mn (by grind) (by grind);have j:cr u w*(-r.2)≥0:=mn c (by grind);have d:cr r w*u.2=0:=by grind
 have k:u.2=0:=by rcases Rat.mul_eq_zero.1 d with h|h<;>grind
 have f:u.1>0:=by grind
 have l:cr u w=u.1*w.2:=by unfold cr;grind
 have m:w.2=0:=by
  by_cases h:w.2<0
  ·have:=mp f (show -w.2>0 by grind);grind
  ·grind
 have n:w.1<0:=by grind
 have o:cr r w=-(r.2*w.1):=by unfold cr;grind
 have:=mn (show -r.2≥0 by grind) (show -w.1≥0 by grind);grind
theorem b3 {u w r:V2}(hu:dn u)(hw:up w)(hr:dn r)(a:cr u r>0)(b:cr r w<=0)(c:cr u w≥0):False:=by
 have e:=E6 u w r;unfold dn at hu hr;unfold up at hw;have g:cr u r*w.2≥0:=mn (by grind) (by grind);have i:(-(cr r w))*(-u.2)≥0:=mn (by grind) (by grind);have j:cr u w*(-r.2)≥0:=mn c (by grind);have d:cr u r*w.2=0:=by grind
 have k:w.2=0:=by rcases Rat.mul_eq_zero.1 d with h|h<;>grind
 have f:w.1>0:=by grind
 have l:cr r w=-(r.2*w.1):=by unfold cr;grind
 have m:r.2=0:=by
  by_cases h:r.2<0
  ·have:=mp f (show -r.2>0 by grind);grind
  ·grind
 have n:r.1<0:=by grind
 have o:cr u r=-(u.2*r.1):=by unfold cr;grind
 have:=mn (show -u.2≥0 by grind) (show -r.1≥0 by grind);grind
theorem b4 {u w r:V2}(hu:dn u)(hw:up w)(hr:up r)(a:cr u r<=0)(b:cr r w>0)(c:cr u w≥0):False:=by
 have e:=E6 u w r;unfold dn at hu;unfold up at hw hr;have f:(-(cr u r))*w.2≥0:=mn (by grind) (by grind);have g:cr r w*(-u.2)≥0:=mn (by grind) (by grind);have i:cr u w*r.2≥0:=mn c (by grind);have d:cr r w*u.2=0:=by grind
 have j:u.2=0:=by rcases Rat.mul_eq_zero.1 d with h|h<;>grind
 have k:u.1<0:=by grind
 have l:cr u w=u.1*w.2:=by unfold cr;grind
 have m:w.2=0:=by
  by_cases h:w.2>0
  ·have:=mp h (show -u.1>0 by grind);grind
  ·grind
 have n:w.1>0:=by grind
 have o:cr r w=-(r.2*w.1):=by unfold cr;grind
 have:=mn (show r.2≥0 by grind) (show w.1≥0 by grind);grind
structure Ni (D:List V2):Prop where
 nz:∀r∈D,nz r
 cl:∀r∈D,∃s∈D,VY s r
 asc:D.Pairwise tu
def ss (a b:Rat):Prop:=(b>0->a>0)/\(b<0->a<0)
theorem jJ {u v:V2}(hu:up u)(hv:up v):tu u v->cr u v>0:=by
 rintro (⟨_,h⟩|⟨_,h⟩)
 ·exact (eV hv h).elim
 ·exact h
theorem iJ {u v:V2}(hu:dn u)(hv:dn v):tu u v->cr u v>0:=by
 rintro (⟨h,_⟩|⟨_,h⟩)
 ·exact (eV h hu).elim
 ·exact h
theorem fA {u v:V2}(hu:dn u)(hv:up v):¬tu u v:=by
 rintro (⟨h,_⟩|⟨⟨h,_⟩|⟨_,h⟩,_⟩)
 ·exact eV h hu
 ·exact eV h hu
 ·exact eV hv h
section
variable {D:List V2} (h:Ni D) {v:V2} (hv:∀r ∈ D,cr r v≠0)
include h hv
omit hv in
theorem Aa {i j:Nat}{a b:V2}(hi:D[i]?=some a)(hj:D[j]?=some b)(Is:i<j):tu a b:=by
 obtain ⟨c,d⟩:=List.getElem?_eq_some_iff.1 hi;obtain ⟨e,f⟩:=List.getElem?_eq_some_iff.1 hj;have:=List.pairwise_iff_getElem.1 h.asc i j c e Is
 rwa [d,f] at this
end
theorem Sj {r:V2}(h:nz r){c:Rat}(h1:c*r.1=0)(h2:c*r.2=0):c=0:=by
 rcases Rat.mul_eq_zero.1 h1 with e|e
 ·exact e
 ·rcases Rat.mul_eq_zero.1 h2 with a|a
  ·exact a
  ·unfold nz at h;grind
theorem sq_pos {u:V2}(h:nz u):dt u u>0:=by
 have a:∀x:Rat,x*x≥0:=fun x=>by
  by_cases b:x≥0
  ·exact mn b b
  ·have:=mn (show -x≥0 by grind) (show -x≥0 by grind);grind
 have:=a u.1;have:=a u.2;unfold dt;by_cases c:u.1*u.1+u.2*u.2>0
 ·exact c
 ·unfold nz at h;have d:u.1*u.1=0:=by grind
  have f:u.2*u.2=0:=by grind
  rcases Rat.mul_eq_zero.1 d with e|e<;>rcases Rat.mul_eq_zero.1 f with e'|e'<;>grind
def G9 (u w v':V2):Prop:=cr u w>0/\(∃a b:Rat,a>0/\b>0/\v'=Ll a u b w)\/cr u w<=0/\∃a:Rat,a>0/\v'=Ll a (SQ u) 0 w
section
variable {D:List V2} (h:Ni D)
include h
end
theorem Qw {u w s:V2}(nu:nz u)(nw:nz w)(ns:nz s)(o:tu s u/\tu u w\/tu u w/\tu w s\/tu w s/\tu s u)
  (a:cr u s>0)(b:cr s w>0)(c:cr u w>0):False:=by
 have l:=E6 u w s;have m:=Pk u w s;have s1:=gP u s;have s2:=gP s w;rcases mM nu with hu|hu<;>rcases mM nw with hw|hw<;>rcases mM ns with hs|hs
 ·rcases o with ⟨p,q⟩|⟨p,q⟩|⟨p,q⟩
  ·have:=jJ hs hu p;grind
  ·have:=jJ hw hs q;grind
  ·have:=jJ hw hs p;grind
 ·unfold up at hu hw;unfold dn at hs;have i:=mn (show cr u s≥0 by grind) (show w.2≥0 by grind);have j:=mn (show cr s w≥0 by grind) (show u.2≥0 by grind);have k:=mn (show cr u w≥0 by grind) (show -s.2≥0 by grind);have d:cr u s*w.2=0:=by grind
  have e:cr s w*u.2=0:=by grind
  have f:w.2=0:=by rcases Rat.mul_eq_zero.1 d with h|h<;>grind
  have g:u.2=0:=by rcases Rat.mul_eq_zero.1 e with h|h<;>grind
  unfold cr at c;rw [f,g] at c;grind
 ·rcases o with ⟨p,q⟩|⟨p,q⟩|⟨p,q⟩
  ·have:=jJ hs hu p;grind
  ·exact fA hw hs q
  ·exact fA hw hs p
 ·rcases o with ⟨p,q⟩|⟨p,q⟩|⟨p,q⟩
  ·exact fA hs hu p
  ·have:=iJ hw hs q;grind
  ·exact fA hs hu q
 ·rcases o with ⟨p,q⟩|⟨p,q⟩|⟨p,q⟩
  ·exact fA hu hw q
  ·exact fA hu hw p
  ·have:=jJ hw hs p;grind
 ·rcases o with ⟨p,q⟩|⟨p,q⟩|⟨p,q⟩
  ·exact fA hu hw q
  ·exact fA hu hw p
  ·have:=iJ hs hu q;grind
 ·unfold dn at hu hw;unfold up at hs;have i:=mn (show cr u s≥0 by grind) (show -w.2≥0 by grind);have j:=mn (show cr s w≥0 by grind) (show -u.2≥0 by grind);have k:=mn (show cr u w≥0 by grind) (show s.2≥0 by grind);have d:cr u s*w.2=0:=by grind
  have e:cr s w*u.2=0:=by grind
  have f:w.2=0:=by rcases Rat.mul_eq_zero.1 d with h|h<;>grind
  have g:u.2=0:=by rcases Rat.mul_eq_zero.1 e with h|h<;>grind
  unfold cr at c;rw [f,g] at c;grind
 ·rcases o with ⟨p,q⟩|⟨p,q⟩|⟨p,q⟩
  ·have:=iJ hs hu p;grind
  ·have:=iJ hw hs q;grind
  ·have:=iJ hw hs p;grind
theorem Np {u w s:V2}(nu:nz u)(nw:nz w)(ns:nz s)(o:tu s u/\tu u w\/tu u w/\tu w s\/tu w s/\tu s u)
  (a:cr u s>0)(c:cr u w<=0):False:=by
 have s1:=gP u s;rcases mM nu with hu|hu<;>rcases mM ns with hs|hs
 ·rcases o with ⟨p,q⟩|⟨p,q⟩|⟨p,q⟩
  ·have:=jJ hs hu p;grind
  ·rcases mM nw with hw|hw
   ·have:=jJ hu hw p;grind
   ·exact fA hw hs q
  ·have:=jJ hs hu q;grind
 ·rcases o with ⟨p,q⟩|⟨p,q⟩|⟨p,q⟩
  ·exact fA hs hu p
  ·rcases mM nw with hw|hw
   ·have:=jJ hu hw p;grind
   ·exact b2 hu hs hw c (iJ hw hs q) (by grind)
  ·exact fA hs hu q
 ·rcases o with ⟨p,q⟩|⟨p,q⟩|⟨p,q⟩
  ·rcases mM nw with hw|hw
   ·exact fA hu hw q
   ·have:=iJ hu hw q;grind
  ·rcases mM nw with hw|hw
   ·exact fA hu hw p
   ·have:=iJ hu hw p;grind
  ·rcases mM nw with hw|hw
   ·exact b4 hu hs hw c (jJ hw hs p) (by grind)
   ·exact fA hw hs p
 ·rcases o with ⟨p,q⟩|⟨p,q⟩|⟨p,q⟩
  ·have:=iJ hs hu p;grind
  ·rcases mM nw with hw|hw
   ·exact fA hu hw p
   ·have:=iJ hu hw p;grind
  ·have:=iJ hs hu q;grind
section
variable {D:List V2} (h:Ni D)
include h
theorem Uy {i k:Nat}{u w s:V2}(hi:D[i]?=some u)(hw:D[(i+1)%D.length]?=some w)(hk:D[k]?=some s)
  (n1:k≠i)(n2:k≠(i+1)%D.length):tu s u/\tu u w\/tu u w/\tu w s\/tu w s/\tu s u:=by
 have li:i<D.length:=(List.getElem?_eq_some_iff.1 hi).1;have c:k<D.length:=(List.getElem?_eq_some_iff.1 hk).1;by_cases b:i+1<D.length
 ·rw [Nat.mod_eq_of_lt b] at hw n2;by_cases a:k<i
  ·exact .inl ⟨Aa h hk hi a,Aa h hi hw (by omega)⟩
  ·exact .inr (.inl ⟨Aa h hi hw (by omega),Aa h hw hk (by omega)⟩)
 ·have:i+1=D.length:=by omega
  rw [this,Nat.mod_self] at hw n2;exact .inr (.inr ⟨Aa h hw hk (by omega),Aa h hk hi (by omega)⟩)
theorem PU {i:Nat}{u w v':V2}(hi:D[i]?=some u)(hw:D[(i+1)%D.length]?=some w)(hs:G9 u w v') :
  ∀r∈D,cr r v'≠0:=by
 intro r f z;have hu:u∈D:=List.mem_of_getElem? hi;have m:w∈D:=List.mem_of_getElem? hw;have o:=sq_pos (h.nz u hu);have t:=sq_pos (h.nz r f);rcases hs with ⟨c,a,b,n,B,rfl⟩|⟨c,a,n,rfl⟩
 ·
  have key:∀s∈D,cr s (Ll a u b w)=0->cr u s>0->False:=fun s hs z p=>by
   have s1:=gP u s;rw [EO,s1] at z
   have q:cr s w>0:=by
    by_cases q:cr s w>0
    ·exact q
    ·have:=mp n p;have:=mn (show b≥0 by grind) (show -(cr s w)≥0 by grind);grind
   obtain ⟨k,d⟩:=List.getElem?_of_mem hs;refine Qw (h.nz u hu) (h.nz w m) (h.nz s hs) (Uy h hi hw d (fun e=>?_) (fun e=>?_)) p q c
   ·rw [e,hi] at d;cases d;unfold cr at p;grind
   ·rw [e,hw] at d;cases d;unfold cr at q;grind
  by_cases p:cr u r>0
  ·exact key r f z p
  ·obtain ⟨s,hs,g⟩:=h.cl r f;obtain ⟨k,j,v,l⟩:=Bh g u;obtain ⟨C,x,y,_⟩:=Bh g (Ll a u b w);by_cases q:cr u r=0
   ·have s1:=gP u r;rw [EO,s1,q] at z;have:b*cr r w=0:=by grind
    have A:cr r w=0:=by rcases Rat.mul_eq_zero.1 this with e|e<;>grind
    have E:=Pk u w r;have F:=E6 u w r;have:=Sj (h.nz r f) (c:=cr u w) (by grind) (by grind);grind
   ·refine key s hs (by rw [y,z];grind) ?_;rw [l];have:=mp j (show -(cr u r)>0 by grind);grind
 ·have key:∀s∈D,cr u s>0->False:=fun s hs p=>by
   obtain ⟨k,d⟩:=List.getElem?_of_mem hs;refine Np (h.nz u hu) (h.nz w m) (h.nz s hs) (Uy h hi hw d (fun e=>?_) (fun e=>?_)) p c
   ·rw [e,hi] at d;cases d;unfold cr at p;grind
   ·rw [e,hw] at d;cases d;grind
  rw [EO,OM] at z
  have d0:dt r u=0:=by
   have:a*dt r u=0:=by grind
   rcases Rat.mul_eq_zero.1 this with e|e<;>grind
  have G:cr u r≠0:=fun e=>by
   have:cr u r*cr u r+dt r u*dt r u=dt u u*dt r r:=by unfold cr dt;grind
   have:=mp o t;grind
  by_cases p:cr u r>0
  ·exact key r f p
  ·obtain ⟨s,hs,g⟩:=h.cl r f;obtain ⟨k,j,v,l⟩:=Bh g u;refine key s hs ?_;rw [l];have:=mp j (show -(cr u r)>0 by grind);grind
def Tj (D S:List V2):Prop:=(D=[]/\S=[(1,0)])\/D≠[]/\(∀x∈S,∃i u w,D[i]?=some u/\D[(i+1)%D.length]?=some w/\G9 u w x) /\
 ∀i u w,D[i]?=some u->D[(i+1)%D.length]?=some w->∃x∈S,G9 u w x
theorem MQ {S:List V2}(hS:Tj D S):∀x∈S,∀r∈D,cr r x≠0:=by
 rcases hS with ⟨rfl,rfl⟩|⟨_,d,_⟩
 ·intro x _ r e;cases e
 ·intro x f;obtain ⟨i,u,w,a,b,c⟩:=d x f;exact PU h a b c
end
end Go.Proofs.Tryz.bE
