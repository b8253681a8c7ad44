import Derived.Test.YtapnijmlbakblaaGreatDoorZJ16
import Derived.Test.YtapnijmlbakblaaGreatDoorZJ15
import Derived.Test.YtapnijmlbakblaaGreatDoorZJ9
import Derived.Test.YtapnijmlbakblaaGreatDoorZJ6
import Derived.Test.YtapnijmlbakblaaGreatDoorZJ14
import Derived.Test.YtapnijmlbakblaaGreatDoorZJ11
import Derived.Laws.IdiomCopy
import Derived.Lib.Overlaps
import Derived.Lib.JoinLaws
import Derived.Lib.AppendZerosOnto
import Derived.Shelf.RegionOpenPlain
import Derived.Lib.Walk
import Derived.Lib.SliceRun
import Derived.Laws.NewBlocks
import Derived.Test.YtapnijmlbakblaaGreatDoorZJ13
import Derived.Test.YtapnijmlbakblaaGreatDoorZJ8
set_option linter.unusedVariables false
open Go.IntKind (i64 u64 u32)
namespace Go.Proofs.Tryz
open Go.Eng Go.Big
theorem vB {V:View}{p:OA}{n:Nat}{qs:List Rat}(h:e_ 3 RQ V p n qs){i:Nat}(hi:i<qs.length):∃ad b p1 n1 c1 p2 n2 c2,ah p (i*3)=some ad/\RQ V (.agg #[.bool b,.slice p1 n1 c1,.slice p2 n2 c2]) qs[i] /\
  V.at (ad.add 0) (.bool b)/\V.at (ad.add 1) (.slice p1 n1 c1)/\V.at (ad.add 2) (.slice p2 n2 c2):=by
 obtain ⟨ad,f,xs,-,d,a⟩:=h.at_ i hi;have c:=d;obtain ⟨p1,n1,c1,p2,n2,c2,e⟩:=d.shape;have e:=congrArg Array.toList (Value.agg.inj e);dsimp only at e;subst e;exact ⟨ad,_,p1,n1,c1,p2,n2,c2,f,c,a 0 _ rfl,a 1 _ rfl,a 2 _ rfl⟩
theorem uq {V:View}{p:OA}{n c:Nat}{v:Value}{ss:List Sp}{t:Rat}(hl:FP V p n ss)(ht:RQ V v t){k:Nat}(hs:∀s∈ss,s.sz k)(st:Sz k t)(hk:2*k<274877906944)(hn:ss.length<4611686018427387904:=by omega) :
  aa prog 99 #[.slice p n c,v] V fun r V'=>r=.bool (mN ss t==2):=by
 have a:=ht;obtain ⟨_,_,_,_,_,_,rfl⟩:=ht.shape;refine Di p n c _ _ _ _ _ _ _ V _ fun d b=>(xj (hl.le b) (a.le b) hs st hk hn).mono ?_;rintro r V2 e rfl;exact ⟨_,rfl,fun f g=>rfl⟩
def xq (c:List Rat)(i:Nat):List Rat:=(c.getD 0 0-((1:Int):Rat))::(List.range (i-1)).map fun k=>(c.getD k 0+c.getD (k+1) 0)*((2:Int):Rat)⁻¹
def cf (c:List Rat):List Rat:=if c.length=0 then [0] else xq c c.length++[c.getD (c.length-1) 0+((1:Int):Rat)]
theorem vq (c:List Rat){i:Nat}(h:1<=i:=by omega):(xq c i).length=i:=by unfold xq;simp;omega
theorem Gz (c:List Rat){i:Nat}(h:1<=i):xq c (i+1)=xq c i++[(c.getD (i-1) 0+c.getD i 0)*((2:Int):Rat)⁻¹]:=by
 obtain ⟨m,rfl⟩:∃m,i=m+1:=⟨i-1,by omega⟩;unfold xq;rw [Qj7,Qj7,List.range_succ,Qm9];rfl
theorem df {c:List Rat}{i:Nat}(h:i<c.length:=by omega):c.getD i 0=c[i]:=by rw [Qw3,Qq1 h];rfl
theorem um {V:View}{p:OA}{n c:Nat}{cs:List Rat}(h:e_ 3 RQ V p n cs)(hn:cs.length<1000000000){k:Nat}(hs:∀q∈cs,Sz k q)(hk:4*k+8<274877906944:=by omega) :
  aa prog 98 #[.slice p n c] V fun r V'=>∃q m e,r=.slice q m e/\e_ 3 RQ V' q m (cf cs):=by
 obtain rfl:=h.len;refine te p _ c V _ ⟨fun l V1 l1 bk hb=>?_,fun l=>?_⟩
 ·have l:cs.length=0:=by simpa using l
  have e:cf cs=[0]:=if_pos l;rw [e];refine ⟨_,_,_,rfl,e_.D_ hb (row_one rfl ?_)⟩;have:=RQ.zero (V:=V1);simpa using this
 ·have l:¬cs.length=0:=by simpa using l
  have e:cf cs=xq cs cs.length++[cs.getD (cs.length-1) 0+((1:Int):Rat)]:=if_neg l;rw [e];have i0:0<cs.length:=by omega
  obtain ⟨ad,b,p1,n1,c1,p2,n2,c2,R,hq,a0,a1,a2⟩:=vB h i0;refine ⟨aQ R,⟨by omega,by omega⟩,_,_,_,_,_,_,_,ad,R,a0,a1,a2,fun V2 S=>(fl 1 (by decide) (by decide)).mono ?_⟩;rintro r V3 T g;have g0:=g;obtain ⟨_,_,_,_,_,_,rfl⟩:=g.shape;refine ⟨_,_,_,_,_,_,_,rfl,fun V4 B=>(yF (hq.le (S.trans (T.trans B))) (g0.le B) (hs _ (Qw7 i0)) tL).mono ?_⟩;rintro r V5 l5 U;have KF:=U;obtain ⟨_,_,_,_,_,_,rfl⟩:=U.shape;have u:V.Le V5:=S.trans (T.trans (B.trans l5))
  refine ⟨_,_,_,_,_,_,_,rfl,fun z V'=>∃i:Nat,z.2.2.2=(i:Int)/\1<=i/\i<=cs.length/\z.1=i/\i<=z.2.1/\z.2.1*3<=z.2.2.1.length/\Row 3 RQ V' z.2.2.1 (xq cs i),fun z=>cs.length-z.2.2.2.toNat,
   ⟨(1,1,_,1),by and_intros<;>first|rfl|decide,1,rfl,Qq3 _,i0,rfl,Qq3 _,Qq3 _,row_one rfl (by rw [df i0];exact KF)⟩,?_⟩
  rintro ⟨a,z2,vs,z4⟩ V6 w ⟨i,W,i1,NO,X,C,hv,D⟩;dsimp only at W X C hv D;subst W X;have hlen:=vq cs i1;refine ⟨rfl,fun d=>?_,fun d=>?_⟩
  ·have d:(a:Int)<cs.length:=of_decide_eq_true d;have j:a<cs.length:=by omega
   have o:a-1<cs.length:=by omega
   have E:i64.wrap ((a:Int)-1)=((a-1:Nat):Int):=by rw [ar (by omega)];omega
   have w2:i64.wrap ((a:Int)+1)=(a:Int)+1:=ar (by omega);dsimp only;rw [E,w2,Qq0,Qq0];obtain ⟨F,b1,p3,n3,c3,p4,n4,c4,f,s,G,t,H⟩:=vB (h.le (u.trans w) fun _ _ g=>g.le (u.trans w)) o;obtain ⟨Wp,d1,p5,n5,c5,p6,n6,c6,x,I,d0,J,d2⟩:=vB (h.le (u.trans w) fun _ _ g=>g.le (u.trans w)) j;refine ⟨aQ f,⟨by omega,by omega⟩,_,_,_,_,_,_,_,F,f,G,t,H,aQ x,⟨by omega,by omega⟩,_,_,_,_,_,_,_,Wp,x,d0,J,d2,fun V7 K=>(F6 (s.le K) (I.le K) (hs _ (Qw7 o)) (hs _ (Qw7 j))).mono ?_⟩;rintro r V8 l8 y;have M:=y;obtain ⟨_,_,_,_,_,_,rfl⟩:=y.shape;refine ⟨_,_,_,_,_,_,_,rfl,by omega,C,hv,rfl,?_,fun sp N O h2=>⟨(a+1,N,_,(a:Int)+1),by dsimp only;omega,by and_intros<;>rfl,a+1,rfl,by omega,j,rfl,O,?_,?_⟩⟩
   ·intro v hm;simp only [Qq6,Qk1,or_false] at hm;rcases hm with rfl|rfl|rfl<;>rfl
   ·dsimp only;have ht:(vs.take (a*3)).length=a*3:=by rw [Qq5];omega
    rw [Qq2,Qq2,ht];simp only [Qx2,Qj9];omega
   ·dsimp only;rw [Gz cs i1,df o,df j];have:=(D.le (V':=V8) fun _ _ g=>g.le (K.trans l8)).snoc (sp:=sp) rfl M (by decide);rw [hlen] at this;exact this
  ·have d:¬(a:Int)<cs.length:=of_decide_eq_false d;obtain rfl:a=cs.length:=by omega
   have j:cs.length-1<cs.length:=by omega
   have E:i64.wrap ((cs.length:Int)-1)=((cs.length-1:Nat):Int):=by rw [ar (by omega)];omega
   dsimp only;rw [E,Qq0];obtain ⟨F,b1,p3,n3,c3,p4,n4,c4,f,s,G,t,H⟩:=vB (h.le (u.trans w) fun _ _ g=>g.le (u.trans w)) j;refine ⟨aQ f,⟨by omega,by omega⟩,_,_,_,_,_,_,_,F,f,G,t,H,fun V9 Y=>(fl 1 (by decide) (by decide)).mono ?_⟩;rintro r fK A Z;have P:=Z;obtain ⟨_,_,_,_,_,_,rfl⟩:=Z.shape;refine ⟨_,_,_,_,_,_,_,rfl,fun eO Q=>(dk (s.le (Y.trans (A.trans Q))) (P.le Q) (hs _ (Qw7 j)) tL).mono ?_⟩;rintro r gW cu y;have M:=y;obtain ⟨_,_,_,_,_,_,rfl⟩:=y.shape;refine ⟨_,_,_,_,_,_,_,rfl,by omega,C,hv,rfl,?_,fun sp N O h2 lx cD bk hb=>?_⟩
   ·intro v hm;simp only [Qq6,Qk1,or_false] at hm;rcases hm with rfl|rfl|rfl<;>rfl
   ·have L:=Y.trans (A.trans (Q.trans (cu.trans cD)));have:=(D.le (V':=lx) fun _ _ g=>g.le L).snoc (sp:=sp) rfl (M.le cD) (by decide);rw [hlen] at this;have k:=e_.dJ (c:=N) hb this (by decide) (by rw [Qq2,hlen];exact O);rw [Qq2,hlen] at k;rw [df j];exact ⟨_,_,_,rfl,k⟩
def cH (x:Rat):List Rat->List Rat
 | []=>[x]
 | y::r=>if y<x then y::cH x r else if y=x then y::r else x::y::r
theorem Kj {x:Rat}:∀(o:List Rat)(k:Nat),k<=o.length->(∀j (h:j<o.length),j<k->o[j]<x)->(∀h:k<o.length,¬o[k]<x) ->
  cH x o=if (∃h:k<o.length,o[k]=x) then o else o.take k++x::o.drop k:=by
 intro o
 induction o with
 | nil=>
  intro k hk _ _;obtain rfl:k=0:=by simpa using hk
  simp [cH]
 | cons y r ih=>
  intro k hk a b
  cases k with
  | zero=>
   have f:¬y<x:=b (by simp);unfold cH;rw [if_neg f];by_cases e:y=x
   ·rw [if_pos e,if_pos ⟨by simp,e⟩]
   ·rw [if_neg e,if_neg (by rintro ⟨_,h⟩;exact e h)];rfl
  | succ k=>
   have f:y<x:=a 0 (by simp) (by omega);unfold cH;rw [if_pos f,ih k (by simpa using hk) (fun j h g=>a (j+1) (by simpa using h) (by omega)) (fun h=>b (by simpa using h))];by_cases e:∃h:k<r.length,r[k]=x
   ·obtain ⟨c,d⟩:=e;rw [if_pos ⟨c,d⟩,if_pos ⟨by simpa using c,d⟩]
   ·rw [if_neg e,if_neg (by rintro ⟨c,d⟩;exact e ⟨by simpa using c,d⟩)];rfl
def cM (s:Sp)(o:List Rat):Nat->List Rat
 | 0=>o
 | 1=>if s.a then o else cH s.lo o
 | _=>if s.b then (if s.a then o else cH s.lo o) else cH s.hi (if s.a then o else cH s.lo o)
def endsL (ss:List Sp):List Rat:=ss.foldl (fun o s=>cM s o 2) []
theorem DQ {ss:List Sp}{i:Nat}(hi:i<ss.length):endsL (ss.take (i+1))=cM ss[i] (endsL (ss.take i)) 2:=by
 unfold endsL;rw [Qh1,Qq1 hi,List.foldl_append];rfl
theorem B2 {x q:Rat}:∀{o:List Rat},q∈cH x o->q=x\/q∈o:=by
 intro o
 induction o with
 | nil=>intro h;simp [cH] at h;exact .inl h
 | cons y r ih=>
  unfold cH;split
  ·intro h;rcases Qq6.1 h with h|h
   ·exact .inr (by simp [h])
   ·rcases ih h with h|h
    ·exact .inl h
    ·exact .inr (by simp [h])
  ·split
   ·exact .inr
   ·intro h;rcases Qq6.1 h with h|h
    ·exact .inl h
    ·exact .inr h
theorem lO {x:Rat}:∀{o:List Rat},(cH x o).length<=o.length+1:=by
 intro o
 induction o with
 | nil=>simp [cH]
 | cons y r ih=>
  unfold cH;split
  ·simp;omega
  ·split<;>simp
theorem Er {s:Sp}{o:List Rat}{y:Nat}(hy:y<2):cM s o (y+1)=if (if y=0 then s.a else s.b)=true then cM s o y else cH (if y=0 then s.lo else s.hi) (cM s o y):=by
 have:y=0\/y=1:=by omega
 rcases this with rfl|rfl<;>rfl
theorem zu {s:Sp}{o:List Rat}{y:Nat}(hy:y<=2):(cM s o y).length<=o.length+y:=by
 have d:=@lO s.lo o;have e:=@lO s.hi (if s.a then o else cH s.lo o);have c:(if s.a then o else cH s.lo o).length<=o.length+1:=by split<;>omega
 have:y=0\/y=1\/y=2:=by omega
 rcases this with rfl|rfl|rfl
 ·exact Qq3 _
 ·exact c
 ·show (if s.b=true then (if s.a=true then o else cH s.lo o) else cH s.hi (if s.a=true then o else cH s.lo o)).length<=_;by_cases hb:s.b=true
  ·rw [if_pos hb];omega
  ·rw [if_neg hb];omega
theorem zv {s:Sp}{o:List Rat}{y:Nat}(hy:y<=2){q:Rat}(h:q∈cM s o y):q=s.lo\/q=s.hi\/q∈o:=by
 have c:q∈(if s.a then o else cH s.lo o)->q=s.lo\/q=s.hi\/q∈o:=by
  split
  ·exact fun h=>.inr (.inr h)
  ·intro h;rcases B2 h with h|h
   ·exact .inl h
   ·exact .inr (.inr h)
 have:y=0\/y=1\/y=2:=by omega
 rcases this with rfl|rfl|rfl
 ·exact .inr (.inr h)
 ·exact c h
 ·replace h:q∈(if s.b=true then (if s.a=true then o else cH s.lo o) else cH s.hi (if s.a=true then o else cH s.lo o)):=h
  by_cases hb:s.b=true
  ·rw [if_pos hb] at h;exact c h
  ·rw [if_neg hb] at h;rcases B2 h with h|h
   ·exact .inr (.inl h)
   ·exact c h
theorem yJ (ss:List Sp):(endsL ss).length<=2*ss.length:=by
 have:∀(ss:List Sp)(o:List Rat),(ss.foldl (fun o s=>cM s o 2) o).length<=o.length+2*ss.length:=by
  intro ss
  induction ss with
  | nil=>intro o;simp
  | cons s r ih=>
   intro o;have:=ih (cM s o 2);have a:=zu (s:=s) (o:=o) (Qq3 2);simp only [Qm8,Qx2];omega
 have:=this ss [];simpa [endsL] using this
theorem qv {ss:List Sp}{q:Rat}(h:q∈endsL ss):∃s∈ss,q=s.lo\/q=s.hi:=by
 have:∀(ss:List Sp)(o:List Rat),q∈(ss.foldl (fun o s=>cM s o 2) o)->q∈o\/∃s∈ss,q=s.lo\/q=s.hi:=by
  intro ss
  induction ss with
  | nil=>exact fun o h=>.inl h
  | cons s r ih=>
   intro o h;rcases ih _ h with h|⟨t,a,h⟩
   ·rcases zv (Qq3 2) h with h|h|h
    ·exact .inr ⟨s,by simp,.inl h⟩
    ·exact .inr ⟨s,by simp,.inr h⟩
    ·exact .inl h
   ·exact .inr ⟨t,by simp [a],h⟩
 rcases this ss [] h with h|h
 ·simp at h
 ·exact h
theorem Ja {V:View}{vs:List Value}{qs:List Rat}(h:Row 3 RQ V vs qs){i:Nat}(hi:i<qs.length):∃b p1 n1 c1 p2 n2 c2,i*3+3<=vs.length/\(vs.drop (i*3)).take 3=[.bool b,.slice p1 n1 c1,.slice p2 n2 c2]/\RQ V (.agg #[.bool b,.slice p1 n1 c1,.slice p2 n2 c2]) qs[i]:=by
 obtain ⟨xs,-,d,a⟩:=h.at_ i hi;have c:=d;obtain ⟨p1,n1,c1,p2,n2,c2,e⟩:=d.shape;have e:=congrArg Array.toList (Value.agg.inj e);dsimp only at e;subst e;have k:=a 0 _ rfl;have l:=a 1 _ rfl;have f:=a 2 _ rfl;have m:=(Qw9.1 f).1;refine ⟨_,p1,n1,c1,p2,n2,c2,by omega,?_,c⟩;apply Qs5;intro j;rw [Qy3];by_cases g:j<3
 ·rw [if_pos g,Qj5];have:j=0\/j=1\/j=2:=by omega
  rcases this with rfl|rfl|rfl
  ·exact k
  ·exact l
  ·exact f
 ·rw [if_neg g,Qk6 (by simp;omega)]
theorem cmpQ_neg {a b:Rat}:cmpQ a b<0↔a<b:=by
 rcases f_ a b with ⟨h,e⟩|⟨h,e⟩|⟨h,e⟩<;>rw [e]<;>constructor<;>intro c<;>first|exact h|omega|(exfalso;grind)
theorem Nb {V:View}{xs:List Value}{q:Rat}(h:RQ V (.agg xs.toArray) q):∀v∈xs,v.oneCell'=true:=by
 obtain ⟨p,n,c,a,b,d,ex⟩:=h.shape;have ex:=congrArg Array.toList (Value.agg.inj ex);dsimp only at ex;subst ex;intro v hv;simp only [Qq6,Qk1,or_false] at hv;rcases hv with rfl|rfl|rfl<;>rfl
set_option maxHeartbeats 1000000 in
theorem zW {V:View}{p:OA}{n c:Nat}{ss:List Sp}(h:FP V p n ss)(hn:ss.length<100000000){k:Nat}(hs:∀s∈ss,s.sz k)(hk:2*k<274877906944:=by omega) :
  aa prog 97 #[.slice p n c] V fun r V'=>∃q m e,r=.slice q m e/\e_ 3 RQ V' q m (endsL ss):=by
 obtain rfl:=h.len
 refine yf p _ c V _ ⟨fun z V'=>∃i:Nat,z.2.2.2=(i:Int)/\i<=ss.length/\z.1=(endsL (ss.take i)).length/\z.1<=z.2.1/\z.2.1*3<=z.2.2.1.length/\Row 3 RQ V' z.2.2.1 (endsL (ss.take i)),fun z=>ss.length-z.2.2.2.toNat,
  ⟨(0,0,[],0),by and_intros<;>rfl,0,rfl,Qq9 _,rfl,Qq3 _,Qq3 _,Row.nil⟩,?_⟩
 rintro ⟨z1,z2,vs,z4⟩ V1 l1 ⟨i,e4,NO,e1,ic,hv,hx⟩;dsimp only at e4 e1 ic hv hx;subst e4;refine ⟨rfl,fun f=>?_,fun f lx cD bk hb=>?_⟩
 ·have f:(i:Int)<ss.length:=of_decide_eq_true f;have hi:i<ss.length:=by omega
  have w:i64.wrap ((i:Int)+1)=(i:Int)+1:=ar (by omega);dsimp only;rw [Qq0,w];obtain ⟨ad,M,xs,hf,l⟩:=(h.le l1).at_ i hi;have B:=hs _ (Qw7 hi);have v:=DQ hi
  have b1:(endsL (ss.take i)).length<300000000:=by
   have:=yJ (ss.take i);rw [Qq5] at this;omega
  have Xf:∀q∈endsL (ss.take i),Sz k q:=fun q F=>by
   obtain ⟨s,h1,h2⟩:=qv F;have:=hs s (Qb7 h1);rcases h2 with rfl|rfl
   ·exact this.1
   ·exact this.2
  generalize endsL (ss.take i)=o at *;generalize ss[i]=s at *;obtain ⟨b,N,P,Q,S,T,U,d,W,X,f1,Y,Z,f2,ex,a3,a4⟩:=hf;have ex:=congrArg Array.toList (Value.agg.inj ex);dsimp only at ex;subst ex
  refine ⟨aQ M,⟨by omega,by omega⟩,b,N,P,Q,S,T,U,d,W,X,f1,Y,Z,f2,s.a,s.b,ad,M,l 0 _ rfl,l 1 _ rfl,l 2 _ rfl,l 3 _ rfl,l 4 _ rfl,l 5 _ rfl,l 6 _ rfl,l 7 _ rfl,
   fun z _=>z=(2,2,[.bool b,.slice N P Q,.slice S T U,.bool d,.slice W X f1,.slice Y Z f2],2,0),⟨(2,2,[.bool b,.slice N P Q,.slice S T U,.bool d,.slice W X f1,.slice Y Z f2],2,0),by and_intros<;>first|rfl|decide,rfl⟩,?_⟩
  rintro z V2 l2 rfl;dsimp only
  refine ⟨rfl,fun z V'=>∃y:Nat,z.2.2.2=(y:Int)/\y<=2/\z.1=(cM s o y).length/\z.1<=z.2.1/\z.2.1*3<=z.2.2.1.length/\Row 3 RQ V' z.2.2.1 (cM s o y),fun z=>2-z.2.2.2.toNat,
   ⟨(z1,z2,vs,0),by and_intros<;>rfl,0,rfl,by omega,e1,ic,hv,hx.le fun _ _ g=>g.le l2⟩,?_⟩
  rintro ⟨A,w2,us,w4⟩ V3 l3 ⟨y,f4,a0,g1,G,fv,H⟩;dsimp only at f4 g1 G fv H;subst f4;refine ⟨rfl,fun hy=>?_,fun hy=>?_⟩
  ·have hy:(y:Int)<2:=of_decide_eq_true hy;have a5:y<2:=by omega
   have a1:=Er (s:=s) (o:=o) a5;have UK:=zu (s:=s) (o:=o) a0
   have Mr:∀q∈cM s o y,Sz k q:=fun q F=>by
    rcases zv a0 F with h|h|h
    ·rw [h];exact B.1
    ·rw [h];exact B.2
    ·exact Xf q h
   have wy:i64.wrap ((y:Int)+1)=(y:Int)+1:=ar (by omega);generalize hO:cM s o y=O at *;generalize Li:cM s o (y+1)=O' at *
   have el:∃eb ep en ec eq em ee x no,([.bool b,.slice N P Q,.slice S T U,.bool d,.slice W X f1,.slice Y Z f2].drop (y*3)).take 3=[Value.bool eb,.slice ep en ec,.slice eq em ee]/\RQ V3 (.agg #[.bool eb,.slice ep en ec,.slice eq em ee]) x/\Sz k x/\O'=(if no=true then O else cH x O) /\
     ((y=0/\no=s.a)\/(y=1/\no=s.b)):=by
    have:y=0\/y=1:=by omega
    rcases this with rfl|rfl
    ·exact ⟨b,N,P,Q,S,T,U,s.lo,s.a,rfl,a3.le (l2.trans l3),B.1,a1,.inl ⟨rfl,rfl⟩⟩
    ·exact ⟨d,W,X,f1,Y,Z,f2,s.hi,s.b,rfl,a4.le (l2.trans l3),B.2,a1,.inr ⟨rfl,rfl⟩⟩
   obtain ⟨eb,ep,en,ec,eq,em,ee,x,no,WH,F,sx,I,a6⟩:=el;dsimp only;rw [Qq0,wy];refine ⟨⟨by omega,by omega⟩,Qq3 _,eb,ep,en,ec,eq,em,ee,⟨by simp;omega,WH⟩,fun z _=>z=no,?_,?_⟩
   ·rcases a6 with ⟨rfl,rfl⟩|⟨rfl,rfl⟩
    ·exact ⟨fun _=>⟨fun M=>⟨true,by and_intros<;>rfl,M.symm⟩,fun M=>⟨(fun h=>by simp at h),fun _=>⟨false,by and_intros<;>rfl,M.symm⟩⟩⟩,fun h=>by simp at h⟩
    ·exact ⟨fun h=>by simp at h,fun _=>⟨fun _=>⟨s.b,by and_intros<;>rfl,rfl⟩,fun h=>by simp at h⟩⟩
   ·rintro z V4 D rfl;refine ⟨rfl,fun u=>⟨(A,w2,us,(y:Int)+1),by dsimp only;omega,by and_intros<;>rfl,y+1,rfl,by omega,?_,G,fv,?_⟩,fun u=>?_⟩
    ·show A=(cM s o (y+1)).length;rw [Li,I,if_pos u];exact g1
    ·show Row 3 RQ V4 us (cM s o (y+1));rw [Li,I,if_pos u];exact H.le fun _ _ g=>g.le D
    ·have K:O'=cH x O:=by rw [I,u];rfl
     refine ⟨fun z _=>∃j:Nat,z=(j:Int)/\j<=O.length/\∀(E:Nat)(h:E<O.length),E<j->O[E]<x,fun z=>O.length-z.toNat,⟨0,by and_intros<;>rfl,0,rfl,Qq9 _,fun E _ h=>absurd h (Qd8 E)⟩,?_⟩;rintro z V5 L ⟨j,rfl,G_,jl⟩;have wj:i64.wrap ((j:Int)+1)=(j:Int)+1:=ar (by omega);rw [Qq0,wj];refine ⟨rfl,fun z _=>z=true↔∃h:j<O.length,O[j]<x,⟨fun f=>?_,fun f=>⟨false,by and_intros<;>rfl,?_⟩⟩,?_⟩
     ·have f:(j:Int)<(A:Int):=of_decide_eq_true f;have C:j<O.length:=by omega
      obtain ⟨rb,rp,rn,rc,rq,rm,re,eH,J1,hr⟩:=Ja H C;refine ⟨⟨by omega,by omega⟩,G,rb,rp,rn,rc,rq,rm,re,⟨eH,J1⟩,fun V6 l6=>(my (hr.le (D.trans (L.trans l6))) (F.le (D.trans (L.trans l6))) (Mr _ (Qw7 C)) sx).mono ?_⟩;rintro r V7 l7 rfl;exact ⟨_,rfl,_,by and_intros<;>rfl,by dsimp only;rw [decide_eq_true_eq,cmpQ_neg];exact ⟨fun h=>⟨C,h⟩,fun ⟨_,h⟩=>h⟩⟩
     ·have f:¬(j:Int)<(A:Int):=of_decide_eq_false f;exact ⟨(fun h=>nomatch h),fun ⟨h,_⟩=>absurd h (by omega)⟩
     ·rintro z V8 l8 O3;refine ⟨rfl,fun u=>?_,fun u=>?_⟩
      ·obtain ⟨C,a7⟩:=O3.1 u;refine ⟨(j:Int)+1,by dsimp only;omega,by and_intros<;>rfl,j+1,rfl,C,fun E h b2=>?_⟩;by_cases e:E=j
       ·subst e;exact a7
       ·exact jl E h (by omega)
      ·have a8:∀h:j<O.length,¬O[j]<x:=fun h h'=>by
        have:=O3.2 ⟨h,h'⟩;rw [u] at this;cases this
       have t:=Kj O j G_ jl a8;refine ⟨fun z _=>z=true↔¬∃h:j<O.length,O[j]=x,⟨fun he=>⟨true,by and_intros<;>rfl,?_⟩,fun he=>?_⟩,?_⟩
       ·have he:(j:Int)=(A:Int):=by simpa using he
        exact ⟨fun _ ⟨h,_⟩=>absurd h (by omega),fun _=>rfl⟩
       ·have he:¬(j:Int)=(A:Int):=by simpa using he
        have C:j<O.length:=by omega
        obtain ⟨rb,rp,rn,rc,rq,rm,re,eH,J1,hr⟩:=Ja H C;refine ⟨⟨by omega,by omega⟩,G,rb,rp,rn,rc,rq,rm,re,⟨eH,J1⟩,fun V6 l6=>(my (hr.le (D.trans (L.trans (l8.trans l6)))) (F.le (D.trans (L.trans (l8.trans l6)))) (Mr _ (Qw7 C)) sx).mono ?_⟩;rintro r V7 l7 rfl;exact ⟨_,rfl,_,by and_intros<;>rfl,by dsimp only;rw [bne_iff_ne,ne_eq,←jj];exact ⟨fun h ⟨_,h'⟩=>h h',fun h h'=>h ⟨C,h'⟩⟩⟩
       ·rintro z eO bA H4;refine ⟨rfl,fun u gW cu bk hb J=>?_,fun u=>?_⟩
        ·have a9:=H4.1 u;rw [if_neg a9] at t;obtain ⟨xs,ys,x1,x2,x3,y1,y2,y3,r1,r2,r3,r4,r5⟩:=E_ (V:=gW) (R:=RQ) (GR.mono ⟨g1,G,fv,H⟩ fun _ _ g=>g.le (D.trans (L.trans (l8.trans (bA.trans cu))))) (by decide) (fun _ _=>Nb) hb (es:=[_,_,_]) rfl (F.le (D.trans (L.trans (l8.trans (bA.trans cu))))) (j:=j);refine ⟨⟨by omega,by omega⟩,⟨by omega,by omega⟩,⟨by omega,by omega⟩,xs,x1,x2,by omega,Qq3 _,Qq3 _,x2,x3,fun b3 J2 sp c' h1 h2=>?_⟩;rw [r1,r2];refine ⟨ys,y1,y2,Qq3 _,y3,by omega,by omega,r3,r4,fun b0 a2 h3 h4=>⟨(j+(1+(A-j)),a2,_,(y:Int)+1),by dsimp only;omega,by and_intros<;>first|rfl|omega,y+1,rfl,by omega,?_⟩⟩;have r6:=r5 b0 a2 h3 h4;rw [←t,←K,←Li] at r6;exact ⟨r6.len,r6.le,r6.cap,r6.row⟩
        ·have hex:∃h:j<O.length,O[j]=x:=Qp6 fun h=>by have:=H4.2 h;rw [u] at this;cases this
         rw [if_pos hex] at t;refine ⟨(A,w2,us,(y:Int)+1),by dsimp only;omega,by and_intros<;>rfl,y+1,rfl,by omega,?_,G,fv,?_⟩
         ·show A=(cM s o (y+1)).length;rw [Li,K,t];exact g1
         ·show Row 3 RQ eO us (cM s o (y+1));rw [Li,K,t];exact H.le fun _ _ g=>g.le (D.trans (L.trans (l8.trans bA)))
  ·have hy:¬(y:Int)<2:=of_decide_eq_false hy;obtain rfl:y=2:=by omega
   exact ⟨(A,w2,us,(i:Int)+1),by dsimp only;omega,by and_intros<;>rfl,i+1,rfl,hi,by dsimp only;rw [v];exact g1,G,fv,by dsimp only;rw [v];exact H⟩
 ·have f:¬(i:Int)<ss.length:=of_decide_eq_false f;obtain rfl:i=ss.length:=by omega
  rw [Qk2] at e1 hx;subst e1;exact ⟨_,_,_,rfl,e_.dJ hb (hx.le fun _ _ g=>g.le cD) (by decide) ic⟩
def cm (cuts:List Rat)(i:Nat):Sp:=⟨if 0<i then cuts.getD (i-1) 0 else 0,if i<cuts.length then cuts.getD i 0 else 0,decide (i=0),decide (i=cuts.length)⟩
def nN (out:List Sp)(s:Sp):List Sp:=out.dropLast++[⟨(out.getLastD Sp.zero).lo,s.hi,(out.getLastD Sp.zero).a,s.b⟩]
def bJ (cuts:List Rat)(marks:List Bool):Nat->List Sp
 | 0=>[]
 | i+1=>if marks.getD i false=true then (if 0<i/\marks.getD (i-1) false=true/\0<(bJ cuts marks i).length then nN (bJ cuts marks i) (cm cuts i) else bJ cuts marks i++[cm cuts i]) else bJ cuts marks i
def uL (cuts:List Rat)(marks:List Bool):List Sp:=bJ cuts marks marks.length
theorem uV {out:List Sp}{s:Sp}(h:0<out.length):(nN out s).length=out.length:=by
 unfold nN;rw [Qq2,Qt2];simp;omega
theorem yR (cuts:List Rat)(marks:List Bool)(i:Nat):(bJ cuts marks i).length<=i:=by
 induction i with
 | zero=>simp [bJ]
 | succ i ih=>
  unfold bJ;split
  ·split
   ·rename_i h;rw [uV h.2.2];omega
   ·rw [Qq2];simp;omega
  ·omega
theorem I_ {α:Type}{sz:Nat}{R:View->Value->α->Prop}{V:View}{vs us:List Value}{ls:List α}(h:Row sz R V vs ls)(h0:0<ls.length){xs:List Value}{a:α}(hx:xs.length=sz)(ha:R V (.agg xs.toArray) a)
  (hlow:∀q,q<(ls.length-1)*sz->us[q]?=vs[q]?)(hlast:∀j x,xs[j]?=some x->us[(ls.length-1)*sz+j]?=some x):Row sz R V us (ls.dropLast++[a]):=by
 refine ⟨fun i o=>?_⟩;have p:(ls.dropLast++[a]).length=ls.length:=by rw [Qq2,Qt2];simp;omega
 by_cases e:i=ls.length-1
 ·subst e;refine ⟨xs,hx,?_,hlast⟩
  have b:(ls.dropLast++[a])[ls.length-1]=a:=by
   rw [Qc8 (by simp)];simp
  rw [b];exact ha
 ·have c:i<ls.length-1:=by omega
  obtain ⟨g,k,l,m⟩:=h.at_ i (by omega);refine ⟨g,k,?_,fun j x f=>?_⟩
  ·have b:(ls.dropLast++[a])[i]=ls[i]:=by
    rw [Qh0 (by rw [Qt2];exact c),List.getElem_dropLast]
   rw [b];exact l
  ·have n:=(Qw9.1 f).1
   have d:i*sz+j<(ls.length-1)*sz:=by
    have:(i+1)*sz<=(ls.length-1)*sz:=Qq7 _ (by omega);rw [Qm4] at this;omega
   rw [hlow _ d];exact m j x f
def QQ (_:View)(v:Value)(b:Bool):Prop:=v=.agg #[.bool b]
theorem LL {V:View}{p:OA}{n:Nat}{bs:List Bool}(h:e_ 1 QQ V p n bs){i:Nat}(hi:i<bs.length):∃ad,ah p (i*1)=some ad/\V.at ad (.bool bs[i]):=by
 obtain ⟨ad,a,xs,-,e,b⟩:=h.at_ i hi;have e:=congrArg Array.toList (Value.agg.inj e);dsimp only at e;subst e;have:=b 0 _ rfl;exact ⟨ad,a,by simpa [Addr.add] using this⟩
theorem vC {V:View}{xs:List Value}{s:Sp}(h:oB V (.agg xs.toArray) s):∃b p n c p' n' c' d q m e q' m' e',xs=[.bool b,.slice p n c,.slice p' n' c',.bool d,.slice q m e,.slice q' m' e',.bool s.a,.bool s.b] /\
  RQ V (.agg #[.bool b,.slice p n c,.slice p' n' c']) s.lo/\RQ V (.agg #[.bool d,.slice q m e,.slice q' m' e']) s.hi:=by
 obtain ⟨_,_,_,_,_,_,_,_,_,_,_,_,_,_,ex,f,g⟩:=h;have ex:=congrArg Array.toList (Value.agg.inj ex);exact ⟨_,_,_,_,_,_,_,_,_,_,_,_,_,_,ex,f,g⟩
theorem AA (V:View):RQ V (.agg #[.bool false,.slice none 0 0,.slice none 0 0]) 0:=by have:=RQ.zero (V:=V);simpa using this
set_option maxHeartbeats 1000000 in
theorem zS {V:View}{p q:OA}{n c m e:Nat}{cuts:List Rat}{marks:List Bool}(hc:e_ 3 RQ V p n cuts)(hm:e_ 1 QQ V q m marks)(hlen:marks.length=cuts.length+1)(hn:cuts.length<100000000:=by omega) :
  aa prog 100 #[.slice p n c,.slice q m e] V fun r V'=>∃p' n' c',r=.slice p' n' c'/\e_ 8 oB V' p' n' (uL cuts marks):=by
 obtain rfl:=hc.len;obtain rfl:=hm.len
 refine xY p _ c q _ e V _ ⟨fun z V'=>∃i:Nat,z.2.2.2=(i:Int)/\i<=marks.length/\z.1=(bJ cuts marks i).length/\z.1<=z.2.1/\z.2.1*8<=z.2.2.1.length/\Row 8 oB V' z.2.2.1 (bJ cuts marks i),fun z=>marks.length-z.2.2.2.toNat,
  ⟨(0,0,[],0),by and_intros<;>rfl,0,rfl,Qq9 _,rfl,Qq3 _,Qq3 _,Row.nil⟩,?_⟩
 rintro ⟨f,z2,vs,z4⟩ V1 O ⟨i,e4,NO,P,K,hv,Z⟩;dsimp only at e4 P K hv Z;subst e4;refine ⟨rfl,fun y=>?_,fun y V5 l5 bk hb=>?_⟩
 ·have y:(i:Int)<marks.length:=of_decide_eq_true y;have hi:i<marks.length:=by omega
  have w:i64.wrap ((i:Int)+1)=(i:Int)+1:=ar (by omega);have a6:=yR cuts marks i;have R:marks.getD i false=marks[i]:=by rw [Qw3,Qq1 hi];rfl
  have S:marks[i]=false->bJ cuts marks (i+1)=bJ cuts marks i:=fun h=>by
   show (if marks.getD i false=true then _ else _)=_;rw [R,h];rfl
  have l:marks[i]=true->bJ cuts marks (i+1)=if 0<i/\marks.getD (i-1) false=true/\0<(bJ cuts marks i).length then nN (bJ cuts marks i) (cm cuts i) else bJ cuts marks i++[cm cuts i]:=fun h=>by
   show (if marks.getD i false=true then _ else _)=_;rw [R,h];rfl
  dsimp only;rw [Qq0,w];obtain ⟨ad,ha,a0⟩:=LL (hm.le O fun _ _ g=>g) hi;refine ⟨aQ ha,⟨by omega,by omega⟩,marks[i],⟨ad,ha,a0⟩,fun hb=>?_,fun hb=>?_⟩
  ·rw [Qy7] at hb;exact ⟨(f,z2,vs,(i:Int)+1),by dsimp only;omega,by and_intros<;>rfl,i+1,rfl,hi,by dsimp only;rw [S hb];exact P,K,hv,by dsimp only;rw [S hb];exact Z⟩
  ·rw [Qv8] at hb;have l:=l hb;generalize bJ cuts marks i=out at *;generalize hO:bJ cuts marks (i+1)=out' at *;refine ⟨fun z V'=>RQ V' (.agg #[.bool z.1,.slice z.2.1 z.2.2.1 z.2.2.2.1,.slice z.2.2.2.2.1 z.2.2.2.2.2.1 z.2.2.2.2.2.2.1]) ((cm cuts i).lo)/\RQ V' (.agg #[.bool z.2.2.2.2.2.2.2.1,.slice z.2.2.2.2.2.2.2.2.1 z.2.2.2.2.2.2.2.2.2.1 z.2.2.2.2.2.2.2.2.2.2.1,.slice z.2.2.2.2.2.2.2.2.2.2.2.1 z.2.2.2.2.2.2.2.2.2.2.2.2.1 z.2.2.2.2.2.2.2.2.2.2.2.2.2.1]) (0)/\z.2.2.2.2.2.2.2.2.2.2.2.2.2.2.1=decide (i=0)/\z.2.2.2.2.2.2.2.2.2.2.2.2.2.2.2=decide (i=cuts.length),⟨fun s=>?_,fun s=>⟨(false,none,0,0,none,0,0,false,none,0,0,none,0,0,(i:Int)==0,(i:Int)==(cuts.length:Int)),by and_intros<;>rfl,?_⟩⟩,?_⟩
   ·have s:(i:Int)>0:=of_decide_eq_true s;have k:i-1<cuts.length:=by omega
    have T:i64.wrap ((i:Int)-1)=((i-1:Nat):Int):=by rw [ar (by omega)];omega
    rw [T,Qq0];obtain ⟨U,b1,p3,n3,c3,p4,n4,c4,t,A,b0,L,b2⟩:=vB (hc.le O fun _ _ g=>g.le O) k;refine ⟨aQ t,⟨by omega,by omega⟩,_,_,_,_,_,_,_,U,t,b0,L,b2,(b1,p3,n3,c3,p4,n4,c4,false,none,0,0,none,0,0,(i:Int)==0,(i:Int)==(cuts.length:Int)),by and_intros<;>rfl,?_,AA _,?_,?_⟩
    ·show RQ V1 _ (if 0<i then cuts.getD (i-1) 0 else 0);rw [if_pos (by omega),df k];exact A
    ·show ((i:Int)==0)=decide (i=0);rw [Qz3,beq_iff_eq,decide_eq_true_eq];omega
    ·show ((i:Int)==(cuts.length:Int))=decide (i=cuts.length);rw [Qz3,beq_iff_eq,decide_eq_true_eq];omega
   ·have s:¬(i:Int)>0:=of_decide_eq_false s;refine ⟨?_,AA _,?_,?_⟩
    ·show RQ V1 _ (if 0<i then cuts.getD (i-1) 0 else 0);rw [if_neg (by omega)];exact AA _
    ·show ((i:Int)==0)=decide (i=0);rw [Qz3,beq_iff_eq,decide_eq_true_eq];omega
    ·show ((i:Int)==(cuts.length:Int))=decide (i=cuts.length);rw [Qz3,beq_iff_eq,decide_eq_true_eq];omega
   ·rintro ⟨x1,x2,x3,x4,x5,x6,x7,x8,x9,a1,YO,YP,YQ,YR,ZE,ZF⟩ V2 l2 ⟨hA,hB,hC,hD⟩;dsimp only at hA hB hC hD;subst hC hD;refine ⟨rfl,fun z V'=>RQ V' (.agg #[.bool z.1,.slice z.2.1 z.2.2.1 z.2.2.2.1,.slice z.2.2.2.2.1 z.2.2.2.2.2.1 z.2.2.2.2.2.2.1]) ((cm cuts i).lo)/\RQ V' (.agg #[.bool z.2.2.2.2.2.2.2.1,.slice z.2.2.2.2.2.2.2.2.1 z.2.2.2.2.2.2.2.2.2.1 z.2.2.2.2.2.2.2.2.2.2.1,.slice z.2.2.2.2.2.2.2.2.2.2.2.1 z.2.2.2.2.2.2.2.2.2.2.2.2.1 z.2.2.2.2.2.2.2.2.2.2.2.2.2.1]) ((cm cuts i).hi)/\z.2.2.2.2.2.2.2.2.2.2.2.2.2.2.1=decide (i=0)/\z.2.2.2.2.2.2.2.2.2.2.2.2.2.2.2=decide (i=cuts.length),⟨fun s=>?_,fun s=>⟨(x1,x2,x3,x4,x5,x6,x7,x8,x9,a1,YO,YP,YQ,YR,decide (i=0),decide (i=cuts.length)),by and_intros<;>rfl,hA,?_,rfl,rfl⟩⟩,?_⟩
    ·have s:(i:Int)<cuts.length:=of_decide_eq_true s;have k:i<cuts.length:=by omega
     obtain ⟨U,b1,p3,n3,c3,p4,n4,c4,t,A,b0,L,b2⟩:=vB (hc.le (O.trans l2) fun _ _ g=>g.le (O.trans l2)) k;refine ⟨aQ t,⟨by omega,by omega⟩,_,_,_,_,_,_,_,U,t,b0,L,b2,(x1,x2,x3,x4,x5,x6,x7,b1,p3,n3,c3,p4,n4,c4,decide (i=0),decide (i=cuts.length)),by and_intros<;>rfl,hA,?_,rfl,rfl⟩;show RQ V2 _ (if i<cuts.length then cuts.getD i 0 else 0);rw [if_pos k,df k];exact A
    ·have s:¬(i:Int)<cuts.length:=of_decide_eq_false s;show RQ V2 _ (if i<cuts.length then cuts.getD i 0 else 0);rw [if_neg (by omega)];exact hB
    ·rintro ⟨y1,y2,y3,y4,y5,y6,y7,D,E,F,G,H,u,I,ZH,ZI⟩ V3 l3 ⟨kA,kB,kC,kD⟩;dsimp only at kA kB kC kD;subst kC kD;refine ⟨rfl,fun z _=>z=decide (0<i/\marks.getD (i-1) false=true/\0<out.length),⟨fun s=>?_,fun s=>⟨false,by and_intros<;>rfl,?_⟩⟩,?_⟩
     ·have s:(i:Int)>0:=of_decide_eq_true s;have k:i-1<marks.length:=by omega
      have T:i64.wrap ((i:Int)-1)=((i-1:Nat):Int):=by rw [ar (by omega)];omega
      have a2:marks.getD (i-1) false=marks[i-1]:=by rw [Qw3,Qq1 k];rfl
      rw [T,Qq0,a2];obtain ⟨U,t,Rs⟩:=LL (hm.le (O.trans (l2.trans l3)) fun _ _ g=>g) k;refine ⟨aQ t,⟨by omega,by omega⟩,marks[i-1],⟨U,t,Rs⟩,fun M=>⟨_,by and_intros<;>rfl,?_⟩,fun M=>⟨false,by and_intros<;>rfl,?_⟩⟩
      ·dsimp only;rw [M,decide_eq_decide];constructor
       ·intro h;exact ⟨by omega,rfl,by omega⟩
       ·rintro ⟨_,_,h⟩;omega
      ·dsimp only;rw [M];simp
     ·have s:¬(i:Int)>0:=of_decide_eq_false s;dsimp only;rw [decide_eq_false];rintro ⟨h,_⟩;omega
     ·rintro z V4 l4 rfl;have gA:oB V4 (.agg #[.bool y1,.slice y2 y3 y4,.slice y5 y6 y7,.bool D,.slice E F G,.slice H u I,.bool (decide (i=0)),.bool (decide (i=cuts.length))]) (cm cuts i):=⟨_,_,_,_,_,_,_,_,_,_,_,_,_,_,rfl,kA.le l4,kB.le l4⟩;have B:=Z.le (V':=V4) fun _ _ g=>oB.le g (l2.trans (l3.trans l4));refine ⟨rfl,fun J=>?_,fun J=>?_⟩
      ·have J:=of_decide_eq_true J;rw [if_pos J] at l;have T:i64.wrap ((f:Int)-1)=((f-1:Nat):Int):=by rw [ar (by omega)];omega
       rw [T,Qq0];have W:0<out.length:=J.2.2;have a7:=B.iI (by decide);have X:out.length-1<out.length:=by omega
       have a3:out.getLastD Sp.zero=out[out.length-1]:=by
        rw [Ww3,List.getLast?_eq_getElem?,Qq1 X];rfl
       obtain ⟨ZG,-,a4,a5⟩:=B.at_ (out.length-1) X;obtain ⟨b,s1,s2,s3,s4,s5,s6,d,t1,t2,t3,t4,t5,t6,ex,A,a8⟩:=vC a4;subst ex;have sv:=iR (vs:=vs) (xs:=[.bool D,.slice E F G,.slice H u I]) (o:=(f-1)*8+3) (by simp only [Qx2,Qj9];omega)
       have X8:(ae vs ((f-1)*8+3) [.bool D,.slice E F G,.slice H u I]).length=vs.length:=by
        rw [sv];simp only [Qq2,Qq5,Qz0,Qx2,Qj9];omega
       have sg:∀r,r<(f-1)*8+3\/(f-1)*8+6<=r->(ae vs ((f-1)*8+3) [.bool D,.slice E F G,.slice H u I])[r]?=vs[r]?:=by
        intro r Y;rw [sv,Qy4];have Q:(vs.take ((f-1)*8+3)).length=(f-1)*8+3:=by rw [Qq5];omega
        rcases Y with Y|Y
        ·rw [Qw8 (by omega),Qy3,if_pos Y]
        ·rw [Qy0 (by omega),Qy0 (by rw [Q];simp only [Qx2,Qj9];omega),Qj5,Q];congr 1;simp only [Qx2,Qj9];omega
       have sm:∀j x,([.bool D,.slice E F G,.slice H u I]:List Value)[j]?=some x->(ae vs ((f-1)*8+3) [.bool D,.slice E F G,.slice H u I])[(f-1)*8+3+j]?=some x:=by
        intro j x C;have N:=(Qw9.1 C).1;have Q:(vs.take ((f-1)*8+3)).length=(f-1)*8+3:=by rw [Qq5];omega
        rw [sv,Qy4,Qy0 (by omega),Q,Qc3,Qw8 N];exact C
       generalize ae vs ((f-1)*8+3) [.bool D,.slice E F G,.slice H u I]=us at *;refine ⟨⟨by omega,by omega⟩,K,by omega,⟨by omega,by omega⟩,K,by omega,(f,z2,us.set ((f-1)*8+7) (.bool (decide (i=cuts.length))),(i:Int)+1),by dsimp only;omega,by and_intros<;>rfl,i+1,rfl,hi,?_,K,?_,?_⟩
       ·dsimp only;rw [hO,l,uV W];exact P
       ·dsimp only;rw [List.length_set,X8];exact hv
       ·dsimp only;rw [hO,l];unfold nN;rw [a3];refine I_ B W (xs:=[.bool b,.slice s1 s2 s3,.slice s4 s5 s6,.bool D,.slice E F G,.slice H u I,.bool out[out.length-1].a,.bool (cm cuts i).b]) rfl ⟨_,_,_,_,_,_,_,_,_,_,_,_,_,_,rfl,A,kB.le l4⟩ ?_ ?_
        ·intro r Y;rw [Qg0 (by omega),sg r (by omega)]
        ·intro j x C;have N:=(Qw9.1 C).1;have Zb:j<8:=N;by_cases h7:j=7
         ·subst h7;rw [show (out.length-1)*8+7=(f-1)*8+7 by omega,Qs0 (by omega)];exact C
         ·rw [Qg0 (by omega)];by_cases h3:j<3\/j=6
          ·rw [sg _ (by omega)];have hc:=a5 j x;have:j=0\/j=1\/j=2\/j=6:=by omega
           rcases this with rfl|rfl|rfl|rfl<;>exact hc C
          ·have:j=3\/j=4\/j=5:=by omega
           rcases this with rfl|rfl|rfl
           ·have:=sm 0 x C;rw [show (out.length-1)*8+3=(f-1)*8+3+0 by omega];exact this
           ·have:=sm 1 x C;rw [show (out.length-1)*8+4=(f-1)*8+3+1 by omega];exact this
           ·have:=sm 2 x C;rw [show (out.length-1)*8+5=(f-1)*8+3+2 by omega];exact this
      ·have J:=of_decide_eq_false J;rw [if_neg J] at l;refine ⟨by omega,K,hv,rfl,?_,fun sp c' h1 h2=>⟨(f+1,c',_,(i:Int)+1),by dsimp only;omega,by and_intros<;>rfl,i+1,rfl,hi,?_,h1,?_,?_⟩⟩
       ·intro v qE;simp only [Qq6,Qk1,or_false] at qE;rcases qE with rfl|rfl|rfl|rfl|rfl|rfl|rfl|rfl<;>rfl
       ·dsimp only;rw [hO,l,Qq2,P];rfl
       ·dsimp only;have Q:(vs.take (f*8)).length=f*8:=by rw [Qq5];omega
        rw [Qq2,Qq2,Q];simp only [Qx2,Qj9];omega
       ·dsimp only;rw [hO,l];have:=B.snoc (sp:=sp) rfl gA (by decide);rw [←P] at this;exact this
 ·have y:¬(i:Int)<marks.length:=of_decide_eq_false y;obtain rfl:i=marks.length:=by omega
  subst P;exact ⟨_,_,_,rfl,e_.dJ hb (Z.le fun _ _ g=>oB.le g l5) (by decide) K⟩
end Go.Proofs.Tryz
namespace Go.Proofs.Tryz
open Go.Eng Go.Big
set_option linter.unusedSectionVars false
theorem Mq {a b:List Rat}{i:Nat}(h:a.length<=i:=by omega):(a++b).getD i 0=b.getD (i-a.length) 0:=by
 rw [Qw3,Qy0 h,Qw3]
theorem Mp {a b:List Rat}{i:Nat}(h:i<a.length:=by omega):(a++b).getD i 0=a.getD i 0:=by
 rw [Qw3,Qw8 h,Qw3]
def asc (c:List Rat):Prop:=c.Pairwise (·< ·)
theorem B1 {x q:Rat}:∀{o:List Rat},q∈cH x o↔q=x\/q∈o:=by
 intro o
 induction o with
 | nil=>simp [cH]
 | cons y r ih=>
  unfold cH;split
  ·rw [Qq6,ih,Qq6];constructor
   ·rintro (h|h|h)
    ·exact .inr (.inl h)
    ·exact .inl h
    ·exact .inr (.inr h)
   ·rintro (h|h|h)
    ·exact .inr (.inl h)
    ·exact .inl h
    ·exact .inr (.inr h)
  ·split
   ·rename_i e;subst e;exact ⟨.inr,fun h=>h.elim (fun e=>by subst e;simp) id⟩
   ·rw [Qq6]
theorem H5 {x:Rat}:∀{o:List Rat},asc o->asc (cH x o):=by
 intro o
 induction o with
 | nil=>intro _;simp [cH,asc]
 | cons y r ih=>
  intro h;obtain ⟨b,d⟩:=Qk9.1 h;unfold cH;split
  ·rename_i c;refine Qk9.2 ⟨fun q a=>?_,ih d⟩;rcases B1.1 a with rfl|a
   ·exact c
   ·exact b q a
  ·split
   ·exact h
   ·rename_i e f;refine Qk9.2 ⟨fun q a=>?_,h⟩;rcases Qq6.1 a with rfl|a
    ·grind
    ·have:=b q a;grind
def Sp.dX (s:Sp)(q:Rat):Prop:=(s.a=false/\q=s.lo)\/(s.b=false/\q=s.hi)
theorem Jh {s:Sp}{o:List Rat}{q:Rat}:q∈cM s o 2↔s.dX q\/q∈o:=by
 show q∈(if s.b=true then (if s.a=true then o else cH s.lo o) else cH s.hi (if s.a=true then o else cH s.lo o))↔_;unfold Sp.dX;cases s.a<;>cases s.b<;>simp [B1]
 ·constructor
  ·rintro (h|h|h)
   ·exact .inl (.inr h)
   ·exact .inl (.inl h)
   ·exact .inr h
  ·rintro ((h|h)|h)
   ·exact .inr (.inl h)
   ·exact .inl h
   ·exact .inr (.inr h)
theorem Jg {s:Sp}{o:List Rat}(h:asc o):asc (cM s o 2):=by
 show asc (if s.b=true then (if s.a=true then o else cH s.lo o) else cH s.hi (if s.a=true then o else cH s.lo o));cases s.a<;>cases s.b<;>simp [H5,h]
theorem yK:∀(ss:List Sp)(o:List Rat),(asc o->asc (ss.foldl (fun o s=>cM s o 2) o))/\∀q,q∈(ss.foldl (fun o s=>cM s o 2) o)↔q∈o\/∃s∈ss,s.dX q:=by
 intro ss
 induction ss with
 | nil=>exact fun o=>⟨id,fun q=>by simp⟩
 | cons s r ih=>
  intro o;refine ⟨fun h=>(ih _).1 (Jg h),fun q=>?_⟩;rw [Qm8,(ih _).2,Jh];constructor
  ·rintro ((h|h)|⟨t,a,b⟩)
   ·exact .inr ⟨s,by simp,h⟩
   ·exact .inl h
   ·exact .inr ⟨t,by simp [a],b⟩
  ·rintro (h|⟨t,a,b⟩)
   ·exact .inl (.inr h)
   ·rcases Qq6.1 a with rfl|a
    ·exact .inl (.inl b)
    ·exact .inr ⟨t,a,b⟩
theorem uD (ss:List Sp):asc (endsL ss):=(yK ss []).1 List.Pairwise.nil
theorem BN {ss:List Sp}{q:Rat}:q∈endsL ss↔∃s∈ss,s.dX q:=by
 have:=(yK ss []).2 q;simpa [endsL] using this
section
variable {c:List Rat} (h:asc c)
include h
theorem pZ {i j:Nat}(yW:i<j)(hj:j<c.length):c.getD i 0<c.getD j 0:=by
 rw [df,df hj];exact Qb6.1 h i j (by omega) hj yW
theorem Hl {i j:Nat}(yW:i<=j)(hj:j<c.length):c.getD i 0<=c.getD j 0:=by
 rcases Qy9 i j with a|a
 ·have:=pZ h a hj;grind
 ·obtain rfl:i=j:=by omega
  grind
omit h
theorem J6 {i:Nat}{t:Rat}:(cm c i).inn t↔(0<i->c.getD (i-1) 0<t)/\(i≠c.length->i<c.length->t<c.getD i 0)/\(i≠c.length->c.length<i->t<0):=by
 unfold cm Sp.inn;simp only [decide_eq_true_eq];constructor
 ·rintro ⟨d,a⟩;refine ⟨fun b=>?_,fun f e=>?_,fun f e=>?_⟩
  ·rcases d with d|d
   ·omega
   ·rwa [if_pos b] at d
  ·rcases a with a|a
   ·exact absurd a f
   ·rwa [if_pos e] at a
  ·rcases a with a|a
   ·exact absurd a f
   ·rwa [if_neg (by omega)] at a
 ·rintro ⟨d,a,f⟩;refine ⟨?_,?_⟩
  ·by_cases b:i=0
   ·exact .inl b
   ·rw [if_pos (by omega)];exact .inr (d (by omega))
  ·by_cases b:i=c.length
   ·exact .inl b
   ·refine .inr ?_;by_cases e:i<c.length
    ·rw [if_pos e];exact a b e
    ·rw [if_neg e];exact f b (by omega)
theorem lK {i:Nat}(hi:i<=c.length:=by omega){t:Rat}:(cm c i).inn t↔(0<i->c.getD (i-1) 0<t)/\(i<c.length->t<c.getD i 0):=by
 rw [J6];exact ⟨fun ⟨a,b,_⟩=>⟨a,fun h=>b (by omega) h⟩,fun ⟨a,b⟩=>⟨a,fun _ h=>b h,fun _ h=>by omega⟩⟩
include h
theorem HT {i:Nat}(hi:i<=c.length):(cm c i).good:=by
 refine ⟨⟨fun e=>?_,fun e=>?_⟩,Sp.kJ.2 ?_⟩
 ·have e:i=0:=of_decide_eq_true e;subst e;rfl
 ·have e:i=c.length:=of_decide_eq_true e;subst e;exact if_neg (Qt6 _)
 ·by_cases a:i=0
  ·exact .inl (decide_eq_true a)
  ·by_cases b:i=c.length
   ·exact .inr (.inl (decide_eq_true b))
   ·refine .inr (.inr ?_);show (if 0<i then c.getD (i-1) 0 else 0)<(if i<c.length then c.getD i 0 else 0);rw [if_pos (by omega),if_pos (by omega)];exact pZ h (by omega) (by omega)
theorem Mo {t:Rat}(ht:t∉c):∃i,i<=c.length/\(cm c i).inn t:=by
 have key:∀k,k<=c.length->(∀j,j<k->c.getD j 0<t)\/∃i,i<=c.length/\(cm c i).inn t:=by
  intro k
  induction k with
  | zero=>exact fun _=>.inl fun j b=>absurd b (Qd8 j)
  | succ k ih=>
   intro hk;rcases ih (by omega) with g|g
   ·by_cases a:c.getD k 0<t
    ·refine .inl fun j b=>?_;rcases Qy9 j k with d|d
     ·exact g j d
     ·obtain rfl:j=k:=by omega
      exact a
    ·refine .inr ⟨k,by omega,(lK).2 ⟨fun e=>g _ (by omega),fun _=>?_⟩⟩
     have f:c.getD k 0≠t:=by
      rintro rfl;rw [df] at ht;exact ht (Qw7 _)
     grind
   ·exact .inr g
 rcases key c.length (Qq3 _) with g|g
 ·exact ⟨c.length,Qq3 _,(lK (Qq3 _)).2 ⟨fun e=>g _ (by omega),fun e=>by omega⟩⟩
 ·exact g
theorem lL {i:Nat}(hi:i<=c.length){t u x:Rat}(ht:(cm c i).inn t)(hu:(cm c i).inn u)(hx:x∈c):(x<t↔x<u)/\(t<x↔u<x)/\x≠t:=by
 obtain ⟨t1,t2⟩:=(lK hi).1 ht;obtain ⟨d,e⟩:=(lK hi).1 hu;obtain ⟨j,b,rfl⟩:=Qh4 hx;rw [←df b];rcases Qy9 j i with a|a
 ·have:=Hl h (show j<=i-1 by omega) (by omega);have:=t1 (by omega);have:=d (by omega);grind
 ·have:=Hl h a b;have:=t2 (by omega);have:=e (by omega);grind
theorem IX {i:Nat}(hi:i<=c.length):(cm c i).inn ((cf c).getD i 0):=by
 rw [lK hi];unfold cf;by_cases a:c.length=0
 ·exact ⟨fun _=>by omega,fun _=>by omega⟩
 ·rw [if_neg a];have b:=vq c (show 1<=c.length by omega);by_cases d:i=c.length
  ·subst d;rw [Mq,b,Nat.sub_self];refine ⟨fun _=>?_,fun _=>by omega⟩;show _<c.getD (c.length-1) 0+((1:Int):Rat);grind
  ·rw [Mp];unfold xq;by_cases e:i=0
   ·subst e;refine ⟨fun _=>by omega,fun _=>?_⟩;show c.getD 0 0-((1:Int):Rat)<_;grind
   ·obtain ⟨m,rfl⟩:∃m,i=m+1:=⟨i-1,by omega⟩;have:=pZ h (show m<m+1 by omega) (by omega)
    have f:((List.range (c.length-1)).map fun k=>(c.getD k 0+c.getD (k+1) 0)*((2:Int):Rat)⁻¹).getD m 0=(c.getD m 0+c.getD (m+1) 0)*((2:Int):Rat)⁻¹:=by
     rw [Qw3,Qd7,List.getElem?_range (by omega)];rfl
    rw [List.getD_cons_succ,f,Qj7];generalize c.getD m 0=x at *;generalize c.getD (m+1) 0=y at *;exact ⟨fun _=>by grind,fun _=>by grind⟩
omit h
theorem eK:(cf c).length=c.length+1:=by
 unfold cf;by_cases a:c.length=0
 ·rw [if_pos a,a];rfl
 ·rw [if_neg a,Qq2,vq c];rfl
end
section
variable {c:List Rat} {ms:List Bool}
structure FI (c:List Rat) (ms:List Bool) (i:Nat):Prop where
 r:rS (bJ c ms i)
 mem:∀t,t∉c->(qJ (bJ c ms i) t↔∃j,j<i/\ms.getD j false=true/\(cm c j).inn t)
 top:0<i->i<=c.length->∀s∈bJ c ms i,s.b=false/\s.hi<=c.getD (i-1) 0
 str:0<i->i<=c.length->ms.getD (i-1) false=false->∀s∈bJ c ms i,s.hi<c.getD (i-1) 0
 last:0<i->i<=c.length->ms.getD (i-1) false=true->∃l0 l,bJ c ms i=l0++[l]/\l.hi=c.getD (i-1) 0
theorem qK {ss:List Sp}{s:Sp}{t:Rat}:qJ (ss++[s]) t↔qJ ss t\/s.inn t:=by
 unfold qJ;constructor
 ·rintro ⟨x,a,b⟩;rcases Qw2.1 a with a|a
  ·exact .inl ⟨x,a,b⟩
  ·obtain rfl:x=s:=by simpa using a
   exact .inr b
 ·rintro (⟨x,a,b⟩|b)
  ·exact ⟨x,by simp [a],b⟩
  ·exact ⟨s,by simp,b⟩
theorem pa {ss:List Sp}{s:Sp}(h:rS ss)(hs:s.good)(hb:∀x∈ss,x.Dv s):rS (ss++[s]):=by
 refine ⟨fun x a=>?_,Qg2.2 ⟨h.2,by simp,fun x a y b=>?_⟩⟩
 ·rcases Qw2.1 a with a|a
  ·exact h.1 x a
  ·obtain rfl:x=s:=by simpa using a
   exact hs
 ·obtain rfl:y=s:=by simpa using b
  exact hb x a
theorem Cx {ss:List Sp}{s:Sp}(h:rS (ss++[s])):rS ss/\s.good/\∀x∈ss,x.Dv s:=by
 obtain ⟨b,-,c⟩:=Qg2.1 h.2;exact ⟨⟨fun x a=>h.1 x (by simp [a]),b⟩,h.1 s (by simp),fun x a=>c x a s (by simp)⟩
theorem Ab {P:Nat->Prop}{i:Nat}:(∃j,j<i+1/\P j)↔(∃j,j<i/\P j)\/P i:=by
 constructor
 ·rintro ⟨j,b,a⟩;rcases Qy9 j i with h|h
  ·exact .inl ⟨j,h,a⟩
  ·obtain rfl:j=i:=by omega
   exact .inr a
 ·rintro (⟨j,b,a⟩|a)
  ·exact ⟨j,by omega,a⟩
  ·exact ⟨i,by omega,a⟩
theorem J3 (h:asc c){i:Nat}(hi:i<=c.length)(F:FI c ms i):FI c ms (i+1):=by
 have z:=HT h hi;have A:i<c.length->(cm c i).hi=c.getD i 0:=fun j=>if_pos j;have B:0<i->(cm c i).lo=c.getD (i-1) 0:=fun j=>if_pos j;have C:0<i->(cm c i).a=false:=fun j=>decide_eq_false (by omega);have G:i<c.length->(cm c i).b=false:=fun j=>decide_eq_false (by omega);by_cases hm:ms.getD i false=true
 ·have w:¬ms.getD i false=false:=by rw [hm];decide
  by_cases j:0<i/\ms.getD (i-1) false=true
  ·obtain ⟨H,l,el,E⟩:=F.last j.1 hi j.2
   have e:bJ c ms (i+1)=H++[⟨l.lo,(cm c i).hi,l.a,(cm c i).b⟩]:=by
    rw [bJ,if_pos hm,if_pos ⟨j.1,j.2,by rw [el];simp⟩,el];simp [nN]
   have I:=F.r;rw [el] at I;obtain ⟨f1,f2,f3⟩:=Cx I;have m:l.b=false:=(F.top j.1 hi l (by rw [el];simp)).1
   have u:(⟨l.lo,(cm c i).hi,l.a,(cm c i).b⟩:Sp).good:=by
    refine ⟨⟨f2.1.1,z.1.2⟩,Sp.kJ.2 ?_⟩;dsimp only
    cases ha:l.a with
    | true=>exact .inl rfl
    | false=>
     cases hb:(cm c i).b with
     | true=>exact .inr (.inl rfl)
     | false=>
      have n:=kb f2.2 ha m;have q:=kb z.2 (C j.1) hb;rw [B j.1] at q;exact .inr (.inr (by grind))
   refine ⟨?_,fun t v=>?_,fun _ d s f=>?_,fun _ d k=>?_,fun _ d _=>?_⟩
   ·rw [e];exact pa f1 u fun x k=>⟨(f3 x k).1,(f3 x k).2.1,(f3 x k).2.2⟩
   ·rw [e,Ab,←F.mem t v,qK,el,qK,or_assoc];refine or_congr Iff.rfl ?_
    have hk:(cm c i).inn t↔c.getD (i-1) 0<t/\((cm c i).b=true\/t<(cm c i).hi):=by
     unfold Sp.inn;rw [C j.1,B j.1];simp
    have J:t≠c.getD (i-1) 0:=by
     rintro rfl;rw [df] at v;exact v (Qw7 _)
    rw [hk];show (l.a=true\/l.lo<t)/\((cm c i).b=true\/t<(cm c i).hi)↔((l.a=true\/l.lo<t)/\(l.b=true\/t<l.hi))\/_;rw [E,m]
    have n:l.a=true\/l.lo<c.getD (i-1) 0:=by
     cases ha:l.a with
     | true=>exact .inl rfl
     | false=>have:=kb f2.2 ha m;rw [E] at this;exact .inr this
    have q:(cm c i).b=true\/c.getD (i-1) 0<(cm c i).hi:=by
     cases hb:(cm c i).b with
     | true=>exact .inl rfl
     | false=>have:=kb z.2 (C j.1) hb;rw [B j.1] at this;exact .inr this
    constructor
    ·rintro ⟨D,o⟩;by_cases g:t<c.getD (i-1) 0
     ·exact .inl ⟨D,.inr g⟩
     ·exact .inr ⟨hm,by grind,o⟩
    ·rintro (⟨D,o⟩|⟨-,D,o⟩)
     ·have L:t<c.getD (i-1) 0:=by
       rcases o with o|o
       ·cases o
       ·exact o
      exact ⟨D,q.imp_right fun q=>by grind⟩
     ·exact ⟨n.imp_right fun n=>by grind,o⟩
   ·rw [e] at f;rw [Qj7];rcases Qw2.1 f with f|f
    ·have b:=f3 s f;refine ⟨b.1,?_⟩;have n:l.lo<c.getD (i-1) 0:=by have:=kb f2.2 b.2.1 m;rwa [E] at this
     have q:=pZ h (show i-1<i by omega) d;have:=b.2.2;grind
    ·obtain rfl:s=_:=by simpa using f
     refine ⟨G d,?_⟩;show (cm c i).hi<=_;rw [A d];grind
   ·rw [Qj7] at k;exact absurd k w
   ·rw [Qj7];exact ⟨H,_,e,A d⟩
  ·have e:bJ c ms (i+1)=bJ c ms i++[cm c i]:=by
    rw [bJ,if_pos hm,if_neg (fun g=>j ⟨g.1,g.2.1⟩)]
   have hb:∀x∈bJ c ms i,x.Dv (cm c i):=fun x k=>by
    by_cases p:0<i
    ·have K:ms.getD (i-1) false=false:=by
      cases hq:ms.getD (i-1) false with
      | false=>rfl
      | true=>exact absurd ⟨p,hq⟩ j
     exact ⟨(F.top p hi x k).1,C p,by rw [B p];exact F.str p hi K x k⟩
    ·obtain rfl:i=0:=by omega
     cases k
   refine ⟨?_,fun t v=>?_,fun _ d s f=>?_,fun _ d k=>?_,fun _ d _=>?_⟩
   ·rw [e];exact pa F.r z hb
   ·rw [e,Ab,←F.mem t v,qK];exact or_congr Iff.rfl ⟨fun g=>⟨hm,g⟩,fun g=>g.2⟩
   ·rw [e] at f;rw [Qj7];rcases Qw2.1 f with f|f
    ·refine ⟨(hb s f).1,?_⟩;by_cases p:0<i
     ·have n:=(F.top p hi s f).2;have q:=pZ h (show i-1<i by omega) d;grind
     ·obtain rfl:i=0:=by omega
      cases f
    ·obtain rfl:s=_:=by simpa using f
     refine ⟨G d,?_⟩;rw [A d];grind
   ·rw [Qj7] at k;exact absurd k w
   ·rw [Qj7];exact ⟨_,_,e,A d⟩
 ·have e:bJ c ms (i+1)=bJ c ms i:=by rw [bJ,if_neg hm]
  have y:i<c.length->∀s∈bJ c ms i,s.b=false/\s.hi<c.getD i 0:=fun d s f=>by
   by_cases p:0<i
   ·obtain ⟨n,q⟩:=F.top p hi s f;have M:=pZ h (show i-1<i by omega) d;exact ⟨n,by grind⟩
   ·obtain rfl:i=0:=by omega
    cases f
  refine ⟨by rw [e];exact F.r,fun t v=>?_,fun _ d s f=>?_,fun _ d k s f=>?_,fun _ d k=>?_⟩
  ·rw [e,Ab,F.mem t v];exact ⟨.inl,fun g=>g.elim id fun g=>absurd g.1 hm⟩
  ·rw [e] at f;rw [Qj7];obtain ⟨n,q⟩:=y d s f;exact ⟨n,by grind⟩
  ·rw [e] at f;rw [Qj7];exact (y d s f).2
  ·rw [Qj7] at k;exact absurd k hm
theorem fi (h:asc c):∀{i:Nat},i<=c.length+1->FI c ms i:=by
 intro i
 induction i with
 | zero=>exact fun _=>⟨⟨(fun _ h=>by cases h),List.Pairwise.nil⟩,(fun t _=>⟨(fun ⟨_,h,_⟩=>by cases h),(fun ⟨_,h,_⟩=>absurd h (Qd8 _))⟩),(fun h=>absurd h (Qt6 _)),(fun h=>absurd h (Qt6 _)),(fun h=>absurd h (Qt6 _))⟩
 | succ i ih=>exact fun a=>J3 h (by omega) (ih (by omega))
end
def Sp.innB (s:Sp)(t:Rat):Bool:=(s.a||decide (s.lo<t))&&(s.b||decide (t<s.hi))
def inB (ss:List Sp)(t:Rat):Bool:=ss.any fun s=>s.innB t
theorem innB_iff {s:Sp}{t:Rat}:s.innB t=true↔s.inn t:=by unfold Sp.innB Sp.inn;simp
theorem Ah {ss:List Sp}{t:Rat}:inB ss t=true↔qJ ss t:=by
 unfold inB qJ;rw [Qh5];exact ⟨fun ⟨s,a,b⟩=>⟨s,a,innB_iff.1 b⟩,fun ⟨s,a,b⟩=>⟨s,a,innB_iff.2 b⟩⟩
theorem EX {a b:Bool}(h:a=true↔b=true):a=b:=by cases a<;>cases b<;>simp at h<;>rfl
theorem E2 {ss:List Sp}{t:Rat}(h:∀s∈ss,¬s.dX t):(mN ss t==2)=inB ss t:=by
 induction ss with
 | nil=>rfl
 | cons s r c=>
  have c:=c fun x j=>h x (by simp [j]);have f:=h s (by simp)
  have hb:s.innB t=decide (sG (s.la t) (s.lb t)=2)/\(sG (s.la t) (s.lb t)≠0->sG (s.la t) (s.lb t)=2):=by
   unfold Sp.dX at f;unfold Sp.innB Sp.la Sp.lb sG;rcases f_ t s.lo with ⟨g,d⟩|⟨g,d⟩|⟨g,d⟩<;>rcases f_ t s.hi with ⟨h2,e2⟩|⟨h2,e2⟩|⟨h2,e2⟩<;>rw [d,e2]<;>cases ha:s.a<;>cases hb:s.b<;>simp [ha,hb] at f⊢<;> grind
  have e:inB (s::r) t=(s.innB t||inB r t):=rfl;rw [e,←c,hb.1];by_cases i:sG (s.la t) (s.lb t)=0
  ·simp [mN,i]
  ·have:=hb.2 i;simp [mN,this]
def opB (op:Int)(x y:Bool):Bool:=if op=2 then x&&y else if op=3 then x&&!y else if op=4 then x != y else x||y
def fP (op:Int)(a b:List Sp)(c:List Rat):List Bool:=(cf c).map fun t=>opB op (mN a t==2) (mN b t==2)
def combL (op:Int)(a b:List Sp):List Sp:=uL (endsL (a++b)) (fP op a b (endsL (a++b)))
theorem ij (op:Int)(a b:List Sp)(c:List Rat):(fP op a b c).length=c.length+1:=by unfold fP;rw [Qj1,eK]
theorem comb_reg (op:Int)(a b:List Sp):rS (combL op a b):=by
 unfold combL uL;rw [ij];exact (fi (uD _) (Qq3 _)).r
theorem E7 {ss:List Sp}{c:List Rat}(h:asc c)(hc:∀s∈ss,∀q,s.dX q->q∈c){i:Nat}(hi:i<=c.length){t u:Rat}(ht:(cm c i).inn t)(hu:(cm c i).inn u):inB ss t=inB ss u:=by
 induction ss with
 | nil=>rfl
 | cons s r f=>
  have f:=f fun x g=>hc x (by simp [g]);have e:∀t,inB (s::r) t=(s.innB t||inB r t):=fun _=>rfl;rw [e,e,f];congr 1;have d:=hc s (by simp);unfold Sp.innB;cases ha:s.a<;>cases hb:s.b<;>simp
  ·have j:=lL h hi ht hu (d s.lo (.inl ⟨ha,rfl⟩));have k:=lL h hi ht hu (d s.hi (.inr ⟨hb,rfl⟩));rw [decide_eq_decide.2 j.1,decide_eq_decide.2 k.2.1]
  ·exact (lL h hi ht hu (d s.lo (.inl ⟨ha,rfl⟩))).1
  ·exact (lL h hi ht hu (d s.hi (.inr ⟨hb,rfl⟩))).2.1
theorem comb_inB (op:Int)(a b:List Sp){t:Rat}(ht:t∉endsL (a++b)):inB (combL op a b) t=opB op (inB a t) (inB b t):=by
 have g:=uD (a++b);have m:∀s∈a++b,∀q,s.dX q->q∈endsL (a++b):=fun s d q p=>BN.2 ⟨s,d,p⟩;unfold combL uL;generalize endsL (a++b)=c at ht g m;rw [ij];have o:∀s∈a,∀q,s.dX q->q∈c:=fun s d=>m s (by simp [d]);have hb:∀s∈b,∀q,s.dX q->q∈c:=fun s d=>m s (by simp [d])
 have mk:∀j,j<=c.length->(cm c j).inn t->(fP op a b c).getD j false=opB op (inB a t) (inB b t):=fun j h k=>by
  have l:=IX g h;have f:(cf c).getD j 0∉c:=fun hm=>(lL g h l l hm).2.2 rfl;unfold fP;rw [Qw3,Qd7,Qq1 (by rw [eK];omega)];have e:(cf c)[j]'(by rw [eK];omega)=(cf c).getD j 0:=by rw [Qw3,Qq1 (by rw [eK];omega)];rfl
  simp only [Qh7,Qc5,e];rw [E2 (fun s d he=>f (o s d _ he)),E2 (fun s d he=>f (hb s d _ he)),E7 g o h l k,E7 g hb h l k]
 refine EX ?_;rw [Ah,(fi g (Qq3 _)).mem t ht];constructor
 ·rintro ⟨j,h,n,r⟩;rw [←mk j (by omega) r];exact n
 ·intro n;obtain ⟨i,u,k⟩:=Mo g ht;exact ⟨i,by omega,by rw [mk i u k];exact n,k⟩
theorem reg_eq {xs ys:List Sp}(E:List Rat)(hx:rS xs)(hy:rS ys)(h:∀t,t∉E->inB xs t=inB ys t):xs=ys:=
 Ek (E:=E) hx hy fun t a=>by rw [←Ah,←Ah,h t a]
end Go.Proofs.Tryz
namespace Go.Proofs.Tryz
open Go.Eng Go.Big
def j_ (x:L3):List L3->List L3
 | []=>[x]
 | y::r=>if iD y x<0 then y::j_ x r else if y=x then y::r else x::y::r
theorem Ki {x:L3}:∀(o:List L3)(k:Nat),k<=o.length->(∀j (h:j<o.length),j<k->iD o[j] x<0)->(∀h:k<o.length,¬iD o[k] x<0) ->
  j_ x o=if (∃h:k<o.length,o[k]=x) then o else o.take k++x::o.drop k:=by
 intro o
 induction o with
 | nil=>
  intro k hk _ _;obtain rfl:k=0:=by simpa using hk
  simp [j_]
 | cons y r ih=>
  intro k hk a b
  cases k with
  | zero=>
   have f:¬iD y x<0:=b (by simp);unfold j_;rw [if_neg f];by_cases e:y=x
   ·rw [if_pos e,if_pos ⟨by simp,e⟩]
   ·rw [if_neg e,if_neg (by rintro ⟨_,h⟩;exact e h)];rfl
  | succ k=>
   have f:iD y x<0:=a 0 (by simp) (by omega);unfold j_;rw [if_pos f,ih k (by simpa using hk) (fun j h g=>a (j+1) (by simpa using h) (by omega)) (fun h=>b (by simpa using h))];by_cases e:∃h:k<r.length,r[k]=x
   ·obtain ⟨c,d⟩:=e;rw [if_pos ⟨c,d⟩,if_pos ⟨by simpa using c,d⟩]
   ·rw [if_neg e,if_neg (by rintro ⟨c,d⟩;exact e ⟨by simpa using c,d⟩)];rfl
theorem B0 (x:L3):∀o:List L3,(j_ x o).length<=o.length+1
 | []=>by simp [j_]
 | y::r=>by
  have:=B0 x r;unfold j_;split
  ·simp;omega
  ·split<;>simp
def pT (a b:L3):Prop:=iD a b<0
theorem LB {a b c:L3}(h:pT a b)(h':pT b c):pT a c:=by unfold pT at *;rw [oO] at *;omega
theorem LA {a b:L3}(h:pT a b)(h':pT b a):False:=by unfold pT at *;rw [oO] at *;omega
theorem zf {a:L3}(h:pT a a):False:=LA h h
theorem Ij {a b:L3}(h:¬pT a b)(hne:a≠b):pT b a:=by
 have:¬(a.1=b.1/\a.2.1=b.2.1/\a.2.2=b.2.2):=fun ⟨c,d,e⟩=>hne (Wz5 c (Wz5 d e));unfold pT at *;rw [oO] at *;omega
theorem zF:∀{l m:List L3},l.Pairwise pT->m.Pairwise pT->(∀x,x∈l↔x∈m)->l=m
 | [],[],_,_,_=>rfl
 | [],b::m,_,_,h=>by have:=(h b).2 (by simp);cases this
 | a::l,[],_,_,h=>by have:=(h a).1 (by simp);cases this
 | a::l,b::m,h1,h2,h=>by
  obtain ⟨g,j⟩:=Qk9.1 h1;obtain ⟨i,k⟩:=Qk9.1 h2
  have e:a=b:=by
   rcases Qq6.1 ((h a).1 (by simp)) with e|e
   ·exact e
   ·rcases Qq6.1 ((h b).2 (by simp)) with d|d
    ·exact d.symm
    ·exact (LA (i a e) (g b d)).elim
  subst e;rw [zF j k fun x=>⟨fun c=>?_,fun c=>?_⟩]
  ·rcases Qq6.1 ((h x).1 (Qq8 _ c)) with rfl|f
   ·exact (zf (g _ c)).elim
   ·exact f
  ·rcases Qq6.1 ((h x).2 (Qq8 _ c)) with rfl|f
   ·exact (zf (i _ c)).elim
   ·exact f
theorem uQ {x y:L3}:∀{o:List L3},y∈j_ x o↔y=x\/y∈o
 | []=>by simp [j_]
 | z::r=>by
  unfold j_;split
  ·simp only [Qq6,uQ (o:=r)];constructor
   ·rintro (h|h|h)<;>simp [h]
   ·rintro (h|h|h)<;>simp [h]
  ·split
   ·rename_i e;subst e;simp
   ·simp
theorem BZ {x:L3}:∀{o:List L3},o.Pairwise pT->(j_ x o).Pairwise pT
 | [],_=>List.pairwise_singleton _ _
 | z::r,h=>by
  obtain ⟨h1,h2⟩:=Qk9.1 h;unfold j_;split
  ·rename_i b;refine Qk9.2 ⟨fun y a=>?_,BZ h2⟩;rcases uQ.1 a with rfl|a
   ·exact b
   ·exact h1 y a
  ·rename_i b;split
   ·exact h
   ·rename_i c;have d:pT x z:=Ij b c;refine Qk9.2 ⟨fun y a=>?_,h⟩;rcases Qq6.1 a with rfl|a
    ·exact d
    ·exact LB d (h1 y a)
end Go.Proofs.Tryz
namespace Go.Proofs.Tryz
open Go.Eng Go.Big
theorem FP.So {V:View}{p:OA}{n:Nat}{ss:List Sp}(h:FP V p n ss):e_ 8 oB V p n ss:=by
 refine ⟨h.len,fun i c=>?_⟩;obtain ⟨d,f,xs,b,g⟩:=h.at_ i c;have a:=b;obtain ⟨_,_,_,_,_,_,_,_,_,_,_,_,_,_,e,-,-⟩:=vC b;exact ⟨d,f,xs,by rw [e];rfl,a,g⟩
theorem Aj {V:View}{p:OA}{n:Nat}{ss:List Sp}(h:e_ 8 oB V p n ss):FP V p n ss:=
 ⟨h.len,fun i a=>by obtain ⟨b,c,xs,-,d,e⟩:=h.at_ i a;exact ⟨b,c,xs,d,e⟩⟩
theorem CA {V:View}{vs:List Value}{ss:List Sp}(h:Row 8 oB V vs ss){m:Nat}(hm:m<ss.length*8){v:Value}(hv:vs[m]?=some v):v.oneCell'=true:=by
 have c:m / 8<ss.length:=by omega
 obtain ⟨xs,d,f,g⟩:=h.at_ (m / 8) c;obtain ⟨_,_,_,_,_,_,_,_,_,_,_,_,_,_,e,-,-⟩:=vC f;have b:m%8<xs.length:=by rw [d];exact Qb2 _ (by decide)
 have i:m=m / 8*8+m%8:=by omega
 have:=g (m%8) _ (Qq1 b);rw [←i,hv] at this;obtain rfl:=Qm0 this;have a:=Qw7 b;generalize xs[m%8]=v at a;subst e;simp only [Qq6,Qk1,or_false] at a;rcases a with rfl|rfl|rfl|rfl|rfl|rfl|rfl|rfl<;>rfl
theorem Nh {x:Rat}{k:Nat}(h:Sz k x):Sz (k+3) (x*((2:Int):Rat)⁻¹):=by
 have a:Sz 2 (((2:Int):Rat))⁻¹:=by unfold Sz;decide +kernel
 exact (h.mul a).mono (by omega)
theorem GA {c:List Rat}{k:Nat}(h:∀q∈c,Sz k q){q:Rat}(hq:q∈cf c):Sz (2*k+4) q:=by
 have g:∀i,i<c.length->Sz k (c.getD i 0):=fun i a=>by rw [df a];exact h _ (Qw7 a)
 have z:Sz (2*k+4) 0:=by
  have b:(1:Nat)<2^(2*k+4):=Qf6 (by omega);exact ⟨Qn2 (Qq9 _) b,b⟩
 unfold cf at hq;by_cases d:c.length=0
 ·rw [if_pos d] at hq;obtain rfl:q=0:=by simpa using hq
  exact z
 ·rw [if_neg d] at hq;rcases Qw2.1 hq with hq|hq
  ·unfold xq at hq;rcases Qq6.1 hq with rfl|hq
   ·exact ((g 0 (by omega)).sub tL).mono (by omega)
   ·obtain ⟨i,a,rfl⟩:=Qy5.1 hq;rw [List.mem_range] at a;exact (Nh ((g i (by omega)).add (g (i+1) (by omega)))).mono (by omega)
  ·obtain rfl:q=_:=by simpa using hq
   exact ((g _ (by omega)).add tL).mono (by omega)
theorem sE {V:View}{op:Int}{ap bp:OA}{an ac bn bc:Nat}{la' lb':List Sp}(ha:FP V ap an la')(hb:FP V bp bn lb')(hl:la'.length+lb'.length<10000000){k:Nat}(sa:∀s∈la',s.sz k)(sb:∀s∈lb',s.sz k)(hk:4*k+8<274877906944) :
  aa prog 46 #[.int .i64 op,.slice ap an ac,.slice bp bn bc] V fun r V'=>∃p n c,r=.slice p n c/\FP V' p n (combL op la' lb'):=by
 have la:=ha.len;have lb:=hb.len;obtain ⟨xs,x1,x2,W⟩:=qH ha.So (by decide);obtain ⟨X,y1,y2,Y⟩:=qH hb.So (by decide);refine qZ op ap an ac bp bn bc V _ ⟨xs,x1,by omega,by omega,Qq3 _,Qq9 _,by omega,?_,fun Ul J5 A c3 h1 o=>⟨X,y1,by omega,by omega,by omega,?_,by omega,?_,fun Um YW X5 c8 t u Z l1 Mg I=>?_⟩⟩
 ·intro v hv;obtain ⟨m,hm,rfl⟩:=Qh4 hv;exact CA W (by omega) (Qq1 hm)
 ·rw [List.take_nil,Qn3,Qq2];omega
 ·intro v hv;obtain ⟨m,hm,rfl⟩:=Qh4 hv;exact CA Y (by omega) (Qq1 hm)
 have B:Row 8 oB Z ((([]:List Value).take (0*8)++xs++A).take ((0+an)*8)++X++X5) (la'++lb'):=by
  have e:(([]:List Value).take (0*8)++xs++A).take ((0+an)*8)=xs.take (la'.length*8):=by
   rw [List.take_nil,Qn3,la,Qy2,Qt1 (by omega)]
  rw [e];exact (vA W Y (by decide)).le fun _ _ h=>h.le l1
 have hL:FP Z (some ⟨Mg,0,none⟩) (0+an+bn) (la'++lb'):=by
  have:=Aj (e_.D_ I B)
  rwa [show (la'++lb').length=0+an+bn by rw [Qq2];omega] at this
 have f:∀s∈la'++lb',s.sz k:=fun s f=>by
  rcases Qw2.1 f with f|f
  ·exact sa s f
  ·exact sb s f
 refine (zW hL (by rw [Qq2];omega) f).mono ?_;rintro r V2 l2 ⟨U7,J,K,rfl,L⟩;have cl:=yJ (la'++lb');rw [Qq2] at cl
 have cs:∀q∈endsL (la'++lb'),Sz k q:=fun q H=>by
  obtain ⟨s,C,e⟩:=qv H;rcases e with rfl|rfl
  ·exact (f s C).1
  ·exact (f s C).2
 have Ou:combL op la' lb'=uL (endsL (la'++lb')) (fP op la' lb' (endsL (la'++lb'))):=rfl;rw [Ou];generalize endsL (la'++lb')=cuts at L cl cs;refine ⟨U7,J,K,rfl,fun YX V3 D=>(um (L.le D fun _ _ h=>h.le D) (by omega) cs).mono ?_⟩;rintro r V4 M ⟨XN,l,N,rfl,hp⟩;have O:=hp.len;rw [eK] at O;have ml:=ij op la' lb' cuts
 have XE:∀i (w:i<(cf cuts).length),(fP op la' lb' cuts).take (i+1)=(fP op la' lb' cuts).take i++[opB op (mN la' (cf cuts)[i]==2) (mN lb' (cf cuts)[i]==2)]:=fun i w=>by
  rw [eK] at w;rw [Qh1,Qq1 (by omega)];unfold fP;rw [List.getElem_map];rfl
 refine ⟨XN,l,N,rfl,fun z V'=>∃i:Nat,z.2.2.2=(i:Int)/\i<=cuts.length+1/\z.1=i/\z.1<=z.2.1/\z.2.1*1<=z.2.2.1.length/\Row 1 QQ V' z.2.2.1 ((fP op la' lb' cuts).take i),fun z=>cuts.length+1-z.2.2.2.toNat,
  ⟨(0,0,[],0),by and_intros<;>rfl,0,rfl,Qq9 _,rfl,Qq3 _,Qq3 _,Row.nil⟩,?_⟩
 rintro ⟨g,z2,vs,z4⟩ V5 E ⟨i,e4,NO,e1,ic,hv,d⟩;dsimp only at e4 e1 ic hv d;subst e4 e1;refine ⟨rfl,fun j=>?_,fun j gW cu Wt OD=>?_⟩
 ·have j:(g:Int)<l:=of_decide_eq_true j;have w:g<(cf cuts).length:=by rw [eK];omega
  dsimp only;rw [Qq0];obtain ⟨ad,b,p1,n1,c1,p2,n2,c2,F,H,a0,a1,a2⟩:=vB (hp.le E fun _ _ h=>h.le E) w;have sq:=GA cs (Qw7 w);have L5:V.Le V5:=l1.trans (l2.trans (D.trans (M.trans E)));have P:∀s∈la',s.sz (2*k+4):=fun s f=>⟨(sa s f).1.mono (by omega),(sa s f).2.mono (by omega)⟩;have Q:∀s∈lb',s.sz (2*k+4):=fun s f=>⟨(sb s f).1.mono (by omega),(sb s f).2.mono (by omega)⟩;refine ⟨aQ F,⟨by omega,by omega⟩,b,p1,n1,c1,p2,n2,c2,ad,F,a0,a1,a2,fun V6 G=>(uq (ha.le (L5.trans G)) (H.le G) P sq (by omega)).mono ?_⟩;rintro r V7 R rfl;refine ⟨_,rfl,fun V8 S=>(uq (hb.le (L5.trans (G.trans (R.trans S)))) (H.le (G.trans (R.trans S))) Q sq (by omega)).mono ?_⟩;rintro r V9 l9 rfl;have L9:=G.trans (R.trans (S.trans l9));have hm:=XE g w;generalize (mN la' (cf cuts)[g]==2)=x at hm;generalize (mN lb' (cf cuts)[g]==2)=y at hm;refine ⟨_,rfl,fun z V'=>V9.Le V'/\z=(x||y),⟨fun d=>⟨true,by and_intros<;>rfl,View.Le.refl _,by rw [d];rfl⟩,fun d=>⟨y,by and_intros<;>rfl,View.Le.refl _,by rw [d];rfl⟩⟩,?_⟩;rintro a3 fK a4 ⟨a5,rfl⟩;refine ⟨rfl,fun z V'=>fK.Le V'/\z=opB op x y,⟨fun o=>?_,fun o=>⟨fun t=>?_,fun t=>⟨fun u=>?_,fun u=>?_⟩⟩⟩,?_⟩
  ·obtain rfl:=eq_of_beq o;exact ⟨fun d=>⟨y,by and_intros<;>rfl,View.Le.refl _,by rw [d];rfl⟩,fun d=>⟨false,by and_intros<;>rfl,View.Le.refl _,by rw [d];rfl⟩⟩
  ·obtain rfl:=eq_of_beq t;exact ⟨fun d=>⟨!y,by and_intros<;>rfl,View.Le.refl _,by rw [d];rfl⟩,fun d=>⟨false,by and_intros<;>rfl,View.Le.refl _,by rw [d];rfl⟩⟩
  ·obtain rfl:=eq_of_beq u;exact ⟨_,by and_intros<;>rfl,View.Le.refl _,rfl⟩
  ·refine ⟨_,by and_intros<;>rfl,View.Le.refl _,?_⟩;have o:¬op=2:=fun e=>by subst e;cases o
   have t:¬op=3:=fun e=>by subst e;cases t
   have u:¬op=4:=fun e=>by subst e;cases u
   unfold opB;rw [if_neg o,if_neg t,if_neg u]
  ·rintro a6 eO bA ⟨a7,rfl⟩;refine ⟨rfl,by omega,ic,hv,rfl,?_,fun sp c' h5 h6=>⟨(g+1,c',_,(g:Int)+1),by dsimp only;omega,by and_intros<;>first|rfl|exact ar (by omega),g+1,rfl,by omega,rfl,h5,?_,?_⟩⟩
   ·intro v hm;obtain rfl:v=_:=by simpa using hm
    rfl
   ·dsimp only;have ht:(vs.take (g*1)).length=g*1:=by rw [Qq5];omega
    rw [Qq2,Qq2,ht];simp only [Qx2,Qj9];omega
   ·dsimp only;have hlen:((fP op la' lb' cuts).take g).length=g:=by rw [Qq5];omega
    rw [hm];have:=(d.le (V':=eO) fun _ _ h=>h).snoc (sp:=sp) (xs:=[.bool (opB op x y)]) (a:=opB op x y) rfl rfl (by decide);rw [hlen] at this;exact this
 ·have j:¬(g:Int)<l:=of_decide_eq_false j;obtain rfl:g=cuts.length+1:=by omega
  dsimp only at OD ⊢;rw [Qb8 (by omega)] at d;have hM:=e_.dJ (c:=z2) OD (d.le (V':=gW) fun _ _ h=>h) (by decide);rw [ml] at hM;refine (zS (L.le (D.trans (M.trans (E.trans cu))) fun _ _ h=>h.le (D.trans (M.trans (E.trans cu)))) hM ml).mono ?_;rintro r lx cD ⟨T,U,Ww,rfl,hr⟩;exact ⟨T,U,Ww,rfl,fun YY mr eB=>⟨_,_,_,rfl,Aj (hr.le eB fun _ _ h=>h.le eB)⟩⟩
end Go.Proofs.Tryz
namespace Go.Proofs.Tryz
open Go.Eng Go.Big
theorem Iw {t:Sp}(h:t.can/\t.emp=false):t.neg.can/\t.neg.emp=false:=by
 obtain ⟨⟨d,e⟩,c⟩:=h;rw [Sp.kJ] at c;rw [Sp.kJ];unfold Sp.neg Sp.can;cases ha:t.a<;>cases hb:t.b<;>simp [ha,hb] at d e c⊢<;> grind
def jQ (V:View)(v:Value)(x:L3×Sp):Prop:=RF V v x.1 x.2
theorem jQ.le {V V':View}{v:Value}{x:L3×Sp}(h:jQ V v x)(l:V.Le V'):jQ V' v x:=RF.le h l
theorem Ks {V:View}{p:OA}{n:Nat}{al:List Sp}(h:e_ 8 oB V p n al){i:Nat}(hi:i<al.length) :
  p.isSome=true/\∃(b:Bool)(p1:OA)(n1 c1:Nat)(p2:OA)(n2 c2:Nat)(d:Bool)(p3:OA)(n3 c3:Nat)(p4:OA)(n4 c4:Nat)(a:Addr),ah p (i*8)=some a/\V.at (a.add 0) (.bool b)/\V.at (a.add 1) (.slice p1 n1 c1)/\V.at (a.add 2) (.slice p2 n2 c2)/\V.at (a.add 3) (.bool d)/\V.at (a.add 4) (.slice p3 n3 c3)/\V.at (a.add 5) (.slice p4 n4 c4)/\V.at (a.add 6) (.bool al[i].a)/\V.at (a.add 7) (.bool al[i].b) /\
   oB V (.agg #[.bool b,.slice p1 n1 c1,.slice p2 n2 c2,.bool d,.slice p3 n3 c3,.slice p4 n4 c4,.bool al[i].a,.bool al[i].b]) al[i]:=by
 obtain ⟨j,f,xs,k,g,c⟩:=h.at_ i hi;have e:=g;obtain ⟨_,_,_,_,_,_,_,_,_,_,_,_,_,_,ex,-,-⟩:=g;have ex:=congrArg Array.toList (Value.agg.inj ex);dsimp only at ex;subst ex;refine ⟨?_,_,_,_,_,_,_,_,_,_,_,_,_,_,_,j,f,c 0 _ rfl,c 1 _ rfl,c 2 _ rfl,c 3 _ rfl,c 4 _ rfl,c 5 _ rfl,c 6 _ rfl,c 7 _ rfl,e⟩
 cases p with
 | none=>cases f
 | some a=>rfl
theorem LD {b1:Bool}{p1:OA}{n1 c1:Nat}{b2:Bool}{p2:OA}{n2 c2:Nat}{b3:Bool}{p3:OA}{n3 c3:Nat}{b:Bool}{q1:OA}{m1 e1:Nat}{q2:OA}{m2 e2:Nat}{d:Bool}{q3:OA}{m3 e3:Nat}{q4:OA}{m4 e4:Nat}{x y:Bool} :
  ∀v∈([.bool b1,.slice p1 n1 c1,.bool b2,.slice p2 n2 c2,.bool b3,.slice p3 n3 c3,.bool b,.slice q1 m1 e1,.slice q2 m2 e2,.bool d,.slice q3 m3 e3,.slice q4 m4 e4,.bool x,.bool y]:List Value),v.oneCell'=true:=by
 intro v hv;simp only [Qq6,Qk1,or_false] at hv;rcases hv with rfl|rfl|rfl|rfl|rfl|rfl|rfl|rfl|rfl|rfl|rfl|rfl|rfl|rfl<;>rfl
end Go.Proofs.Tryz
namespace Go.Proofs.Tryz
open Go.Eng Go.Big
def oE (V:View)(v:Value)(x:L3×Sp):Prop:=pU V v x.1 x.2
theorem vz {V:View}{xs:List Value}{x:L3×Sp}(h:oE V (.agg xs.toArray) x):∀v∈xs,v.oneCell'=true:=by
 obtain ⟨_,_,_,_,_,_,_,_,_,_,_,_,_,_,_,ex,-,-⟩:=h;have ex:=congrArg Array.toList (Value.agg.inj ex);dsimp only at ex;subst ex;intro v hv;simp only [Qq6,Qk1,or_false] at hv;rcases hv with rfl|rfl|rfl|rfl|rfl|rfl|rfl|rfl|rfl|rfl|rfl|rfl|rfl|rfl|rfl|rfl|rfl<;>rfl
theorem JQ {V:View}{p:OA}{n c:Nat}{fs:List (L3×Sp)}(h:oD V p n fs)(hn:fs.length<=1000000){k:Nat}(hs:∀f∈fs,gN k f.1/\f.2.sz k)(ho:∀f∈fs,Dp f.1 f.2)(hk:4*k+4<1099511627776:=by omega) :
  aa prog 65 #[.slice p n c] V fun r V'=>∃q m e,r=.tuple #[.slice q m e,.bool true]/\e_ 17 oE V' q m fs/\(fs=[]->q=none):=by
 obtain rfl:=h.len;refine AM p _ c V _ ⟨fun z V'=>∃j:Nat,z.2.2.2=(j:Int)/\j<=fs.length/\GR 17 oE V' z.1 z.2.1 z.2.2.1 (fs.take j)/\(j=0->z.2.1=0),fun z=>fs.length-z.2.2.2.toNat,⟨(0,0,[],0),by and_intros<;>rfl,0,rfl,Qq9 _,GR.nil,fun _=>rfl⟩,?_⟩;rintro ⟨C,D,M,N⟩ O E ⟨j,u,P,d,o⟩;dsimp only at u d o;subst u;have s:=d.len;refine ⟨rfl,fun b=>?_,fun b Q F R hb=>?_⟩;rotate_left
 ·have b:¬(j:Int)<fs.length:=of_decide_eq_false b;obtain rfl:j=fs.length:=by omega
  rw [Qk2] at d s;subst s;exact ⟨_,_,D,rfl,e_.dJ hb (d.row.le fun _ _ g=>pU.le g F) (by decide) d.le,fun h=>by rw [h] at o;rw [o rfl];rfl⟩
 have b:(j:Int)<fs.length:=of_decide_eq_true b;have i:j<fs.length:=by omega
 have w:i64.wrap ((j:Int)+1)=((j+1:Nat):Int):=by rw [ar (by omega)];rfl
 dsimp only;rw [Qq0,w];obtain ⟨G,v,xs,y,a⟩:=(h.le E).at_ j i;have t:=y;obtain ⟨_,_,_,_,_,_,_,_,_,_,_,_,_,_,_,_,_,_,_,_,_,_,_,_,_,_,ex,-,-⟩:=y;have ex:=congrArg Array.toList (Value.agg.inj ex);dsimp only at ex;subst ex;obtain ⟨s1,s2⟩:=hs _ (Qw7 i);have ok:=ho _ (Qw7 i);rw [Qq5] at s;refine ⟨aQ v,⟨by omega,by omega⟩,_,_,_,_,_,_,_,_,_,_,_,_,_,_,_,_,_,_,_,_,_,_,_,_,_,_,_,_,G,v,a 0 _ rfl,a 1 _ rfl,a 2 _ rfl,a 3 _ rfl,a 4 _ rfl,a 5 _ rfl,a 6 _ rfl,a 7 _ rfl,a 8 _ rfl,a 9 _ rfl,a 10 _ rfl,a 11 _ rfl,a 12 _ rfl,a 13 _ rfl,fun V2 A=>(mu (t.le A) ok s1 s2 hk).mono ?_⟩;rintro r H I ⟨w,rfl,B⟩;have l:=B;obtain ⟨_,_,_,_,_,_,_,_,_,_,_,_,_,_,_,rfl,-,-⟩:=B;refine ⟨_,_,_,_,_,_,_,_,_,_,_,_,_,_,_,_,_,_,rfl,(fun h=>by cases h),fun _=>⟨by omega,d.le,d.cap,rfl,vz (V:=H) (x:=fs[j]) l,fun sp J K L=>⟨(C+1,J,_,((j+1:Nat):Int)),by dsimp only;omega,by and_intros<;>rfl,j+1,rfl,i,?_,fun h=>nomatch h⟩⟩⟩;rw [←Qb0 i];exact (d.mono fun _ _ g=>pU.le g (A.trans I)).snoc rfl l (by decide) K L
end Go.Proofs.Tryz
namespace Go.Proofs.Tryz
open Go.Eng Go.Big
def wM:L3×Sp:=((0,0,0),⟨0,0,false,false⟩)
def Lb (a b:L3×Sp):Int:=iD a.1 b.1
theorem LG:Ord Lb:=⟨fun a b h=>LH.JL a.1 b.1 h,fun a b d h c=>LH.tr a.1 b.1 d.1 h c⟩
def G2 (V:View)(v:Value)(c:L3×Sp):Prop:=pU V v c.1 c.2/\gN 10000 c.1
theorem G2.le {V V':View}{v:Value}{c:L3×Sp}(h:G2 V v c)(l:V.Le V'):G2 V' v c:=⟨h.1.le l,h.2⟩
theorem G2.shape {V:View}{v:Value}{c:L3×Sp}(h:G2 V v c):∃(x y:Int)(p:OA)(xb yb:Int)(pb:OA)(xc yc:Int)(pc:OA)(xd yd:Int)(pd:OA)(xe ye:Int)(pe:OA)(fa fb:Bool),v=.agg #[.int .i64 x,.int .i64 y,.pointer p,.int .i64 xb,.int .i64 yb,.pointer pb,.int .i64 xc,.int .i64 yc,.pointer pc,.int .i64 xd,.int .i64 yd,.pointer pd,.int .i64 xe,.int .i64 ye,.pointer pe,.bool fa,.bool fb]:=by
 obtain ⟨⟨_,_,_,_,_,_,_,_,_,_,_,_,_,_,_,e,-⟩,-⟩:=h;exact ⟨_,_,_,_,_,_,_,_,_,_,_,_,_,_,_,_,_,e⟩
theorem DB {V:View}{v w:Value}{a b:L3×Sp}(h:G2 V v a)(h':G2 V w b):aa prog 124 #[v,w] V fun r V'=>r=.int .i64 (Lb a b):=by
 obtain ⟨⟨_,_,_,_,_,_,_,_,_,_,_,_,_,_,_,rfl,e,-⟩,hb⟩:=h;obtain ⟨⟨_,_,_,_,_,_,_,_,_,_,_,_,_,_,_,rfl,f,-⟩,c⟩:=h';refine qT _ _ _ _ _ _ _ _ _ _ _ _ _ _ _ _ _ _ _ _ _ _ _ _ _ _ _ _ _ _ _ _ _ _ V _ fun g d=>(yz (e.le d) (f.le d) hb.1 hb.2.1 hb.2.2 c.1 c.2.1 c.2.2).mono ?_;rintro r V2 i rfl;rw [IJ];exact ⟨_,rfl,fun j k=>rfl⟩
structure Ds (V:View) (n:Nat) (vs:List Value) (l:List (L3×Sp)):Prop where
 row:Row 17 G2 V vs l
 len:n=l.length
 kL:l.length<50
theorem Ds.le {V V':View}{n:Nat}{vs:List Value}{l:List (L3×Sp)}(h:Ds V n vs l)(e:V.Le V'):Ds V' n vs l:=⟨h.row.le fun _ _ g=>G2.le g e,h.len,h.kL⟩
theorem Ds.get {V:View}{n:Nat}{vs:List Value}{l:List (L3×Sp)}(h:Ds V n vs l){k:Nat}(hk:k<l.length):∃(x y:Int)(p:OA)(xb yb:Int)(pb:OA)(xc yc:Int)(pc:OA)(xd yd:Int)(pd:OA)(xe ye:Int)(pe:OA)(fa fb:Bool),
  ((0+k*17)+17<=vs.length/\(vs.drop (0+k*17)).take 17=[.int .i64 x,.int .i64 y,.pointer p,.int .i64 xb,.int .i64 yb,.pointer pb,.int .i64 xc,.int .i64 yc,.pointer pc,.int .i64 xd,.int .i64 yd,.pointer pd,.int .i64 xe,.int .i64 ye,.pointer pe,.bool fa,.bool fb])/\G2 V (.agg #[.int .i64 x,.int .i64 y,.pointer p,.int .i64 xb,.int .i64 yb,.pointer pb,.int .i64 xc,.int .i64 yc,.pointer pc,.int .i64 xd,.int .i64 yd,.pointer pd,.int .i64 xe,.int .i64 ye,.pointer pe,.bool fa,.bool fb]) (l.getD k wM):=by
 obtain ⟨xs,-,b,c,f⟩:=h.row.get (d:=wM) hk (by decide);have a:=b;obtain ⟨x,y,p,xb,yb,pb,xc,yc,pc,xd,yd,pd,xe,ye,pe,fa,fb,e⟩:=b.shape;have e:=congrArg Array.toList (Value.agg.inj e);dsimp only at e;subst e;rw [Qy2];exact ⟨x,y,p,xb,yb,pb,xc,yc,pc,xd,yd,pd,xe,ye,pe,fa,fb,⟨c,f⟩,a⟩
theorem Ds.swap {V:View}{n:Nat}{vs:List Value}{l:List (L3×Sp)}(h:Ds V n vs l){i j:Nat}(hi:i<l.length)(hj:j<l.length){x y:Int}{p:OA}{xb yb:Int}{pb:OA}{xc yc:Int}{pc:OA}{xd yd:Int}{pd:OA}{xe ye:Int}{pe:OA}{fa fb:Bool}{x' y':Int}{p':OA}{Tt TE:Int}{pb':OA}{K5 TH:Int}{pc':OA}{Ty yd':Int}{SA:OA}{TB TO:Int}{SD:OA}{Rg Rh:Bool}
  (h1:G2 V (.agg #[.int .i64 x,.int .i64 y,.pointer p,.int .i64 xb,.int .i64 yb,.pointer pb,.int .i64 xc,.int .i64 yc,.pointer pc,.int .i64 xd,.int .i64 yd,.pointer pd,.int .i64 xe,.int .i64 ye,.pointer pe,.bool fa,.bool fb]) (l.getD i wM))(h2:G2 V (.agg #[.int .i64 x',.int .i64 y',.pointer p',.int .i64 Tt,.int .i64 TE,.pointer pb',.int .i64 K5,.int .i64 TH,.pointer pc',.int .i64 Ty,.int .i64 yd',.pointer SA,.int .i64 TB,.int .i64 TO,.pointer SD,.bool Rg,.bool Rh]) (l.getD j wM)) :
  (0+i*17)+17<=vs.length/\(0+j*17)+17<=(ae vs (0+i*17) [.int .i64 x',.int .i64 y',.pointer p',.int .i64 Tt,.int .i64 TE,.pointer pb',.int .i64 K5,.int .i64 TH,.pointer pc',.int .i64 Ty,.int .i64 yd',.pointer SA,.int .i64 TB,.int .i64 TO,.pointer SD,.bool Rg,.bool Rh]).length /\
  Ds V n (ae (ae vs (0+i*17) [.int .i64 x',.int .i64 y',.pointer p',.int .i64 Tt,.int .i64 TE,.pointer pb',.int .i64 K5,.int .i64 TH,.pointer pc',.int .i64 Ty,.int .i64 yd',.pointer SA,.int .i64 TB,.int .i64 TO,.pointer SD,.bool Rg,.bool Rh]) (0+j*17) [.int .i64 x,.int .i64 y,.pointer p,.int .i64 xb,.int .i64 yb,.pointer pb,.int .i64 xc,.int .i64 yc,.pointer pc,.int .i64 xd,.int .i64 yd,.pointer pd,.int .i64 xe,.int .i64 ye,.pointer pe,.bool fa,.bool fb]) (jG wM l i j):=by
 obtain ⟨-,-,-,a,-⟩:=h.row.get (d:=wM) hi (by decide);obtain ⟨-,-,-,b,-⟩:=h.row.get (d:=wM) hj (by decide);rw [Qy2,Qy2];refine ⟨a,by rw [rV (by exact a)];exact b,h.row.swap hi hj (by decide) rfl rfl h1 h2,by rw [mK];exact h.len,by rw [mK];exact h.kL⟩
def Hf (lb n:Nat)(l:List (L3×Sp))(a b:Nat)(V':View)(Q:List (L3×Sp)->Prop):Prop:=∃vs' l',V'.w.heap[lb]?=some (.cells vs'.toArray 104 (0,0))/\Ds V' n vs' l'/\gC wM l l' a b/\Q l'
theorem qh {V:View}{lb n c:Nat}{vs:List Value}{l:List (L3×Sp)}(hw:V.w.heap[lb]?=some (.cells vs.toArray 104 (0,0)))(hx:V.X lb)(h:Ds V n vs l){a b:Nat}(ng:a<=b)(hb:b<=l.length:=by omega) :
  aa prog 220 #[.slice (some ⟨lb,0,none⟩) n c,.int .i64 a,.int .i64 b,.func (.func 124) #[] #[]] V fun r V'=>r=.tuple #[]/\Hf lb n l a b V' fun l'=>oA Lb wM l' a b:=by
 have kL:=h.kL;have len:=h.len;have wa:i64.wrap ((a:Int)+1)=((a+1:Nat):Int):=by rw [ar (by omega)];omega
 refine fF lb n c vs a b V _ hw hx ⟨fun z V'=>∃(i:Nat)(m:List (L3×Sp)),z.1=(i:Int)/\a<i/\(i<=b\/i=a+1)/\Ds V' n z.2 m/\gC wM l m a b/\oA Lb wM m a i,fun z=>(b-z.1).toNat,
  ⟨(_,vs),by and_intros<;>rfl,a+1,l,wa,by omega,.inr rfl,h,.refl _ _ _,.short (by omega)⟩,?_⟩
 rintro ⟨z,us⟩ V1 l1 ⟨i,m,e,a0,q,f,d,o⟩;dsimp only at e f;subst e;dsimp only;have ml:m.length=l.length:=d.len;refine ⟨rfl,fun g=>?_,fun g V6 l6 MG=>⟨rfl,us,m,MG,f.le l6,d,?_⟩⟩
 ·have g:(i:Int)<b:=of_decide_eq_true g;have w2:i64.wrap ((i:Int)+1)=((i+1:Nat):Int):=by rw [ar (by omega)];omega
  rw [w2];refine ⟨fun z V'=>∃(j:Nat)(k:List (L3×Sp)),z.1=(j:Int)/\a<=j/\j<=i/\Ds V' n z.2 k/\gC wM l k a b/\JH Lb wM k a i j,fun z=>z.1.toNat,⟨((i:Int),us),by and_intros<;>rfl,i,m,rfl,by omega,Qq3 _,f,d,.start o⟩,?_⟩;rintro ⟨z,ws⟩ V2 l2 ⟨j,k,e,a1,A,f,d,p⟩;dsimp only at e f;subst e;dsimp only;have kl:k.length=l.length:=d.len;refine ⟨rfl,fun z V'=>V2.Le V'/\(z=true->a<j/\Lb (k.getD j wM) (k.getD (j-1) wM)<0)/\(z=false->j<=a\/¬Lb (k.getD j wM) (k.getD (j-1) wM)<0),⟨fun s=>?_,fun s=>?_⟩,?_⟩
  ·have s:(j:Int)>a:=of_decide_eq_true s;have D:i64.wrap ((j:Int)-1)=((j-1:Nat):Int):=by rw [ar (by omega)];omega
   rw [D,Qq0,Qq0];obtain ⟨E,F,G,H,I,J,K,L,u,M,N,O,P,Q,R,v,S,T,U⟩:=f.get (k:=j) (by omega);obtain ⟨W,Y,Z,Tv,TG,Sy,Tx,TL,x,TA,TN,SC,TD,TQ,SF,y,Rj,g2,r2⟩:=f.get (k:=j-1) (by omega);refine ⟨⟨by omega,by omega⟩,E,F,G,H,I,J,K,L,u,M,N,O,P,Q,R,v,S,T,⟨by omega,by omega⟩,W,Y,Z,Tv,TG,Sy,Tx,TL,x,TA,TN,SC,TD,TQ,SF,y,Rj,g2,fun V3 l3=>(DB (U.le l3) (r2.le l3)).mono ?_⟩;rintro r V4 l4 rfl;exact ⟨_,rfl,_,by and_intros<;>rfl,l3.trans l4,fun h=>⟨by omega,of_decide_eq_true h⟩,fun h=>.inr (of_decide_eq_false h)⟩
  ·have s:¬(j:Int)>a:=of_decide_eq_false s;exact ⟨false,by and_intros<;>rfl,View.Le.refl _,(fun h=>nomatch h),fun _=>.inl (by omega)⟩
  ·rintro t V5 C ⟨lv,t1,t2⟩;refine ⟨rfl,fun ht=>?_,fun ht=>⟨(((i+1:Nat):Int),ws),by dsimp only;omega,by and_intros<;>rfl,i+1,k,rfl,by omega,.inl (by omega),f.le C,d,p.done LG A (t2 ht)⟩⟩;obtain ⟨s,B⟩:=t1 ht;have D:i64.wrap ((j:Int)-1)=((j-1:Nat):Int):=by rw [ar (by omega)];omega
   rw [D,Qq0,Qq0];obtain ⟨E,F,G,H,I,J,K,L,u,M,N,O,P,Q,R,v,S,T,U⟩:=(f.le C).get (k:=j) (by omega);obtain ⟨W,Y,Z,Tv,TG,Sy,Tx,TL,x,TA,TN,SC,TD,TQ,SF,y,Rj,g2,r2⟩:=(f.le C).get (k:=j-1) (by omega);obtain ⟨s1,s2,s3⟩:=(f.le C).swap (i:=j) (j:=j-1) (by omega) (by omega) U r2
   exact ⟨⟨by omega,by omega⟩,W,Y,Z,Tv,TG,Sy,Tx,TL,x,TA,TN,SC,TD,TQ,SF,y,Rj,g2,⟨by omega,by omega⟩,E,F,G,H,I,J,K,L,u,M,N,O,P,Q,R,v,S,T,⟨by omega,by omega⟩,s1,⟨by omega,by omega⟩,s2,(((j-1:Nat):Int),_),by dsimp only;omega,by and_intros<;>rfl,j-1,_,rfl,by omega,by omega,s3,
    d.trans (gC.jG (by omega) (by omega) (by omega) (by omega)),p.move LG s A (by omega) B⟩
 ·have g:¬(i:Int)<b:=of_decide_eq_false g;rcases q with q|q
  ·rw [show b=i by omega];exact o
  ·exact .short (by omega)
end Go.Proofs.Tryz
