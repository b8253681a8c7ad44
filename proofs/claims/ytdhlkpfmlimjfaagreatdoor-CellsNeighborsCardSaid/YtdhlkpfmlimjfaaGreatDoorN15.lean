import Derived.Test.YtdhlkpfmlimjfaaGreatDoorN11
import Derived.Test.YtdhlkpfmlimjfaaGreatDoorN13
import Derived.Test.YtdhlkpfmlimjfaaGreatDoorN14
import Derived.Test.YtdhlkpfmlimjfaaGreatDoorN8
import Derived.Test.YtdhlkpfmlimjfaaGreatDoorN6
set_option linter.unusedVariables false
open Go.IntKind (i64 u64 u32)
namespace Go.Eng
theorem tM (a:Addr)(m n:Nat):(a.add m).add n=a.add (m+n):=by
 unfold Addr.add;by_cases b:m=0
 ·subst b;simp
 ·by_cases c:n=0
  ·subst c;simp [b]
  ·rw [if_neg b,if_neg c,if_neg (by omega)];simp only [Nat.add_assoc]
variable {α:Type} {sz:Nat} {R:View->Value->α->Prop} {V V':View}
structure Row (sz:Nat) (R:View->Value->α->Prop) (V:View) (vs:List Value) (al:List α):Prop where
 at_:∀(i:Nat)(h:i<al.length),∃xs:List Value,xs.length=sz/\R V (.agg xs.toArray) al[i]/\∀j x,xs[j]?=some x->vs[i*sz+j]?=some x
structure Lst (sz:Nat) (R:View->Value->α->Prop) (V:View) (p:OA) (n:Nat) (al:List α):Prop where
 len:n=al.length
 at_:∀(i:Nat)(h:i<al.length),∃ad,addrAdd p (i*sz)=some ad/\∃xs:List Value,xs.length=sz/\R V (.agg xs.toArray) al[i]/\∀j x,xs[j]?=some x->V.at (ad.add j) x
theorem Row.nil {vs:List Value}:Row sz R V vs []:=⟨fun i h=>absurd h (Nat.not_lt_zero i)⟩
theorem Lst.nil {p:OA}:Lst sz R V p 0 []:=⟨rfl,fun i h=>absurd h (Nat.not_lt_zero i)⟩
theorem Row.le {vs:List Value}{al:List α}(h:Row sz R V vs al)(m:∀v a,R V v a->R V' v a):Row sz R V' vs al:=
 ⟨fun i b=>by obtain ⟨xs,c,d,e⟩:=h.at_ i b;exact ⟨xs,c,m _ _ d,e⟩⟩
theorem Lst.le {p:OA}{n:Nat}{al:List α}(h:Lst sz R V p n al)(l:V.Le V')(m:∀v a,R V v a->R V' v a):Lst sz R V' p n al:=
 ⟨h.len,fun i b=>by obtain ⟨c,d,xs,e,f,g⟩:=h.at_ i b;exact ⟨c,d,xs,e,m _ _ f,fun j x k=>l.at (g j x k)⟩⟩
theorem Row.kR {vs:List Value}{al:List α}(h:Row sz R V vs al)(hs:0<sz):al.length*sz<=vs.length:=by
 by_cases a:al.length=0
 ·rw [a];omega
 ·obtain ⟨xs,d,-,b⟩:=h.at_ (al.length-1) (by omega);have c:sz-1<xs.length:=by omega
  have:=(List.getElem?_eq_some_iff.1 (b (sz-1) _ (List.getElem?_eq_getElem c))).1
  have e:al.length*sz=(al.length-1)*sz+sz:=by
   obtain ⟨m,hm⟩:∃m,al.length=m+1:=⟨al.length-1,by omega⟩;rw [hm,Nat.add_sub_cancel,Nat.succ_mul]
  omega
theorem Row.snoc {vs:List Value}{al:List α}(h:Row sz R V vs al){xs sp:List Value}{a:α}(hx:xs.length=sz)(ha:R V (.agg xs.toArray) a)(hs:0<sz) :
  Row sz R V (vs.take (al.length*sz)++xs++sp) (al++[a]):=by
 have p:=h.kR hs;have g:(vs.take (al.length*sz)).length=al.length*sz:=by rw [List.length_take];omega
 refine ⟨fun i k=>?_⟩;rw [List.length_append,List.length_singleton] at k;by_cases e:i=al.length
 ·subst e;refine ⟨xs,hx,by rw [List.getElem_append_right (Nat.le_refl _)];simpa using ha,fun j x c=>?_⟩;have d:=(List.getElem?_eq_some_iff.1 c).1;rw [List.append_assoc,List.getElem?_append_right (by rw [g];omega),g,Nat.add_sub_cancel_left,List.getElem?_append_left d];exact c
 ·have b:i<al.length:=by omega
  obtain ⟨l,m,n,o⟩:=h.at_ i b;refine ⟨l,m,by rw [List.getElem_append_left b];exact n,fun j x c=>?_⟩;have d:=(List.getElem?_eq_some_iff.1 c).1
  have f:i*sz+j<al.length*sz:=by
   have:(i+1)*sz<=al.length*sz:=Nat.mul_le_mul_right _ b;rw [Nat.succ_mul] at this;omega
  rw [List.append_assoc,List.getElem?_append_left (by rw [g];exact f),List.getElem?_take,if_pos f];exact o j x c
theorem Lst.nM {bk:Nat}{ty:TypeId}{m:Nat×Nat}{vs:List Value}{al:List α}(hb:V.aS bk (.cells vs.toArray ty m))(h:Row sz R V vs al):Lst sz R V (some ⟨bk,0,none⟩) al.length al:=by
 refine ⟨rfl,fun i a=>?_⟩;obtain ⟨xs,b,c,d⟩:=h.at_ i a;refine ⟨⟨bk,i*sz,none⟩,by simp [addrAdd,add_zero'],xs,b,c,fun j x f=>?_⟩;have e:(⟨bk,i*sz,none⟩:Addr).add j=⟨bk,i*sz+j,none⟩:=by rw [←add_zero',tM,add_zero']
 rw [e];exact blk_at hb (d j x f)
theorem Lst.of_mrow {bk c:Nat}{ty:TypeId}{m:Nat×Nat}{vs:List Value}{al:List α}(hb:vs≠[]->V.aS bk (.cells vs.toArray ty m))(h:Row sz R V vs al)(hs:0<sz)(hc:al.length<=c):Lst sz R V (mA bk c) al.length al:=by
 cases al with
 | nil=>exact Lst.nil
 | cons a r=>
  have b:vs≠[]:=fun e=>by
   have:=h.kR hs;rw [e,List.length_cons,Nat.succ_mul] at this;simp at this;omega
  have:mA bk c=some ⟨bk,0,none⟩:=by unfold mA;rw [if_neg];rw [List.length_cons] at hc;omega
  rw [this];exact Lst.nM (hb b) h
end Go.Eng
namespace Go.Eng
open Go.Proofs.Tryz
variable {α:Type} {sz:Nat} {R:View->Value->α->Prop} {V V':View} {d:α}
end Go.Eng
namespace Go.Proofs.Tryz
open Go.Eng Go.Big
section
variable {α:Type} (e:α->α->Bool)
variable {e}
end
end Go.Proofs.Tryz
namespace Go.Eng
open Go.Proofs.Tryz
section
variable {α:Type} {sz:Nat} {R:View->Value->α->Prop} {V:View} {d:α}
end
end Go.Eng
namespace Go.Proofs.Tryz
open Go.Eng Go.Big
theorem ji {V:View}{v w:Value}{x y:Rat}(hx:RR V v x)(hy:RR V w y){k m:Nat}(hk:Sz k x)(hm:Sz m y)(hkm:k+m<1099511627776) :
  Acts prog 219 #[v,w] V fun r V'=>RR V' r (x*y):=by
 obtain ⟨Y,Z,r2,rfl⟩:=hx.shape;obtain ⟨s0,s1,s2,rfl⟩:=hy.shape;have j:x*y=mkRat (x.num*y.num) (x.den*y.den):=Rat.mul_def' x y;have b1:(x.num*y.num).natAbs<2^(k+m):=by rw [Int.natAbs_mul,Nat.pow_add];exact Nat.mul_lt_mul'' hk.1 hm.1
 have b2:x.den*y.den<2^(k+m):=by rw [Nat.pow_add];exact Nat.mul_lt_mul'' hk.2 hm.2
 have q1:=ae hk.1;have q2:=ae hk.2;have q3:=ae hm.1;have q4:=ae hm.2;have q5:=ae b1;have q6:=ae b2;refine xj Y Z r2 s0 s1 s2 V _ ⟨fun hr=>⟨fun _ _=>True,⟨fun hs=>?_,fun _=>⟨(),by (try dsimp only);and_intros<;>trivial,trivial⟩⟩,fun _ V8 l8 _=>⟨rfl,fun V9 Y0=>?_⟩⟩,fun _ V9 l=>?_⟩
 ·rcases hx with ⟨ex,W⟩|⟨a,b,p,n,c,p',n',c',ex,-,-,-,-,-,W⟩
  ·rcases hy with ⟨t,X⟩|⟨a,b,p,n,c,p',n',c',t,-,-,-,-,-,X⟩
   ·simp only [Value.agg.injEq,Array.mk.injEq,List.cons.injEq,Value.int.injEq,Value.pointer.injEq,true_and,and_true] at ex t;obtain ⟨rfl,rfl,rfl⟩:=ex;obtain ⟨rfl,rfl,rfl⟩:=t;obtain ⟨QK,WQ⟩:=W;obtain ⟨QL,WR⟩:=X;have dx:=x.den_nz;have dy:=y.den_nz;have e1:i64.wrap ((x.den:Int)-1+1)=x.den:=by rw [i64w (by omega)];omega
    have e2:i64.wrap ((y.den:Int)-1+1)=y.den:=by rw [i64w (by omega)];omega
    rw [e1,e2];intro V1 l1;refine (fN _ _ QK QL).mono ?_;rintro r V2 l2 ⟨z1,rfl,E⟩;refine ⟨_,_,rfl,fun V3 l3=>(fN _ _ (by omega) (by omega)).mono ?_⟩;rintro r V4 l4 ⟨z2,rfl,F⟩;refine ⟨_,_,rfl,fun t1=>⟨fun t2 V5 l5=>?_,fun _=>⟨(),by (try dsimp only);and_intros<;>trivial,trivial⟩⟩,fun _=>⟨(),by (try dsimp only);and_intros<;>trivial,trivial⟩⟩;have t1:=of_decide_eq_true t1;have t2:=of_decide_eq_true t2;rw [E t1,F t2];have hd:((x.den:Int)*(y.den:Int))=((x.den*y.den:Nat):Int):=(Int.natCast_mul ..).symm;rw [hd] at t2 ⊢;refine (mX _ _ t1 (by rwa [Int.natAbs_natCast] at t2) (Nat.mul_ne_zero dx dy)).mono ?_;rintro r V6 l6 G;rw [←j] at G;obtain ⟨n,d,p,rfl⟩:=G.shape;exact ⟨_,_,_,rfl,fun V7 l7=>G.le l7⟩
   ·simp only [Value.agg.injEq,Array.mk.injEq,List.cons.injEq,Value.int.injEq,Value.pointer.injEq,true_and,and_true] at t;obtain ⟨rfl,rfl,rfl⟩:=t;cases hs
  ·simp only [Value.agg.injEq,Array.mk.injEq,List.cons.injEq,Value.int.injEq,Value.pointer.injEq,true_and,and_true] at ex;obtain ⟨rfl,rfl,rfl⟩:=ex;cases hr
 ·have l:=l8.trans Y0;refine (fL (hx.le l) hk (by omega)).mono ?_;rintro r H h ⟨p1,n1,c1,rfl,I⟩;refine ⟨_,_,_,_,rfl,fun J e=>(fL (hy.le (l.trans (h.trans e))) hm (by omega)).mono ?_⟩;rintro r K i ⟨p2,n2,c2,rfl,L⟩;refine ⟨_,_,_,_,rfl,fun M f=>(gw _ _ (I.le (e.trans (i.trans f))) (L.le f) (by omega)).mono ?_⟩;rintro r N O u;rw [aM,aM] at u;obtain ⟨p3,n3,c3,rfl,P⟩:=u;have z:=l.trans (h.trans (e.trans (i.trans (f.trans O))));refine ⟨_,_,_,_,rfl,fun Q o=>(eY (hx.le (z.trans o)) hk (by omega)).mono ?_⟩;rintro r ll A ⟨p4,n4,c4,rfl,R⟩;refine ⟨_,_,_,rfl,fun ny q=>(eY (hy.le (z.trans (o.trans (A.trans q)))) hm (by omega)).mono ?_⟩;rintro r oD B ⟨p5,n5,c5,rfl,S⟩;refine ⟨_,_,_,rfl,fun rZ s=>(gg (R.le (q.trans (B.trans s))) (S.le s) (by omega)).mono ?_⟩;rintro r Bk T ⟨p6,n6,c6,rfl,C⟩;rw [ab,ab] at C;refine ⟨_,_,_,rfl,fun r_ D=>(cJ _ (P.le (o.trans (A.trans (q.trans (B.trans (s.trans (T.trans D))))))) (C.le D) (by omega) (by omega)).mono ?_⟩;rintro r wI kq g;rw [aM,ab,←j] at g;obtain ⟨n,d,p,rfl⟩:=g.shape;exact ⟨_,_,_,rfl,fun xZ U=>g.le U⟩
 ·skip
  refine (fL (hx.le l) hk (by omega)).mono ?_;rintro r H h ⟨p1,n1,c1,rfl,I⟩;refine ⟨_,_,_,_,rfl,fun J e=>(fL (hy.le (l.trans (h.trans e))) hm (by omega)).mono ?_⟩;rintro r K i ⟨p2,n2,c2,rfl,L⟩;refine ⟨_,_,_,_,rfl,fun M f=>(gw _ _ (I.le (e.trans (i.trans f))) (L.le f) (by omega)).mono ?_⟩;rintro r N O u;rw [aM,aM] at u;obtain ⟨p3,n3,c3,rfl,P⟩:=u;have z:=l.trans (h.trans (e.trans (i.trans (f.trans O))));refine ⟨_,_,_,_,rfl,fun Q o=>(eY (hx.le (z.trans o)) hk (by omega)).mono ?_⟩;rintro r ll A ⟨p4,n4,c4,rfl,R⟩;refine ⟨_,_,_,rfl,fun ny q=>(eY (hy.le (z.trans (o.trans (A.trans q)))) hm (by omega)).mono ?_⟩;rintro r oD B ⟨p5,n5,c5,rfl,S⟩;refine ⟨_,_,_,rfl,fun rZ s=>(gg (R.le (q.trans (B.trans s))) (S.le s) (by omega)).mono ?_⟩;rintro r Bk T ⟨p6,n6,c6,rfl,C⟩;rw [ab,ab] at C;refine ⟨_,_,_,rfl,fun r_ D=>(cJ _ (P.le (o.trans (A.trans (q.trans (B.trans (s.trans (T.trans D))))))) (C.le D) (by omega) (by omega)).mono ?_⟩;rintro r wI kq g;rw [aM,ab,←j] at g;obtain ⟨n,d,p,rfl⟩:=g.shape;exact ⟨_,_,_,rfl,fun xZ U=>g.le U⟩
theorem inv_neg {q:Rat}(h:q.num<0):(q⁻¹).num=-(q.den:Int)/\(q⁻¹).den=q.num.natAbs:=by
 show (Rat.inv q).num=_/\(Rat.inv q).den=_;unfold Rat.inv;rw [dif_pos h];exact ⟨rfl,rfl⟩
theorem inv_pos {q:Rat}(h:0<q.num):(q⁻¹).num=(q.den:Int)/\(q⁻¹).den=q.num.natAbs:=by
 show (Rat.inv q).num=_/\(Rat.inv q).den=_;unfold Rat.inv;rw [dif_neg (by omega),dif_pos h];exact ⟨rfl,rfl⟩
theorem inv_zero {q:Rat}(h:q.num=0):q⁻¹=0:=by
 have:q=0:=Rat.num_eq_zero.1 h;subst this;exact Rat.inv_zero
theorem fm {k:Nat}{q:Rat}(h:Sz k q):Sz k q⁻¹:=by
 rcases Int.lt_trichotomy q.num 0 with a|a|a
 ·obtain ⟨b,c⟩:=inv_neg a;refine ⟨?_,?_⟩
  ·rw [b,Int.natAbs_neg];exact h.2
  ·rw [c];exact h.1
 ·rw [inv_zero a];exact ⟨Nat.two_pow_pos _,Nat.lt_of_le_of_lt (Nat.pos_of_ne_zero q.den_nz) h.2⟩
 ·obtain ⟨b,c⟩:=inv_pos a;exact ⟨by rw [b];exact h.2,by rw [c];exact h.1⟩
theorem KA {V:View}{v:Value}{q:Rat}(h:RR V v q){k:Nat}(hs:Sz k q)(hk:k<=1099511627776):Acts prog 236 #[v] V fun r V'=>RR V' r q⁻¹:=by
 rcases h with ⟨rfl,hw⟩|⟨a,b,p,n,c,s,t,y,rfl,z,A,B,C,D,hw⟩
 ·obtain ⟨l,m⟩:=hw;have H:=q.den_nz;refine nr _ _ _ V _ ⟨(fun d=>nomatch d),fun _=>⟨fun g I J=>?_,fun g=>⟨fun j K L=>?_,fun j M N=>?_⟩⟩⟩
  ·have g:=of_decide_eq_true g;obtain ⟨f,i⟩:=inv_neg g;refine .inl ⟨?_,?_⟩
   ·rw [f,i,i64w (x:=(q.den:Int)-1+1) (by omega),i64w (x:=0-q.num) (by omega),i64w (x:=0-((q.den:Int)-1+1)) (by omega),i64w (by omega)];congr 4
    ·omega
    ·congr 1;omega
   ·unfold Wd;rw [f,i,Int.natAbs_neg];exact ⟨m,l⟩
  ·have j:q.num=0:=by simpa using j
   rw [inv_zero j];exact .inl ⟨rfl,by decide,by decide⟩
  ·have g:¬q.num<0:=of_decide_eq_false g;have j:q.num≠0:=by simpa using j
   obtain ⟨f,i⟩:=inv_pos (q:=q) (by omega);refine .inl ⟨?_,?_⟩
   ·rw [f,i,i64w (x:=(q.den:Int)-1+1) (by omega),i64w (by omega)];congr 4
    ·omega
    ·congr 1;omega
   ·unfold Wd;rw [f,i];exact ⟨m,l⟩
 ·obtain ⟨rfl,E⟩:=C.inv;have O:=ae hs.1;have P:=ae hs.2;refine nr _ _ _ V _ ⟨fun _=>⟨rfl,rfl,rfl,decide (q.num<0),⟨a.add 0,by simp [addrAdd,Addr.add],z⟩,rfl,rfl,s,t,y,⟨a.add 2,rfl,B⟩,rfl,rfl,rfl,p,n,c,⟨a.add 1,by simp [addrAdd,Addr.add],A⟩,fun Q o=>(cJ _ (D.le o) (E.le o) (by omega) (by omega)).mono ?_⟩,fun d=>nomatch d⟩;rintro r V2 R h
  have e:mkRat (aZ (decide (q.num<0)) (af q.den)) (val (af q.num.natAbs))=q⁻¹:=by
   rw [ab]
   have F:aZ (decide (q.num<0)) (af q.den)=if q.num<0 then -(q.den:Int) else (q.den:Int):=by
    unfold aZ;rw [ab];by_cases g:q.num<0<;>simp [g]
   rw [F];rcases Int.lt_trichotomy q.num 0 with d|d|d
   ·obtain ⟨f,i⟩:=inv_neg d;rw [if_pos d,←f,←i,Rat.mkRat_self]
   ·rw [inv_zero d,d];simp
   ·obtain ⟨f,i⟩:=inv_pos d;rw [if_neg (by omega),←f,←i,Rat.mkRat_self]
  rw [e] at h;obtain ⟨u,v,w,rfl⟩:=h.shape;exact ⟨_,_,_,rfl,fun S G=>h.le G⟩
theorem zH {V:View}{v w:Value}{x y:Rat}(hx:RR V v x)(hy:RR V w y){k m:Nat}(hk:Sz k x)(hm:Sz m y)(hkm:k+m<1099511627776) :
  Acts prog 213 #[v,w] V fun r V'=>RR V' r (x*y⁻¹):=by
 have a:=hx;have b:=hy;obtain ⟨h,i,j,rfl⟩:=hx.shape;obtain ⟨l,s1,s2,rfl⟩:=hy.shape;refine xk h i j l s1 s2 V _ fun q d=>(KA (b.le d) hm (by omega)).mono ?_;rintro r V2 n e;have c:=e;obtain ⟨u,v,w,rfl⟩:=e.shape;refine ⟨_,_,_,rfl,fun s f=>(ji (a.le (d.trans (n.trans f))) (c.le f) hk (fm hm) hkm).mono ?_⟩;rintro r t z g;have o:=g;obtain ⟨u,v,w,rfl⟩:=g.shape;exact ⟨_,_,_,rfl,fun A p=>o.le p⟩
def RPt (V:View)(v:Value)(x y:Rat):Prop:=∃(x1 x2:Int)(p:OA)(y1 y2:Int)(q:OA),v=.agg #[.int .i64 x1,.int .i64 x2,.pointer p,.int .i64 y1,.int .i64 y2,.pointer q] /\
 RR V (.agg #[.int .i64 x1,.int .i64 x2,.pointer p]) x/\RR V (.agg #[.int .i64 y1,.int .i64 y2,.pointer q]) y
theorem RPt.le {V V':View}{v:Value}{x y:Rat}(h:RPt V v x y)(l:V.Le V'):RPt V' v x y:=by
 obtain ⟨a,b,p,c,d,q,e,f,g⟩:=h;exact ⟨a,b,p,c,d,q,e,f.le l,g.le l⟩
theorem zK {V:View}{p:Value}{fG fH:Rat}{q:Value}{pk po:Rat}(hp:RPt V p fG fH)(hq:RPt V q pk po){k:Nat}(dO:Sz k fG)(dP:Sz k fH)(k_:Sz k pk)(ld:Sz k po)(hk:2*k+1<274877906944) :
  Acts prog 233 #[p,q] V fun r V'=>RPt V' r ((fG)+(pk)) ((fH)+(po)):=by
 have i:=hp;obtain ⟨j,l,m,n,o,s,rfl,t,u⟩:=hp;have v:=hq;obtain ⟨w,x,y,z,A,B,rfl,C,D⟩:=hq;refine xD j l m n o s w x y z A B V _ fun F a=>(kx (t.le (a)) (C.le (a)) dO k_ (by omega)).mono ?_;rintro r V2 e f;have b:=f;obtain ⟨G,H,I,rfl⟩:=f.shape;refine ⟨_,_,_,rfl,fun J c=>(kx (u.le (a.trans (e.trans (c)))) (D.le (a.trans (e.trans (c)))) dP ld (by omega)).mono ?_⟩;rintro r K E g;have d:=g;obtain ⟨L,M,N,rfl⟩:=g.shape;exact ⟨_,_,_,rfl,fun O h=>⟨_,_,_,_,_,_,rfl,(b.le (c.trans (E.trans (h)))),(d.le (h))⟩⟩
theorem wv {fG fH pk po:Rat}{k:Nat}(dO:Sz k fG)(dP:Sz k fH)(k_:Sz k pk)(ld:Sz k po):Sz (2*k+1) ((fG)+(pk)):=by
 have a:=Sz.mono (m:=2*k+1) (Sz.add dO k_) (by omega);exact Sz.mono a (by omega)
theorem wA {fG fH pk po:Rat}{k:Nat}(dO:Sz k fG)(dP:Sz k fH)(k_:Sz k pk)(ld:Sz k po):Sz (2*k+1) ((fH)+(po)):=by
 have a:=Sz.mono (m:=2*k+1) (Sz.add dP ld) (by omega);exact Sz.mono a (by omega)
theorem lF {V:View}{p:Value}{fG fH:Rat}{c:Value}{Kh:Rat}(hp:RPt V p fG fH)(hc:RR V c Kh){k:Nat}(dO:Sz k fG)(dP:Sz k fH)(He:Sz k Kh)(hk:2*k+1<274877906944) :
  Acts prog 234 #[p,c] V fun r V'=>RPt V' r ((fG)*(Kh)) ((fH)*(Kh)):=by
 have l:=hp;obtain ⟨m,n,o,q,s,t,rfl,u,v⟩:=hp;have a:=hc;obtain ⟨w,x,y,rfl⟩:=hc.shape;refine sO m n o q s t w x y V _ fun A b=>(ji (u.le (b)) (a.le (b)) dO He (by omega)).mono ?_;rintro r V2 g h;have d:=h;obtain ⟨B,C,D,rfl⟩:=h.shape;refine ⟨_,_,_,rfl,fun E e=>(ji (v.le (b.trans (g.trans (e)))) (a.le (b.trans (g.trans (e)))) dP He (by omega)).mono ?_⟩;rintro r F z i;have f:=i;obtain ⟨G,H,I,rfl⟩:=i.shape;exact ⟨_,_,_,rfl,fun J j=>⟨_,_,_,_,_,_,rfl,(d.le (e.trans (z.trans (j)))),(f.le (j))⟩⟩
theorem eC {fG fH Kh:Rat}{k:Nat}(dO:Sz k fG)(dP:Sz k fH)(He:Sz k Kh):Sz (2*k+1) ((fG)*(Kh)):=by
 have a:=Sz.mono (m:=2*k+1) (Sz.mul dO He) (by omega);exact Sz.mono a (by omega)
theorem eE {fG fH Kh:Rat}{k:Nat}(dO:Sz k fG)(dP:Sz k fH)(He:Sz k Kh):Sz (2*k+1) ((fH)*(Kh)):=by
 have a:=Sz.mono (m:=2*k+1) (Sz.mul dP He) (by omega);exact Sz.mono a (by omega)
theorem kG {V:View}{p:Value}{fG fH:Rat}{q:Value}{pk po:Rat}(hp:RPt V p fG fH)(hq:RPt V q pk po){k:Nat}(dO:Sz k fG)(dP:Sz k fH)(k_:Sz k pk)(ld:Sz k po)(hk:4*k+3<274877906944) :
  Acts prog 174 #[p,q] V fun r V'=>RR V' r (((fG)*(pk))+((fH)*(po))):=by
 have j:=hp;obtain ⟨l,n,o,s,t,u,rfl,v,w⟩:=hp;have x:=hq;obtain ⟨y,z,A,B,C,D,rfl,E,F⟩:=hq;refine xE l n o s t u y z A B C D V _ fun L a=>(ji (v.le (a)) (E.le (a)) dO k_ (by omega)).mono ?_;rintro r V2 e f;have b:=f;obtain ⟨M,N,O,rfl⟩:=f.shape;have G:=Sz.mono (m:=2*k+1) (Sz.mul dO k_) (by omega);refine ⟨_,_,_,rfl,fun P c=>(ji (w.le (a.trans (e.trans (c)))) (F.le (a.trans (e.trans (c)))) dP ld (by omega)).mono ?_⟩;rintro r Q H g;have d:=g;obtain ⟨R,S,T,rfl⟩:=g.shape;have I:=Sz.mono (m:=2*k+1) (Sz.mul dP ld) (by omega);refine ⟨_,_,_,rfl,fun U h=>(kx (b.le (c.trans (H.trans (h)))) (d.le (h)) G I (by omega)).mono ?_⟩;rintro r W X i;have J:=i;obtain ⟨Y,Z,LG,rfl⟩:=i.shape;exact ⟨_,_,_,rfl,fun V7 K=>(J.le (K))⟩
theorem cT {fG fH pk po:Rat}{k:Nat}(dO:Sz k fG)(dP:Sz k fH)(k_:Sz k pk)(ld:Sz k po):Sz (4*k+3) (((fG)*(pk))+((fH)*(po))):=by
 have a:=Sz.mono (m:=2*k+1) (Sz.mul dO k_) (by omega);have b:=Sz.mono (m:=2*k+1) (Sz.mul dP ld) (by omega);have c:=Sz.mono (m:=4*k+3) (Sz.add a b) (by omega);exact Sz.mono c (by omega)
theorem tX {V:View}{p:Value}{fG fH:Rat}{q:Value}{pk po:Rat}(hp:RPt V p fG fH)(hq:RPt V q pk po){k:Nat}(dO:Sz k fG)(dP:Sz k fH)(k_:Sz k pk)(ld:Sz k po)(hk:4*k+3<274877906944) :
  Acts prog 216 #[p,q] V fun r V'=>RR V' r (((fG)*(po))-((fH)*(pk))):=by
 have j:=hp;obtain ⟨l,n,o,s,t,u,rfl,v,w⟩:=hp;have x:=hq;obtain ⟨y,z,A,B,C,D,rfl,E,F⟩:=hq;refine sN l n o s t u y z A B C D V _ fun L a=>(ji (v.le (a)) (F.le (a)) dO ld (by omega)).mono ?_;rintro r V2 e f;have b:=f;obtain ⟨M,N,O,rfl⟩:=f.shape;have G:=Sz.mono (m:=2*k+1) (Sz.mul dO ld) (by omega);refine ⟨_,_,_,rfl,fun P c=>(ji (w.le (a.trans (e.trans (c)))) (E.le (a.trans (e.trans (c)))) dP k_ (by omega)).mono ?_⟩;rintro r Q H g;have d:=g;obtain ⟨R,S,T,rfl⟩:=g.shape;have I:=Sz.mono (m:=2*k+1) (Sz.mul dP k_) (by omega);refine ⟨_,_,_,rfl,fun U h=>(zI (b.le (c.trans (H.trans (h)))) (d.le (h)) G I (by omega)).mono ?_⟩;rintro r W X i;have J:=i;obtain ⟨Y,Z,LG,rfl⟩:=i.shape;exact ⟨_,_,_,rfl,fun V7 K=>(J.le (K))⟩
theorem rA {fG fH pk po:Rat}{k:Nat}(dO:Sz k fG)(dP:Sz k fH)(k_:Sz k pk)(ld:Sz k po):Sz (4*k+3) (((fG)*(po))-((fH)*(pk))):=by
 have a:=Sz.mono (m:=2*k+1) (Sz.mul dO ld) (by omega);have b:=Sz.mono (m:=2*k+1) (Sz.mul dP k_) (by omega);have c:=Sz.mono (m:=4*k+3) (Sz.sub a b) (by omega);exact Sz.mono c (by omega)
theorem kF {V:View}{l:Value}{bw l_1 cP:Rat}(hl:te V l bw l_1 cP){k:Nat}(aX:Sz k bw)(bf:Sz k l_1)(aW:Sz k cP)(hk:1*k+1<274877906944) :
  Acts prog 171 #[l] V fun r V'=>RPt V' r (l_1) (-(bw)):=by
 have f:=hl;obtain ⟨g,a,c,b,h,i,j,m,n,rfl,o,p,q⟩:=hl;refine xC g a c b h i j m n V _ fun s a=>(fK (o.le (a)) aX (by omega)).mono ?_;rintro r V2 c e;have d:=e;obtain ⟨t,u,v,rfl⟩:=e.shape;exact ⟨_,_,_,rfl,fun w b=>⟨_,_,_,_,_,_,rfl,(p.le (a.trans (c.trans (b)))),(d.le (b))⟩⟩
theorem jc {bw l_1 cP:Rat}{k:Nat}(aX:Sz k bw)(bf:Sz k l_1)(aW:Sz k cP):Sz (1*k+0) (l_1):=by
 exact Sz.mono bf (by omega)
theorem jd {bw l_1 cP:Rat}{k:Nat}(aX:Sz k bw)(bf:Sz k l_1)(aW:Sz k cP):Sz (1*k+0) (-(bw)):=by
 have a:=Sz.mono (m:=1*k+0) (Sz.neg aX) (by omega);exact Sz.mono a (by omega)
theorem gT {V:View}{l:Value}{bw l_1 cP:Rat}(hl:te V l bw l_1 cP){k:Nat}(aX:Sz k bw)(bf:Sz k l_1)(aW:Sz k cP)(hk:1*k+1<274877906944) :
  Acts prog 173 #[l] V fun r V'=>RPt V' r (bw) (l_1):=by
 have b:=hl;obtain ⟨c,a,d,e,f,g,h,i,j,rfl,m,n,o⟩:=hl;exact q_ c a d e f g h i j V _ fun p a=>⟨_,_,_,_,_,_,rfl,(m.le (a)),(n.le (a))⟩
theorem cG {bw l_1 cP:Rat}{k:Nat}(aX:Sz k bw)(bf:Sz k l_1)(aW:Sz k cP):Sz (1*k+0) (bw):=by
 exact Sz.mono aX (by omega)
theorem cH {bw l_1 cP:Rat}{k:Nat}(aX:Sz k bw)(bf:Sz k l_1)(aW:Sz k cP):Sz (1*k+0) (l_1):=by
 exact Sz.mono bf (by omega)
theorem qj {V:View}{l:Value}{bw l_1 cP:Rat}(hl:te V l bw l_1 cP){k:Nat}(aX:Sz k bw)(bf:Sz k l_1)(aW:Sz k cP)(hk:1*k+1<274877906944) :
  Acts prog 198 #[l] V fun r V'=>te V' r (-(bw)) (-(l_1)) (-(cP)):=by
 have o:=hl;obtain ⟨p,a,e,b,f,c,g,d,q,rfl,s,t,u⟩:=hl;refine pU p a e b f c g d q V _ fun w a=>(fK (s.le (a)) aX (by omega)).mono ?_;rintro r V2 e j;have h:=j;obtain ⟨x,y,z,rfl⟩:=j.shape;refine ⟨_,_,_,rfl,fun A b=>(fK (t.le (a.trans (e.trans (b)))) bf (by omega)).mono ?_⟩;rintro r B f m;have i:=m;obtain ⟨C,D,E,rfl⟩:=m.shape;refine ⟨_,_,_,rfl,fun F c=>(fK (u.le (a.trans (e.trans (b.trans (f.trans (c)))))) aW (by omega)).mono ?_⟩;rintro r G g n;have v:=n;obtain ⟨H,I,J,rfl⟩:=n.shape;exact ⟨_,_,_,rfl,fun K d=>⟨_,_,_,_,_,_,_,_,_,rfl,(h.le (b.trans (f.trans (c.trans (g.trans (d)))))),(i.le (c.trans (g.trans (d)))),(v.le (d))⟩⟩
theorem lE {V:View}{l:Value}{bw l_1 cP:Rat}{p:Value}{fG fH:Rat}(hl:te V l bw l_1 cP)(hp:RPt V p fG fH){k:Nat}(aX:Sz k bw)(bf:Sz k l_1)(aW:Sz k cP)(dO:Sz k fG)(dP:Sz k fH)(hk:5*k+4<274877906944) :
  Acts prog 145 #[l,p] V fun r V'=>RR V' r ((((bw)*(fG))+((l_1)*(fH)))+(cP)):=by
 have e:=hl;obtain ⟨v,a,c,b,f,d,n,g,w,rfl,G,H,x⟩:=hl;have h:=hp;obtain ⟨y,z,A,B,C,D,rfl,I,J⟩:=hp;refine sM v a c b f d n g w y z A B C D V _ fun K a=>(gT (e.le (a)) (Sz.mono aX (by omega):Sz (1*k+0) _) (Sz.mono bf (by omega):Sz (1*k+0) _) (Sz.mono aW (by omega):Sz (1*k+0) _) (by omega)).mono ?_;rintro r V2 c o;have i:=o;obtain ⟨L,M,N,O,P,Q,rfl,R,S⟩:=o;have q:=Sz.mono (m:=1*k+0) ((cG (Sz.mono aX (by omega):Sz (1*k+0) _) (Sz.mono bf (by omega):Sz (1*k+0) _) (Sz.mono aW (by omega):Sz (1*k+0) _))) (by omega);have s:=Sz.mono (m:=1*k+0) ((cH (Sz.mono aX (by omega):Sz (1*k+0) _) (Sz.mono bf (by omega):Sz (1*k+0) _) (Sz.mono aW (by omega):Sz (1*k+0) _))) (by omega);refine ⟨_,_,_,_,_,_,rfl,fun T b=>(kG (i.le (b)) (h.le (a.trans (c.trans (b)))) (Sz.mono q (by omega):Sz (1*k+0) _) (Sz.mono s (by omega):Sz (1*k+0) _) (Sz.mono dO (by omega):Sz (1*k+0) _) (Sz.mono dP (by omega):Sz (1*k+0) _) (by omega)).mono ?_⟩;rintro r U f t;have j:=t;obtain ⟨W,X,Y,rfl⟩:=t.shape;have E:=Sz.mono (m:=4*k+3) ((cT (Sz.mono q (by omega):Sz (1*k+0) _) (Sz.mono s (by omega):Sz (1*k+0) _) (Sz.mono dO (by omega):Sz (1*k+0) _) (Sz.mono dP (by omega):Sz (1*k+0) _))) (by omega);refine ⟨_,_,_,rfl,fun Z d=>(kx (j.le (d)) (x.le (a.trans (c.trans (b.trans (f.trans (d)))))) E aW (by omega)).mono ?_⟩;rintro r V6 n u;have F:=u;obtain ⟨LC,LD,LG,rfl⟩:=u.shape;exact ⟨_,_,_,rfl,fun V7 g=>(F.le (g))⟩
theorem ko {bw l_1 cP fG fH:Rat}{k:Nat}(aX:Sz k bw)(bf:Sz k l_1)(aW:Sz k cP)(dO:Sz k fG)(dP:Sz k fH):Sz (5*k+4) ((((bw)*(fG))+((l_1)*(fH)))+(cP)):=by
 have a:=Sz.mono (m:=1*k+0) ((cG (Sz.mono aX (by omega):Sz (1*k+0) _) (Sz.mono bf (by omega):Sz (1*k+0) _) (Sz.mono aW (by omega):Sz (1*k+0) _))) (by omega);have b:=Sz.mono (m:=1*k+0) ((cH (Sz.mono aX (by omega):Sz (1*k+0) _) (Sz.mono bf (by omega):Sz (1*k+0) _) (Sz.mono aW (by omega):Sz (1*k+0) _))) (by omega);have c:=Sz.mono (m:=4*k+3) ((cT (Sz.mono a (by omega):Sz (1*k+0) _) (Sz.mono b (by omega):Sz (1*k+0) _) (Sz.mono dO (by omega):Sz (1*k+0) _) (Sz.mono dP (by omega):Sz (1*k+0) _))) (by omega);have d:=Sz.mono (m:=5*k+4) (Sz.add c aW) (by omega);exact Sz.mono d (by omega)
theorem mY {V:View}{l:Value}{bw l_1 cP:Rat}(hl:te V l bw l_1 cP){k:Nat}(aX:Sz k bw)(bf:Sz k l_1)(aW:Sz k cP)(hk:10*k+9<274877906944) :
  Acts prog 212 #[l] V fun r V'=>RPt V' r ((bw)*(((-(cP))*(((bw)*(bw))+((l_1)*(l_1)))⁻¹))) ((l_1)*(((-(cP))*(((bw)*(bw))+((l_1)*(l_1)))⁻¹))):=by
 have n:=hl;obtain ⟨A,i,o,b,d,c,j,e,p,rfl,K,L,B⟩:=hl;refine vP A i o b d c j e p V _ fun M i=>(gT (n.le (i)) (Sz.mono aX (by omega):Sz (1*k+0) _) (Sz.mono bf (by omega):Sz (1*k+0) _) (Sz.mono aW (by omega):Sz (1*k+0) _) (by omega)).mono ?_;rintro r V2 o s;have a:=s;obtain ⟨N,O,P,Q,R,S,rfl,T,U⟩:=s;have f:=Sz.mono (m:=1*k+0) ((cG (Sz.mono aX (by omega):Sz (1*k+0) _) (Sz.mono bf (by omega):Sz (1*k+0) _) (Sz.mono aW (by omega):Sz (1*k+0) _))) (by omega);have g:=Sz.mono (m:=1*k+0) ((cH (Sz.mono aX (by omega):Sz (1*k+0) _) (Sz.mono bf (by omega):Sz (1*k+0) _) (Sz.mono aW (by omega):Sz (1*k+0) _))) (by omega);refine ⟨_,_,_,_,_,_,rfl,fun W b=>(fK (B.le (i.trans (o.trans (b)))) aW (by omega)).mono ?_⟩;rintro r X d t;have q:=t;obtain ⟨Y,Z,Kb,rfl⟩:=t.shape;have u:=Sz.mono (m:=1*k+0) (Sz.neg aW) (by omega);refine ⟨_,_,_,rfl,fun V5 c=>(kG (a.le (b.trans (d.trans (c)))) (a.le (b.trans (d.trans (c)))) (Sz.mono f (by omega):Sz (1*k+0) _) (Sz.mono g (by omega):Sz (1*k+0) _) (Sz.mono f (by omega):Sz (1*k+0) _) (Sz.mono g (by omega):Sz (1*k+0) _) (by omega)).mono ?_⟩;rintro r V6 j v;have C:=v;obtain ⟨LC,LD,LG,rfl⟩:=v.shape;have w:=Sz.mono (m:=4*k+3) ((cT (Sz.mono f (by omega):Sz (1*k+0) _) (Sz.mono g (by omega):Sz (1*k+0) _) (Sz.mono f (by omega):Sz (1*k+0) _) (Sz.mono g (by omega):Sz (1*k+0) _))) (by omega);refine ⟨_,_,_,rfl,fun V7 e=>(zH (q.le (c.trans (j.trans (e)))) (C.le (e)) u w (by omega)).mono ?_⟩;rintro r V8 p x;have D:=x;obtain ⟨UA,UB,UC,rfl⟩:=x.shape;have E:=Sz.mono (m:=5*k+4) (Sz.mul u (fm w)) (by omega);refine ⟨_,_,_,rfl,fun V9 y=>(lF (a.le (b.trans (d.trans (c.trans (j.trans (e.trans (p.trans (y)))))))) (D.le (y)) (Sz.mono f (by omega):Sz (5*k+4) _) (Sz.mono g (by omega):Sz (5*k+4) _) (Sz.mono E (by omega):Sz (5*k+4) _) (by omega)).mono ?_⟩;rintro r F G z;have KJ:=z;obtain ⟨ZK,ZL,ZM,ZN,ZO,ZP,rfl,H,I⟩:=z;exact ⟨_,_,_,_,_,_,rfl,fun J h=>⟨_,_,_,_,_,_,rfl,(H.le (h)),(I.le (h))⟩⟩
theorem dk {bw l_1 cP:Rat}{k:Nat}(aX:Sz k bw)(bf:Sz k l_1)(aW:Sz k cP):Sz (10*k+9) ((bw)*(((-(cP))*(((bw)*(bw))+((l_1)*(l_1)))⁻¹))):=by
 have a:=Sz.mono (m:=1*k+0) ((cG (Sz.mono aX (by omega):Sz (1*k+0) _) (Sz.mono bf (by omega):Sz (1*k+0) _) (Sz.mono aW (by omega):Sz (1*k+0) _))) (by omega);have b:=Sz.mono (m:=1*k+0) ((cH (Sz.mono aX (by omega):Sz (1*k+0) _) (Sz.mono bf (by omega):Sz (1*k+0) _) (Sz.mono aW (by omega):Sz (1*k+0) _))) (by omega);have c:=Sz.mono (m:=1*k+0) (Sz.neg aW) (by omega);have d:=Sz.mono (m:=4*k+3) ((cT (Sz.mono a (by omega):Sz (1*k+0) _) (Sz.mono b (by omega):Sz (1*k+0) _) (Sz.mono a (by omega):Sz (1*k+0) _) (Sz.mono b (by omega):Sz (1*k+0) _))) (by omega);have e:=Sz.mono (m:=5*k+4) (Sz.mul c (fm d)) (by omega);have f:=Sz.mono (m:=10*k+9) ((eC (Sz.mono a (by omega):Sz (5*k+4) _) (Sz.mono b (by omega):Sz (5*k+4) _) (Sz.mono e (by omega):Sz (5*k+4) _))) (by omega);exact Sz.mono f (by omega)
theorem dm {bw l_1 cP:Rat}{k:Nat}(aX:Sz k bw)(bf:Sz k l_1)(aW:Sz k cP):Sz (10*k+9) ((l_1)*(((-(cP))*(((bw)*(bw))+((l_1)*(l_1)))⁻¹))):=by
 have a:=Sz.mono (m:=1*k+0) ((cG (Sz.mono aX (by omega):Sz (1*k+0) _) (Sz.mono bf (by omega):Sz (1*k+0) _) (Sz.mono aW (by omega):Sz (1*k+0) _))) (by omega);have b:=Sz.mono (m:=1*k+0) ((cH (Sz.mono aX (by omega):Sz (1*k+0) _) (Sz.mono bf (by omega):Sz (1*k+0) _) (Sz.mono aW (by omega):Sz (1*k+0) _))) (by omega);have c:=Sz.mono (m:=1*k+0) (Sz.neg aW) (by omega);have d:=Sz.mono (m:=4*k+3) ((cT (Sz.mono a (by omega):Sz (1*k+0) _) (Sz.mono b (by omega):Sz (1*k+0) _) (Sz.mono a (by omega):Sz (1*k+0) _) (Sz.mono b (by omega):Sz (1*k+0) _))) (by omega);have e:=Sz.mono (m:=5*k+4) (Sz.mul c (fm d)) (by omega);have f:=Sz.mono (m:=10*k+9) ((eE (Sz.mono a (by omega):Sz (5*k+4) _) (Sz.mono b (by omega):Sz (5*k+4) _) (Sz.mono e (by omega):Sz (5*k+4) _))) (by omega);exact Sz.mono f (by omega)
theorem BA {V:View}{l:Value}{bw l_1 cP:Rat}{t:Value}{EF:Rat}(hl:te V l bw l_1 cP)(ht:RR V t EF){k:Nat}(aX:Sz k bw)(bf:Sz k l_1)(aW:Sz k cP)(vG:Sz k EF)(hk:20*k+19<274877906944) :
  Acts prog 210 #[l,t] V fun r V'=>RPt V' r ((((bw)*(((-(cP))*(((bw)*(bw))+((l_1)*(l_1)))⁻¹))))+(((l_1)*(EF)))) ((((l_1)*(((-(cP))*(((bw)*(bw))+((l_1)*(l_1)))⁻¹))))+((((-(bw)))*(EF)))):=by
 have a:=hl;obtain ⟨y,b,e,c,f,d,h,g,q,rfl,G,H,I⟩:=hl;have i:=ht;obtain ⟨t0,t1,t2,rfl⟩:=ht.shape;refine AQ y b e c f d h g q t0 t1 t2 V _ fun J b=>(mY (a.le (b)) (Sz.mono aX (by omega):Sz (1*k+0) _) (Sz.mono bf (by omega):Sz (1*k+0) _) (Sz.mono aW (by omega):Sz (1*k+0) _) (by omega)).mono ?_;rintro r V2 e s;have j:=s;obtain ⟨K,L,M,N,O,P,rfl,Q,R⟩:=s;have z:=Sz.mono (m:=10*k+9) ((dk (Sz.mono aX (by omega):Sz (1*k+0) _) (Sz.mono bf (by omega):Sz (1*k+0) _) (Sz.mono aW (by omega):Sz (1*k+0) _))) (by omega);have A:=Sz.mono (m:=10*k+9) ((dm (Sz.mono aX (by omega):Sz (1*k+0) _) (Sz.mono bf (by omega):Sz (1*k+0) _) (Sz.mono aW (by omega):Sz (1*k+0) _))) (by omega);refine ⟨_,_,_,_,_,_,rfl,fun S c=>(kF (a.le (b.trans (e.trans (c)))) (Sz.mono aX (by omega):Sz (1*k+0) _) (Sz.mono bf (by omega):Sz (1*k+0) _) (Sz.mono aW (by omega):Sz (1*k+0) _) (by omega)).mono ?_⟩;rintro r T f u;have n:=u;obtain ⟨U,W,X,Y,Z,Ut,rfl,RV,RX⟩:=u;have o:=Sz.mono (m:=1*k+0) ((jc (Sz.mono aX (by omega):Sz (1*k+0) _) (Sz.mono bf (by omega):Sz (1*k+0) _) (Sz.mono aW (by omega):Sz (1*k+0) _))) (by omega);have p:=Sz.mono (m:=1*k+0) ((jd (Sz.mono aX (by omega):Sz (1*k+0) _) (Sz.mono bf (by omega):Sz (1*k+0) _) (Sz.mono aW (by omega):Sz (1*k+0) _))) (by omega);refine ⟨_,_,_,_,_,_,rfl,fun V5 d=>(lF (n.le (d)) (i.le (b.trans (e.trans (c.trans (f.trans (d)))))) (Sz.mono o (by omega):Sz (1*k+0) _) (Sz.mono p (by omega):Sz (1*k+0) _) (Sz.mono vG (by omega):Sz (1*k+0) _) (by omega)).mono ?_⟩;rintro r V6 h v;have B:=v;obtain ⟨Uu,Uv,Uw,Ux,Uy,Uz,rfl,O1,O2⟩:=v;have C:=Sz.mono (m:=2*k+1) ((eC (Sz.mono o (by omega):Sz (1*k+0) _) (Sz.mono p (by omega):Sz (1*k+0) _) (Sz.mono vG (by omega):Sz (1*k+0) _))) (by omega);have D:=Sz.mono (m:=2*k+1) ((eE (Sz.mono o (by omega):Sz (1*k+0) _) (Sz.mono p (by omega):Sz (1*k+0) _) (Sz.mono vG (by omega):Sz (1*k+0) _))) (by omega);refine ⟨_,_,_,_,_,_,rfl,fun V7 g=>(zK (j.le (c.trans (f.trans (d.trans (h.trans (g)))))) (B.le (g)) (Sz.mono z (by omega):Sz (10*k+9) _) (Sz.mono A (by omega):Sz (10*k+9) _) (Sz.mono C (by omega):Sz (10*k+9) _) (Sz.mono D (by omega):Sz (10*k+9) _) (by omega)).mono ?_⟩;rintro r V8 q w;have Kk:=w;obtain ⟨ZE,ZF,ZG,ZH,ZI,ZJ,rfl,E,F⟩:=w;exact ⟨_,_,_,_,_,_,rfl,fun V9 x=>⟨_,_,_,_,_,_,rfl,(E.le (x)),(F.le (x))⟩⟩
theorem xV {bw l_1 cP EF:Rat}{k:Nat}(aX:Sz k bw)(bf:Sz k l_1)(aW:Sz k cP)(vG:Sz k EF):Sz (20*k+19) ((((bw)*(((-(cP))*(((bw)*(bw))+((l_1)*(l_1)))⁻¹))))+(((l_1)*(EF)))):=by
 have c:=Sz.mono (m:=10*k+9) ((dk (Sz.mono aX (by omega):Sz (1*k+0) _) (Sz.mono bf (by omega):Sz (1*k+0) _) (Sz.mono aW (by omega):Sz (1*k+0) _))) (by omega);have d:=Sz.mono (m:=10*k+9) ((dm (Sz.mono aX (by omega):Sz (1*k+0) _) (Sz.mono bf (by omega):Sz (1*k+0) _) (Sz.mono aW (by omega):Sz (1*k+0) _))) (by omega);have a:=Sz.mono (m:=1*k+0) ((jc (Sz.mono aX (by omega):Sz (1*k+0) _) (Sz.mono bf (by omega):Sz (1*k+0) _) (Sz.mono aW (by omega):Sz (1*k+0) _))) (by omega);have b:=Sz.mono (m:=1*k+0) ((jd (Sz.mono aX (by omega):Sz (1*k+0) _) (Sz.mono bf (by omega):Sz (1*k+0) _) (Sz.mono aW (by omega):Sz (1*k+0) _))) (by omega);have e:=Sz.mono (m:=2*k+1) ((eC (Sz.mono a (by omega):Sz (1*k+0) _) (Sz.mono b (by omega):Sz (1*k+0) _) (Sz.mono vG (by omega):Sz (1*k+0) _))) (by omega);have f:=Sz.mono (m:=2*k+1) ((eE (Sz.mono a (by omega):Sz (1*k+0) _) (Sz.mono b (by omega):Sz (1*k+0) _) (Sz.mono vG (by omega):Sz (1*k+0) _))) (by omega);have g:=Sz.mono (m:=20*k+19) ((wv (Sz.mono c (by omega):Sz (10*k+9) _) (Sz.mono d (by omega):Sz (10*k+9) _) (Sz.mono e (by omega):Sz (10*k+9) _) (Sz.mono f (by omega):Sz (10*k+9) _))) (by omega);exact Sz.mono g (by omega)
theorem xW {bw l_1 cP EF:Rat}{k:Nat}(aX:Sz k bw)(bf:Sz k l_1)(aW:Sz k cP)(vG:Sz k EF):Sz (20*k+19) ((((l_1)*(((-(cP))*(((bw)*(bw))+((l_1)*(l_1)))⁻¹))))+((((-(bw)))*(EF)))):=by
 have c:=Sz.mono (m:=10*k+9) ((dk (Sz.mono aX (by omega):Sz (1*k+0) _) (Sz.mono bf (by omega):Sz (1*k+0) _) (Sz.mono aW (by omega):Sz (1*k+0) _))) (by omega);have d:=Sz.mono (m:=10*k+9) ((dm (Sz.mono aX (by omega):Sz (1*k+0) _) (Sz.mono bf (by omega):Sz (1*k+0) _) (Sz.mono aW (by omega):Sz (1*k+0) _))) (by omega);have a:=Sz.mono (m:=1*k+0) ((jc (Sz.mono aX (by omega):Sz (1*k+0) _) (Sz.mono bf (by omega):Sz (1*k+0) _) (Sz.mono aW (by omega):Sz (1*k+0) _))) (by omega);have b:=Sz.mono (m:=1*k+0) ((jd (Sz.mono aX (by omega):Sz (1*k+0) _) (Sz.mono bf (by omega):Sz (1*k+0) _) (Sz.mono aW (by omega):Sz (1*k+0) _))) (by omega);have e:=Sz.mono (m:=2*k+1) ((eC (Sz.mono a (by omega):Sz (1*k+0) _) (Sz.mono b (by omega):Sz (1*k+0) _) (Sz.mono vG (by omega):Sz (1*k+0) _))) (by omega);have f:=Sz.mono (m:=2*k+1) ((eE (Sz.mono a (by omega):Sz (1*k+0) _) (Sz.mono b (by omega):Sz (1*k+0) _) (Sz.mono vG (by omega):Sz (1*k+0) _))) (by omega);have g:=Sz.mono (m:=20*k+19) ((wA (Sz.mono c (by omega):Sz (10*k+9) _) (Sz.mono d (by omega):Sz (10*k+9) _) (Sz.mono e (by omega):Sz (10*k+9) _) (Sz.mono f (by omega):Sz (10*k+9) _))) (by omega);exact Sz.mono g (by omega)
theorem iI {V:View}{v w:Value}{x y:Rat}(hx:RQ V v x)(hy:RQ V w y)(hy0:y.num≠0){k m:Nat}(hk:Sz k x)(hm:Sz m y)(hkm:k+m<274877906944) :
  Acts prog 83 #[v,w] V fun r V'=>RQ V' r (x*y⁻¹):=by
 obtain ⟨p,n,c,K,L,M,rfl,d,f⟩:=hx;obtain ⟨q,i,e,N,O,P,rfl,g,j⟩:=hy;have l:=fm hm;have q1:=ae hk.1;have q2:=ae hk.2;have q3:=ae hm.1;have q4:=ae l.1
 have E:(y⁻¹).num=(if decide (y.num<0)=true then -((y.den:Nat):Int) else ((y.den:Nat):Int))/\(y⁻¹).den=y.num.natAbs:=by
  rcases Int.lt_or_gt_of_ne hy0 with h|h
  ·rw [if_pos (decide_eq_true h)];exact inv_neg h
  ·rw [if_neg (fun Q=>by have:=of_decide_eq_true Q;omega)];exact inv_pos h
 have o:x*y⁻¹=mkRat (x.num*(y⁻¹).num) (x.den*(y⁻¹).den):=Rat.mul_def' x y⁻¹;have R:(x.num*(y⁻¹).num).natAbs<2^(k+m):=by rw [Int.natAbs_mul];exact bz hk.1 l.1
 have S:x.den*(y⁻¹).den<2^(k+m):=bz hk.2 l.2;refine Dq _ p n c K L M _ q i e N O P V _ fun V1 s=>(cQ y _ (j.le s)).mono ?_;rintro r V2 F ⟨p1,n1,c1,rfl,T⟩;refine ⟨_,_,_,rfl,fun V3 t=>(fh _ (T.le t)).mono ?_⟩;rw [←E.1];rintro r V4 G ⟨p4,n4,c4,rfl,U⟩;refine ⟨_,_,_,_,rfl,fun V5 u=>(jR x.num (y⁻¹).num (d.le (s.trans (F.trans (t.trans (G.trans u))))) (U.le u) (by omega)).mono ?_⟩;rintro r V6 W ⟨p6,n6,c6,rfl,X⟩;have H:=s.trans (F.trans (t.trans (G.trans (u.trans W))));refine ⟨_,_,_,_,rfl,fun V7 z=>(cQ x _ (f.le (H.trans z))).mono ?_⟩;rintro r V8 I ⟨p8,n8,c8,rfl,Y⟩;refine ⟨_,_,_,rfl,fun V9 A=>(cj (Y.le A) (g.le (H.trans (z.trans (I.trans A)))) (by omega)).mono ?_⟩;rintro r Z B ⟨Hw,a0,a1,rfl,a⟩;rw [ab,ab,←E.2] at a;refine ⟨_,_,_,rfl,fun a2 b=>(nB _ (X.le (z.trans (I.trans (A.trans (B.trans b))))) (a.le b) (Nat.le_trans (ae R) (by omega)) (Nat.le_trans (ae S) (by omega)) (Nat.mul_ne_zero x.den_nz (y⁻¹).den_nz)).mono ?_⟩;rw [o];rintro r wI kq ⟨Ww,a3,a4,Wx,a5,Vd,rfl,C,D⟩;exact ⟨_,_,_,_,_,_,_,rfl,fun xZ J=>⟨_,_,_,_,_,_,rfl,C.le J,D.le J⟩⟩
theorem Gp {V:View}(z:Int){p:OA}{n c:Nat}(h:RD V p n c (af z.natAbs)) :
  Acts prog 84 #[.agg #[.bool (decide (z<0)),.slice p n c]] V fun r V'=>RQ V' r (z:Rat):=
 E3 _ p n c V _ fun b a=>nj (z:=z) (d:=1) rfl rfl (h.le a) RD.nil rfl
theorem tY {V:View}{v:Value}{q:Rat}(h:RQ V v q){k:Nat}(_s:Sz k q)(_hk:k<=1099511627776):Acts prog 64 #[v] V fun r V'=>RQ V' r (-q):=by
 obtain ⟨p,n,c,d,e,f,rfl,a,b⟩:=h;exact mF q a b
theorem aR {V:View}{z:Int}{p:OA}{n c:Nat}(h:RD V p n c (af z.natAbs)){k:Nat}(_s:Sz k (z:Rat))(_hk:k<=1099511627776) :
  Acts prog 84 #[.agg #[.bool (decide (z<0)),.slice p n c]] V fun r V'=>RQ V' r (z:Rat):=Gp z h
theorem dH {V:View}{l:Value}{bw l_1 cP:Int}(hl:RL V l bw l_1 cP){k:Nat}(aX:Sz k ((bw:Int):Rat))(bf:Sz k ((l_1:Int):Rat))(aW:Sz k ((cP:Int):Rat))(hk:1*k+1<274877906944) :
  Acts prog 99 #[l] V fun r V'=>RP V' r (((l_1:Int):Rat)) (-(((bw:Int):Rat))):=by
 have p:=hl;obtain ⟨q,a,e,b,f,c,g,d,s,rfl,t,u,x⟩:=hl;refine A7 _ q a e _ b f c _ g d s V _ fun y a=>(aR (u.le (a)) bf (by omega)).mono ?_;rintro r V2 e j;have h:=j;obtain ⟨z,A,B,C,D,E,rfl⟩:=j.shape;refine ⟨_,_,_,_,_,_,_,rfl,fun F b=>(aR (t.le (a.trans (e.trans (b)))) aX (by omega)).mono ?_⟩;rintro r G f n;have i:=n;obtain ⟨H,I,J,K,L,M,rfl⟩:=n.shape;have v:=Sz.mono (m:=1*k+0) (aX) (by omega);refine ⟨_,_,_,_,_,_,_,rfl,fun N c=>(tY (i.le (c)) v (by omega)).mono ?_⟩;rintro r O g o;have w:=o;obtain ⟨P,Q,R,S,T,U,rfl⟩:=o.shape;exact ⟨_,_,_,_,_,_,_,rfl,fun W d=>⟨_,_,_,_,_,_,_,_,_,_,_,_,rfl,(h.le (b.trans (f.trans (c.trans (g.trans (d)))))),(w.le (d))⟩⟩
theorem eV {bw:Int}{l_1:Int}{cP:Int}{k:Nat}(aX:Sz k ((bw:Int):Rat))(bf:Sz k ((l_1:Int):Rat))(aW:Sz k ((cP:Int):Rat)):Sz (1*k+0) (((l_1:Int):Rat)):=by
 have a:=Sz.mono (m:=1*k+0) (bf) (by omega);exact Sz.mono a (by omega)
theorem eW {bw:Int}{l_1:Int}{cP:Int}{k:Nat}(aX:Sz k ((bw:Int):Rat))(bf:Sz k ((l_1:Int):Rat))(aW:Sz k ((cP:Int):Rat)):Sz (1*k+0) (-(((bw:Int):Rat))):=by
 have a:=Sz.mono (m:=1*k+0) (aX) (by omega);have b:=Sz.mono (m:=1*k+0) (Sz.neg a) (by omega);exact Sz.mono b (by omega)
theorem lJ {V:View}{p:Value}{fG fH:Rat}{q:Value}{pk po:Rat}(hp:RP V p fG fH)(hq:RP V q pk po){k:Nat}(dO:Sz k fG)(dP:Sz k fH)(k_:Sz k pk)(ld:Sz k po)(hk:4*k+3<274877906944) :
  Acts prog 128 #[p,q] V fun r V'=>RQ V' r (((fG)*(pk))+((fH)*(po))):=by
 have j:=hp;obtain ⟨l,n,o,s,t,u,v,w,x,y,z,A,rfl,B,C⟩:=hp;have D:=hq;obtain ⟨E,F,G,H,I,J,K,L,M,N,O,P,rfl,Q,R⟩:=hq;refine A8 _ l n o s t u _ v w x y z A _ E F G H I J _ K L M N O P V _ fun Y a=>(aG (B.le (a)) (Q.le (a)) dO k_ (by omega)).mono ?_;rintro r V2 e f;have b:=f;obtain ⟨Z,Mx,My,WE,WG,WH,rfl⟩:=f.shape;have S:=Sz.mono (m:=2*k+1) (Sz.mul dO k_) (by omega);refine ⟨_,_,_,_,_,_,_,rfl,fun V3 c=>(aG (C.le (a.trans (e.trans (c)))) (R.le (a.trans (e.trans (c)))) dP ld (by omega)).mono ?_⟩;rintro r V4 T g;have d:=g;obtain ⟨J_,Ka,Kb,Rh,Ri,Rj,rfl⟩:=g.shape;have U:=Sz.mono (m:=2*k+1) (Sz.mul dP ld) (by omega);refine ⟨_,_,_,_,_,_,_,rfl,fun V5 h=>(cK (b.le (c.trans (T.trans (h)))) (d.le (h)) S U (by omega)).mono ?_⟩;rintro r V6 l6 i;have W:=i;obtain ⟨LC,LD,LG,Rk,Rl,Rm,rfl⟩:=i.shape;exact ⟨_,_,_,_,_,_,_,rfl,fun V7 X=>(W.le (X))⟩
theorem eX {fG:Rat}{fH:Rat}{pk:Rat}{po:Rat}{k:Nat}(dO:Sz k fG)(dP:Sz k fH)(k_:Sz k pk)(ld:Sz k po):Sz (4*k+3) (((fG)*(pk))+((fH)*(po))):=by
 have a:=Sz.mono (m:=2*k+1) (Sz.mul dO k_) (by omega);have b:=Sz.mono (m:=2*k+1) (Sz.mul dP ld) (by omega);have c:=Sz.mono (m:=4*k+3) (Sz.add a b) (by omega);exact Sz.mono c (by omega)
theorem wR {V:View}{l:Value}{bw l_1 cP:Int}{p:Value}{fG fH:Rat}(hl:RL V l bw l_1 cP)(hp:RP V p fG fH){k:Nat}(aX:Sz k ((bw:Int):Rat))(bf:Sz k ((l_1:Int):Rat))(aW:Sz k ((cP:Int):Rat))(dO:Sz k fG)(dP:Sz k fH)(hk:5*k+4<274877906944) :
  Acts prog 110 #[l,p] V fun r V'=>RQ V' r ((((((bw:Int):Rat))*(fG))+((((l_1:Int):Rat))*(fH)))+(((cP:Int):Rat))):=by
 have F:=hl;obtain ⟨G,a,c,b,f,d,g,e,j,rfl,H,I,J⟩:=hl;have K:=hp;obtain ⟨L,M,N,O,P,Q,R,S,T,U,W,X,rfl,Y,Z⟩:=hp;refine we _ G a c _ b f d _ g e j _ L M N O P Q _ R S T U W X V _ fun V1 a=>(aR (H.le (a)) aX (by omega)).mono ?_;rintro r V2 c u;have n:=u;obtain ⟨Mw,Mx,My,WE,WG,WH,rfl⟩:=u.shape;have v:=Sz.mono (m:=1*k+0) (aX) (by omega);refine ⟨_,_,_,_,_,_,_,rfl,fun V3 b=>(aG (n.le (b)) (Y.le (a.trans (c.trans (b)))) v dO (by omega)).mono ?_⟩;rintro r V4 f w;have o:=w;obtain ⟨J_,Ka,Kb,Rh,Ri,Rj,rfl⟩:=w.shape;have x:=Sz.mono (m:=2*k+1) (Sz.mul v dO) (by omega);refine ⟨_,_,_,_,_,_,_,rfl,fun V5 d=>(aR (I.le (a.trans (c.trans (b.trans (f.trans (d)))))) bf (by omega)).mono ?_⟩;rintro r V6 g y;have oS:=y;obtain ⟨LC,LD,LG,Rk,Rl,Rm,rfl⟩:=y.shape;have z:=Sz.mono (m:=1*k+0) (bf) (by omega);refine ⟨_,_,_,_,_,_,_,rfl,fun V7 e=>(aG (oS.le (e)) (Z.le (a.trans (c.trans (b.trans (f.trans (d.trans (g.trans (e)))))))) z dP (by omega)).mono ?_⟩;rintro r V8 j A;have Kk:=A;obtain ⟨UA,UB,UC,WM,WN,WO,rfl⟩:=A.shape;have B:=Sz.mono (m:=2*k+1) (Sz.mul z dP) (by omega);refine ⟨_,_,_,_,_,_,_,rfl,fun V9 q=>(cK (o.le (d.trans (g.trans (e.trans (j.trans (q)))))) (Kk.le (q)) x B (by omega)).mono ?_⟩;rintro r a0 s C;have KJ:=C;obtain ⟨ZQ,ZR,ZS,ZT,ZU,ZV,rfl⟩:=C.shape;have xU:=Sz.mono (m:=4*k+3) (Sz.add x B) (by omega);refine ⟨_,_,_,_,_,_,_,rfl,fun a1 h=>(aR (J.le (a.trans (c.trans (b.trans (f.trans (d.trans (g.trans (e.trans (j.trans (q.trans (s.trans (h)))))))))))) aW (by omega)).mono ?_⟩;rintro r a2 t D;have MY:=D;obtain ⟨ZW,ZX,ZY,ZZ,Z3,Z7,rfl⟩:=D.shape;have Ke:=Sz.mono (m:=1*k+0) (aW) (by omega);refine ⟨_,_,_,_,_,_,_,rfl,fun a3 i=>(cK (KJ.le (h.trans (t.trans (i)))) (MY.le (i)) xU Ke (by omega)).mono ?_⟩;rintro r a4 c_ E;have MZ:=E;obtain ⟨Z8,Z_,a5,a6,a7,a8,rfl⟩:=E.shape;exact ⟨_,_,_,_,_,_,_,rfl,fun a9 dq=>(MZ.le (dq))⟩
theorem wQ {V:View}{l:Value}{bw l_1 cP:Int}{p:Value}{fG fH:Rat}(hl:RL V l bw l_1 cP)(hp:RP V p fG fH)(hd0:((((((l_1:Int):Rat)))*((((l_1:Int):Rat))))+(((-(((bw:Int):Rat))))*((-(((bw:Int):Rat)))))).num≠0){k:Nat}(aX:Sz k ((bw:Int):Rat))(bf:Sz k ((l_1:Int):Rat))(aW:Sz k ((cP:Int):Rat))(dO:Sz k fG)(dP:Sz k fH)(hk:8*k+7<274877906944) :
  Acts prog 140 #[l,p] V fun r V'=>RQ V' r ((((fG)*((((l_1:Int):Rat))))+((fH)*((-(((bw:Int):Rat))))))*((((((l_1:Int):Rat)))*((((l_1:Int):Rat))))+(((-(((bw:Int):Rat))))*((-(((bw:Int):Rat))))))⁻¹):=by
 have i:=hl;obtain ⟨x,f,j,b,g,e,n,h,s,rfl,P,Q,R⟩:=hl;have o:=hp;obtain ⟨y,z,A,B,C,D,E,F,G,H,I,J,rfl,S,T⟩:=hp;refine wc _ x f j _ b g e _ n h s _ y z A B C D _ E F G H I J V _ fun U f=>(dH (i.le (f)) (Sz.mono aX (by omega):Sz (1*k+0) _) (Sz.mono bf (by omega):Sz (1*k+0) _) (Sz.mono aW (by omega):Sz (1*k+0) _) (by omega)).mono ?_;rintro r V2 j t;have a:=t;obtain ⟨W,X,Y,Z,J7,J8,QG,QH,QI,QJ,Mu,Mv,rfl,Il,Im⟩:=t;have c:=Sz.mono (m:=1*k+0) ((eV (Sz.mono aX (by omega):Sz (1*k+0) _) (Sz.mono bf (by omega):Sz (1*k+0) _) (Sz.mono aW (by omega):Sz (1*k+0) _))) (by omega);have d:=Sz.mono (m:=1*k+0) ((eW (Sz.mono aX (by omega):Sz (1*k+0) _) (Sz.mono bf (by omega):Sz (1*k+0) _) (Sz.mono aW (by omega):Sz (1*k+0) _))) (by omega);refine ⟨_,_,_,_,_,_,_,_,_,_,_,_,_,_,rfl,fun V3 b=>(lJ (o.le (f.trans (j.trans (b)))) (a.le (b)) (Sz.mono dO (by omega):Sz (1*k+0) _) (Sz.mono dP (by omega):Sz (1*k+0) _) (Sz.mono c (by omega):Sz (1*k+0) _) (Sz.mono d (by omega):Sz (1*k+0) _) (by omega)).mono ?_⟩;rintro r V4 g u;have q:=u;obtain ⟨J_,Ka,Kb,Rh,Ri,Rj,rfl⟩:=u.shape;have K:=Sz.mono (m:=4*k+3) ((eX (Sz.mono dO (by omega):Sz (1*k+0) _) (Sz.mono dP (by omega):Sz (1*k+0) _) (Sz.mono c (by omega):Sz (1*k+0) _) (Sz.mono d (by omega):Sz (1*k+0) _))) (by omega);refine ⟨_,_,_,_,_,_,_,rfl,fun V5 e=>(lJ (a.le (b.trans (g.trans (e)))) (a.le (b.trans (g.trans (e)))) (Sz.mono c (by omega):Sz (1*k+0) _) (Sz.mono d (by omega):Sz (1*k+0) _) (Sz.mono c (by omega):Sz (1*k+0) _) (Sz.mono d (by omega):Sz (1*k+0) _) (by omega)).mono ?_⟩;rintro r V6 n v;have L:=v;obtain ⟨LC,LD,LG,Rk,Rl,Rm,rfl⟩:=v.shape;have M:=Sz.mono (m:=4*k+3) ((eX (Sz.mono c (by omega):Sz (1*k+0) _) (Sz.mono d (by omega):Sz (1*k+0) _) (Sz.mono c (by omega):Sz (1*k+0) _) (Sz.mono d (by omega):Sz (1*k+0) _))) (by omega);refine ⟨_,_,_,_,_,_,_,rfl,fun V7 h=>(iI (q.le (e.trans (n.trans (h)))) (L.le (h)) hd0 K M (by omega)).mono ?_⟩;rintro r V8 s w;have N:=w;obtain ⟨UA,UB,UC,WM,WN,WO,rfl⟩:=w.shape;exact ⟨_,_,_,_,_,_,_,rfl,fun V9 O=>(N.le (O))⟩
theorem oH {V:View}{l:Value}{bw l_1 cP:Int}(hl:RL V l bw l_1 cP)(hd0:((((((l_1:Int):Rat)))*((((l_1:Int):Rat))))+(((-(((bw:Int):Rat))))*((-(((bw:Int):Rat)))))).num≠0){k:Nat}(aX:Sz k ((bw:Int):Rat))(bf:Sz k ((l_1:Int):Rat))(aW:Sz k ((cP:Int):Rat))(hk:6*k+5<274877906944) :
  Acts prog 80 #[l] V fun r V'=>RP V' r ((-((((cP:Int):Rat))*((((((l_1:Int):Rat)))*((((l_1:Int):Rat))))+(((-(((bw:Int):Rat))))*((-(((bw:Int):Rat))))))⁻¹))*(((bw:Int):Rat))) ((-((((cP:Int):Rat))*((((((l_1:Int):Rat)))*((((l_1:Int):Rat))))+(((-(((bw:Int):Rat))))*((-(((bw:Int):Rat))))))⁻¹))*(((l_1:Int):Rat))):=by
 have t:=hl;obtain ⟨P,f,i,c,g,d,j,h,p,rfl,Q,R,S⟩:=hl;refine xJ _ P f i _ c g d _ j h p V _ fun V1 f=>(dH (t.le (f)) (Sz.mono aX (by omega):Sz (1*k+0) _) (Sz.mono bf (by omega):Sz (1*k+0) _) (Sz.mono aW (by omega):Sz (1*k+0) _) (by omega)).mono ?_;rintro r V2 i y;have n:=y;obtain ⟨J1,J3,J4,J6,J7,J8,QG,QH,QI,QJ,Mu,Mv,rfl,Il,Im⟩:=y;have q:=Sz.mono (m:=1*k+0) ((eV (Sz.mono aX (by omega):Sz (1*k+0) _) (Sz.mono bf (by omega):Sz (1*k+0) _) (Sz.mono aW (by omega):Sz (1*k+0) _))) (by omega);have s:=Sz.mono (m:=1*k+0) ((eW (Sz.mono aX (by omega):Sz (1*k+0) _) (Sz.mono bf (by omega):Sz (1*k+0) _) (Sz.mono aW (by omega):Sz (1*k+0) _))) (by omega);refine ⟨_,_,_,_,_,_,_,_,_,_,_,_,_,_,rfl,fun V3 c=>(aR (S.le (f.trans (i.trans (c)))) aW (by omega)).mono ?_⟩;rintro r V4 g z;have u:=z;obtain ⟨J_,Ka,Kb,Rh,Ri,Rj,rfl⟩:=z.shape;have A:=Sz.mono (m:=1*k+0) (aW) (by omega);refine ⟨_,_,_,_,_,_,_,rfl,fun V5 d=>(lJ (n.le (c.trans (g.trans (d)))) (n.le (c.trans (g.trans (d)))) (Sz.mono q (by omega):Sz (1*k+0) _) (Sz.mono s (by omega):Sz (1*k+0) _) (Sz.mono q (by omega):Sz (1*k+0) _) (Sz.mono s (by omega):Sz (1*k+0) _) (by omega)).mono ?_⟩;rintro r V6 j B;have T:=B;obtain ⟨LC,LD,LG,Rk,Rl,Rm,rfl⟩:=B.shape;have C:=Sz.mono (m:=4*k+3) ((eX (Sz.mono q (by omega):Sz (1*k+0) _) (Sz.mono s (by omega):Sz (1*k+0) _) (Sz.mono q (by omega):Sz (1*k+0) _) (Sz.mono s (by omega):Sz (1*k+0) _))) (by omega);refine ⟨_,_,_,_,_,_,_,rfl,fun V7 h=>(iI (u.le (d.trans (j.trans (h)))) (T.le (h)) hd0 A C (by omega)).mono ?_⟩;rintro r V8 p D;have U:=D;obtain ⟨UA,UB,UC,WM,WN,WO,rfl⟩:=D.shape;have E:=Sz.mono (m:=5*k+4) (Sz.mul A (fm C)) (by omega);refine ⟨_,_,_,_,_,_,_,rfl,fun V9 v=>(tY (U.le (v)) E (by omega)).mono ?_⟩;rintro r W o F;have G:=F;obtain ⟨ZQ,ZR,ZS,ZT,ZU,ZV,rfl⟩:=F.shape;have H:=Sz.mono (m:=5*k+4) (Sz.neg E) (by omega);refine ⟨_,_,_,_,_,_,_,rfl,fun X a=>(aR (Q.le (f.trans (i.trans (c.trans (g.trans (d.trans (j.trans (h.trans (p.trans (v.trans (o.trans (a)))))))))))) aX (by omega)).mono ?_⟩;rintro r Y e I;have Z:=I;obtain ⟨ZW,ZX,ZY,ZZ,Z3,Z7,rfl⟩:=I.shape;have Ke:=Sz.mono (m:=1*k+0) (aX) (by omega);refine ⟨_,_,_,_,_,_,_,rfl,fun a0 b=>(aG (G.le (a.trans (e.trans (b)))) (Z.le (b)) H Ke (by omega)).mono ?_⟩;rintro r a1 J K;have MZ:=K;obtain ⟨Z8,Z_,a2,a3,a4,a5,rfl⟩:=K.shape;refine ⟨_,_,_,_,_,_,_,rfl,fun a6 w=>(aR (R.le (f.trans (i.trans (c.trans (g.trans (d.trans (j.trans (h.trans (p.trans (v.trans (o.trans (a.trans (e.trans (b.trans (J.trans (w)))))))))))))))) bf (by omega)).mono ?_⟩;rintro r ll L M;have KK:=M;obtain ⟨a7,a8,a9,b0,b1,b2,rfl⟩:=M.shape;have N9:=Sz.mono (m:=1*k+0) (bf) (by omega);refine ⟨_,_,_,_,_,_,_,rfl,fun ny x=>(aG (G.le (a.trans (e.trans (b.trans (J.trans (w.trans (L.trans (x)))))))) (KK.le (x)) H N9 (by omega)).mono ?_⟩;rintro r oD dz N;have XZ:=N;obtain ⟨b3,b4,b5,b6,b7,b8,rfl⟩:=N.shape;exact ⟨_,_,_,_,_,_,_,rfl,fun rZ O=>⟨_,_,_,_,_,_,_,_,_,_,_,_,rfl,(MZ.le (w.trans (L.trans (x.trans (dz.trans (O)))))),(XZ.le (O))⟩⟩
theorem wB {bw:Int}{l_1:Int}{cP:Int}{k:Nat}(aX:Sz k ((bw:Int):Rat))(bf:Sz k ((l_1:Int):Rat))(aW:Sz k ((cP:Int):Rat)):Sz (6*k+5) ((-((((cP:Int):Rat))*((((((l_1:Int):Rat)))*((((l_1:Int):Rat))))+(((-(((bw:Int):Rat))))*((-(((bw:Int):Rat))))))⁻¹))*(((bw:Int):Rat))):=by
 have a:=Sz.mono (m:=1*k+0) ((eV (Sz.mono aX (by omega):Sz (1*k+0) _) (Sz.mono bf (by omega):Sz (1*k+0) _) (Sz.mono aW (by omega):Sz (1*k+0) _))) (by omega);have b:=Sz.mono (m:=1*k+0) ((eW (Sz.mono aX (by omega):Sz (1*k+0) _) (Sz.mono bf (by omega):Sz (1*k+0) _) (Sz.mono aW (by omega):Sz (1*k+0) _))) (by omega);have c:=Sz.mono (m:=1*k+0) (aW) (by omega);have d:=Sz.mono (m:=4*k+3) ((eX (Sz.mono a (by omega):Sz (1*k+0) _) (Sz.mono b (by omega):Sz (1*k+0) _) (Sz.mono a (by omega):Sz (1*k+0) _) (Sz.mono b (by omega):Sz (1*k+0) _))) (by omega);have e:=Sz.mono (m:=5*k+4) (Sz.mul c (fm d)) (by omega);have f:=Sz.mono (m:=5*k+4) (Sz.neg e) (by omega);have g:=Sz.mono (m:=1*k+0) (aX) (by omega);have h:=Sz.mono (m:=6*k+5) (Sz.mul f g) (by omega);exact Sz.mono h (by omega)
theorem wC {bw:Int}{l_1:Int}{cP:Int}{k:Nat}(aX:Sz k ((bw:Int):Rat))(bf:Sz k ((l_1:Int):Rat))(aW:Sz k ((cP:Int):Rat)):Sz (6*k+5) ((-((((cP:Int):Rat))*((((((l_1:Int):Rat)))*((((l_1:Int):Rat))))+(((-(((bw:Int):Rat))))*((-(((bw:Int):Rat))))))⁻¹))*(((l_1:Int):Rat))):=by
 have a:=Sz.mono (m:=1*k+0) ((eV (Sz.mono aX (by omega):Sz (1*k+0) _) (Sz.mono bf (by omega):Sz (1*k+0) _) (Sz.mono aW (by omega):Sz (1*k+0) _))) (by omega);have b:=Sz.mono (m:=1*k+0) ((eW (Sz.mono aX (by omega):Sz (1*k+0) _) (Sz.mono bf (by omega):Sz (1*k+0) _) (Sz.mono aW (by omega):Sz (1*k+0) _))) (by omega);have c:=Sz.mono (m:=1*k+0) (aW) (by omega);have d:=Sz.mono (m:=4*k+3) ((eX (Sz.mono a (by omega):Sz (1*k+0) _) (Sz.mono b (by omega):Sz (1*k+0) _) (Sz.mono a (by omega):Sz (1*k+0) _) (Sz.mono b (by omega):Sz (1*k+0) _))) (by omega);have e:=Sz.mono (m:=5*k+4) (Sz.mul c (fm d)) (by omega);have f:=Sz.mono (m:=5*k+4) (Sz.neg e) (by omega);have g:=Sz.mono (m:=1*k+0) (bf) (by omega);have h:=Sz.mono (m:=6*k+5) (Sz.mul f g) (by omega);exact Sz.mono h (by omega)
theorem DU {V:View}{l:Value}{bw l_1 cP:Int}{t:Value}{EF:Rat}(hl:RL V l bw l_1 cP)(ht:RQ V t EF)(hd0:((((((l_1:Int):Rat)))*((((l_1:Int):Rat))))+(((-(((bw:Int):Rat))))*((-(((bw:Int):Rat)))))).num≠0){k:Nat}(aX:Sz k ((bw:Int):Rat))(bf:Sz k ((l_1:Int):Rat))(aW:Sz k ((cP:Int):Rat))(vG:Sz k EF)(hk:18*k+16<274877906944) :
  Acts prog 49 #[l,t] V fun r V'=>RP V' r (((-((((cP:Int):Rat))*((((((l_1:Int):Rat)))*((((l_1:Int):Rat))))+(((-(((bw:Int):Rat))))*((-(((bw:Int):Rat))))))⁻¹))*(((bw:Int):Rat)))+(EF)*(((l_1:Int):Rat))) (((-((((cP:Int):Rat))*((((((l_1:Int):Rat)))*((((l_1:Int):Rat))))+(((-(((bw:Int):Rat))))*((-(((bw:Int):Rat))))))⁻¹))*(((l_1:Int):Rat)))+(EF)*(-(((bw:Int):Rat)))):=by
 have a:=hl;obtain ⟨s,b,e,c,f,d,n,g,u,rfl,B,C,D⟩:=hl;have h:=ht;obtain ⟨t0,t1,t2,t3,t4,t5,rfl⟩:=ht.shape;refine Dy _ s b e _ c f d _ n g u _ t0 t1 t2 t3 t4 t5 V _ fun E b=>(oH (a.le (b)) hd0 (Sz.mono aX (by omega):Sz (1*k+0) _) (Sz.mono bf (by omega):Sz (1*k+0) _) (Sz.mono aW (by omega):Sz (1*k+0) _) (by omega)).mono ?_;rintro r V2 e o;have i:=o;obtain ⟨F,G,H,I,J,K,L,M,N,O,P,Q,rfl,R,S⟩:=o;have v:=Sz.mono (m:=6*k+5) ((wB (Sz.mono aX (by omega):Sz (1*k+0) _) (Sz.mono bf (by omega):Sz (1*k+0) _) (Sz.mono aW (by omega):Sz (1*k+0) _))) (by omega);have w:=Sz.mono (m:=6*k+5) ((wC (Sz.mono aX (by omega):Sz (1*k+0) _) (Sz.mono bf (by omega):Sz (1*k+0) _) (Sz.mono aW (by omega):Sz (1*k+0) _))) (by omega);refine ⟨_,_,_,_,_,_,_,_,_,_,_,_,_,_,rfl,fun T c=>(dH (a.le (b.trans (e.trans (c)))) (Sz.mono aX (by omega):Sz (1*k+0) _) (Sz.mono bf (by omega):Sz (1*k+0) _) (Sz.mono aW (by omega):Sz (1*k+0) _) (by omega)).mono ?_⟩;rintro r U f p;have j:=p;obtain ⟨W,X,Y,Z,Ur,Ut,Zw,Zx,Zy,Zz,WI,WJ,rfl,RV,RX⟩:=p;have x:=Sz.mono (m:=1*k+0) ((eV (Sz.mono aX (by omega):Sz (1*k+0) _) (Sz.mono bf (by omega):Sz (1*k+0) _) (Sz.mono aW (by omega):Sz (1*k+0) _))) (by omega);have y:=Sz.mono (m:=1*k+0) ((eW (Sz.mono aX (by omega):Sz (1*k+0) _) (Sz.mono bf (by omega):Sz (1*k+0) _) (Sz.mono aW (by omega):Sz (1*k+0) _))) (by omega);refine ⟨_,_,_,_,_,_,_,_,_,_,_,_,_,_,rfl,fun V5 d=>(lI (i.le (c.trans (f.trans (d)))) (h.le (b.trans (e.trans (c.trans (f.trans (d)))))) (j.le (d)) (Sz.mono v (by omega):Sz (6*k+5) _) (Sz.mono w (by omega):Sz (6*k+5) _) (Sz.mono vG (by omega):Sz (6*k+5) _) (Sz.mono x (by omega):Sz (6*k+5) _) (Sz.mono y (by omega):Sz (6*k+5) _) (by omega)).mono ?_⟩;rintro r V6 n q;have oS:=q;obtain ⟨Uu,Uv,Uw,Ux,Uy,Uz,ZA,ZB,ZC,ZD,WK,WL,rfl,z,A⟩:=q;exact ⟨_,_,_,_,_,_,_,_,_,_,_,_,_,_,rfl,fun V7 g=>⟨_,_,_,_,_,_,_,_,_,_,_,_,rfl,(z.le (g)),(A.le (g))⟩⟩
theorem wK {V:View}{l p:Value}{bw l_1 cP fG fH:Rat}(hl:te V l bw l_1 cP)(hp:RPt V p fG fH){k:Nat}(s0:Sz k bw)(s1:Sz k l_1)(s2:Sz k cP)(s3:Sz k fG)(s4:Sz k fH)(hk:16*k+16<274877906944) :
  Acts prog 106 #[l,p] V fun r V'=>r=.int .i64 (bw*fG+l_1*fH+cP).num.sign:=by
 have a:=hl;have b:=hp;obtain ⟨d,e,f,h,i,j,m,n,o,rfl,-,-,-⟩:=hl;obtain ⟨q,s,t,x,y,z,rfl,-,-⟩:=hp;refine vQ d e f h i j m n o q s t x y z V _ fun C c=>(lE (a.le c) (b.le c) s0 s1 s2 s3 s4 (by omega)).mono ?_;rintro r V2 D g;have A:=g;obtain ⟨u,v,w,rfl⟩:=g.shape;refine ⟨_,_,_,rfl,fun E B=>(fM (A.le B) (ko s0 s1 s2 s3 s4) (by omega)).mono ?_⟩;rintro r F G rfl;exact ⟨_,rfl,fun H I=>rfl⟩
end Go.Proofs.Tryz
namespace Go.Proofs.Tryz
open Go.Eng
set_option maxRecDepth 100000
end Go.Proofs.Tryz
namespace Go.Proofs.Tryz
open Go.Eng Go.Big
theorem zN {V:View}{l p:Value}{bw l_1 cP:Int}{fG fH:Rat}(hl:RL V l bw l_1 cP)(hp:RP V p fG fH){k:Nat}(s0:Sz k ((bw:Int):Rat))(s1:Sz k ((l_1:Int):Rat))(s2:Sz k ((cP:Int):Rat))(s3:Sz k fG)(s4:Sz k fH)(hk:16*k+16<274877906944) :
  Acts prog 58 #[l,p] V fun r V'=>r=.int .i64 ((bw:Rat)*fG+(l_1:Rat)*fH+(cP:Rat)).num.sign:=by
 have a:=hl;have b:=hp;obtain ⟨d,e,f,g,h,i,j,m,n,rfl,-,-,-⟩:=hl;obtain ⟨o,q,s,t,u,v,w,x,y,z,A,B,rfl,-,-⟩:=hp;refine xM _ d e f _ g h i _ j m n _ o q s t u v _ w x y z A B V _ fun E c=>(wR (a.le c) (b.le c) s0 s1 s2 s3 s4 (by omega)).mono ?_;rintro r V2 F ⟨G,H,I,J,K,L,rfl,C,M⟩;refine ⟨_,_,_,_,_,_,_,rfl,fun N D=>(tg _ (C.le D)).mono ?_⟩;rintro r O P rfl;exact ⟨_,rfl,fun Q R=>rfl⟩
theorem c_ref04_Rev {V:View}{l:Value}{a b c:Int}(hl:RL V l a b c):Acts prog 44 #[l] V fun r V'=>RL V' r (-a) (-b) (-c):=by
 obtain ⟨k,m,n,o,p,q,s,t,u,rfl,v,w,x⟩:=hl;refine A9 _ k m n _ o p q _ s t u V _ fun B d=>(gI a (v.le d)).mono ?_;rintro r V2 h ⟨C,D,E,rfl,y⟩;refine ⟨_,_,_,_,rfl,fun F e=>(gI b (w.le (d.trans (h.trans e)))).mono ?_⟩;rintro r G i ⟨H,I,J,rfl,z⟩;refine ⟨_,_,_,_,rfl,fun K f=>(gI c (x.le (d.trans (h.trans (e.trans (i.trans f)))))).mono ?_⟩;rintro r L j ⟨M,N,O,rfl,A⟩;exact ⟨_,_,_,_,rfl,fun P g=>⟨_,_,_,_,_,_,_,_,_,rfl,y.le (e.trans (i.trans (f.trans (j.trans g)))),z.le (f.trans (j.trans g)),A.le g⟩⟩
end Go.Proofs.Tryz
namespace Go.Eng
open Go.Big
theorem RR.zero (V:View):RR V (.agg #[.int .i64 0,.int .i64 0,.pointer none]) 0:=.inl ⟨rfl,by unfold Wd;decide⟩
end Go.Eng
namespace Go.Proofs.Tryz
open Go.Eng Go.Big
structure Sp where
 lo:Rat
 hi:Rat
 a:Bool
 b:Bool
def Sp.can (s:Sp):Prop:=(s.a=true->s.lo=0)/\(s.b=true->s.hi=0)
def Sp.sz (k:Nat)(s:Sp):Prop:=Sz k s.lo/\Sz k s.hi
def Sp.zero:Sp:=⟨0,0,false,false⟩
def jL (k:Nat)(l:L3):Prop:=Sz k (l.1:Rat)/\Sz k (l.2.1:Rat)/\Sz k (l.2.2:Rat)
def Bi (V:View)(v:Value)(s:Sp):Prop:=∃(x1 x2:Int)(p:OA)(y1 y2:Int)(q:OA),v=.agg #[.int .i64 x1,.int .i64 x2,.pointer p,.int .i64 y1,.int .i64 y2,.pointer q,.bool s.a,.bool s.b] /\
 RR V (.agg #[.int .i64 x1,.int .i64 x2,.pointer p]) s.lo/\RR V (.agg #[.int .i64 y1,.int .i64 y2,.pointer q]) s.hi
theorem Bi.le {V V':View}{v:Value}{s:Sp}(h:Bi V v s)(l:V.Le V'):Bi V' v s:=by
 obtain ⟨a,b,p,c,d,q,e,f,g⟩:=h;exact ⟨a,b,p,c,d,q,e,f.le l,g.le l⟩
def RLi (V:View)(v:Value)(l:L3):Prop:=te V v (l.1:Rat) (l.2.1:Rat) (l.2.2:Rat)
theorem RLi.le {V V':View}{v:Value}{l:L3}(h:RLi V v l)(e:V.Le V'):RLi V' v l:=te.le h e
def LH (V:View)(v:Value)(l:L3)(s:Sp):Prop:=∃(x1 x2:Int)(p:OA)(y1 y2:Int)(q:OA)(z1 z2:Int)(r:OA)(u1 u2:Int)(t:OA)(w1 w2:Int)(o:OA),
 v=.agg #[.int .i64 x1,.int .i64 x2,.pointer p,.int .i64 y1,.int .i64 y2,.pointer q,.int .i64 z1,.int .i64 z2,.pointer r,.int .i64 u1,.int .i64 u2,.pointer t,.int .i64 w1,.int .i64 w2,.pointer o,.bool s.a,.bool s.b] /\
 RLi V (.agg #[.int .i64 x1,.int .i64 x2,.pointer p,.int .i64 y1,.int .i64 y2,.pointer q,.int .i64 z1,.int .i64 z2,.pointer r]) l /\
 Bi V (.agg #[.int .i64 u1,.int .i64 u2,.pointer t,.int .i64 w1,.int .i64 w2,.pointer o,.bool s.a,.bool s.b]) s
theorem LH.le {V V':View}{v:Value}{l:L3}{s:Sp}(h:LH V v l s)(e:V.Le V'):LH V' v l s:=by
 obtain ⟨a,b,p,c,d,q,f,g,r,i,j,t,k,m,o,rfl,n,u⟩:=h;exact ⟨a,b,p,c,d,q,f,g,r,i,j,t,k,m,o,rfl,n.le e,u.le e⟩
def lf (V:View)(v:Value)(s:Sp):Prop:=∃b p n c p' n' c' d q m e q' m' e',v=.agg #[.bool b,.slice p n c,.slice p' n' c',.bool d,.slice q m e,.slice q' m' e',.bool s.a,.bool s.b] /\
 RQ V (.agg #[.bool b,.slice p n c,.slice p' n' c']) s.lo/\RQ V (.agg #[.bool d,.slice q m e,.slice q' m' e']) s.hi
theorem lf.le {V V':View}{v:Value}{s:Sp}(h:lf V v s)(l:V.Le V'):lf V' v s:=by
 obtain ⟨b,p,n,c,g,i,j,d,q,m,e,k,o,r,rfl,a,f⟩:=h;exact ⟨_,_,_,_,_,_,_,_,_,_,_,_,_,_,rfl,a.le l,f.le l⟩
def RF (V:View)(v:Value)(l:L3)(s:Sp):Prop:=∃b1 p1 n1 c1 b2 p2 n2 c2 b3 p3 n3 c3 b p n c p' n' c' d q m e q' m' e',
 v=.agg #[.bool b1,.slice p1 n1 c1,.bool b2,.slice p2 n2 c2,.bool b3,.slice p3 n3 c3,.bool b,.slice p n c,.slice p' n' c',.bool d,.slice q m e,.slice q' m' e',.bool s.a,.bool s.b] /\
 RL V (.agg #[.bool b1,.slice p1 n1 c1,.bool b2,.slice p2 n2 c2,.bool b3,.slice p3 n3 c3]) l.1 l.2.1 l.2.2/\lf V (.agg #[.bool b,.slice p n c,.slice p' n' c',.bool d,.slice q m e,.slice q' m' e',.bool s.a,.bool s.b]) s
theorem RF.le {V V':View}{v:Value}{l:L3}{s:Sp}(h:RF V v l s)(e:V.Le V'):RF V' v l s:=by
 obtain ⟨i,j,k,o,r,t,u,w,x,y,z,A,b,p,n,c,B,C,D,d,q,m,f,E,F,G,rfl,a,g⟩:=h;exact ⟨_,_,_,_,_,_,_,_,_,_,_,_,_,_,_,_,_,_,_,_,_,_,_,_,_,_,rfl,a.le e,g.le e⟩
theorem vr {V:View}{v:Value}{a b c:Int}(h:RL V v a b c):∃b1 p1 n1 c1 b2 p2 n2 c2 b3 p3 n3 c3,v=.agg #[.bool b1,.slice p1 n1 c1,.bool b2,.slice p2 n2 c2,.bool b3,.slice p3 n3 c3]:=by
 obtain ⟨_,_,_,_,_,_,_,_,_,e,-⟩:=h;exact ⟨_,_,_,_,_,_,_,_,_,_,_,_,e⟩
def aj (l:L3)(x y:Rat):Rat:=(l.1:Rat)*x+(l.2.1:Rat)*y+(l.2.2:Rat)
def eG (l:L3):Rat:=(l.1:Rat)*(l.1:Rat)+(l.2.1:Rat)*(l.2.1:Rat)
def Ap (l:L3)(x y:Rat):Rat:=((l.2.1:Rat)*x-(l.1:Rat)*y)*(eG l)⁻¹
def dE (l:L3)(t:Rat):Rat:=(l.2.1:Rat)*t-(l.1:Rat)*(l.2.2:Rat)*(eG l)⁻¹
def dS (l:L3)(t:Rat):Rat:=-((l.1:Rat)*t)-(l.2.1:Rat)*(l.2.2:Rat)*(eG l)⁻¹
def revL (l:L3):L3:=(-l.1,-l.2.1,-l.2.2)
def Sp.neg (s:Sp):Sp:=⟨if s.b then 0 else -s.hi,if s.a then 0 else -s.lo,s.b,s.a⟩
def Sp.emp (s:Sp):Bool:=!s.a&&!s.b&&decide (eM s.lo s.hi≥0)
def Nz (l:L3):Prop:=¬(l.1=0/\l.2.1=0)
theorem sq_nonneg (x:Int):0<=x*x:=by
 rw [←Int.natAbs_mul_self];exact Int.natCast_nonneg _
theorem I7 (l:L3):eG l=((l.1*l.1+l.2.1*l.2.1:Int):Rat):=by unfold eG;simp
theorem Nz.norm {l:L3}(h:Nz l):eG l≠0:=by
 rw [I7];have d:=sq_nonneg l.1;have f:=sq_nonneg l.2.1
 have a:l.1*l.1+l.2.1*l.2.1≠0:=by
  intro e;have b:l.1*l.1=0:=by omega
  have c:l.2.1*l.2.1=0:=by omega
  exact h ⟨(Int.mul_eq_zero.1 b).elim id id,(Int.mul_eq_zero.1 c).elim id id⟩
 exact_mod_cast a
theorem I9 {q:Rat}(h:q≠0):q.num≠0:=fun e=>h (Rat.num_eq_zero.1 e)
theorem Tf {V:View}{l t:Value}{L:L3}{x:Rat}(hl:RLi V l L)(ht:RR V t x){k:Nat}(sl:jL k L)(s1:Sz k x)(hk:20*k+19<274877906944) :
  Acts prog 210 #[l,t] V fun r V'=>RPt V' r (dE L x) (dS L x):=by
 refine (BA hl ht sl.1 sl.2.1 sl.2.2 s1 hk).mono ?_;rintro r V2 c g;have a:dE L x=((L.1:Rat)*((-(L.2.2:Rat))*((L.1:Rat)*(L.1:Rat)+(L.2.1:Rat)*(L.2.1:Rat))⁻¹))+((L.2.1:Rat)*x):=by unfold dE eG;grind
 have b:dS L x=((L.2.1:Rat)*((-(L.2.2:Rat))*((L.1:Rat)*(L.1:Rat)+(L.2.1:Rat)*(L.2.1:Rat))⁻¹))+((-(L.1:Rat))*x):=by unfold dS eG;grind
 rw [a,b];exact g
theorem EC {L:L3}{x:Rat}{k:Nat}(sl:jL k L)(s1:Sz k x):Sz (20*k+19) (dE L x):=by
 have a:dE L x=((L.1:Rat)*((-(L.2.2:Rat))*((L.1:Rat)*(L.1:Rat)+(L.2.1:Rat)*(L.2.1:Rat))⁻¹))+((L.2.1:Rat)*x):=by unfold dE eG;grind
 rw [a];exact xV sl.1 sl.2.1 sl.2.2 s1
theorem ED {L:L3}{x:Rat}{k:Nat}(sl:jL k L)(s1:Sz k x):Sz (20*k+19) (dS L x):=by
 have a:dS L x=((L.2.1:Rat)*((-(L.2.2:Rat))*((L.1:Rat)*(L.1:Rat)+(L.2.1:Rat)*(L.2.1:Rat))⁻¹))+((-(L.1:Rat))*x):=by unfold dS eG;grind
 rw [a];exact xW sl.1 sl.2.1 sl.2.2 s1
theorem pI (q:Rat):q.num.sign=0↔q=0:=by rw [Int.sign_eq_zero_iff_zero,Rat.num_eq_zero]
theorem Nt {V:View}{l p:Value}{L:L3}{x y:Rat}(hl:RLi V l L)(hp:RPt V p x y){k:Nat}(sl:jL k L)(s1:Sz k x)(s2:Sz k y)(hk:16*k+16<274877906944) :
  Acts prog 106 #[l,p] V fun r V'=>r=.int .i64 (aj L x y).num.sign:=wK hl hp sl.1 sl.2.1 sl.2.2 s1 s2 hk
theorem k_Reverse {V:View}{l:Value}{L:L3}(hl:RLi V l L){k:Nat}(sl:jL k L)(hk:1*k+1<274877906944) :
  Acts prog 198 #[l] V fun r V'=>RLi V' r (revL L):=by
 refine (qj hl sl.1 sl.2.1 sl.2.2 hk).mono ?_;rintro r V2 a g;unfold RLi revL;simpa using g
theorem jL.rev {k:Nat}{L:L3}(h:jL k L):jL k (revL L):=by
 unfold jL revL;simp only [Rat.intCast_neg];exact ⟨h.1.neg,h.2.1.neg,h.2.2.neg⟩
theorem Eu {L:L3}(h:Nz L):((((((L.2.1:Int):Rat)))*((((L.2.1:Int):Rat))))+(((-(((L.1:Int):Rat))))*((-(((L.1:Int):Rat)))))).num≠0:=by
 have:(((((L.2.1:Int):Rat)))*((((L.2.1:Int):Rat))))+(((-(((L.1:Int):Rat))))*((-(((L.1:Int):Rat)))))=eG L:=by unfold eG;grind
 rw [this];exact I9 h.norm
theorem FM {V:View}{l p:Value}{L:L3}{x y:Rat}(hl:RL V l L.1 L.2.1 L.2.2)(hp:RP V p x y)(hz:Nz L){k:Nat}(sl:jL k L)(s1:Sz k x)(s2:Sz k y)(hk:8*k+7<274877906944) :
  Acts prog 140 #[l,p] V fun r V'=>RQ V' r (Ap L x y):=by
 refine (wQ hl hp (Eu hz) sl.1 sl.2.1 sl.2.2 s1 s2 hk).mono ?_;rintro r V2 a g
 have e:Ap L x y=((((x)*((((L.2.1:Int):Rat))))+((y)*((-(((L.1:Int):Rat))))))*((((((L.2.1:Int):Rat)))*((((L.2.1:Int):Rat))))+(((-(((L.1:Int):Rat))))*((-(((L.1:Int):Rat))))))⁻¹):=by
  unfold Ap eG;grind
 rw [e];exact g
theorem T2 {V:View}{l t:Value}{L:L3}{x:Rat}(hl:RL V l L.1 L.2.1 L.2.2)(ht:RQ V t x)(hz:Nz L){k:Nat}(sl:jL k L)(s1:Sz k x)(hk:18*k+16<274877906944) :
  Acts prog 49 #[l,t] V fun r V'=>RP V' r (dE L x) (dS L x):=by
 refine (DU hl ht (Eu hz) sl.1 sl.2.1 sl.2.2 s1 hk).mono ?_;rintro r V2 c g;have a:dE L x=(((-((((L.2.2:Int):Rat))*((((((L.2.1:Int):Rat)))*((((L.2.1:Int):Rat))))+(((-(((L.1:Int):Rat))))*((-(((L.1:Int):Rat))))))⁻¹))*(((L.1:Int):Rat)))+(x)*(((L.2.1:Int):Rat))):=by unfold dE eG;grind
 have b:dS L x=(((-((((L.2.2:Int):Rat))*((((((L.2.1:Int):Rat)))*((((L.2.1:Int):Rat))))+(((-(((L.1:Int):Rat))))*((-(((L.1:Int):Rat))))))⁻¹))*(((L.2.1:Int):Rat)))+(x)*(-(((L.1:Int):Rat)))):=by unfold dS eG;grind
 rw [a,b];exact g
theorem Et {V:View}{l p:Value}{L:L3}{x y:Rat}(hl:RL V l L.1 L.2.1 L.2.2)(hp:RP V p x y){k:Nat}(sl:jL k L)(s1:Sz k x)(s2:Sz k y)(hk:16*k+16<274877906944) :
  Acts prog 58 #[l,p] V fun r V'=>r=.int .i64 (aj L x y).num.sign:=zN hl hp sl.1 sl.2.1 sl.2.2 s1 s2 hk
theorem DL {V:View}{v:Value}{s:Sp}(h:Bi V v s){k:Nat}(hs:s.sz k)(hk:2*k<1099511627776) :
  Acts prog 202 #[v] V fun r V'=>r=.bool s.emp:=by
 obtain ⟨f,g,p,i,j,q,rfl,l,m⟩:=h;refine sK f g p i j q s.a s.b V _ ⟨fun c=>⟨fun d n e=>(ky (l.le e) (m.le e) hs.1 hs.2 (by omega)).mono ?_,fun d o t=>?_⟩,fun c u w=>?_⟩
 ·rintro r V2 x rfl;exact ⟨_,rfl,fun y z=>by rw [Bool.not_eq_true'] at c d;simp [Sp.emp,c,d]⟩
 ·rw [Bool.not_eq_false'] at d;simp [Sp.emp,d]
 ·rw [Bool.not_eq_false'] at c;simp [Sp.emp,c]
theorem RLi.api {V:View}{r:Value}{l:L3}(h:RL V r ((l.1:Rat)).num ((l.2.1:Rat)).num ((l.2.2:Rat)).num):RL V r l.1 l.2.1 l.2.2:=by
 simpa [Rat.num_intCast] using h
theorem Jc {l:L3}(h:okL l=true):Nz l:=by
 unfold okL at h;intro e;simp [e.1,e.2] at h
theorem Sp.NH {s:Sp}{k:Nat}(h:s.sz k):s.neg.sz k:=by
 unfold Sp.neg Sp.sz
 have z:Sz k (0:Rat):=by
  have:=h.1.2;refine ⟨Nat.lt_of_le_of_lt (Nat.zero_le _) this,?_⟩;exact Nat.lt_of_le_of_lt (Nat.pos_of_ne_zero s.lo.den_nz) this
 constructor
 ·dsimp only;split
  ·exact z
  ·exact h.2.neg
 ·dsimp only;split
  ·exact z
  ·exact h.1.neg
theorem HV {V:View}{v:Value}{s:Sp}(h:Bi V v s){k:Nat}(hs:s.sz k)(hk:k<=1099511627776):Acts prog 199 #[v] V fun r V'=>Bi V' r s.neg:=by
 obtain ⟨w,y,p,z,A,q,rfl,l,B⟩:=h
 have t:∀{V:View} {v:Value} {x:Rat} {no:Bool},RR V v (-x)->(!no)=true->RR V v (if no=true then 0 else -x):=fun h e=>by
  rw [Bool.not_eq_true'] at e;rw [e];exact h
 have f:∀{V:View} {x:Rat} {no:Bool},(!no)=false->RR V (.agg #[.int .i64 0,.int .i64 0,.pointer none]) (if no=true then 0 else -x):=fun e=>by
  rw [Bool.not_eq_false'] at e;rw [e];exact RR.zero _
 refine xu w y p z A q s.a s.b V _ ⟨fun g J m=>(fK (B.le m) hs.2 hk).mono ?_,fun g=>⟨fun c K C=>(fK (l.le C) hs.1 hk).mono ?_,fun c D E=>?_⟩⟩
 ·rintro r V2 F n;have i:=n;obtain ⟨_,_,_,rfl⟩:=n.shape;refine ⟨_,_,_,rfl,fun c L o=>(fK (l.le (m.trans (F.trans o))) hs.1 hk).mono ?_,fun c M G=>?_⟩
  ·rintro r N H j;have d:=j;obtain ⟨_,_,_,rfl⟩:=j.shape;exact ⟨_,_,_,rfl,fun O u=>⟨_,_,_,_,_,_,rfl,t (i.le (o.trans (H.trans u))) g,t (d.le u) c⟩⟩
  ·exact ⟨_,_,_,_,_,_,rfl,t (i.le G) g,f c⟩
 ·rintro r P Q j;have d:=j;obtain ⟨_,_,_,rfl⟩:=j.shape;exact ⟨_,_,_,rfl,fun R I=>⟨_,_,_,_,_,_,rfl,f g,t (d.le I) c⟩⟩
 ·exact ⟨_,_,_,_,_,_,rfl,f g,f c⟩
def Co (x y:Rat):Rat:=if 0<eM y x then y else x
def Cp (x y:Rat):Rat:=if eM y x<0 then y else x
theorem gy (x y:Rat):(x<y/\eM x y=-1)\/(x=y/\eM x y=0)\/(y<x/\eM x y=1):=by
 by_cases a:x<y
 ·exact .inl ⟨a,zT.1 a⟩
 ·by_cases b:x=y
  ·exact .inr (.inl ⟨b,h_.1 b⟩)
  ·have c:y<x:=by grind
   exact .inr (.inr ⟨c,th.1 c⟩)
theorem Sp.ig {s:Sp}:s.emp=false↔(s.a=true\/s.b=true\/s.lo<s.hi):=by
 unfold Sp.emp;rcases gy s.lo s.hi with ⟨h,e⟩|⟨h,e⟩|⟨h,e⟩<;>rw [e]<;>cases s.a<;>cases s.b<;>simp<;>grind
def Sp.meet (v w:Sp):Sp:=⟨if v.a then w.lo else if w.a then v.lo else Co v.lo w.lo,if v.b then w.hi else if w.b then v.hi else Cp v.hi w.hi,if v.a then w.a else false,if v.b then w.b else false⟩
theorem Sp.uU {v w:Sp}(h1:v.can)(h2:w.can):(v.meet w).can:=by
 unfold Sp.meet;constructor<;>dsimp only
 ·cases hv:v.a with
  | false=>intro h;cases h
  | true=>exact fun h=>h2.1 h
 ·cases hv:v.b with
  | false=>intro h;cases h
  | true=>exact fun h=>h2.2 h
def Sp.dw (s:Sp):Rat:=if s.a then (if s.b then 0 else s.hi-((1:Int):Rat)) else if s.b then s.lo+((1:Int):Rat) else (s.lo+s.hi)*((2:Int):Rat)⁻¹
theorem Sp.FT {s:Sp}(h:s.emp=false):(s.a=false->s.lo<s.dw)/\(s.b=false->s.dw<s.hi):=by
 rw [Sp.ig] at h;unfold Sp.dw;cases ha:s.a<;>cases hb:s.b<;>simp [ha,hb] at h⊢<;> grind
def bN (m l:L3):Rat:=((m.1:Rat)*(l.2.1:Rat))+((m.2.1:Rat)*(-(l.1:Rat)))
def gR (m l:L3):Rat:=aj m (dE l 0) (dS l 0)
theorem qW (m l:L3)(t:Rat):aj m (dE l t) (dS l t)=gR m l+bN m l*t:=by
 unfold gR aj bN dE dS;grind
def bY (m l:L3):Rat:=-(gR m l*(bN m l)⁻¹)
def bZ (l:L3)(s:Sp)(m:L3):Sp:=
 if (bN m l).num.sign==0 then s else if (bN m l).num.sign==1 then s.meet ⟨bY m l,0,false,true⟩ else s.meet ⟨0,bY m l,true,false⟩
def cA (l:L3)(s:Sp)(m:L3):Bool:=
 if (bN m l).num.sign==0 then decide ((gR m l).num.sign>0) else !(bZ l s m).emp
theorem gG (q:Rat):(q=0/\q.num.sign=0)\/(0<q/\q.num.sign=1)\/(q<0/\q.num.sign=-1):=by
 have a:=@Cu q;have b:=@Cv q;have c:=@Rat.num_eq_zero q;rcases Int.lt_trichotomy q.num 0 with h|h|h
 ·exact .inr (.inr ⟨a.1 h,Int.sign_eq_neg_one_of_neg h⟩)
 ·exact .inl ⟨c.1 h,by rw [h];rfl⟩
 ·exact .inr (.inl ⟨b.1 h,Int.sign_eq_one_of_pos h⟩)
theorem H5 {l:L3}{s:Sp}{m:L3}(he:s.emp=false)(hb:cA l s m=true):(bZ l s m).emp=false:=by
 unfold cA at hb;split at hb
 ·rename_i h;unfold bZ;rw [if_pos h];exact he
 ·simpa using hb
theorem H7 {l:L3}{s:Sp}{m:L3}(hc:s.can):(bZ l s m).can:=by
 unfold bZ;split
 ·exact hc
 ·split
  ·exact Sp.uU hc ⟨(fun h=>nomatch h),fun _=>rfl⟩
  ·exact Sp.uU hc ⟨fun _=>rfl,(fun h=>nomatch h)⟩
theorem val_rev (m:L3)(x y:Rat):aj (revL m) x y=-aj m x y:=by
 unfold aj revL;simp only [Rat.intCast_neg];grind
def aV (l m:L3):Rat:=((l.1:Rat)*(m.2.1:Rat))-((l.2.1:Rat)*(m.1:Rat))
def NC (l m:L3):Rat:=(((l.2.1:Rat)*(m.2.2:Rat))-((l.2.2:Rat)*(m.2.1:Rat)))*(aV l m)⁻¹
def ND (l m:L3):Rat:=(((l.2.2:Rat)*(m.1:Rat))-((l.1:Rat)*(m.2.2:Rat)))*(aV l m)⁻¹
def FG (m l:L3):Bool:=decide (m=l)||decide (m=revL l)
def GX (m:L3)(t:Sp)(l:L3):Sp:=if m=l then t else t.neg
theorem E7 (l:L3)(t:Rat):dE (revL l) (-t)=dE l t:=by unfold dE eG revL;simp only [Rat.intCast_neg];grind
theorem E8 (l:L3)(t:Rat):dS (revL l) (-t)=dS l t:=by unfold dS eG revL;simp only [Rat.intCast_neg];grind
theorem jL.af {k:Nat}{l:L3}(h:jL k l)(hk:k<=1099511627776):(af l.1.natAbs).length<=1099511627776/\(af l.2.1.natAbs).length<=1099511627776/\(af l.2.2.natAbs).length<=1099511627776:=by
 have d1:=ae (show l.1.natAbs<2^k from h.1.1);have d2:=ae (show l.2.1.natAbs<2^k from h.2.1.1);have d3:=ae (show l.2.2.natAbs<2^k from h.2.2.1);exact ⟨by omega,by omega,by omega⟩
theorem bF {p:OA}{j:Nat}{ad:Addr}(h:addrAdd p j=some ad):p.isSome=true:=by
 cases p with
 | none=>cases h
 | some a=>rfl
def QU (V:View)(ad:Addr)(s:Sp):Prop:=∃xs:List Value,lf V (.agg xs.toArray) s/\∀i x,xs[i]?=some x->V.at (ad.add i) x
theorem QU.le {V V':View}{ad:Addr}{s:Sp}(h:QU V ad s)(e:V.Le V'):QU V' ad s:=by
 obtain ⟨xs,a,b⟩:=h;exact ⟨xs,a.le e,fun i x c=>e.at (b i x c)⟩
structure DC (V:View) (p:OA) (n:Nat) (ss:List Sp):Prop where
 len:n=ss.length
 at_:∀(i:Nat)(h:i<ss.length),∃ad,addrAdd p (i*8)=some ad/\QU V ad ss[i]
theorem DC.le {V V':View}{p:OA}{n:Nat}{ss:List Sp}(h:DC V p n ss)(e:V.Le V'):DC V' p n ss:=⟨h.len,fun i a=>by obtain ⟨b,c,d⟩:=h.at_ i a;exact ⟨b,c,d.le e⟩⟩
def sr (a b:Int):Int:=if 0<a/\b<0 then 2 else if (a=0/\b<=0)\/(b=0/\0<=a) then 1 else 0
def Sp.la (s:Sp)(t:Rat):Int:=if s.a then 1 else eM t s.lo
def Sp.lb (s:Sp)(t:Rat):Int:=if s.b then -1 else eM t s.hi
def mT:List Sp->Rat->Int
 | [],_=>0
 | s::r,t=>if sr (s.la t) (s.lb t)≠0 then sr (s.la t) (s.lb t) else mT r t
theorem wS {V:View}{p:OA}{n c:Nat}{v:Value}{ss:List Sp}{t:Rat}(hl:DC V p n ss)(ht:RQ V v t){k:Nat}(hs:∀s∈ss,s.sz k)(st:Sz k t)(hk:2*k<274877906944)(hn:ss.length<4611686018427387904) :
  Acts prog 158 #[.slice p n c,v] V fun r V'=>r=.int .i64 (mT ss t):=by
 obtain rfl:=hl.len;have m:=ht;obtain ⟨_,_,_,_,_,_,rfl⟩:=ht.shape;refine wg p _ c _ _ _ _ _ _ _ V _ ⟨fun z V'=>0<=z/\z<=ss.length/\mT ss t=mT (ss.drop z.toNat) t,fun z=>(ss.length-z).toNat,⟨0,by and_intros<;>rfl,by omega,by omega,rfl⟩,?_⟩;rintro z S q ⟨T,U,g⟩;refine ⟨rfl,fun l=>?_,fun l C D=>?_⟩
 ·have l:z<ss.length:=of_decide_eq_true l;obtain ⟨i,rfl⟩:∃i:Nat,z=i:=⟨z.toNat,by omega⟩;have u:i<ss.length:=by omega
  rw [Int.toNat_natCast] at g ⊢;have w:i64.wrap ((i:Int)+1)=(i:Int)+1:=i64w (by omega);rw [w];have x:=hs _ (List.getElem_mem u);obtain ⟨E,d,xs,⟨W,pp,X,Y,F,G,H,Z,qq,mm,ee,I,J,K,ex,L,M⟩,f⟩:=(hl.le q).at_ i u;have ex:=congrArg Array.toList (Value.agg.inj ex);dsimp only at ex;subst ex;rw [List.drop_eq_getElem_cons u] at g;generalize ss[i]=s at *;simp only [mT] at g;refine ⟨bF d,⟨by omega,l⟩,_,_,_,_,_,_,_,_,_,_,_,_,_,_,s.a,s.b,E,by rw [d],f 0 _ rfl,f 1 _ rfl,f 2 _ rfl,f 3 _ rfl,f 4 _ rfl,f 5 _ rfl,f 6 _ rfl,f 7 _ rfl,fun z _=>z=s.la t,⟨fun h V2 y=>(hU (m.le (q.trans y)) (L.le y) st x.1 (by omega)).mono ?_,fun h=>⟨1,by and_intros<;>rfl,?_⟩⟩,?_⟩
  ·rintro r V3 l3 rfl;exact ⟨_,rfl,_,by and_intros<;>rfl,by unfold Sp.la;rw [Bool.not_eq_true'] at h;rw [h];rfl⟩
  ·unfold Sp.la;rw [Bool.not_eq_false'] at h;rw [h];rfl
  rintro za V4 A rfl;refine ⟨rfl,fun z _=>z=s.lb t,⟨fun h V5 B=>(hU (m.le (q.trans (A.trans B))) (M.le (A.trans B)) st x.2 (by omega)).mono ?_,fun h=>⟨-1,by and_intros<;>rfl,?_⟩⟩,?_⟩
  ·rintro r V6 l6 rfl;exact ⟨_,rfl,_,by and_intros<;>rfl,by unfold Sp.lb;rw [Bool.not_eq_true'] at h;rw [h];rfl⟩
  ·unfold Sp.lb;rw [Bool.not_eq_false'] at h;rw [h];rfl
  rintro zb V7 l7 rfl;generalize s.la t=a at *;generalize s.lb t=b at *;refine ⟨rfl,fun z _=>z=decide (0<a/\b<0),⟨fun h=>⟨_,by and_intros<;>rfl,?_⟩,fun h=>⟨_,by and_intros<;>rfl,?_⟩⟩,?_⟩
  ·have h:0<a:=of_decide_eq_true h;simp [h]
  ·have h:¬0<a:=of_decide_eq_false h;simp [h]
  rintro z9 V8 l8 rfl;refine ⟨rfl,fun h V9 l9=>?_,fun h=>⟨fun z _=>z=decide ((a=0/\b<=0)\/(b=0/\0<=a)),⟨fun d=>⟨fun o=>⟨_,by and_intros<;>rfl,?_⟩,fun o=>⟨fun e=>⟨_,by and_intros<;>rfl,?_⟩,fun e=>⟨_,by and_intros<;>rfl,?_⟩⟩⟩,fun d=>⟨fun e=>⟨_,by and_intros<;>rfl,?_⟩,fun e=>⟨_,by and_intros<;>rfl,?_⟩⟩⟩,?_⟩⟩
  ·have h:=of_decide_eq_true h;rw [g];simp [sr,h]
  ·simp at d o;simp [d,o]
  ·simp at d o e;simp [d,e]
  ·simp at d o e;simp [d,e];omega
  ·simp at d e;simp [d,e]
  ·simp at d e;simp [d,e]
  rintro N O P rfl;have h:=of_decide_eq_false h;refine ⟨rfl,fun j Q R=>?_,fun j=>⟨(i:Int)+1,by dsimp only;omega,by and_intros<;>rfl,by omega,by omega,?_⟩⟩
  ·have j:=of_decide_eq_true j;rw [g];have:sr a b=1:=by unfold sr;rw [if_neg h,if_pos j]
   rw [this];rfl
  ·have j:=of_decide_eq_false j;have:sr a b=0:=by unfold sr;rw [if_neg h,if_neg j]
   rw [g,this];show _=mT (ss.drop ((i:Int)+1).toNat) t;rw [show ((i:Int)+1).toNat=i+1 from by omega];rfl
 ·have l:¬z<ss.length:=of_decide_eq_false l;rw [g,show z.toNat=ss.length from by omega,List.drop_length];rfl
theorem Qt {V:View}{r:Value}{l:L3}(h:RL V r (-l.1) (-l.2.1) (-l.2.2)):RL V r (revL l).1 (revL l).2.1 (revL l).2.2:=h
theorem DN {V:View}{v w:Value}{x y:Rat}(hx:RR V v x)(hy:RR V w y){k:Nat}(sx:Sz k x)(sy:Sz k y)(hk:2*k<1099511627776) :
  Acts prog 200 #[v,w] V fun r V'=>RR V' r (Co x y):=by
 have g:=hx;have i:=hy;obtain ⟨a,b,c,rfl⟩:=hx.shape;obtain ⟨d,e,f,rfl⟩:=hy.shape;refine C_ a b c d e f V _ fun o j=>(ky (i.le j) (g.le j) sy sx (by omega)).mono ?_;rintro r V2 l rfl;unfold Co;exact ⟨_,rfl,fun h p m=>by rw [if_pos (of_decide_eq_true h)];exact i.le (j.trans (l.trans m)),fun h q n=>by rw [if_neg (of_decide_eq_false h)];exact g.le (j.trans (l.trans n))⟩
theorem DO {V:View}{v w:Value}{x y:Rat}(hx:RR V v x)(hy:RR V w y){k:Nat}(sx:Sz k x)(sy:Sz k y)(hk:2*k<1099511627776) :
  Acts prog 201 #[v,w] V fun r V'=>RR V' r (Cp x y):=by
 have g:=hx;have i:=hy;obtain ⟨a,b,c,rfl⟩:=hx.shape;obtain ⟨d,e,f,rfl⟩:=hy.shape;refine Da a b c d e f V _ fun o j=>(ky (i.le j) (g.le j) sy sx (by omega)).mono ?_;rintro r V2 l rfl;unfold Cp;exact ⟨_,rfl,fun h p m=>by rw [if_pos (of_decide_eq_true h)];exact i.le (j.trans (l.trans m)),fun h q n=>by rw [if_neg (of_decide_eq_false h)];exact g.le (j.trans (l.trans n))⟩
theorem Sp.Ag {v w:Sp}{k:Nat}(h1:v.sz k)(h2:w.sz k):(v.meet w).sz k:=by
 unfold Sp.meet Sp.sz Co Cp;constructor<;>dsimp only
 ·split
  ·exact h2.1
  ·split
   ·exact h1.1
   ·split
    ·exact h2.1
    ·exact h1.1
 ·split
  ·exact h2.2
  ·split
   ·exact h1.2
   ·split
    ·exact h2.2
    ·exact h1.2
theorem qi {V:View}{v w:Value}{s t:Sp}(h:Bi V v s)(h':Bi V w t){k:Nat}(hs:s.sz k)(ht:t.sz k)(hk:2*k<1099511627776) :
  Acts prog 157 #[v,w] V fun r V'=>∃u,r=.tuple #[u,.bool (!(s.meet t).emp)]/\Bi V' u (s.meet t):=by
 obtain ⟨S,T,p,l,m,q,rfl,U,y⟩:=h;obtain ⟨W,X,o,Y,Z,j,rfl,g1,g2⟩:=h';have Tq:s.a=true->(s.meet t).lo=t.lo/\(s.meet t).a=t.a:=fun e=>by simp [Sp.meet,e]
 have C:s.a=false->t.a=false->(s.meet t).lo=Co s.lo t.lo:=fun e f=>by simp [Sp.meet,e,f]
 have D:s.a=false->t.a=true->(s.meet t).lo=s.lo:=fun e f=>by simp [Sp.meet,e,f]
 have Wq:s.a=false->(s.meet t).a=s.a:=fun e=>by simp [Sp.meet,e]
 have n:s.b=true->(s.meet t).hi=t.hi/\(s.meet t).b=t.b:=fun e=>by simp [Sp.meet,e]
 have E:s.b=false->t.b=false->(s.meet t).hi=Cp s.hi t.hi:=fun e f=>by simp [Sp.meet,e,f]
 have F:s.b=false->t.b=true->(s.meet t).hi=s.hi:=fun e f=>by simp [Sp.meet,e,f]
 have x:s.b=false->(s.meet t).b=s.b:=fun e=>by simp [Sp.meet,e]
 refine vO S T p l m q s.a s.b W X o Y Z j t.a t.b V _ ⟨fun z i=>RR i (.agg #[.int .i64 z.1,.int .i64 z.2.1,.pointer z.2.2.1]) (s.meet t).lo/\RR i (.agg #[.int .i64 z.2.2.2.1,.int .i64 z.2.2.2.2.1,.pointer z.2.2.2.2.2.1]) s.hi/\z.2.2.2.2.2.2.1=(s.meet t).a/\z.2.2.2.2.2.2.2=s.b,⟨fun c=>?_,fun c=>⟨fun d i G=>(DN (U.le G) (g1.le G) hs.1 ht.1 hk).mono ?_,fun d=>?_⟩⟩,?_⟩
 ·refine ⟨(W,X,o,l,m,q,t.a,s.b),by and_intros<;>rfl,?_,y,(Tq c).2.symm,rfl⟩;rw [(Tq c).1];exact g1
 ·rintro r V2 l2 g;rw [Bool.not_eq_true'] at d;have H:=g;obtain ⟨I,J,K,rfl⟩:=g.shape;refine ⟨_,_,_,rfl,(I,J,K,l,m,q,s.a,s.b),by and_intros<;>rfl,?_,y.le (G.trans l2),(Wq c).symm,rfl⟩;rw [C c d];exact H
 ·rw [Bool.not_eq_false'] at d;refine ⟨(S,T,p,l,m,q,s.a,s.b),by and_intros<;>rfl,?_,y,(Wq c).symm,rfl⟩;rw [D c d];exact U
 ·rintro ⟨L,M,N,z4,z5,z6,z7,z8⟩ V3 O ⟨A,k2,k3,k4⟩;dsimp only at A k2 k3 k4;subst k3 k4;refine ⟨rfl,fun z i=>RR i (.agg #[.int .i64 z.1,.int .i64 z.2.1,.pointer z.2.2.1]) (s.meet t).lo/\RR i (.agg #[.int .i64 z.2.2.2.1,.int .i64 z.2.2.2.2.1,.pointer z.2.2.2.2.2.1]) (s.meet t).hi/\z.2.2.2.2.2.2.1=(s.meet t).a/\z.2.2.2.2.2.2.2=(s.meet t).b,⟨fun c=>?_,fun c=>⟨fun d V4 P=>(DO (y.le (O.trans P)) (g2.le (O.trans P)) hs.2 ht.2 hk).mono ?_,fun d=>?_⟩⟩,?_⟩
  ·refine ⟨(L,M,N,Y,Z,j,(s.meet t).a,t.b),by and_intros<;>rfl,A,?_,rfl,(n c).2.symm⟩;rw [(n c).1];exact g2.le O
  ·rintro r V5 l5 g;rw [Bool.not_eq_true'] at d;have H:=g;obtain ⟨I,J,K,rfl⟩:=g.shape;refine ⟨_,_,_,rfl,(L,M,N,I,J,K,(s.meet t).a,s.b),by and_intros<;>rfl,A.le (P.trans l5),?_,rfl,(x c).symm⟩;rw [E c d];exact H
  ·rw [Bool.not_eq_false'] at d;refine ⟨(L,M,N,z4,z5,z6,(s.meet t).a,s.b),by and_intros<;>rfl,A,?_,rfl,(x c).symm⟩;rw [F c d];exact k2
  ·rintro ⟨l,m,y3,y4,y5,y6,y7,y8⟩ V6 l6 ⟨Q,R,j3,j4⟩;dsimp only at Q R j3 j4;subst j3 j4;refine ⟨rfl,fun V7 B=>(DL ⟨_,_,_,_,_,_,rfl,Q.le B,R.le B⟩ (Sp.Ag hs ht) hk).mono ?_⟩;rintro r V8 l8 rfl;exact ⟨_,rfl,fun V9 l9=>⟨_,rfl,_,_,_,_,_,_,rfl,Q.le (B.trans (l8.trans l9)),R.le (B.trans (l8.trans l9))⟩⟩
theorem mS {L M:L3}{k:Nat}(sl:jL k L)(sm:jL k M):Sz (4*k+3) (bN M L):=cT sm.1 sm.2.1 sl.2.1 sl.1.neg
theorem HJ {L M:L3}:(((M.1:Rat)*((L.1:Rat)*(((-(L.2.2:Rat))*(((L.1:Rat)*(L.1:Rat))+((L.2.1:Rat)*(L.2.1:Rat)))⁻¹))))+((M.2.1:Rat)*((L.2.1:Rat)*(((-(L.2.2:Rat))*(((L.1:Rat)*(L.1:Rat))+((L.2.1:Rat)*(L.2.1:Rat)))⁻¹)))))+(M.2.2:Rat)=gR M L:=by
 unfold gR aj dE dS eG;grind
theorem mQ {L M:L3}{k:Nat}(sl:jL k L)(sm:jL k M):Sz (50*k+49) (gR M L):=by
 rw [←HJ];exact Sz.mono (ko (k:=10*k+9) (sm.1.mono (by omega)) (sm.2.1.mono (by omega)) (sm.2.2.mono (by omega)) (dk sl.1 sl.2.1 sl.2.2) (dm sl.1 sl.2.1 sl.2.2)) (by omega)
theorem mR {L M:L3}{k:Nat}(sl:jL k L)(sm:jL k M):Sz (60*k+60) (bY M L):=Sz.mono ((mQ sl sm).mul (fm (mS sl sm))).neg (by omega)
theorem EE (k:Nat)(hk:0<k):Sz k (0:Rat):=⟨by show (0:Int).natAbs<_;exact Nat.lt_of_lt_of_le (by decide) (Nat.one_le_two_pow),Nat.one_lt_two_pow (by omega)⟩
theorem Bu {V:View}{l v m:Value}{L:L3}{s:Sp}{M:L3}(hl:RLi V l L)(hv:Bi V v s)(hm:RLi V m M){k:Nat}(sl:jL k L)(hs:s.sz k)(sm:jL k M)(hk:200*k+200<274877906944) :
  Acts prog 167 #[l,v,m] V fun r V'=>∃w,r=.tuple #[w,.bool (cA L s M)]/\Bi V' w (bZ L s M):=by
 have f:=hl;have b:=hv;have g:=hm;obtain ⟨_,_,_,_,_,_,_,_,_,rfl,-,-,-⟩:=hl;obtain ⟨_,_,_,_,_,_,rfl,-,-⟩:=hv;obtain ⟨_,_,_,_,_,_,_,_,_,rfl,-,-,-⟩:=hm;have h:s.sz (60*k+60):=⟨hs.1.mono (by omega),hs.2.mono (by omega)⟩;have z:=EE (60*k+60) (by omega);refine xB _ _ _ _ _ _ _ _ _ _ _ _ _ _ _ _ _ _ _ _ _ _ _ _ _ _ V _ fun V1 B=>(gT (g.le B) sm.1 sm.2.1 sm.2.2 (by omega)).mono ?_;rintro r V2 l2 g1;have C:=g1;obtain ⟨_,_,_,_,_,_,rfl,-,-⟩:=g1;refine ⟨_,_,_,_,_,_,rfl,fun V3 D=>(kF (f.le (B.trans (l2.trans D))) sl.1 sl.2.1 sl.2.2 (by omega)).mono ?_⟩;rintro r V4 l4 g2;have E:=g2;obtain ⟨_,_,_,_,_,_,rfl,-,-⟩:=g2;refine ⟨_,_,_,_,_,_,rfl,fun V5 F=>(kG (C.le (D.trans (l4.trans F))) (E.le F) sm.1 sm.2.1 sl.2.1 sl.1.neg (by omega)).mono ?_⟩;rintro r G l6 g3;have H:RR G r (bN M L):=g3;obtain ⟨_,_,_,rfl⟩:=g3.shape;have i:V.Le G:=B.trans (l2.trans (D.trans (l4.trans (F.trans l6))));refine ⟨_,_,_,rfl,fun V7 I=>(mY (f.le (i.trans I)) sl.1 sl.2.1 sl.2.2 (by omega)).mono ?_⟩;rintro r V8 l8 g4;have Kk:=g4;obtain ⟨_,_,_,_,_,_,rfl,-,-⟩:=g4;refine ⟨_,_,_,_,_,_,rfl,fun V9 J=>(lE (k:=10*k+9) (g.le (i.trans (I.trans (l8.trans J)))) (Kk.le J) (sm.1.mono (by omega)) (sm.2.1.mono (by omega)) (sm.2.2.mono (by omega)) (dk sl.1 sl.2.1 sl.2.2) (dm sl.1 sl.2.1 sl.2.2) (by omega)).mono ?_⟩;rintro r j K N;rw [HJ] at N;have O:=N;obtain ⟨_,_,_,rfl⟩:=N.shape;have e:G.Le j:=I.trans (l8.trans (J.trans K));refine ⟨_,_,_,rfl,fun a0 n=>(fM (H.le (e.trans n)) (mS sl sm) (by omega)).mono ?_⟩;rintro r P Q rfl;have a:j.Le P:=n.trans Q;refine ⟨_,rfl,fun c a1 o=>(fM (O.le (a.trans o)) (mQ sl sm) (by omega)).mono ?_,fun c=>⟨fun R ll S=>(zH (O.le (a.trans S)) (H.le (e.trans (a.trans S))) (mQ sl sm) (mS sl sm) (by omega)).mono ?_,fun R xZ T=>(zH (O.le (a.trans T)) (H.le (e.trans (a.trans T))) (mQ sl sm) (mS sl sm) (by omega)).mono ?_⟩⟩
 ·rintro r a2 c_ rfl;have p:cA L s M=decide ((gR M L).num.sign>0):=by unfold cA;rw [if_pos c]
  have d:bZ L s M=s:=by unfold bZ;rw [if_pos c]
  rw [p,d];exact ⟨_,rfl,fun a3 dq=>⟨_,rfl,b.le (i.trans (e.trans (a.trans (o.trans (c_.trans dq)))))⟩⟩
 ·have d:bZ L s M=s.meet ⟨bY M L,0,false,true⟩:=by unfold bZ;rw [if_neg (by rw [c];exact Bool.false_ne_true),if_pos R]
  have p:cA L s M=!(s.meet ⟨bY M L,0,false,true⟩).emp:=by rw [←d];unfold cA;rw [if_neg (by rw [c];exact Bool.false_ne_true)]
  rw [p,d];rintro r ny U q;have W:=q;obtain ⟨_,_,_,rfl⟩:=q.shape;refine ⟨_,_,_,rfl,fun oD u=>(fK (W.le u) ((mQ sl sm).mul (fm (mS sl sm))) (by omega)).mono ?_⟩;rintro r X Y x;have Z:RR X r (bY M L):=x;obtain ⟨_,_,_,rfl⟩:=x.shape;refine ⟨_,_,_,rfl,fun Bk y=>(qi (t:=⟨bY M L,0,false,true⟩) (b.le (i.trans (e.trans (a.trans (S.trans (U.trans (u.trans (Y.trans y)))))))) ⟨_,_,_,_,_,_,rfl,Z.le y,RR.zero _⟩ h ⟨mR sl sm,z⟩ (by omega)).mono ?_⟩;rintro r r_ gC ⟨w,rfl,A⟩;have KK:=A;obtain ⟨_,_,_,_,_,_,rfl,-,-⟩:=A;exact ⟨_,_,_,_,_,_,_,_,_,rfl,fun wI kq=>⟨_,rfl,KK.le kq⟩⟩
 ·have d:bZ L s M=s.meet ⟨0,bY M L,true,false⟩:=by unfold bZ;rw [if_neg (by rw [c];exact Bool.false_ne_true),if_neg (by rw [R];exact Bool.false_ne_true)]
  have p:cA L s M=!(s.meet ⟨0,bY M L,true,false⟩).emp:=by rw [←d];unfold cA;rw [if_neg (by rw [c];exact Bool.false_ne_true)]
  rw [p,d];rintro r ny U q;have W:=q;obtain ⟨_,_,_,rfl⟩:=q.shape;refine ⟨_,_,_,rfl,fun oD u=>(fK (W.le u) ((mQ sl sm).mul (fm (mS sl sm))) (by omega)).mono ?_⟩;rintro r X Y x;have Z:RR X r (bY M L):=x;obtain ⟨_,_,_,rfl⟩:=x.shape;refine ⟨_,_,_,rfl,fun Bk y=>(qi (t:=⟨0,bY M L,true,false⟩) (b.le (i.trans (e.trans (a.trans (T.trans (U.trans (u.trans (Y.trans y)))))))) ⟨_,_,_,_,_,_,rfl,RR.zero _,Z.le y⟩ h ⟨z,mR sl sm⟩ (by omega)).mono ?_⟩;rintro r r_ gC ⟨w,rfl,A⟩;have KK:=A;obtain ⟨_,_,_,_,_,_,rfl,-,-⟩:=A;exact ⟨_,_,_,_,_,_,_,_,_,rfl,fun wI kq=>⟨_,rfl,KK.le kq⟩⟩
end Go.Proofs.Tryz
