import Derived.Test.YtapnijmlbakblaaGreatDoorT14
import Derived.Test.YtapnijmlbakblaaGreatDoorT8
import Derived.Test.YtapnijmlbakblaaGreatDoorT13
import Derived.Test.YtapnijmlbakblaaGreatDoorT9
set_option linter.unusedVariables false
open Go.IntKind (i64 u64 u32)
namespace Go.Proofs.Tryz
open Go.Eng Go.Big
theorem RA.shape {V:View}{v:Value}{q:Rat}(h:RA V v q):∃b p n c p' n' c',v=.agg #[.bool b,.slice p n c,.slice p' n' c']:=by
 obtain ⟨p,n,c,p',n',c',e,-⟩:=h;exact ⟨_,_,_,_,_,_,_,e⟩
def zM (V:View)(v:Value)(x y:Rat):Prop:=∃b p n c p' n' c' d q m e q' m' e',v=.agg #[.bool b,.slice p n c,.slice p' n' c',.bool d,.slice q m e,.slice q' m' e'] /\
 RA V (.agg #[.bool b,.slice p n c,.slice p' n' c']) x/\RA V (.agg #[.bool d,.slice q m e,.slice q' m' e']) y
theorem zM.le {V V':View}{v:Value}{x y:Rat}(h:zM V v x y)(l:V.Le V'):zM V' v x y:=by
 obtain ⟨b,p,n,c,g,i,j,d,q,m,e,k,o,r,rfl,a,f⟩:=h;exact ⟨_,_,_,_,_,_,_,_,_,_,_,_,_,_,rfl,a.le l,f.le l⟩
theorem fP {V:View}{v:Value}{x y:Rat}(h:zM V v x y){k:Nat}(s1:Sz k x)(s2:Sz k y)(hk:k<=1099511627776) :
  ae prog 51 #[v] V fun r V'=>jS V' r x y:=by
 obtain ⟨b,p,n,c,s,t,z,d,q,m,e,A,B,C,rfl,D,E⟩:=h;refine sM b p n c s t z d q m e A B C V _ fun H g=>(yK (D.le g) s1 hk).mono ?_;rintro r V2 F i;have a:=i;obtain ⟨u,v,w,rfl⟩:=i.shape;refine ⟨_,_,_,rfl,fun I j=>(yK (E.le (g.trans (F.trans j))) s2 hk).mono ?_⟩;rintro r J G l;have f:=l;obtain ⟨u,v,w,rfl⟩:=l.shape;exact ⟨_,_,_,rfl,fun K o=>⟨_,_,_,_,_,_,rfl,a.le (j.trans (G.trans o)),f.le o⟩⟩
theorem pD {V:View}{v:Value}{x y:Rat}(h:jS V v x y){k:Nat}(s1:Sz k x)(s2:Sz k y)(hk:k<=1099511627776) :
  ae prog 114 #[v] V fun r V'=>zM V' r x y:=by
 obtain ⟨i,j,l,m,n,o,rfl,p,q⟩:=h;refine xY i j l m n o V _ fun u c=>(pv (p.le c) s1 hk).mono ?_;rintro r V2 s d;have a:=d;obtain ⟨_,_,_,_,_,_,_,rfl⟩:=d.shape;refine ⟨_,_,_,_,_,_,_,rfl,fun w e=>(pv (q.le (c.trans (s.trans e))) s2 hk).mono ?_⟩;rintro r z t f;have b:=f;obtain ⟨_,_,_,_,_,_,_,rfl⟩:=f.shape;exact ⟨_,_,_,_,_,_,_,rfl,fun A g=>⟨_,_,_,_,_,_,_,_,_,_,_,_,_,_,rfl,a.le (e.trans (t.trans g)),b.le g⟩⟩
theorem uI {V:View}{v w:Value}{x y x' y':Rat}(h:jS V v x y)(h':jS V w x' y'){k:Nat}(s1:Sz k x)(s2:Sz k y)(s3:Sz k x')(s4:Sz k y')(hk:2*k<1099511627776) :
  ae prog 117 #[v,w] V fun r V'=>r=.bool (decide (x=x'/\y=y')):=by
 obtain ⟨d,e,f,i,j,l,rfl,m,n⟩:=h;obtain ⟨o,p,q,s,t,u,rfl,z,A⟩:=h';refine tH d e f i j l o p q s t u V _ fun B a=>(ir (m.le a) (z.le a) s1 s3 (by omega)).mono ?_;rintro r V2 b rfl;refine ⟨_,rfl,fun g C c=>(ir (n.le (a.trans (b.trans c))) (A.le (a.trans (b.trans c))) s2 s4 (by omega)).mono ?_,fun g D E=>?_⟩
 ·have g:=of_decide_eq_true g;rintro r F G rfl;exact ⟨_,rfl,fun H I=>by simp [g]⟩
 ·have g:=of_decide_eq_false g;simp [g]
theorem xl {V:View}{l p:Value}{cq l_1 eA fp fq:Rat}(hl:wW V l cq l_1 eA)(hp:jS V p fp fq){k:Nat}(s0:Sz k cq)(s1:Sz k l_1)(s2:Sz k eA)(s3:Sz k fp)(s4:Sz k fq)(hk:16*k+16<274877906944) :
  ae prog 108 #[l,p] V fun r V'=>r=.int .i64 (cq*fp+l_1*fq+eA).num.sign:=by
 have a:=hl;have b:=hp;obtain ⟨d,e,f,h,i,j,m,n,o,rfl,-,-,-⟩:=hl;obtain ⟨q,s,t,x,y,z,rfl,-,-⟩:=hp;refine wB d e f h i j m n o q s t x y z V _ fun C c=>(lY (a.le c) (b.le c) s0 s1 s2 s3 s4 (by omega)).mono ?_;rintro r V2 D g;have A:=g;obtain ⟨u,v,w,rfl⟩:=g.shape;refine ⟨_,_,_,rfl,fun E B=>(pA (A.le B) (kz s0 s1 s2 s3 s4) (by omega)).mono ?_⟩;rintro r F G rfl;exact ⟨_,rfl,fun H I=>rfl⟩
theorem gx {V:View}{v:Value}{q:Rat}(h:RQ V v q){k:Nat}(s:Sz k q)(hk:k<=1099511627776):ae prog 70 #[v] V fun r V'=>RA V' r q:=by
 obtain ⟨p,n,c,f,g,i,rfl,j,l⟩:=h;have y:=ag s.1;have z:=ag s.2;refine Ba _ p n c f g i V _ fun A a=>(jm ⟨_,_,_,rfl,j.le a⟩ (by omega)).mono ?_;rintro r V2 m ⟨B,C,D,rfl,o⟩;refine ⟨_,_,_,_,rfl,fun E b=>(cw q _ (l.le (a.trans (m.trans b)))).mono ?_⟩;rintro r F t ⟨G,H,I,rfl,u⟩;refine ⟨_,_,_,rfl,fun J d=>(rS (u.le d) (by omega)).mono ?_⟩;rintro r K w ⟨L,M,N,rfl,x⟩;exact ⟨_,_,_,rfl,fun O e=>⟨_,_,_,_,_,_,rfl,o.le (b.trans (t.trans (d.trans (w.trans e)))),x.le e⟩⟩
theorem mb {V:View}{v:Value}{x y:Rat}(h:RP V v x y){k:Nat}(s1:Sz k x)(s2:Sz k y)(hk:k<=1099511627776):ae prog 29 #[v] V fun r V'=>zM V' r x y:=by
 obtain ⟨i,j,l,m,n,o,p,q,s,t,u,w,rfl,z,A⟩:=h;refine Bh _ i j l m n o _ p q s t u w V _ fun D c=>(gx (z.le c) s1 hk).mono ?_;rintro r V2 B d;have a:=d;obtain ⟨_,_,_,_,_,_,_,rfl⟩:=d.shape;refine ⟨_,_,_,_,_,_,_,rfl,fun E e=>(gx (A.le (c.trans (B.trans e))) s2 hk).mono ?_⟩;rintro r F C f;have b:=f;obtain ⟨_,_,_,_,_,_,_,rfl⟩:=f.shape;exact ⟨_,_,_,_,_,_,_,rfl,fun G g=>⟨_,_,_,_,_,_,_,_,_,_,_,_,_,_,rfl,a.le (e.trans (C.trans g)),b.le g⟩⟩
theorem nM {V:View}{v w:Value}{x y:Rat}(hx:RA V v x)(hy:RA V w y){k:Nat}(s:Sz k x)(hk:k<=1099511627776) :
  ae prog 131 #[v,w] V fun r V'=>r=.bool (decide (x=y)):=by
 obtain ⟨p,n,c,f,i,j,rfl,l,o⟩:=hx;obtain ⟨q,m,e,t,u,z,rfl,A,B⟩:=hy;have C:=ag s.1;have D:=ag s.2;refine wO _ p n c f i j _ q m e t u z V _ fun E a=>(gj (l.le a) (A.le a) (by omega)).mono ?_;rintro r V2 b rfl;refine ⟨_,rfl,fun g F d=>(nK (o.le (a.trans (b.trans d))) (B.le (a.trans (b.trans d))) (by omega)).mono ?_,fun g G H=>?_⟩
 ·have g:=of_decide_eq_true g;rintro r I J rfl;refine ⟨_,rfl,fun K L=>?_⟩;have e:ai x.den=ai y.den↔x=y:=⟨fun h=>Rat.ext g (by have:=congrArg val h;rwa [af,af] at this),fun h=>by rw [h]⟩;rw [show decide (ai x.den=ai y.den)=decide (x=y) from by rw [decide_eq_decide];exact e]
 ·have g:=of_decide_eq_false g;rw [decide_eq_false (fun h=>g (by rw [h]))]
abbrev L3:=Int×Int×Int
def lR (x:L3):Bool:=decide (¬(x.1=0/\x.2.1=0))&&decide (bE x.1 x.2.1 x.2.2=1)
def Bd (x:L3):Prop:=x.1.natAbs<2^1000/\x.2.1.natAbs<2^1000/\x.2.2.natAbs<2^1000
inductive Tr where
 | leaf (i:Bool)|node (l:L3) (a b:Tr)
 deriving DecidableEq
structure Nd where
 ln:L3
 left:Int
 right:Int
 deriving DecidableEq
def Tr.size:Tr->Nat
 | .leaf _=>0
 | .node _ a b=>a.size+b.size+1
def Tr.KD (p:L3->Prop):Tr->Prop
 | .leaf _=>True
 | .node l a b=>p l/\a.KD p/\b.KD p
theorem Tr.KD.imp {p q:L3->Prop}(h:∀x,p x->q x):∀{t:Tr},t.KD p->t.KD q
 | .leaf _,_=>trivial
 | .node _ _ _,⟨h1,h2,h3⟩=>⟨h _ h1,Tr.KD.imp h h2,Tr.KD.imp h h3⟩
def rt (k:Nat):Tr->Int
 | .leaf i=>if i then -2 else -1
 | .node ..=>(k:Int)
def wr:Nat->Tr->List Nd
 | _,.leaf _=>[]
 | k,.node l a b=>⟨l,rt (k+1) a,rt (k+1+a.size) b⟩::(wr (k+1) a++wr (k+1+a.size) b)
structure RS where
 seen:List Bool
 cnt:Nat
 bad:Bool
def ZB (n Tf i:Nat):Nat:=n-1-(i+Tf)%n
def mv (n Tf:Nat)(i:Int):Int:=if i<0 then i else (ZB n Tf i.toNat:Int)
theorem NV (a:Addr)(i j:Nat):(a.add i).add j=a.add (i+j):=by
 unfold Addr.add;by_cases b:i=0
 ·subst b;simp
 ·by_cases c:j=0
  ·subst c;simp [b]
  ·simp [b,c,Nat.add_assoc]
theorem CD {a b c:Int}:vJ (decide (a<0)) (ai a.natAbs) (decide (b<0)) (ai b.natAbs) (decide (c<0)) (ai c.natAbs)=lR (a,b,c):=by
 have d:∀z:Int,lJ (decide (z<0)) (ai z.natAbs)=true:=by
  intro z;unfold lJ;rw [af];simp only [decide_true,Bool.true_and];by_cases h:z<0
  ·simp only [h,decide_true,Bool.not_true,Bool.false_or,decide_eq_true_eq];intro e;have:=bu.1 e;omega
  ·simp [h]
 have j:cJ (cJ (a:Rat) (b:Rat)) (c:Rat)=((bE a b c:Nat):Int):=by
  have g:∀x y:Int,cJ (x:Rat) (y:Rat)=((Nat.gcd x.natAbs y.natAbs:Nat):Int):=by
   intro x y;unfold cJ;have k:((x:Rat)).num=x:=rfl;have l:((y:Rat)).num=y:=rfl;have m:((x:Rat)).den=1:=rfl;have n:((y:Rat)).den=1:=rfl;rw [k,l,m,n];simp only [Nat.mul_one];exact Rat.mkRat_one _
  rw [g,g];rfl
 unfold vJ lR;rw [d,d,d,aH,aH,aH,j];have o:∀z:Int,((z:Rat)=0)↔z=0:=fun z=>by exact Rat.intCast_eq_zero_iff
 simp only [Bool.true_and,o];rw [Bool.eq_iff_iff];simp only [Bool.and_eq_true,Bool.not_eq_true',Bool.and_eq_false_iff,decide_eq_false_iff_not,decide_eq_true_eq]
 have p:(((bE a b c:Nat):Int):Rat)=((1:Int):Rat)↔bE a b c=1:=by
  rw [Rat.intCast_inj];omega
 rw [p];constructor
 ·rintro ⟨h,f⟩;exact ⟨fun e=>by rcases h with h|h;exact h e.1;exact h e.2,f⟩
 ·rintro ⟨h,f⟩;refine ⟨?_,f⟩;by_cases i:a=0
  ·exact .inr fun q=>h ⟨i,q⟩
  ·exact .inl i
theorem oM {z:Int}{k:Nat}(h:z.natAbs<2^k)(hk:0<k):Sz k (z:Rat):=⟨h,Nat.one_lt_two_pow (by omega)⟩
theorem Bd.ai {x:L3}(h:Bd x):(ai x.1.natAbs).length<=1000/\(ai x.2.1.natAbs).length<=1000/\(ai x.2.2.natAbs).length<=1000:=⟨ag h.1,ag h.2.1,ag h.2.2⟩
theorem Bd.sz {x:L3}(h:Bd x):Sz 1000 (x.1:Rat)/\Sz 1000 (x.2.1:Rat)/\Sz 1000 (x.2.2:Rat):=⟨oM h.1 (by omega),oM h.2.1 (by omega),oM h.2.2 (by omega)⟩
theorem ME (x y u w:Int):mH (x:Rat) (y:Rat) ((x:Rat)+((1:Int):Rat)*(u:Rat)) ((y:Rat)+((1:Int):Rat)*(w:Rat))=(((-w:Int):Rat),((u:Int):Rat),((w*x-u*y:Int):Rat)):=by
 have a:(x:Rat)+((1:Int):Rat)*(u:Rat)=((x+u:Int):Rat):=by rw [←Rat.intCast_mul,←Rat.intCast_add,Int.one_mul]
 have b:(y:Rat)+((1:Int):Rat)*(w:Rat)=((y+w:Int):Rat):=by rw [←Rat.intCast_mul,←Rat.intCast_add,Int.one_mul]
 rw [a,b];have c:-(((y+w:Int):Rat)-(y:Rat))=((-w:Int):Rat):=by rw [←Rat.intCast_sub,←Rat.intCast_neg];congr 1;omega
 have d:((x+u:Int):Rat)-(x:Rat)=((u:Int):Rat):=by rw [←Rat.intCast_sub];congr 1;omega
 have e:-(((-w:Int):Rat)*(x:Rat)+((u:Int):Rat)*(y:Rat))=((w*x-u*y:Int):Rat):=by
  rw [←Rat.intCast_mul,←Rat.intCast_mul,←Rat.intCast_add,←Rat.intCast_neg];congr 1;rw [Int.neg_mul];omega
 have f:(((((-w:Int):Rat).den*((u:Int):Rat).den*((w*x-u*y:Int):Rat).den:Nat):Int):Rat)=1:=rfl;unfold mH;dsimp only;rw [c,d,e,f,Rat.mul_one,Rat.mul_one,Rat.mul_one]
def vy (a b c:Int):L3:=(a / (bE a b c:Int),b / (bE a b c:Int),c / (bE a b c:Int))
def small (z:Int)(k:Nat):Bool:=decide (z.natAbs<=k)
theorem Jh:∀i:Fin 9,∀j:Fin 9,∀k:Fin 65,(i.1=4/\j.1=4)\/(lR (vy ((i.1:Int)-4) ((j.1:Int)-4) ((k.1:Int)-32))&&small (vy ((i.1:Int)-4) ((j.1:Int)-4) ((k.1:Int)-32)).1 32&&small (vy ((i.1:Int)-4) ((j.1:Int)-4) ((k.1:Int)-32)).2.1 32&&small (vy ((i.1:Int)-4) ((j.1:Int)-4) ((k.1:Int)-32)).2.2 32)=true:=by decide +kernel
theorem N1 (k:Nat)(hk:6<=k){z:Int}(h:z.natAbs<=32):z.natAbs<2^k:=Nat.lt_of_le_of_lt h (Nat.lt_of_lt_of_le (by decide:32<2^6) (Nat.pow_le_pow_right (by decide) hk))
theorem PL (k:Nat)(hk:6<=k){x:L3}(h1:x.1.natAbs<=32)(h2:x.2.1.natAbs<=32)(h3:x.2.2.natAbs<=32):x.1.natAbs<2^k/\x.2.1.natAbs<2^k/\x.2.2.natAbs<2^k:=⟨N1 k hk h1,N1 k hk h2,N1 k hk h3⟩
theorem LU {a b c:Int}(h1:-4<=a/\a<=4)(h2:-4<=b/\b<=4)(h3:-32<=c/\c<=32)(h:¬(a=0/\b=0)):lR (vy a b c)=true/\Bd (vy a b c):=by
 have:=Jh ⟨(a+4).toNat,by omega⟩ ⟨(b+4).toNat,by omega⟩ ⟨(c+32).toNat,by omega⟩;dsimp only at this;rw [show (((a+4).toNat:Nat):Int)-4=a from by omega,show (((b+4).toNat:Nat):Int)-4=b from by omega,show (((c+32).toNat:Nat):Int)-32=c from by omega] at this;rcases this with d|d
 ·omega
 ·simp only [Bool.and_eq_true,small,decide_eq_true_eq] at d;exact ⟨d.1.1.1,PL 1000 (by decide) d.1.1.2 d.1.2 d.2⟩
theorem Jo {x y:Int}(h1:-4<=x/\x<=4)(h2:-4<=y/\y<=4):-16<=x*y/\x*y<=16:=by
 have:(x*y).natAbs<=4*4:=by rw [Int.natAbs_mul];exact Nat.mul_le_mul (by omega) (by omega)
 omega
theorem num_mul {r:Rat}{f:Nat}{a:Int}(hf:f≠0)(h:r*((f:Nat):Int)=(a:Rat)):r.num*f=a*r.den:=by
 have b:=r.den_nz;rw [←Rat.mkRat_self r,←Rat.mkRat_one f,←Rat.mkRat_one a,Rat.mkRat_mul_mkRat,Rat.mkRat_eq_iff (by simpa using b) (by omega)] at h;simpa using h
theorem va {r s:Rat}{f:Nat}{a b:Int}(hf:f≠0)(hr:r*((f:Nat):Int)=(a:Rat))(hs:s*((f:Nat):Int)=(b:Rat)):cJ r s*((f:Nat):Int)=(((Nat.gcd a.natAbs b.natAbs:Nat):Int):Rat):=by
 have c:=num_mul hf hr;have d:=num_mul hf hs;have d1:=r.den_nz;have d2:=s.den_nz;have e:r.num.natAbs*f=a.natAbs*r.den:=by have:=congrArg Int.natAbs c;rwa [Int.natAbs_mul,Int.natAbs_mul,Int.natAbs_natCast,Int.natAbs_natCast] at this
 have g:s.num.natAbs*f=b.natAbs*s.den:=by have:=congrArg Int.natAbs d;rwa [Int.natAbs_mul,Int.natAbs_mul,Int.natAbs_natCast,Int.natAbs_natCast] at this
 have h:Nat.gcd (r.num.natAbs*s.den) (s.num.natAbs*r.den)*f=Nat.gcd a.natAbs b.natAbs*(r.den*s.den):=by
  rw [←Nat.gcd_mul_right,←Nat.gcd_mul_right];congr 1
  ·rw [Nat.mul_right_comm,e,Nat.mul_assoc]
  ·rw [Nat.mul_right_comm,g,Nat.mul_assoc,Nat.mul_comm s.den]
 unfold cJ;rw [←Rat.mkRat_one ((f:Nat):Int),Rat.mkRat_mul_mkRat,←Rat.mkRat_one (((Nat.gcd a.natAbs b.natAbs:Nat):Int)),Rat.mkRat_eq_iff (by simpa using Nat.mul_ne_zero d1 d2) (by omega)];simp only [Nat.mul_one];have:=congrArg (Nat.cast (R:=Int)) h;simpa using this
theorem mo (q:Rat)(m:Nat):q*(((q.den*m:Nat):Int):Rat)=((q.num*m:Int):Rat):=by
 have e:q*(((q.den:Nat):Int):Rat)=((q.num:Int):Rat):=by
  have h:=q.den_nz
  have a:mkRat q.num q.den*mkRat ((q.den:Nat):Int) 1=mkRat q.num 1:=by
   rw [Rat.mkRat_mul_mkRat,Rat.mkRat_eq_iff (by simpa using h) (by omega)];simp
  rwa [Rat.mkRat_self,Rat.mkRat_one,Rat.mkRat_one] at a
 rw [Int.natCast_mul,Rat.intCast_mul,←Rat.mul_assoc,e,←Rat.intCast_mul]
theorem As {a:Int}{g:Nat}(hg:g≠0)(h:(g:Int)∣a):((a / (g:Int):Int):Rat)=(a:Rat) / ((g:Int):Rat):=by
 obtain ⟨k,rfl⟩:=h;have b:((g:Int):Rat)≠0:=by exact_mod_cast hg
 rw [Int.mul_ediv_cancel_left _ (by omega),Rat.intCast_mul,Rat.div_def,Rat.mul_comm ((g:Int):Rat),Rat.mul_assoc,Rat.mul_inv_cancel _ b,Rat.mul_one]
def ru (a b c:Rat):L3:=
 let f:Nat:=a.den*b.den*c.den
 vy (a*((f:Int):Rat)).num (b*((f:Int):Rat)).num (c*((f:Int):Rat)).num
theorem kn {a b c:Rat}(h:¬(a=0/\b=0)):let g:=cJ (cJ a b) c
  g≠0/\a*g⁻¹=((ru a b c).1:Rat)/\b*g⁻¹=((ru a b c).2.1:Rat)/\c*g⁻¹=((ru a b c).2.2:Rat):=by
 intro g;have i:a.den*b.den*c.den≠0:=Nat.mul_ne_zero (Nat.mul_ne_zero a.den_nz b.den_nz) c.den_nz;have j:a*(((a.den*b.den*c.den:Nat):Int):Rat)=((a.num*(b.den*c.den:Nat):Int):Rat):=by rw [Nat.mul_assoc,mo]
 have k:b*(((a.den*b.den*c.den:Nat):Int):Rat)=((b.num*(a.den*c.den:Nat):Int):Rat):=by rw [Nat.mul_comm a.den,Nat.mul_assoc,mo]
 have l:c*(((a.den*b.den*c.den:Nat):Int):Rat)=((c.num*(a.den*b.den:Nat):Int):Rat):=by rw [Nat.mul_comm (a.den*b.den),mo]
 have hm:ru a b c=vy (a.num*(b.den*c.den:Nat)) (b.num*(a.den*c.den:Nat)) (c.num*(a.den*b.den:Nat)):=by
  unfold ru;dsimp only;rw [j,k,l,Rat.num_intCast,Rat.num_intCast,Rat.num_intCast]
 have o:=va i j k;have d:=va i o l;rw [hm]
 have p:a.num*(b.den*c.den:Nat)=0↔a=0:=by
  rw [Int.mul_eq_zero,Rat.num_eq_zero];have:=Nat.mul_ne_zero b.den_nz c.den_nz;constructor
  ·rintro (h|h)
   ·exact h
   ·omega
  ·exact .inl
 have q:b.num*(a.den*c.den:Nat)=0↔b=0:=by
  rw [Int.mul_eq_zero,Rat.num_eq_zero];have:=Nat.mul_ne_zero a.den_nz c.den_nz;constructor
  ·rintro (h|h)
   ·exact h
   ·omega
  ·exact .inl
 generalize a.num*(b.den*c.den:Nat)=A at *;generalize b.num*(a.den*c.den:Nat)=B at *;generalize c.num*(a.den*b.den:Nat)=C at *;generalize a.den*b.den*c.den=f at *;have r:Nat.gcd (((Nat.gcd A.natAbs B.natAbs:Nat):Int)).natAbs C.natAbs=bE A B C:=by unfold bE;rw [Int.natAbs_natCast]
 rw [r] at d;change g*((f:Int):Rat)=_ at d
 have n:bE A B C≠0:=by
  intro e;have:=Nat.gcd_eq_zero_iff.1 e;have:=Nat.gcd_eq_zero_iff.1 this.1;exact h ⟨p.1 (by omega),q.1 (by omega)⟩
 have s:((f:Int):Rat)≠0:=by exact_mod_cast i
 have m:((bE A B C:Int):Rat)≠0:=by exact_mod_cast n
 have t:g≠0:=by intro e;rw [e,Rat.zero_mul] at d;exact m d.symm
 have u:((bE A B C:Nat):Int)∣A:=Int.natAbs_dvd_natAbs.1 (by rw [Int.natAbs_natCast];exact Nat.dvd_trans (Nat.gcd_dvd_left _ _) (Nat.gcd_dvd_left _ _));have v:((bE A B C:Nat):Int)∣B:=Int.natAbs_dvd_natAbs.1 (by rw [Int.natAbs_natCast];exact Nat.dvd_trans (Nat.gcd_dvd_left _ _) (Nat.gcd_dvd_right _ _));have dC:((bE A B C:Nat):Int)∣C:=Int.natAbs_dvd_natAbs.1 (by rw [Int.natAbs_natCast];exact Nat.gcd_dvd_right _ _)
 have key:∀{x:Rat} {X:Int},x*((f:Int):Rat)=(X:Rat)->((bE A B C:Nat):Int)∣X->x*g⁻¹=((X / (bE A B C:Int):Int):Rat):=by
  intro x X w y;rw [As n y,←w,←d];grind
 exact ⟨t,key j u,key k v,key l dC⟩
theorem LX {a b c:Rat}(h:¬(a=0/\b=0)):¬((ru a b c).1=0/\(ru a b c).2.1=0):=by
 obtain ⟨j,d,f,-⟩:=kn (c:=c) h;rintro ⟨k,l⟩;rw [k] at d;rw [l] at f
 have g:(cJ (cJ a b) c)⁻¹≠0:=fun e=>by
  have i:=Rat.mul_inv_cancel _ j;rw [e,Rat.mul_zero] at i;exact absurd i (by decide)
 apply h;constructor
 ·rcases Rat.mul_eq_zero.1 (by simpa using d) with e|e
  ·exact e
  ·exact absurd e g
 ·rcases Rat.mul_eq_zero.1 (by simpa using f) with e|e
  ·exact e
  ·exact absurd e g
theorem Gx {V:View}{v:Value}{a b c:Int}(h:RL V v a b c):∃(b1:Bool)(p1:OA)(n1 c1:Nat)(b2:Bool)(p2:OA)(n2 c2:Nat)(b3:Bool)(p3:OA)(n3 c3:Nat),v=.agg #[.bool b1,.slice p1 n1 c1,.bool b2,.slice p2 n2 c2,.bool b3,.slice p3 n3 c3]:=by
 obtain ⟨p,n,s,d,f,g,q,m,e,rfl,-⟩:=h;exact ⟨_,_,_,_,_,_,_,_,_,_,_,_,rfl⟩
def Gz (V:View)(p:OA)(n:Nat):Prop:=∀i,i<n->∃(a:Addr)(x:Int),ah p (i*1)=some a/\V.at a (.int .i64 x)
theorem Gz.le {V V':View}{p:OA}{n:Nat}(h:Gz V p n)(l:V.Le V'):Gz V' p n:=fun i b=>by
 obtain ⟨a,x,e,c⟩:=h i b;exact ⟨a,x,e,l.at c⟩
def lK (V:View)(tb:Nat)(p:OA)(n c:Nat)(at_:Int):Prop:=V.w.heap[tb]?=some (.cells #[.slice p n c,.int .i64 at_] 88 (0,0))
theorem lX {V:View}{tb:Nat}{p:OA}{n c:Nat}{at_:Int}(k:Int)(hr:Gz V p n)(hn:n<=400)(hw:lK V tb p n c at_)(hx:V.X tb)(h0:0<=at_)(hk:0<k)(hk2:k<=1000) :
  ae prog 10 #[.pointer (some ⟨tb,0,none⟩),.int .i64 k] V fun r V'=>∃x at',r=.int .i64 x/\0<=x/\x<k/\0<=at'/\lK V' tb p n c at':=by
 refine oZ tb p n c at_ k V _ hw hx ⟨fun g m o e=>⟨0,at_,rfl,by omega,hk,h0,e⟩,fun g=>?_⟩;have g:at_<n:=by have:=of_decide_eq_false g;omega
 obtain ⟨i,rfl⟩:∃i:Nat,at_=i:=⟨at_.toNat,by omega⟩;obtain ⟨a,x,d,f⟩:=hr i (by omega)
 have h:p.isSome=true:=by
  cases p with
  | none=>simp [ah] at d
  | some a=>rfl
 have q:(x.tmod k).natAbs<k.natAbs:=by rw [Int.natAbs_tmod];exact Nat.mod_lt _ (by omega)
 have j:i64.wrap ((i:Int)+1)=((i+1:Nat):Int):=by rw [aw (by omega)];omega
 rw [Int.toNat_natCast,j];have l:i64.wrap (x.tmod k+k)=x.tmod k+k:=aw (by omega);refine ⟨h,⟨by omega,by omega⟩,x,⟨a,d,f⟩,by omega,fun b V2 s e=>⟨x.tmod k+k,_,by rw [l],?_,?_,?_,e⟩,fun b t u e=>⟨_,_,rfl,?_,?_,?_,e⟩⟩
 ·omega
 ·have:=of_decide_eq_true b;omega
 ·omega
 ·have:=of_decide_eq_false b;omega
 ·omega
 ·omega
theorem Pk {V:View}{tb:Nat}{p:OA}{n c:Nat}{at_:Int}(hr:Gz V p n)(hn:n<=400)(hw:lK V tb p n c at_)(hx:V.X tb)(h0:0<=at_) :
  ae prog 16 #[.pointer (some ⟨tb,0,none⟩)] V fun r V'=>∃(x y at':Int),RP V' r (x:Rat) (y:Rat)/\(-4<=x/\x<=4)/\(-4<=y/\y<=4)/\0<=at'/\lK V' tb p n c at':=by
 refine tR tb p n c at_ V _ hw hx fun k i a l m=>(lX (V:=k.ax [a]) 9 (hr.le fun b o h=>i b o h) hn l ⟨by simp,m⟩ h0 (by omega) (by omega)).mono ?_;rintro r V2 q ⟨x,B,rfl,C,D,t1,d⟩;refine ⟨_,rfl,_,_,_,_,d,fun s t u v w=>(lX (V:=s.ax [u]) 9 (hr.le fun b o h=>t b o (q b o (i b o h))) hn v ⟨by simp,w⟩ t1 (by omega) (by omega)).mono ?_⟩;rintro r E F ⟨y,e,rfl,G,H,t2,f⟩;refine ⟨_,rfl,_,_,_,_,f,fun I J=>?_⟩;rw [aw (x:=x-4) (by omega),aw (x:=y-4) (by omega)];refine (uJ (x-4) (y-4) (by omega) (by omega) (by omega) (by omega)).mono ?_;rintro r K L j;have g:=j;obtain ⟨M,N,O,P,Q,R,S,T,U,W,Y,Z,rfl,-⟩:=j;exact ⟨_,_,_,_,_,_,_,_,_,_,_,_,_,_,rfl,fun V7 z A=>⟨x-4,y-4,e,g.le z,⟨by omega,by omega⟩,⟨by omega,by omega⟩,t2,A⟩⟩
theorem RQ.zero {V:View}:RQ V (.agg #[.bool false,.slice none 0 0,.slice none 0 0]) ((0:Int):Rat):=⟨none,0,0,none,0,0,rfl,RD.nil,RD.nil⟩
theorem RP.zero {V:View}:RP V (.agg #[.bool false,.slice none 0 0,.slice none 0 0,.bool false,.slice none 0 0,.slice none 0 0]) ((0:Int):Rat) ((0:Int):Rat):=
 ⟨none,0,0,none,0,0,none,0,0,none,0,0,rfl,RQ.zero,RQ.zero⟩
theorem tu {z:Int}(h:-40<=z/\z<=40):Sz 10 (z:Rat):=oM (by omega) (by omega)
theorem Wi {V:View}{tb:Nat}{p:OA}{n c:Nat}{at_:Int}(hr:Gz V p n)(hn:n<=400)(hw:lK V tb p n c at_)(hx:V.X tb)(h0:0<=at_) :
  ae prog 36 #[.pointer (some ⟨tb,0,none⟩)] V fun r V'=>∃(x y at':Int),RP V' r (x:Rat) (y:Rat)/\(-4<=x/\x<=4)/\(-4<=y/\y<=4)/\¬(x=0/\y=0)/\0<=at'/\lK V' tb p n c at':=by
 refine tU tb p n c at_ V _ hw hx fun s t d u v=>(Pk (V:=s.ax [d]) (hr.le fun b o h=>t b o h) hn u ⟨by simp,v⟩ h0).mono ?_;rintro r V2 P ⟨x,y,k,l,e,f,t1,i⟩;have a:=l;obtain ⟨w,z,A,B,C,D,E,F,G,H,I,J,rfl,-⟩:=l;refine ⟨_,_,_,_,_,_,_,_,_,_,_,_,_,_,rfl,_,_,_,_,i,fun Q m=>(Ae (a.le fun b o h=>m b o h) RP.zero (tu (by omega)) (tu (by omega)) (tu (by omega)) (tu (by omega)) (by omega)).mono ?_⟩;rintro r R K rfl;refine ⟨_,rfl,fun g S T=>(uJ 1 0 (by omega) (by omega) (by omega) (by omega)).mono ?_,fun g U L M=>⟨x,y,k,a.le fun b o h=>L b o (K b o (m b o h)),e,f,?_,t1,M⟩⟩
 ·rintro r W Y q;have j:=q;obtain ⟨w,z,A,B,C,D,E,F,G,H,I,J,rfl,-⟩:=q;exact ⟨_,_,_,_,_,_,_,_,_,_,_,_,_,_,rfl,fun Z N O=>⟨1,0,k,j.le N,⟨by omega,by omega⟩,⟨by omega,by omega⟩,by omega,t1,O⟩⟩
 ·rintro ⟨rfl,rfl⟩;simp at g
theorem Wh {V:View}{tb:Nat}{p:OA}{n c:Nat}{at_:Int}(hr:Gz V p n)(hn:n<=400)(hw:lK V tb p n c at_)(hx:V.X tb)(h0:0<=at_) :
  ae prog 9 #[.pointer (some ⟨tb,0,none⟩)] V fun r V'=>∃(x:L3)(at':Int),RL V' r x.1 x.2.1 x.2.2/\lR x=true/\Bd x/\0<=at'/\lK V' tb p n c at':=by
 refine tQ tb p n c at_ V _ hw hx fun T F e U W=>(Pk (V:=T.ax [e]) (hr.le fun b o h=>F b o h) hn U ⟨by simp,W⟩ h0).mono ?_;rintro r V2 Y ⟨x,y,M0,G,f,g,t1,i⟩;have d:=G;obtain ⟨p1,H,c1,p2,I,c2,p3,J,c3,p4,n4,c4,rfl,-⟩:=G;refine ⟨_,_,_,_,_,_,_,_,_,_,_,_,_,_,rfl,_,_,_,_,i,fun V3 K=>(ka 1 (by omega) (by omega)).mono ?_⟩;rintro r Z L M;have j:=M;obtain ⟨p5,n5,c5,p6,n6,c6,rfl⟩:=M.shape;refine ⟨_,_,_,_,_,_,_,rfl,fun V5 q S6 e5 h5=>(Wi (V:=V5.ax [S6]) (hr.le fun b o h=>q b o (L b o (K b o (Y b o (F b o h))))) hn e5 ⟨by simp,h5⟩ t1).mono ?_⟩;rintro r V6 N ⟨u,w,s,O,t,Qz,a0,t2,v⟩;have z:=O;obtain ⟨q1,m1,d1,q2,m2,d2,q3,m3,d3,q4,m4,d4,rfl,-⟩:=O;refine ⟨_,_,_,_,_,_,_,_,_,_,_,_,_,_,rfl,_,_,_,_,v,fun A B=>?_⟩;have P:V2.Le A:=fun b o h=>B b o (N b o (q b o (L b o (K b o h))));have Zt:Z.Le A:=fun b o h=>B b o (N b o (q b o h));have Zu:V6.Le A:=fun b o h=>B b o h;refine (ma (d.le P) (j.le Zt) (z.le Zu) (k:=10) (m:=10) (tu (by omega)) (tu (by omega)) (tu (by omega)) (tu (by omega)) (tu (by omega)) (by omega)).mono ?_;rintro r V8 l8 Q;have C:=Q;obtain ⟨s1,i1,j1,s2,i2,j2,s3,i3,j3,s4,i4,j4,rfl,-⟩:=Q;have f1:(x:Rat)+((1:Int):Rat)*(u:Rat)=((x+u:Int):Rat):=by rw [←Rat.intCast_mul,←Rat.intCast_add,Int.one_mul]
 have f2:(y:Rat)+((1:Int):Rat)*(w:Rat)=((y+w:Int):Rat):=by rw [←Rat.intCast_mul,←Rat.intCast_add,Int.one_mul]
 refine ⟨_,_,_,_,_,_,_,_,_,_,_,_,_,_,rfl,fun V9 R=>(lF (d.le (P.trans (l8.trans R))) (C.le R) (k:=10) (tu (by omega)) (tu (by omega)) (by rw [f1];exact tu (by omega)) (by rw [f2];exact tu (by omega)) (by omega) (by omega)).mono ?_⟩;rintro r hZ a1 ⟨-,h⟩;rw [ME] at h;have H:((-w:Int):Rat).num=-w:=rfl;have I:((u:Int):Rat).num=u:=rfl;have J:((w*x-u*y:Int):Rat).num=w*x-u*y:=rfl;dsimp only at h;rw [H,I,J] at h;obtain ⟨l,rfl,S⟩:=h (by omega);have m1:=Jo Qz f;have m2:=Jo t g;obtain ⟨k1,k2⟩:=LU (a:=-w) (b:=u) (c:=w*x-u*y) (by omega) (by omega) (by omega) (by omega);have D:=S;obtain ⟨b1,u1,v1,w1,b2,u2,v2,w2,b3,u3,v3,w3,rfl⟩:=(Gx S);exact ⟨_,_,_,_,_,_,_,_,_,_,_,_,_,rfl,fun gN bL E=>⟨vy (-w) u (w*x-u*y),s,D.le bL,k1,k2,t2,E⟩⟩
theorem oz {V:View}(n:Int)(d:Nat)(h0:-1000<=n)(h1:n<=1000)(hd0:d≠0)(hd:d<=1000) :
  ae prog 50 #[.int .i64 n,.int .i64 (d:Int)] V fun r V'=>RQ V' r (mkRat n d):=by
 refine DA n d V _ fun l o=>(yR n (by omega) (by omega)).mono ?_;rintro r V2 q ⟨p,m,c,rfl,g⟩;rw [aN (by omega)];refine ⟨_,_,_,_,rfl,fun s b=>(cU d (by omega)).mono ?_⟩;rintro r t e ⟨u,v,w,rfl,f⟩;refine ⟨_,_,_,rfl,fun x a=>(kM n (g.le (b.trans (e.trans a))) (f.le a) (Nat.le_trans (ag (k:=10) (by omega)) (by omega)) (Nat.le_trans (ag (k:=10) (by omega)) (by omega)) hd0).mono ?_⟩;rintro r y z h;have i:=h;obtain ⟨_,_,_,_,_,_,rfl⟩:=h.shape;exact ⟨_,_,_,_,_,_,_,rfl,fun A j=>i.le j⟩
theorem MA:∀x:Fin 9,Sz 10 (mkRat (2*((x.1:Int)-4)+1) 2)/\Sz 10 (mkRat (3*((x.1:Int)-4)+1) 3):=by unfold Sz;decide +kernel
theorem Yu {V:View}{tb:Nat}{p:OA}{n c:Nat}{at_:Int}(hr:Gz V p n)(hn:n<=400)(hw:lK V tb p n c at_)(hx:V.X tb)(h0:0<=at_) :
  ae prog 18 #[.pointer (some ⟨tb,0,none⟩)] V fun r V'=>∃(q:Rat)(at':Int),RQ V' r q/\Sz 10 q/\0<=at'/\lK V' tb p n c at':=by
 refine tS tb p n c at_ V _ hw hx fun w l g z A=>(lX (V:=w.ax [g]) 9 (hr.le fun b o h=>l b o h) hn z ⟨by simp,A⟩ h0 (by omega) (by omega)).mono ?_;rintro r V2 B ⟨x,K,rfl,L,M,t1,j⟩;refine ⟨_,rfl,_,_,_,_,j,fun C D E F G=>(lX (V:=C.ax [E]) 6 (hr.le fun b o h=>D b o (B b o (l b o h))) hn F ⟨by simp,G⟩ t1 (by omega) (by omega)).mono ?_⟩;rintro r N O ⟨y,a,rfl,P,Q,t2,k⟩;obtain ⟨i,rfl⟩:∃i:Nat,x=i:=⟨x.toNat,by omega⟩;obtain ⟨m,s⟩:=MA ⟨i,by omega⟩;dsimp only at m s;have H:i64.wrap ((i:Int)-4)=(i:Int)-4:=aw (by omega);have I:i64.wrap (i64.wrap (2*((i:Int)-4))+1)=2*((i:Int)-4)+1:=by rw [aw (x:=2*((i:Int)-4)) (by omega),aw (by omega)]
 have J:i64.wrap (i64.wrap (3*((i:Int)-4))+1)=3*((i:Int)-4)+1:=by rw [aw (x:=3*((i:Int)-4)) (by omega),aw (by omega)]
 rw [H,I,J];refine ⟨_,rfl,_,_,_,_,k,fun _ R S=>(oz (2*((i:Int)-4)+1) 2 (by omega) (by omega) (by omega) (by omega)).mono ?_,fun _=>⟨fun _ T U=>(oz (3*((i:Int)-4)+1) 3 (by omega) (by omega) (by omega) (by omega)).mono ?_,fun _ W Y=>(ka ((i:Int)-4) (by omega) (by omega)).mono ?_⟩⟩
 ·rintro r t u h;have d:=h;obtain ⟨_,_,_,_,_,_,rfl⟩:=h.shape;exact ⟨_,_,_,_,_,_,_,rfl,fun v e f=>⟨_,a,d.le e,m,t2,f⟩⟩
 ·rintro r t u h;have d:=h;obtain ⟨_,_,_,_,_,_,rfl⟩:=h.shape;exact ⟨_,_,_,_,_,_,_,rfl,fun v e f=>⟨_,a,d.le e,s,t2,f⟩⟩
 ·rintro r t u h;have d:=h;obtain ⟨_,_,_,_,_,_,rfl⟩:=h.shape;exact ⟨_,_,_,_,_,_,_,rfl,fun v e f=>⟨_,a,d.le e,tu (by omega),t2,f⟩⟩
end Go.Proofs.Tryz
namespace Go.Eng
open Go.Big
theorem RR.zero (V:View):RR V (.agg #[.int .i64 0,.int .i64 0,.pointer none]) 0:=.inl ⟨rfl,by unfold Wd;decide⟩
end Go.Eng
namespace Go.Proofs.Tryz
open Go.Eng Go.Big
structure Sp where
 lo:Rat
 hi:Rat
 a:Bool
 b:Bool
def Sp.can (s:Sp):Prop:=(s.a=true->s.lo=0)/\(s.b=true->s.hi=0)
def Sp.sz (k:Nat)(s:Sp):Prop:=Sz k s.lo/\Sz k s.hi
def Sp.zero:Sp:=⟨0,0,false,false⟩
def eh (k:Nat)(l:L3):Prop:=Sz k (l.1:Rat)/\Sz k (l.2.1:Rat)/\Sz k (l.2.2:Rat)
def lU (V:View)(v:Value)(s:Sp):Prop:=∃(x1 x2:Int)(p:OA)(y1 y2:Int)(q:OA),v=.agg #[.int .i64 x1,.int .i64 x2,.pointer p,.int .i64 y1,.int .i64 y2,.pointer q,.bool s.a,.bool s.b] /\
 RR V (.agg #[.int .i64 x1,.int .i64 x2,.pointer p]) s.lo/\RR V (.agg #[.int .i64 y1,.int .i64 y2,.pointer q]) s.hi
theorem lU.le {V V':View}{v:Value}{s:Sp}(h:lU V v s)(l:V.Le V'):lU V' v s:=by
 obtain ⟨a,b,p,c,d,q,e,f,g⟩:=h;exact ⟨a,b,p,c,d,q,e,f.le l,g.le l⟩
def pg (V:View)(v:Value)(l:L3):Prop:=wW V v (l.1:Rat) (l.2.1:Rat) (l.2.2:Rat)
theorem pg.le {V V':View}{v:Value}{l:L3}(h:pg V v l)(e:V.Le V'):pg V' v l:=wW.le h e
def lT (V:View)(v:Value)(l:L3)(s:Sp):Prop:=∃(x1 x2:Int)(p:OA)(y1 y2:Int)(q:OA)(z1 z2:Int)(r:OA)(u1 u2:Int)(t:OA)(w1 w2:Int)(o:OA),
 v=.agg #[.int .i64 x1,.int .i64 x2,.pointer p,.int .i64 y1,.int .i64 y2,.pointer q,.int .i64 z1,.int .i64 z2,.pointer r,.int .i64 u1,.int .i64 u2,.pointer t,.int .i64 w1,.int .i64 w2,.pointer o,.bool s.a,.bool s.b] /\
 pg V (.agg #[.int .i64 x1,.int .i64 x2,.pointer p,.int .i64 y1,.int .i64 y2,.pointer q,.int .i64 z1,.int .i64 z2,.pointer r]) l /\
 lU V (.agg #[.int .i64 u1,.int .i64 u2,.pointer t,.int .i64 w1,.int .i64 w2,.pointer o,.bool s.a,.bool s.b]) s
theorem lT.le {V V':View}{v:Value}{l:L3}{s:Sp}(h:lT V v l s)(e:V.Le V'):lT V' v l s:=by
 obtain ⟨a,b,p,c,d,q,f,g,r,i,j,t,k,m,o,rfl,n,u⟩:=h;exact ⟨a,b,p,c,d,q,f,g,r,i,j,t,k,m,o,rfl,n.le e,u.le e⟩
def Gy (V:View)(v:Value)(b:Bool)(xs ys:List Nat):Prop:=∃p n c p' n' c',v=.agg #[.bool b,.slice p n c,.slice p' n' c']/\RD V p n c xs/\RD V p' n' c' ys
theorem Gy.le {V V':View}{v:Value}{b:Bool}{xs ys:List Nat}(h:Gy V v b xs ys)(l:V.Le V'):Gy V' v b xs ys:=by
 obtain ⟨p,n,c,a,d,f,e,g,i⟩:=h;exact ⟨p,n,c,a,d,f,e,g.le l,i.le l⟩
theorem Gy.nil {V:View}:Gy V (.agg #[.bool false,.slice none 0 0,.slice none 0 0]) false [] []:=⟨_,_,_,_,_,_,rfl,RD.nil,RD.nil⟩
def RE (V:View)(v:Value)(q:Rat)(no:Bool):Prop:=(no=true->Gy V v false [] [])/\(no=false->RA V v q)
theorem RE.le {V V':View}{v:Value}{q:Rat}{no:Bool}(h:RE V v q no)(l:V.Le V'):RE V' v q no:=⟨fun e=>(h.1 e).le l,fun e=>(h.2 e).le l⟩
theorem RE.shape {V:View}{v:Value}{q:Rat}{no:Bool}(h:RE V v q no):∃b p n c p' n' c',v=.agg #[.bool b,.slice p n c,.slice p' n' c']:=by
 cases no with
 | true=>obtain ⟨_,_,_,_,_,_,e,-⟩:=h.1 rfl;exact ⟨_,_,_,_,_,_,_,e⟩
 | false=>exact (h.2 rfl).shape
def K1 (V:View)(v:Value)(s:Sp):Prop:=∃b p n c p' n' c' d q m e q' m' e',v=.agg #[.bool b,.slice p n c,.slice p' n' c',.bool d,.slice q m e,.slice q' m' e',.bool s.a,.bool s.b] /\
 RE V (.agg #[.bool b,.slice p n c,.slice p' n' c']) s.lo s.a/\RE V (.agg #[.bool d,.slice q m e,.slice q' m' e']) s.hi s.b
theorem K1.le {V V':View}{v:Value}{s:Sp}(h:K1 V v s)(l:V.Le V'):K1 V' v s:=by
 obtain ⟨b,p,n,c,g,i,j,d,q,m,e,k,o,r,rfl,a,f⟩:=h;exact ⟨_,_,_,_,_,_,_,_,_,_,_,_,_,_,rfl,a.le l,f.le l⟩
def xi (V:View)(v:Value)(l:L3)(s:Sp):Prop:=∃b1 p1 n1 c1 b2 p2 n2 c2 b3 p3 n3 c3 b p n c p' n' c' d q m e q' m' e',
 v=.agg #[.bool b1,.slice p1 n1 c1,.bool b2,.slice p2 n2 c2,.bool b3,.slice p3 n3 c3,.bool b,.slice p n c,.slice p' n' c',.bool d,.slice q m e,.slice q' m' e',.bool s.a,.bool s.b] /\
 RL V (.agg #[.bool b1,.slice p1 n1 c1,.bool b2,.slice p2 n2 c2,.bool b3,.slice p3 n3 c3]) l.1 l.2.1 l.2.2/\K1 V (.agg #[.bool b,.slice p n c,.slice p' n' c',.bool d,.slice q m e,.slice q' m' e',.bool s.a,.bool s.b]) s
theorem xi.le {V V':View}{v:Value}{l:L3}{s:Sp}(h:xi V v l s)(e:V.Le V'):xi V' v l s:=by
 obtain ⟨b1,i,j,k,b2,o,r,t,b3,u,w,x,b,p,n,c,y,z,A,d,q,m,f,B,C,D,rfl,a,g⟩:=h;exact ⟨_,_,_,_,_,_,_,_,_,_,_,_,_,_,_,_,_,_,_,_,_,_,_,_,_,_,rfl,a.le e,g.le e⟩
def KI (V:View)(v:Value)(s:Sp):Prop:=∃b p n c p' n' c' d q m e q' m' e',v=.agg #[.bool b,.slice p n c,.slice p' n' c',.bool d,.slice q m e,.slice q' m' e',.bool s.a,.bool s.b] /\
 RQ V (.agg #[.bool b,.slice p n c,.slice p' n' c']) s.lo/\RQ V (.agg #[.bool d,.slice q m e,.slice q' m' e']) s.hi
theorem KI.le {V V':View}{v:Value}{s:Sp}(h:KI V v s)(l:V.Le V'):KI V' v s:=by
 obtain ⟨b,p,n,c,g,i,j,d,q,m,e,k,o,r,rfl,a,f⟩:=h;exact ⟨_,_,_,_,_,_,_,_,_,_,_,_,_,_,rfl,a.le l,f.le l⟩
def RF (V:View)(v:Value)(l:L3)(s:Sp):Prop:=∃b1 p1 n1 c1 b2 p2 n2 c2 b3 p3 n3 c3 b p n c p' n' c' d q m e q' m' e',
 v=.agg #[.bool b1,.slice p1 n1 c1,.bool b2,.slice p2 n2 c2,.bool b3,.slice p3 n3 c3,.bool b,.slice p n c,.slice p' n' c',.bool d,.slice q m e,.slice q' m' e',.bool s.a,.bool s.b] /\
 RL V (.agg #[.bool b1,.slice p1 n1 c1,.bool b2,.slice p2 n2 c2,.bool b3,.slice p3 n3 c3]) l.1 l.2.1 l.2.2/\KI V (.agg #[.bool b,.slice p n c,.slice p' n' c',.bool d,.slice q m e,.slice q' m' e',.bool s.a,.bool s.b]) s
theorem RF.le {V V':View}{v:Value}{l:L3}{s:Sp}(h:RF V v l s)(e:V.Le V'):RF V' v l s:=by
 obtain ⟨b1,i,j,k,b2,o,r,t,b3,u,w,x,b,p,n,c,y,z,A,d,q,m,f,B,C,D,rfl,a,g⟩:=h;exact ⟨_,_,_,_,_,_,_,_,_,_,_,_,_,_,_,_,_,_,_,_,_,_,_,_,_,_,rfl,a.le e,g.le e⟩
theorem gI {V:View}{v:Value}{a b c:Int}(h:RL V v a b c):∃b1 p1 n1 c1 b2 p2 n2 c2 b3 p3 n3 c3,v=.agg #[.bool b1,.slice p1 n1 c1,.bool b2,.slice p2 n2 c2,.bool b3,.slice p3 n3 c3]:=by
 obtain ⟨_,_,_,_,_,_,_,_,_,e,-⟩:=h;exact ⟨_,_,_,_,_,_,_,_,_,_,_,_,e⟩
theorem gJ {V:View}{v:Value}{x y:Rat}(h:RP V v x y):∃b1 p1 n1 c1 p2 n2 c2 b3 p3 n3 c3 p4 n4 c4,v=.agg #[.bool b1,.slice p1 n1 c1,.slice p2 n2 c2,.bool b3,.slice p3 n3 c3,.slice p4 n4 c4]:=by
 obtain ⟨_,_,_,_,_,_,_,_,_,_,_,_,e,-⟩:=h;exact ⟨_,_,_,_,_,_,_,_,_,_,_,_,_,_,e⟩
def bg (l:L3)(x y:Rat):Rat:=(l.1:Rat)*x+(l.2.1:Rat)*y+(l.2.2:Rat)
def fD (l:L3):Rat:=(l.1:Rat)*(l.1:Rat)+(l.2.1:Rat)*(l.2.1:Rat)
def iT (l:L3)(x y:Rat):Rat:=((l.2.1:Rat)*x-(l.1:Rat)*y)*(fD l)⁻¹
def BB (l:L3)(t:Rat):Rat:=(l.2.1:Rat)*t-(l.1:Rat)*(l.2.2:Rat)*(fD l)⁻¹
def BC (l:L3)(t:Rat):Rat:=-((l.1:Rat)*t)-(l.2.1:Rat)*(l.2.2:Rat)*(fD l)⁻¹
def revL (l:L3):L3:=(-l.1,-l.2.1,-l.2.2)
def Sp.neg (s:Sp):Sp:=⟨if s.b then 0 else -s.hi,if s.a then 0 else -s.lo,s.b,s.a⟩
def Sp.emp (s:Sp):Bool:=!s.a&&!s.b&&decide (cmpQ s.lo s.hi≥0)
def Nz (l:L3):Prop:=¬(l.1=0/\l.2.1=0)
theorem sq_nonneg (x:Int):0<=x*x:=by
 rw [←Int.natAbs_mul_self];exact Int.natCast_nonneg _
theorem Jy (l:L3):fD l=((l.1*l.1+l.2.1*l.2.1:Int):Rat):=by unfold fD;simp
theorem Nz.norm {l:L3}(h:Nz l):fD l≠0:=by
 rw [Jy];have d:=sq_nonneg l.1;have f:=sq_nonneg l.2.1
 have a:l.1*l.1+l.2.1*l.2.1≠0:=by
  intro e;have b:l.1*l.1=0:=by omega
  have c:l.2.1*l.2.1=0:=by omega
  exact h ⟨(Int.mul_eq_zero.1 b).elim id id,(Int.mul_eq_zero.1 c).elim id id⟩
 exact_mod_cast a
theorem CC {q:Rat}(h:q≠0):q.num≠0:=fun e=>h (Rat.num_eq_zero.1 e)
theorem At {V:View}{l p:Value}{L:L3}{x y:Rat}(hl:pg V l L)(hp:jS V p x y){k:Nat}(sl:eh k L)(s1:Sz k x)(s2:Sz k y)(hk:8*k+7<274877906944) :
  ae prog 107 #[l,p] V fun r V'=>RR V' r (iT L x y):=by
 refine (uH hl hp sl.1 sl.2.1 sl.2.2 s1 s2 hk).mono ?_;rintro r V2 a g
 have e:iT L x y=((((L.2.1:Rat))*x+(-(L.1:Rat))*y)*(((L.2.1:Rat))*((L.2.1:Rat))+(-(L.1:Rat))*(-(L.1:Rat)))⁻¹):=by
  unfold iT fD;grind
 rw [e];exact g
theorem qm {L:L3}{x y:Rat}{k:Nat}(sl:eh k L)(s1:Sz k x)(s2:Sz k y):Sz (8*k+7) (iT L x y):=by
 have e:iT L x y=((((L.2.1:Rat))*x+(-(L.1:Rat))*y)*(((L.2.1:Rat))*((L.2.1:Rat))+(-(L.1:Rat))*(-(L.1:Rat)))⁻¹):=by
  unfold iT fD;grind
 rw [e];exact rO sl.1 sl.2.1 sl.2.2 s1 s2
theorem T4 {V:View}{l t:Value}{L:L3}{x:Rat}(hl:pg V l L)(ht:RR V t x){k:Nat}(sl:eh k L)(s1:Sz k x)(hk:20*k+19<274877906944) :
  ae prog 172 #[l,t] V fun r V'=>jS V' r (BB L x) (BC L x):=by
 refine (BM hl ht sl.1 sl.2.1 sl.2.2 s1 hk).mono ?_;rintro r V2 c g;have a:BB L x=((L.1:Rat)*((-(L.2.2:Rat))*((L.1:Rat)*(L.1:Rat)+(L.2.1:Rat)*(L.2.1:Rat))⁻¹))+((L.2.1:Rat)*x):=by unfold BB fD;grind
 have b:BC L x=((L.2.1:Rat)*((-(L.2.2:Rat))*((L.1:Rat)*(L.1:Rat)+(L.2.1:Rat)*(L.2.1:Rat))⁻¹))+((-(L.1:Rat))*x):=by unfold BC fD;grind
 rw [a,b];exact g
theorem O6 {L:L3}{x:Rat}{k:Nat}(sl:eh k L)(s1:Sz k x):Sz (20*k+19) (BB L x):=by
 have a:BB L x=((L.1:Rat)*((-(L.2.2:Rat))*((L.1:Rat)*(L.1:Rat)+(L.2.1:Rat)*(L.2.1:Rat))⁻¹))+((L.2.1:Rat)*x):=by unfold BB fD;grind
 rw [a];exact yp sl.1 sl.2.1 sl.2.2 s1
theorem O7 {L:L3}{x:Rat}{k:Nat}(sl:eh k L)(s1:Sz k x):Sz (20*k+19) (BC L x):=by
 have a:BC L x=((L.2.1:Rat)*((-(L.2.2:Rat))*((L.1:Rat)*(L.1:Rat)+(L.2.1:Rat)*(L.2.1:Rat))⁻¹))+((-(L.1:Rat))*x):=by unfold BC fD;grind
 rw [a];exact yq sl.1 sl.2.1 sl.2.2 s1
theorem AR (q:Rat):q.num.sign=0↔q=0:=by rw [Int.sign_eq_zero_iff_zero,Rat.num_eq_zero]
theorem Oy {V:View}{l p:Value}{L:L3}{x y:Rat}(hl:pg V l L)(hp:jS V p x y){k:Nat}(sl:eh k L)(s1:Sz k x)(s2:Sz k y)(hk:16*k+16<274877906944) :
  ae prog 108 #[l,p] V fun r V'=>r=.int .i64 (bg L x y).num.sign:=xl hl hp sl.1 sl.2.1 sl.2.2 s1 s2 hk
theorem zm {V:View}{l:Value}{L:L3}(hl:pg V l L){k:Nat}(sl:eh k L)(hk:1*k+1<274877906944) :
  ae prog 93 #[l] V fun r V'=>pg V' r (revL L):=by
 refine (qP hl sl.1 sl.2.1 sl.2.2 hk).mono ?_;rintro r V2 a g;unfold pg revL;simpa using g
theorem eh.rev {k:Nat}{L:L3}(h:eh k L):eh k (revL L):=by
 unfold eh revL;simp only [Rat.intCast_neg];exact ⟨h.1.neg,h.2.1.neg,h.2.2.neg⟩
theorem OV {L:L3}(h:Nz L):((((((L.2.1:Int):Rat)))*((((L.2.1:Int):Rat))))+(((-(((L.1:Int):Rat))))*((-(((L.1:Int):Rat)))))).num≠0:=by
 have:(((((L.2.1:Int):Rat)))*((((L.2.1:Int):Rat))))+(((-(((L.1:Int):Rat))))*((-(((L.1:Int):Rat)))))=fD L:=by unfold fD;grind
 rw [this];exact CC h.norm
theorem F_ {V:View}{l p:Value}{L:L3}{x y:Rat}(hl:RL V l L.1 L.2.1 L.2.2)(hp:RP V p x y)(hz:Nz L){k:Nat}(sl:eh k L)(s1:Sz k x)(s2:Sz k y)(hk:8*k+7<274877906944) :
  ae prog 61 #[l,p] V fun r V'=>RQ V' r (iT L x y):=by
 refine (xu hl hp (OV hz) sl.1 sl.2.1 sl.2.2 s1 s2 hk).mono ?_;rintro r V2 a g
 have e:iT L x y=((((x)*((((L.2.1:Int):Rat))))+((y)*((-(((L.1:Int):Rat))))))*((((((L.2.1:Int):Rat)))*((((L.2.1:Int):Rat))))+(((-(((L.1:Int):Rat))))*((-(((L.1:Int):Rat))))))⁻¹):=by
  unfold iT fD;grind
 rw [e];exact g
structure Ph (V:View) (vs:List Value) (i:Int) (f a b c:Rat):Prop where
 h0:0<=i
 h3:i<=3
 row:∃(x1 x2:Int)(p:OA)(y1 y2:Int)(q:OA)(z1 z2:Int)(r:OA),vs=[.int .i64 x1,.int .i64 x2,.pointer p,.int .i64 y1,.int .i64 y2,.pointer q,.int .i64 z1,.int .i64 z2,.pointer r] /\
  RR V (.agg #[.int .i64 x1,.int .i64 x2,.pointer p]) (if 0<i then a*f else a)/\RR V (.agg #[.int .i64 y1,.int .i64 y2,.pointer q]) (if 1<i then b*f else b)/\RR V (.agg #[.int .i64 z1,.int .i64 z2,.pointer r]) (if 2<i then c*f else c)
theorem Ph.le {V V':View}{vs:List Value}{i:Int}{f a b c:Rat}(h:Ph V vs i f a b c)(l:V.Le V'):Ph V' vs i f a b c:=by
 obtain ⟨d,g,j,k,p,m,n,q,o,s,r,e,t,u,v⟩:=h;exact ⟨d,g,j,k,p,m,n,q,o,s,r,e,t.le l,u.le l,v.le l⟩
theorem Ac {V:View}{u:Value}{f a b c:Rat}{lb:Nat}{vs:List Value}(hf:RR V u f)(hv:Ph V vs 0 f a b c)(hw:V.w.heap[lb]?=some (.cells vs.toArray 98 (0,0)))(hx:V.X lb)
  {k:Nat}(sf:Sz k f)(sa:Sz k a)(sb:Sz k b)(sc:Sz k c)(hk:2*k<1099511627776) :
  ae prog 243 #[u,.slice (some ⟨lb,0,none⟩) 3 3] V fun r V'=>∃(bk:Nat)(ws:List Value),r=.slice (some ⟨bk,0,none⟩) 3 3/\V'.w.heap[bk]?=some (.cells ws.toArray 98 (0,0))/\(V.w.heap.size<=bk\/bk=lb)/\Ph (V'.cA (ws≠[]) bk) ws 3 f a b c:=by
 have I:=hf;obtain ⟨f0,f1,f2,rfl⟩:=hf.shape;have K:vs≠[]:=by obtain ⟨_,_,t,v,p,x,y,q,A,B,r,rfl,-⟩:=hv;exact fun h=>nomatch h
 refine yf f0 f1 f2 lb 3 3 vs V _ (fun _=>hw) (fun _=>hx) ⟨fun z V'=>Ph V' z.2 z.1 f a b c/\RR V' (.agg #[.int .i64 f0,.int .i64 f1,.pointer f2]) f,fun z=>(3-z.1).toNat,⟨(0,vs),by (try dsimp only);and_intros<;>trivial,hv,I⟩,?_⟩;rintro ⟨i,ws⟩ P Q ⟨H,e⟩;refine ⟨rfl,fun C=>?_,fun C=>?_⟩
 ·have C:i<3:=of_decide_eq_true C;dsimp only;obtain ⟨R,h3,t,v,p,x,y,q,A,B,r,rfl,m,n,s⟩:=H;have w:i64.wrap (i+1)=i+1:=aw (by omega);rw [w];have L:i=0\/i=1\/i=2:=by omega
  rcases L with rfl|rfl|rfl
  ·rw [if_neg (by (try dsimp only);decide)] at m;rw [if_neg (by (try dsimp only);decide)] at n;rw [if_neg (by (try dsimp only);decide)] at s;refine ⟨⟨by decide,by decide⟩,by decide,t,v,p,⟨by simp,rfl⟩,fun V2 d=>(ji (m.le d) (e.le d) sa sf (by omega)).mono ?_⟩;rintro o J j g;have D:=g;obtain ⟨E,F,G,rfl⟩:=g.shape;exact ⟨_,_,_,rfl,⟨by decide,by decide⟩,by decide,by simp,(1,[.int .i64 E,.int .i64 F,.pointer G,.int .i64 x,.int .i64 y,.pointer q,.int .i64 A,.int .i64 B,.pointer r]),by dsimp only;decide,by and_intros<;>rfl,⟨by dsimp only;decide,by dsimp only;decide,_,_,_,_,_,_,_,_,_,rfl,by rw [if_pos (by (try dsimp only);decide)];exact D,by rw [if_neg (by (try dsimp only);decide)];exact n.le (d.trans j),by rw [if_neg (by (try dsimp only);decide)];exact s.le (d.trans j)⟩,e.le (d.trans j)⟩
  ·rw [if_pos (by (try dsimp only);decide)] at m;rw [if_neg (by (try dsimp only);decide)] at n;rw [if_neg (by (try dsimp only);decide)] at s;refine ⟨⟨by decide,by decide⟩,by decide,x,y,q,⟨by simp,rfl⟩,fun V2 d=>(ji (n.le d) (e.le d) sb sf (by omega)).mono ?_⟩;rintro o J j g;have D:=g;obtain ⟨E,F,G,rfl⟩:=g.shape;exact ⟨_,_,_,rfl,⟨by decide,by decide⟩,by decide,by simp,(2,[.int .i64 t,.int .i64 v,.pointer p,.int .i64 E,.int .i64 F,.pointer G,.int .i64 A,.int .i64 B,.pointer r]),by dsimp only;decide,by and_intros<;>rfl,⟨by dsimp only;decide,by dsimp only;decide,_,_,_,_,_,_,_,_,_,rfl,by rw [if_pos (by (try dsimp only);decide)];exact m.le (d.trans j),by rw [if_pos (by (try dsimp only);decide)];exact D,by rw [if_neg (by (try dsimp only);decide)];exact s.le (d.trans j)⟩,e.le (d.trans j)⟩
  ·rw [if_pos (by (try dsimp only);decide)] at m;rw [if_pos (by (try dsimp only);decide)] at n;rw [if_neg (by (try dsimp only);decide)] at s;refine ⟨⟨by decide,by decide⟩,by decide,A,B,r,⟨by simp,rfl⟩,fun V2 d=>(ji (s.le d) (e.le d) sc sf (by omega)).mono ?_⟩;rintro o J j g;have D:=g;obtain ⟨E,F,G,rfl⟩:=g.shape;exact ⟨_,_,_,rfl,⟨by decide,by decide⟩,by decide,by simp,(3,[.int .i64 t,.int .i64 v,.pointer p,.int .i64 x,.int .i64 y,.pointer q,.int .i64 E,.int .i64 F,.pointer G]),by dsimp only;decide,by and_intros<;>rfl,⟨by dsimp only;decide,by dsimp only;decide,_,_,_,_,_,_,_,_,_,rfl,by rw [if_pos (by (try dsimp only);decide)];exact m.le (d.trans j),by rw [if_pos (by (try dsimp only);decide)];exact n.le (d.trans j),by rw [if_pos (by (try dsimp only);decide)];exact D⟩,e.le (d.trans j)⟩
 ·have C:¬i<3:=of_decide_eq_false C;obtain rfl:i=3:=by have:=H.h3;omega
  dsimp only;intro S bk M N O;have l:ws≠[]:=by obtain ⟨_,_,t,v,p,x,y,q,A,B,r,rfl,-⟩:=H;exact fun h=>nomatch h
  refine ⟨bk,ws,rfl,N l,?_,H.le M⟩;rcases O l with h|⟨-,h⟩|h
  ·exact .inl h
  ·exact .inr h
  ·exact h.elim
theorem NF {a b c:Rat}{k:Nat}(sa:Sz k a)(sb:Sz k b)(sc:Sz k c):Sz (3*k+2) (cJ (cJ a b) c)⁻¹:=
 jL (Sz.mono (fu (fu sa sb) sc) (by omega))
theorem MB {a b c:Rat}{k:Nat}(sa:Sz k a)(sb:Sz k b)(sc:Sz k c)(h:¬(a=0/\b=0)):eh (4*k+3) (ru a b c):=by
 obtain ⟨-,e,f,g⟩:=kn (c:=c) h;have d:=NF sa sb sc;unfold eh;rw [←e,←f,←g];exact ⟨Sz.mono (Sz.mul sa d) (by omega),Sz.mono (Sz.mul sb d) (by omega),Sz.mono (Sz.mul sc d) (by omega)⟩
theorem D8 {V:View}{u v w:Value}{a b c:Rat}(ha:RR V u a)(hb:RR V v b)(hc:RR V w c){k:Nat}(sa:Sz k a)(sb:Sz k b)(sc:Sz k c)(hk:8*k+8<274877906944) :
  ae prog 218 #[u,v,w] V fun r V'=>(a=0/\b=0->∃l,r=.tuple #[l,.bool false]/\pg V' l (0,0,0))/\(¬(a=0/\b=0)->∃l,r=.tuple #[l,.bool true]/\pg V' l (ru a b c)):=by
 have e:=ha;have f:=hb;have g:=hc;obtain ⟨s,t,x,rfl⟩:=ha.shape;obtain ⟨y,b1,b2,rfl⟩:=hb.shape;obtain ⟨z,A,B,rfl⟩:=hc.shape;have sg:=NF sa sb sc
 have gen:∀J:View,V.Le J->¬(a=0/\b=0)->(∀K:View,J.Le K->ae prog 89 #[.agg #[.int .i64 s,.int .i64 t,.pointer x],.agg #[.int .i64 y,.int .i64 b1,.pointer b2]] K fun ZN Z=>∃XG:Int,∃R3:Int,∃Xm:OA,ZN=.agg #[.int .i64 XG,.int .i64 R3,.pointer Xm]/\(∀L:View,Z.Le L->ae prog 89 #[.agg #[.int .i64 XG,.int .i64 R3,.pointer Xm],.agg #[.int .i64 z,.int .i64 A,.pointer B]] L fun ZO V9=>∃XI:Int,∃XJ:Int,∃Xo:OA,ZO=.agg #[.int .i64 XI,.int .i64 XJ,.pointer Xo]/\(∀M:View,V9.Le M->ae prog 203 #[.agg #[.int .i64 XI,.int .i64 XJ,.pointer Xo]] M fun Uw N=>∃R8:Int,∃Ky:Int,∃JL:OA,Uw=.agg #[.int .i64 R8,.int .i64 Ky,.pointer JL]/\(∀d:View,N.Le d->∀BE:Nat,(d.w.heap[BE]?=some (.cells #[.int .i64 s,.int .i64 t,.pointer x,.int .i64 y,.int .i64 b1,.pointer b2,.int .i64 z,.int .i64 A,.pointer B] 98 (0,0)))->(d.H BE)->ae prog 243 #[.agg #[.int .i64 R8,.int .i64 Ky,.pointer JL],.slice (some ⟨BE,0,none⟩) 3 3] (d.ax [BE]) fun Ux C=>∃(BF:Nat)(n_:List Value),(n_≠[]->C.w.heap[BF]?=some (.cells n_.toArray 98 (0,0)))/\(n_≠[]->d.w.heap.size<=BF\/BF=BE)/\∃(ZG:OA)(EP Ik:Nat),Ux=.slice (mA BF Ik) EP Ik/\((0<=(0:Int)/\(0:Int)<((EP:Nat):Int))/\(EP<=Ik)/\(∃RV:Int,∃RW:Int,∃Rd:OA,(3<=n_.length/\(n_.drop 0).take 3=[.int .i64 RV,.int .i64 RW,.pointer Rd])/\((0<=(1:Int)/\(1:Int)<((EP:Nat):Int))/\(EP<=Ik)/\(∃RX:Int,∃RY:Int,∃Re:OA,(6<=n_.length/\(n_.drop 3).take 3=[.int .i64 RX,.int .i64 RY,.pointer Re])/\((0<=(2:Int)/\(2:Int)<((EP:Nat):Int))/\(EP<=Ik)/\(∃RZ:Int,∃R0:Int,∃Rf:OA,(9<=n_.length/\(n_.drop 6).take 3=[.int .i64 RZ,.int .i64 R0,.pointer Rf])/\(∀D:View,(C.shut.cA (n_≠[]) BF).Le D->(fun (r:Value) (V':View)=>(a=0/\b=0->∃l,r=.tuple #[l,.bool false]/\pg V' l (0,0,0))/\(¬(a=0/\b=0)->∃l,r=.tuple #[l,.bool true]/\pg V' l (ru a b c))) (.tuple #[.agg #[.int .i64 RV,.int .i64 RW,.pointer Rd,.int .i64 RX,.int .i64 RY,.pointer Re,.int .i64 RZ,.int .i64 R0,.pointer Rf],.bool true]) D))))))))))):=by
  intro J E i K F;refine (fO (e.le (E.trans F)) (f.le (E.trans F)) sa sb (by omega)).mono ?_;rintro r Z l7 g1;have O:=g1;obtain ⟨_,_,_,rfl⟩:=g1.shape;refine ⟨_,_,_,rfl,fun L P=>(fO (O.le P) (g.le (E.trans (F.trans (l7.trans P)))) (fu sa sb) sc (by omega)).mono ?_⟩;rintro r V9 l9 g2;have Q:=g2;obtain ⟨_,_,_,rfl⟩:=g2.shape;refine ⟨_,_,_,rfl,fun M j=>(FF (Q.le j) (fu (fu sa sb) sc) (by omega)).mono ?_⟩;rintro r N bL g3;have lQ:=g3;obtain ⟨_,_,_,rfl⟩:=g3.shape;refine ⟨_,_,_,rfl,fun d cY G R S=>?_⟩;have T:V.Le (d.ax [G]):=fun b o h=>cY b o (bL b o (j b o (l9 b o (P b o (l7 b o (F b o (E b o h)))))));have QI:N.Le (d.ax [G]):=fun b o h=>cY b o h
  refine (Ac (V:=d.ax [G]) (a:=a) (b:=b) (c:=c) (lb:=G) (vs:=[.int .i64 s,.int .i64 t,.pointer x,.int .i64 y,.int .i64 b1,.pointer b2,.int .i64 z,.int .i64 A,.pointer B]) (lQ.le QI)
   ⟨by decide,by decide,_,_,_,_,_,_,_,_,_,rfl,by rw [if_neg (by (try dsimp only);decide)];exact e.le T,by rw [if_neg (by (try dsimp only);decide)];exact f.le T,by rw [if_neg (by (try dsimp only);decide)];exact g.le T⟩ R ⟨by simp,S⟩ (Sz.mono sg (by omega):Sz (3*k+2) _) (Sz.mono sa (by omega)) (Sz.mono sb (by omega)) (Sz.mono sc (by omega)) (by omega)).mono ?_
  rintro r C cN ⟨bm,ws,rfl,U,W,hs⟩;obtain ⟨-,-,x1,x2,p,y1,y2,q,z1,z2,r,rfl,s1,s2,s3⟩:=hs;rw [if_pos (by (try dsimp only);decide)] at s1 s2 s3;refine ⟨bm,_,fun _=>U,fun _=>W,none,3,3,rfl,⟨by decide,by decide⟩,by decide,x1,x2,p,⟨by simp,rfl⟩,⟨by decide,by decide⟩,by decide,y1,y2,q,⟨by simp,rfl⟩,⟨by decide,by decide⟩,by decide,z1,z2,r,⟨by simp,rfl⟩,fun D fo=>⟨fun h=>absurd h i,fun _=>⟨_,rfl,?_⟩⟩⟩;obtain ⟨-,e1,e2,e3⟩:=kn (c:=c) i;have X:(C.cA ([Value.int .i64 x1,.int .i64 x2,.pointer p,.int .i64 y1,.int .i64 y2,.pointer q,.int .i64 z1,.int .i64 z2,.pointer r]≠[]) bm).Le D:=fun b o h=>fo b o h;refine ⟨_,_,_,_,_,_,_,_,_,rfl,?_,?_,?_⟩
  ·rw [←e1];exact s1.le X
  ·rw [←e2];exact s2.le X
  ·rw [←e3];exact s3.le X
 refine Dn s t x y b1 b2 z A B V _ fun V1 I=>(pB (e.le I)).mono ?_;rintro r V2 Y rfl;refine ⟨_,rfl,fun m V3 l3=>(pB (f.le (I.trans (Y.trans l3)))).mono ?_,fun m=>?_⟩
 ·rintro r V4 l4 rfl;refine ⟨_,rfl,fun n V5 l5=>?_,fun n=>gen V4 (I.trans (Y.trans (l3.trans l4))) (fun h=>of_decide_eq_false n h.2)⟩;have m:=of_decide_eq_true m;have n:=of_decide_eq_true n;refine ⟨fun _=>⟨_,rfl,_,_,_,_,_,_,_,_,_,rfl,RR.zero _,RR.zero _,RR.zero _⟩,fun h=>absurd ⟨m,n⟩ h⟩
 ·exact gen V2 (I.trans Y) (fun h=>of_decide_eq_false m h.1)
def gK (px py qx qy:Rat):L3:=ru (-(qy-py)) (qx-px) (-(-(qy-py)*px+(qx-px)*py))
theorem nk {px py qx qy:Rat}(h:¬(px=qx/\py=qy)):¬(-(qy-py)=0/\qx-px=0):=by
 rintro ⟨a,b⟩;exact h ⟨by grind,by grind⟩
theorem Gm {px py qx qy:Rat}:(px=qx/\py=qy)↔(-(qy-py)=0/\qx-px=0):=⟨fun ⟨a,b⟩=>⟨by grind,by grind⟩,fun ⟨a,b⟩=>⟨by grind,by grind⟩⟩
theorem Gn {px py qx qy:Rat}(h:¬(px=qx/\py=qy)):Nz (gK px py qx qy):=LX (nk h)
theorem nj {px py qx qy:Rat}{k:Nat}(s1:Sz k px)(s2:Sz k py)(s3:Sz k qx)(s4:Sz k qy)(h:¬(px=qx/\py=qy)):eh (40*k+40) (gK px py qx qy):=by
 have a:Sz (2*k+1) (-(qy-py)):=Sz.mono (s4.sub s2).neg (by omega);have b:Sz (2*k+1) (qx-px):=Sz.mono (s3.sub s1) (by omega);have c:Sz (8*k+8) (-(-(qy-py)*px+(qx-px)*py)):=Sz.mono ((a.mul s1).add (b.mul s2)).neg (by omega);have:=MB (k:=8*k+8) (Sz.mono a (by omega)) (Sz.mono b (by omega)) c (nk h);exact ⟨Sz.mono this.1 (by omega),Sz.mono this.2.1 (by omega),Sz.mono this.2.2 (by omega)⟩
theorem xo {V:View}{u v:Value}{px py qx qy:Rat}(hp:jS V u px py)(hq:jS V v qx qy){k:Nat}(s1:Sz k px)(s2:Sz k py)(s3:Sz k qx)(s4:Sz k qy)(hk:100*k+100<274877906944) :
  ae prog 170 #[u,v] V fun r V'=>(px=qx/\py=qy->∃l,r=.tuple #[l,.bool false]/\pg V' l (0,0,0))/\(¬(px=qx/\py=qy)->∃l,r=.tuple #[l,.bool true]/\pg V' l (gK px py qx qy)):=by
 have a:=hp;have e:=hq;obtain ⟨E,F,G,H,I,J,rfl,-,-⟩:=hp;obtain ⟨K,L,M,N,O,P,rfl,-,-⟩:=hq;have f:Sz (2*k+1) (-(qy-py)):=Sz.mono (s4.sub s2).neg (by omega);have c:Sz (2*k+1) (qx-px):=Sz.mono (s3.sub s1) (by omega);have Q:Sz (2*k+1) (qy-py):=Sz.mono (s4.sub s2) (by omega);have w:Sz (8*k+8) (-(qy-py)*px+(qx-px)*py):=Sz.mono ((f.mul s1).add (c.mul s2)) (by omega);refine wE E F G H I J K L M N O P V _ fun V1 g=>(Ab (e.le g) (a.le g) s3 s4 s1 s2 (by omega)).mono ?_;rintro r V2 R x;have i:=x;obtain ⟨_,_,_,_,_,_,rfl,-,-⟩:=x;refine ⟨_,_,_,_,_,_,rfl,fun V3 y=>(xm (i.le y) c Q (by omega)).mono ?_⟩;rintro r V4 S z;have j:=z;obtain ⟨_,_,_,_,_,_,rfl,m,n⟩:=z;refine ⟨_,_,_,_,_,_,rfl,fun V5 d=>(dL (j.le d) (a.le (g.trans (R.trans (y.trans (S.trans d))))) (k:=2*k+1) f c (Sz.mono s1 (by omega)) (Sz.mono s2 (by omega)) (by omega)).mono ?_⟩;rintro r V6 A B;have T:=B;obtain ⟨_,_,_,rfl⟩:=B.shape;refine ⟨_,_,_,rfl,fun V7 o=>(gg (T.le o) w (by omega)).mono ?_⟩;rintro r V8 C D;have U:=D;obtain ⟨_,_,_,rfl⟩:=D.shape;refine ⟨_,_,_,rfl,fun V9 p=>(D8 (m.le (d.trans (A.trans (o.trans (C.trans p))))) (n.le (d.trans (A.trans (o.trans (C.trans p))))) (U.le p) (k:=8*k+8) (Sz.mono f (by omega)) (Sz.mono c (by omega)) w.neg (by omega)).mono ?_⟩;rintro r hZ W ⟨X,Y⟩;by_cases h:px=qx/\py=qy
 ·obtain ⟨l,rfl,b⟩:=X (Gm.1 h);have q:=b;obtain ⟨_,_,_,_,_,_,_,_,_,rfl,-,-,-⟩:=b;exact ⟨_,_,_,_,_,_,_,_,_,_,rfl,fun Z s=>⟨fun _=>⟨_,rfl,q.le s⟩,fun t=>absurd h t⟩⟩
 ·obtain ⟨l,rfl,b⟩:=Y (nk h);have q:=b;obtain ⟨_,_,_,_,_,_,_,_,_,rfl,-,-,-⟩:=b;exact ⟨_,_,_,_,_,_,_,_,_,_,rfl,fun Z s=>⟨fun t=>absurd t h,fun _=>⟨_,rfl,q.le s⟩⟩⟩
def xG (px py qx qy:Rat):Sp:=⟨iT (gK px py qx qy) px py,iT (gK px py qx qy) qx qy,false,false⟩
theorem xn {V:View}{u v:Value}{px py qx qy:Rat}(hp:jS V u px py)(hq:jS V v qx qy){k:Nat}(s1:Sz k px)(s2:Sz k py)(s3:Sz k qx)(s4:Sz k qy)(hk:400*k+400<274877906944) :
  ae prog 113 #[u,v] V fun r V'=>(px=qx/\py=qy->∃l,r=.tuple #[l,.bool false]/\lT V' l (0,0,0) Sp.zero)/\(¬(px=qx/\py=qy)->∃l,r=.tuple #[l,.bool true]/\lT V' l (gK px py qx qy) (xG px py qx qy)):=by
 have a:=hp;have b:=hq;obtain ⟨w,x,y,z,A,B,rfl,-,-⟩:=hp;obtain ⟨C,D,E,F,G,H,rfl,-,-⟩:=hq;refine wD w x y z A B C D E F G H V _ fun K d=>(xo (a.le d) (b.le d) s1 s2 s3 s4 (by omega)).mono ?_;rintro r V2 p ⟨I,J⟩;by_cases h:px=qx/\py=qy
 ·obtain ⟨l,rfl,e⟩:=I h;obtain ⟨_,_,_,_,_,_,_,_,_,rfl,-,-,-⟩:=e;refine ⟨_,_,_,_,_,_,_,_,_,_,rfl,fun _ L M=>⟨fun _=>⟨_,rfl,?_⟩,fun g=>absurd h g⟩,fun h=>nomatch h⟩;exact ⟨_,_,_,_,_,_,_,_,_,_,_,_,_,_,_,rfl,⟨_,_,_,_,_,_,_,_,_,rfl,RR.zero _,RR.zero _,RR.zero _⟩,_,_,_,_,_,_,rfl,RR.zero _,RR.zero _⟩
 ·obtain ⟨l,rfl,e⟩:=J h;have i:=e;have sl:=nj s1 s2 s3 s4 h;obtain ⟨_,_,_,_,_,_,_,_,_,rfl,-,-,-⟩:=e;refine ⟨_,_,_,_,_,_,_,_,_,_,rfl,(fun h=>nomatch h),fun _ N c=>(At (i.le c) (a.le (d.trans (p.trans c))) sl (Sz.mono s1 (by omega)) (Sz.mono s2 (by omega)) (by omega)).mono ?_⟩;rintro r O j q;have m:=q;obtain ⟨_,_,_,rfl⟩:=q.shape;refine ⟨_,_,_,rfl,fun P f=>(At (i.le (c.trans (j.trans f))) (b.le (d.trans (p.trans (c.trans (j.trans f))))) sl (Sz.mono s3 (by omega)) (Sz.mono s4 (by omega)) (by omega)).mono ?_⟩;rintro r Q s t;have n:=t;obtain ⟨_,_,_,rfl⟩:=t.shape;refine ⟨_,_,_,rfl,fun R o=>⟨fun g=>absurd g h,fun _=>⟨_,rfl,?_⟩⟩⟩;exact ⟨_,_,_,_,_,_,_,_,_,_,_,_,_,_,_,rfl,i.le (c.trans (j.trans (f.trans (s.trans o)))),_,_,_,_,_,_,rfl,m.le (f.trans (s.trans o)),n.le o⟩
def OW (b:Bool)(xs ys:List Nat):Rat:=mkRat (aW b xs) (val ys)
def Cy (b:Bool)(xs ys:List Nat):Bool:=lJ b xs&&decide (ai (val ys)=ys)&&!decide (ys=[])&&decide (Nat.gcd (val xs) (val ys)=1)
def MN (b:Bool)(xs ys:List Nat):Bool:=!b&&decide (xs=[])&&decide (ys=[])
def IF (b:Bool)(xs ys:List Nat)(no:Bool):Rat:=if no then 0 else OW b xs ys
def uV (b:Bool)(xs ys:List Nat)(no:Bool):Bool:=if no then MN b xs ys else Cy b xs ys
theorem F4 {q:Rat}:Cy (decide (q.num<0)) (ai q.num.natAbs) (ai q.den)=true/\OW (decide (q.num<0)) (ai q.num.natAbs) (ai q.den)=q:=by
 constructor
 ·unfold Cy
  have a:lJ (decide (q.num<0)) (ai q.num.natAbs)=true:=by
   unfold lJ;rw [af];by_cases h:q.num<0
   ·have:ai q.num.natAbs≠[]:=fun e=>by have:=bu.1 e;omega
    simp [h,this]
   ·simp [h]
  have b:ai q.den≠[]:=fun e=>q.den_nz (bu.1 e);rw [a,af,af];simp [b,q.reduced]
 ·unfold OW;rw [aH,af,Rat.mkRat_self]
theorem xk {V:View}(b:Bool){p q:OA}{n c m e:Nat}{xs ys:List Nat}(hx:RD V p n c xs)(hy:RD V q m e ys)(hm:xs.length<=1099511627776)(hn:ys.length<=1099511627776) :
  ae prog 188 #[.agg #[.bool b,.slice p n c,.slice q m e]] V fun r V'=>r=.bool (Cy b xs ys):=by
 refine wm b p n c q m e V _ fun z a=>(dM b (hx.le a) hm).mono ?_;rintro r V2 l rfl;refine ⟨_,rfl,fun h A B=>by rw [Bool.not_eq_true'] at h;simp [Cy,h],fun d C o=>(pE (hy.le (a.trans (l.trans o))) hn).mono ?_⟩;rw [Bool.not_eq_false'] at d;rintro r D t rfl;refine ⟨_,rfl,fun h E F=>by rw [Bool.not_eq_true'] at h;simp [Cy,h],fun f=>⟨fun h G H=>?_,fun u I v=>?_⟩⟩
 ·have i:=hy.len
  have:ys=[]:=by
   have h:((m:Nat):Int)=0:=by simpa using h
   exact List.length_eq_zero_iff.1 (by omega)
  simp [Cy,this]
 ·rw [Bool.not_eq_false'] at f;have i:=hy.len
  have j:ys≠[]:=fun e=>by
   have h:¬((m:Nat):Int)=0:=by simpa using u
   rw [e] at i;exact h (by simp at i;omega)
  have s:=a.trans (l.trans (o.trans (t.trans v)));refine (qS (hx.le s) (hy.le s) hm hn).mono ?_;rintro r J K ⟨L,M,N,rfl,g⟩
  have w:(ai (Nat.gcd (val xs) (val ys))).length<=1099511627776:=by
   have d:=a_ hx.eK;have f:=a_ hy.eK;by_cases x:val xs=0
   ·rw [x,Nat.gcd_zero_left];omega
   ·have:Nat.gcd (val xs) (val ys)<=val xs:=Nat.gcd_le_left _ (by omega);have:=aD this;omega
  refine ⟨_,_,_,rfl,fun O k=>(fQ (g.le k) w).mono ?_⟩;rintro r P Q rfl;refine ⟨_,rfl,fun R S=>?_⟩
  have y:(((bh (val (ai (Nat.gcd (val xs) (val ys)))):Nat):Int)==1)=decide (Nat.gcd (val xs) (val ys)=1):=by
   rw [af,Bool.eq_iff_iff,beq_iff_eq,decide_eq_true_eq]
   have gen:∀g:Nat,((bh g:Nat):Int)=1↔g=1:=fun g=>by
    have T:bh g<=1↔g<2:=@fw g 1;have U:bh g<=0↔g<1:=@fw g 0;omega
   exact gen _
  rw [y];simp [Cy,d,f,j]
theorem yM {V:View}{v:Value}{b:Bool}{xs ys:List Nat}(no:Bool)(h:Gy V v b xs ys)(hm:xs.length<=1099511627776)(hn:ys.length<=1099511627776) :
  ae prog 144 #[v,.bool no] V fun r V'=>∃w,r=.tuple #[w,.bool (uV b xs ys no)]/\RR V' w (IF b xs ys no):=by
 obtain ⟨p,n,c,q,m,e,rfl,d,f⟩:=h;have l:=d.len;have s:=f.len;refine Fe b p n c q m e no V _ ⟨?_,?_⟩
 ·rintro rfl;have z:∀V':View,RR V' (.agg #[.int .i64 0,.int .i64 0,.pointer none]) (IF b xs ys true):=fun V'=>RR.zero V';refine ⟨fun h=>⟨fun i A B=>⟨_,?_,z _⟩,fun i V2 C=>⟨_,?_,z _⟩⟩,fun h D E=>⟨_,?_,z _⟩⟩
  ·have j:xs=[]:=by
    have h:((n:Nat):Int)=0:=by simpa using i
    exact List.length_eq_zero_iff.1 (by omega)
   have t:(((m:Nat):Int)==0)=decide (ys=[]):=by
    rw [Bool.eq_iff_iff,beq_iff_eq,decide_eq_true_eq,←List.length_eq_zero_iff];omega
   rw [Bool.not_eq_true'] at h;simp [uV,MN,h,j,←t]
  ·have j:xs≠[]:=fun e=>by
    have h:¬((n:Nat):Int)=0:=by simpa using i
    rw [e] at l;exact h (by simp at l;omega)
   simp [uV,MN,j]
  ·rw [Bool.not_eq_false'] at h;simp [uV,MN,h]
 ·rintro rfl F a;refine (kG b (d.le a) (f.le a) hm hn).mono ?_;rintro r G o g;have u:=g;obtain ⟨_,_,_,rfl⟩:=g.shape;refine ⟨_,_,_,rfl,fun H k=>(xk b (d.le (a.trans (o.trans k))) (f.le (a.trans (o.trans k))) hm hn).mono ?_⟩;rintro r I x rfl;exact ⟨_,rfl,fun J y=>⟨_,rfl,u.le (k.trans (x.trans y))⟩⟩
theorem uD {V:View}{v:Value}{s:Sp}(h:lU V v s){k:Nat}(hs:s.sz k)(hk:2*k<1099511627776) :
  ae prog 145 #[v] V fun r V'=>r=.bool s.emp:=by
 obtain ⟨f,g,p,i,j,q,rfl,l,m⟩:=h;refine tD f g p i j q s.a s.b V _ ⟨fun c=>⟨fun d n e=>(eI (l.le e) (m.le e) hs.1 hs.2 (by omega)).mono ?_,fun d o t=>?_⟩,fun c u w=>?_⟩
 ·rintro r V2 x rfl;exact ⟨_,rfl,fun y z=>by rw [Bool.not_eq_true'] at c d;simp [Sp.emp,c,d]⟩
 ·rw [Bool.not_eq_false'] at d;simp [Sp.emp,d]
 ·rw [Bool.not_eq_false'] at c;simp [Sp.emp,c]
def PA (V:View)(v:Value)(b1:Bool)(xs1 ys1:List Nat)(b2:Bool)(xs2 ys2:List Nat)(na nb:Bool):Prop:=∃p n c p' n' c' q m e q' m' e',v=.agg #[.bool b1,.slice p n c,.slice p' n' c',.bool b2,.slice q m e,.slice q' m' e',.bool na,.bool nb] /\
 Gy V (.agg #[.bool b1,.slice p n c,.slice p' n' c']) b1 xs1 ys1/\Gy V (.agg #[.bool b2,.slice q m e,.slice q' m' e']) b2 xs2 ys2
theorem PA.le {V V':View}{v:Value}{b1:Bool}{xs1 ys1:List Nat}{b2:Bool}{xs2 ys2:List Nat}{na nb:Bool}(h:PA V v b1 xs1 ys1 b2 xs2 ys2 na nb)(l:V.Le V'):PA V' v b1 xs1 ys1 b2 xs2 ys2 na nb:=by
 obtain ⟨p,n,c,d,f,g,q,m,e,i,j,k,rfl,a,b⟩:=h;exact ⟨_,_,_,_,_,_,_,_,_,_,_,_,rfl,a.le l,b.le l⟩
def KT (b1:Bool)(xs1 ys1:List Nat)(b2:Bool)(xs2 ys2:List Nat)(na nb:Bool):Sp:=⟨IF b1 xs1 ys1 na,IF b2 xs2 ys2 nb,na,nb⟩
def okW (b1:Bool)(xs1 ys1:List Nat)(b2:Bool)(xs2 ys2:List Nat)(na nb:Bool):Bool:=uV b1 xs1 ys1 na&&uV b2 xs2 ys2 nb&&!(KT b1 xs1 ys1 b2 xs2 ys2 na nb).emp
theorem D5 {V:View}{v:Value}{b1:Bool}{xs1 ys1:List Nat}{b2:Bool}{xs2 ys2:List Nat}{na nb:Bool}(h:PA V v b1 xs1 ys1 b2 xs2 ys2 na nb)(m1:xs1.length<=1099511627776)(m2:ys1.length<=1099511627776)(m3:xs2.length<=1099511627776)(m4:ys2.length<=1099511627776)
  {k:Nat}(hs:(KT b1 xs1 ys1 b2 xs2 ys2 na nb).sz k)(hk:2*k<1099511627776) :
  ae prog 85 #[v] V fun r V'=>∃w,r=.tuple #[w,.bool (okW b1 xs1 ys1 b2 xs2 ys2 na nb)]/\lU V' w (KT b1 xs1 ys1 b2 xs2 ys2 na nb):=by
 obtain ⟨p,n,c,u,x,y,q,m,e,z,A,B,rfl,C,D⟩:=h;refine Dk b1 p n c u x y b2 q m e z A B na nb V _ fun U l=>(yM na (C.le l) m1 m2).mono ?_;rintro r V2 E ⟨w,rfl,o⟩;have f:=o;obtain ⟨F,G,H,rfl⟩:=o.shape;refine ⟨_,_,_,_,rfl,fun W s=>(yM nb (D.le (l.trans (E.trans s))) m3 m4).mono ?_⟩;rintro r I J ⟨w,rfl,t⟩;have g:=t;obtain ⟨K,L,M,rfl⟩:=t.shape;have d:∀a:View,I.Le a->lU a (.agg #[.int .i64 F,.int .i64 G,.pointer H,.int .i64 K,.int .i64 L,.pointer M,.bool na,.bool nb]) (KT b1 xs1 ys1 b2 xs2 ys2 na nb):=fun a b=>⟨_,_,_,_,_,_,rfl,f.le (s.trans (J.trans b)),g.le b⟩;refine ⟨_,_,_,_,rfl,fun i=>⟨fun j a b=>(uD (d a b) hs hk).mono ?_,fun j N O=>⟨_,?_,d N O⟩⟩,fun i P Q=>⟨_,?_,d P Q⟩⟩
 ·rintro r X R rfl;exact ⟨_,rfl,fun S T=>⟨_,by simp [okW,i,j],d S (b.trans (R.trans T))⟩⟩
 ·simp [okW,j]
 ·simp [okW,i]
def HS (l:L3)(s:Sp):Prop:=lR l=true/\s.can/\s.emp=false
theorem RE.raw {V:View}{v:Value}{q:Rat}{no:Bool}(h:RE V v q no)(hc:no=true->q=0):∃b xs ys,Gy V v b xs ys/\uV b xs ys no=true/\IF b xs ys no=q/\(∀k,Sz k q->xs.length<=k/\ys.length<=k):=by
 cases no with
 | true=>
  exact ⟨false,[],[],h.1 rfl,rfl,by rw [hc rfl];rfl,fun k _=>⟨Nat.zero_le _,Nat.zero_le _⟩⟩
 | false=>
  obtain ⟨p,n,c,f,g,i,rfl,d,e⟩:=h.2 rfl;exact ⟨_,_,_,⟨_,_,_,_,_,_,rfl,d,e⟩,F4.1,F4.2,fun k a=>⟨ag a.1,ag a.2⟩⟩
theorem GM {V:View}{v:Value}{s:Sp}(h:K1 V v s)(hc:s.can)(hne:s.emp=false){k:Nat}(hs:s.sz k)(hk:2*k<1099511627776) :
  ae prog 85 #[v] V fun r V'=>∃w,r=.tuple #[w,.bool true]/\lU V' w s:=by
 obtain ⟨b,p,n,c,C,D,E,d,q,m,e,F,G,H,rfl,o,t⟩:=h;obtain ⟨b1,xs1,ys1,f,u,x,i⟩:=o.raw hc.1;obtain ⟨b2,xs2,ys2,j,y,z,l⟩:=t.raw hc.2;have A:b=b1:=by obtain ⟨_,_,_,_,_,_,e,-⟩:=f;injection e with e;simp at e;exact e.1
 have B:d=b2:=by obtain ⟨_,_,_,_,_,_,e,-⟩:=j;injection e with e;simp at e;exact e.1
 subst A B;have i:=i k hs.1;have l:=l k hs.2;have es:KT b xs1 ys1 d xs2 ys2 s.a s.b=s:=by unfold KT;rw [x,z]
 refine (D5 (V:=V) (b1:=b) (xs1:=xs1) (ys1:=ys1) (b2:=d) (xs2:=xs2) (ys2:=ys2) (na:=s.a) (nb:=s.b) ⟨_,_,_,_,_,_,_,_,_,_,_,_,rfl,f,j⟩ (by omega) (by omega) (by omega) (by omega) (k:=k) (by rw [es];exact hs) hk).mono ?_;rintro r V2 I ⟨w,rfl,g⟩;rw [es] at g;exact ⟨w,by unfold okW;rw [es,u,y,hne];rfl,g⟩
theorem Iu {V:View}{v:Value}{s:Sp}(h:lU V v s){k:Nat}(hs:s.sz k)(hk:k<=1099511627776):ae prog 165 #[v] V fun r V'=>K1 V' r s:=by
 obtain ⟨w,y,p,z,A,q,rfl,B,l⟩:=h
 have t:∀{V:View} {v:Value} {x:Rat} {no:Bool},RA V v x->(!no)=true->RE V v x no:=fun h e=>by
  rw [Bool.not_eq_true'] at e;subst e;exact ⟨(fun h=>nomatch h),fun _=>h⟩
 have f:∀{V:View} {x:Rat} {no:Bool},(!no)=false->RE V (.agg #[.bool false,.slice none 0 0,.slice none 0 0]) x no:=fun e=>by
  rw [Bool.not_eq_false'] at e;subst e;exact ⟨fun _=>Gy.nil,(fun h=>nomatch h)⟩
 refine xS w y p z A q s.a s.b V _ ⟨fun g I m=>(pv (B.le m) hs.1 hk).mono ?_,fun g=>⟨fun c J C=>(pv (l.le C) hs.2 hk).mono ?_,fun c K D=>?_⟩⟩
 ·rintro r V2 E n;have i:=n;obtain ⟨_,_,_,_,_,_,_,rfl⟩:=n.shape;refine ⟨_,_,_,_,_,_,_,rfl,fun c L o=>(pv (l.le (m.trans (E.trans o))) hs.2 hk).mono ?_,fun c M F=>?_⟩
  ·rintro r N G j;have d:=j;obtain ⟨_,_,_,_,_,_,_,rfl⟩:=j.shape;exact ⟨_,_,_,_,_,_,_,rfl,fun O u=>⟨_,_,_,_,_,_,_,_,_,_,_,_,_,_,rfl,t (i.le (o.trans (G.trans u))) g,t (d.le u) c⟩⟩
  ·exact ⟨_,_,_,_,_,_,_,_,_,_,_,_,_,_,rfl,t (i.le F) g,f c⟩
 ·rintro r P Q j;have d:=j;obtain ⟨_,_,_,_,_,_,_,rfl⟩:=j.shape;exact ⟨_,_,_,_,_,_,_,rfl,fun R H=>⟨_,_,_,_,_,_,_,_,_,_,_,_,_,_,rfl,f g,t (d.le H) c⟩⟩
 ·exact ⟨_,_,_,_,_,_,_,_,_,_,_,_,_,_,rfl,f g,f c⟩
theorem pg.Yn {V:View}{r:Value}{l:L3}(h:RL V r ((l.1:Rat)).num ((l.2.1:Rat)).num ((l.2.2:Rat)).num):RL V r l.1 l.2.1 l.2.2:=by
 simpa [Rat.num_intCast] using h
theorem BJ {V:View}{v:Value}{l:L3}{s:Sp}(h:lT V v l s){k:Nat}(sl:eh k l)(hs:s.sz k)(hk:k<=1099511627776):ae prog 94 #[v] V fun r V'=>xi V' r l s:=by
 obtain ⟨u,w,p,x,y,q,z,A,r,B,C,t,D,E,o,rfl,i,j⟩:=h;refine xP _ _ _ _ _ _ _ _ _ _ _ _ _ _ _ _ _ V _ fun F c=>(GQ (i.le c) sl.1 sl.2.1 sl.2.2 hk).mono ?_;rintro r V2 m d;have a:=pg.Yn d;obtain ⟨_,_,_,_,_,_,_,_,_,_,_,_,rfl⟩:=gI d;refine ⟨_,_,_,_,_,_,_,_,_,_,_,_,rfl,fun G e=>(Iu (j.le (c.trans (m.trans e))) hs hk).mono ?_⟩;rintro r H n f;have b:=f;obtain ⟨_,_,_,_,_,_,_,_,_,_,_,_,_,_,rfl,-,-⟩:=f;exact ⟨_,_,_,_,_,_,_,_,_,_,_,_,_,_,_,_,rfl,fun I g=>⟨_,_,_,_,_,_,_,_,_,_,_,_,_,_,_,_,_,_,_,_,_,_,_,_,_,_,rfl,a.le (e.trans (n.trans g)),b.le g⟩⟩
theorem JA {a b c:Int}(h:¬(a=0/\b=0)):lR (vy a b c)=true:=by
 have p:0<bE a b c:=by
  apply Nat.pos_of_ne_zero;intro e;have d:=Nat.gcd_eq_zero_iff.1 e;have j:=Nat.gcd_eq_zero_iff.1 d.1;exact h ⟨by omega,by omega⟩
 have f:bE a b c∣a.natAbs:=Nat.dvd_trans (Nat.gcd_dvd_left _ _) (Nat.gcd_dvd_left _ _);have g:bE a b c∣b.natAbs:=Nat.dvd_trans (Nat.gcd_dvd_left _ _) (Nat.gcd_dvd_right _ _);have l:bE a b c∣c.natAbs:=Nat.gcd_dvd_right _ _;have m:∀{x:Int},bE a b c∣x.natAbs->((bE a b c:Nat):Int)∣x:=fun h=>Int.natAbs_dvd_natAbs.1 (by rw [Int.natAbs_natCast];exact h);have i:∀{x:Int},bE a b c∣x.natAbs->(x / (bE a b c:Int)).natAbs=x.natAbs / bE a b c:=fun h=>by rw [Int.natAbs_ediv_of_dvd (m h),Int.natAbs_natCast]
 have nz:∀{x:Int},bE a b c∣x.natAbs->x / (bE a b c:Int)=0->x=0:=fun q e=>by
  obtain ⟨k,o⟩:=m q;rw [o,Int.mul_ediv_cancel_left _ (by omega)] at e;rw [o,e,Int.mul_zero]
 have e:bE (a / (bE a b c:Int)) (b / (bE a b c:Int)) (c / (bE a b c:Int))=1:=by
  show Nat.gcd (Nat.gcd (a / (bE a b c:Int)).natAbs (b / (bE a b c:Int)).natAbs) (c / (bE a b c:Int)).natAbs=1;rw [i f,i g,i l,Nat.gcd_div f g,Nat.gcd_div (show bE a b c∣Nat.gcd a.natAbs b.natAbs from Nat.gcd_dvd_left _ _) l];exact Nat.div_self p
 have n:¬(a / (bE a b c:Int)=0/\b / (bE a b c:Int)=0):=fun ⟨d,j⟩=>h ⟨nz f d,nz g j⟩;show (decide (¬(a / (bE a b c:Int)=0/\b / (bE a b c:Int)=0))&&decide (bE (a / (bE a b c:Int)) (b / (bE a b c:Int)) (c / (bE a b c:Int))=1))=true;rw [decide_eq_true n,decide_eq_true e];rfl
theorem JB {a b c:Rat}(h:¬(a=0/\b=0)):lR (ru a b c)=true:=by
 refine JA ?_;have i:a.den*b.den*c.den≠0:=Nat.mul_ne_zero (Nat.mul_ne_zero a.den_nz b.den_nz) c.den_nz;have d:(((a.den*b.den*c.den:Nat):Int):Rat)≠0:=by exact_mod_cast i
 rintro ⟨f,g⟩;rw [Rat.num_eq_zero] at f g;exact h ⟨(Rat.mul_eq_zero.1 f).elim id fun e=>absurd e d,(Rat.mul_eq_zero.1 g).elim id fun e=>absurd e d⟩
theorem JC {px py qx qy:Rat}(h:¬(px=qx/\py=qy)):lR (gK px py qx qy)=true:=JB (nk h)
theorem yJ {V:View}{v:Value}{x:L3}(h:RL V v x.1 x.2.1 x.2.2)(ho:lR x=true){k:Nat}(sl:eh k x)(hk:4*k+4<1099511627776) :
  ae prog 40 #[v] V fun r V'=>∃w,r=.tuple #[w,.bool true]/\pg V' w x:=by
 obtain ⟨p,n,s,i,j,l,q,m,e,rfl,c,d,f⟩:=h;have d1:=ag (show x.1.natAbs<2^k from sl.1.1);have d2:=ag (show x.2.1.natAbs<2^k from sl.2.1.1);have d3:=ag (show x.2.2.natAbs<2^k from sl.2.2.1);have b:=D7 (V:=V) (decide (x.1<0)) (decide (x.2.1<0)) (decide (x.2.2<0)) c d f (by omega) (by omega) (by omega) (k:=k) (by rw [aH];exact sl.1) (by rw [aH];exact sl.2.1) (by rw [aH];exact sl.2.2) hk;rw [CD,aH,aH,aH] at b;refine b.mono ?_;rintro r V2 o ⟨w,rfl,-,g⟩;have a:lR (x.1,x.2.1,x.2.2)=true:=ho;exact ⟨w,by rw [a],g a⟩
theorem j8 {V:View}{v:Value}{l:L3}{s:Sp}(h:xi V v l s)(ho:HS l s){k:Nat}(sl:eh k l)(hs:s.sz k)(hk:4*k+4<1099511627776) :
  ae prog 39 #[v] V fun r V'=>∃w,r=.tuple #[w,.bool true]/\lT V' w l s:=by
 obtain ⟨ho,y,f⟩:=ho;obtain ⟨b1,z,A,B,b2,C,D,E,b3,F,G,H,b,p,n,c,I,J,K,d,q,m,e,L,M,N,rfl,O,P⟩:=h;refine Dj b1 z A B b2 C D E b3 F G H b p n c I J K d q m e L M N s.a s.b V _ fun S j=>(yJ (O.le j) ho sl (by omega)).mono ?_;rintro r V2 Q ⟨w,rfl,o⟩;have g:=o;obtain ⟨_,_,_,_,_,_,_,_,_,rfl,-,-,-⟩:=o;refine ⟨_,_,_,_,_,_,_,_,_,_,rfl,fun T t=>(GM (P.le (j.trans (Q.trans t))) y f hs (by omega)).mono ?_⟩;rintro r U R ⟨w,rfl,u⟩;have i:=u;obtain ⟨_,_,_,_,_,_,rfl,-,-⟩:=u;refine ⟨_,_,_,_,_,_,_,_,_,rfl,fun _ W x=>⟨_,rfl,_,_,_,_,_,_,_,_,_,_,_,_,_,_,_,rfl,g.le (t.trans (R.trans x)),i.le x⟩,(fun h=>nomatch h)⟩
theorem It {V:View}{v:Value}{l:L3}{s:Sp}(h:lT V v l s){k:Nat}(sl:eh k l)(hs:s.sz k)(hk:20*k+19<274877906944) :
  ae prog 116 #[v] V fun r V'=>∃w,r=.tuple #[w,.bool (!s.b)]/\jS V' w (if s.b then 0 else BB l s.hi) (if s.b then 0 else BC l s.hi):=by
 obtain ⟨n,u,p,x,y,q,z,A,r,B,C,t,D,E,o,rfl,d,f⟩:=h;obtain ⟨_,_,_,_,_,_,e,F,i⟩:=f;simp only [Value.agg.injEq,Array.mk.injEq,List.cons.injEq,Value.int.injEq,Value.pointer.injEq,true_and,and_true] at e;obtain ⟨rfl,rfl,rfl,rfl,rfl,rfl⟩:=e;refine xR _ _ _ _ _ _ _ _ _ _ _ _ _ _ _ _ _ V _ ⟨fun a G H=>⟨_,by rw [a];rfl,by rw [a];exact ⟨_,_,_,_,_,_,rfl,RR.zero _,RR.zero _⟩⟩,fun a V2 c=>(T4 (d.le c) (i.le c) sl hs.2 hk).mono ?_⟩;rintro r I J g;have j:=g;obtain ⟨_,_,_,_,_,_,rfl,-,-⟩:=g;exact ⟨_,_,_,_,_,_,rfl,fun K m=>⟨_,by rw [a];rfl,by rw [a];exact j.le m⟩⟩
theorem jn {V:View}{v:Value}(h:Gy V v false [] []):ae prog 130 #[v] V fun r V'=>r=.bool true:=by
 obtain ⟨p,n,c,q,m,e,rfl,a,b⟩:=h;obtain rfl:=a.len;obtain rfl:=b.len;exact yo false p _ c q _ e V _ ⟨fun _=>⟨fun _ d f=>rfl,(fun h=>nomatch h)⟩,(fun h=>nomatch h)⟩
theorem Ag {V:View}{v w:Value}{s:Sp}(h:K1 V v s)(h':K1 V w s){k:Nat}(hs:s.sz k)(hk:k<=1099511627776) :
  ae prog 69 #[v,w] V fun r V'=>r=.bool true:=by
 obtain ⟨lo,hi,a,b⟩:=s;obtain ⟨b1,p,n,c,p',n',c',d,q,m,e,N,O,P,rfl,H,I⟩:=h;obtain ⟨b2,i,j,t,i',j',t',f,o,u,g,Q,R,S,rfl,J,K⟩:=h';dsimp only at H I J K ⊢;refine yn _ _ _ _ _ _ _ _ _ _ _ _ _ _ _ _ _ _ _ _ _ _ _ _ _ _ _ _ _ _ _ _ V _ ⟨fun _=>⟨fun _=>?_,(by intro h;simp at h)⟩,(by intro h;simp at h)⟩;have T:∀x:View,V.Le x->b=true->ae prog 130 #[.agg #[.bool d,.slice q m e,.slice N O P]] x fun r V'=>r=.bool true:=fun x z l=>jn ((I.1 l).le z);have D:∀x:View,V.Le x->b=true->ae prog 130 #[.agg #[.bool f,.slice o u g,.slice Q R S]] x fun r V'=>r=.bool true:=fun x z l=>jn ((K.1 l).le z);have U:∀x:View,V.Le x->b=false->ae prog 131 #[.agg #[.bool d,.slice q m e,.slice N O P],.agg #[.bool f,.slice o u g,.slice Q R S]] x fun r V'=>r=.bool true:=fun x z l=>(nM ((I.2 l).le z) ((K.2 l).le z) hs.2 hk).mono fun r B _ h=>by rw [h];simp
 cases a with
 | true=>
  refine ⟨fun _ Y C=>(jn ((H.1 rfl).le C)).mono ?_,(fun h=>nomatch h)⟩;rintro r V2 W rfl;refine ⟨_,rfl,fun _ V3 X=>(jn ((J.1 rfl).le (C.trans (W.trans X)))).mono ?_,(fun h=>nomatch h)⟩;rintro r x z rfl;have L:=C.trans (W.trans (X.trans z));refine ⟨_,rfl,fun _=>⟨fun l B A=>(T B (L.trans A) l).mono ?_,fun l=>⟨fun _ B A=>(U B (L.trans A) l).mono ?_,fun y=>by rw [l] at y;cases y⟩⟩,(fun h=>nomatch h)⟩
  ·rintro r M E rfl;refine ⟨_,rfl,fun _ F G=>(D F (L.trans (A.trans (E.trans G))) l).mono ?_,(fun h=>nomatch h)⟩;rintro r Z l8 rfl;exact ⟨_,rfl,fun _ V9 l9=>rfl,(fun h=>nomatch h)⟩
  ·rintro r M E rfl;exact ⟨_,rfl,fun F G=>rfl⟩
 | false=>
  refine ⟨(fun h=>nomatch h),fun _=>⟨fun _ Y C=>(nM ((H.2 rfl).le C) ((J.2 rfl).le C) hs.1 hk).mono ?_,(fun h=>nomatch h)⟩⟩;rintro r x z rfl;have L:=C.trans z;refine ⟨_,rfl,fun _=>⟨fun l B A=>(T B (L.trans A) l).mono ?_,fun l=>⟨fun _ B A=>(U B (L.trans A) l).mono ?_,fun y=>by rw [l] at y;cases y⟩⟩,(by intro h;simp at h)⟩
  ·rintro r M E rfl;refine ⟨_,rfl,fun _ F G=>(D F (L.trans (A.trans (E.trans G))) l).mono ?_,(fun h=>nomatch h)⟩;rintro r Z l8 rfl;exact ⟨_,rfl,fun _ V9 l9=>rfl,(fun h=>nomatch h)⟩
  ·rintro r M E rfl;exact ⟨_,rfl,fun F G=>rfl⟩
theorem xy {V:View}{v:Value}{s:Sp}(h:KI V v s){k:Nat}(hs:s.sz k)(hk:k<=1099511627776):ae prog 43 #[v] V fun r V'=>K1 V' r s:=by
 obtain ⟨b1,p,n,c,G,H,I,d,q,m,e,J,K,L,rfl,z,l⟩:=h
 have t:∀{V:View} {v:Value} {x:Rat} {no:Bool},RA V v x->(!no)=true->RE V v x no:=fun h e=>by
  rw [Bool.not_eq_true'] at e;subst e;exact ⟨(fun h=>nomatch h),fun _=>h⟩
 have f:∀{V:View} {x:Rat} {no:Bool},(!no)=false->RE V (.agg #[.bool false,.slice none 0 0,.slice none 0 0]) x no:=fun e=>by
  rw [Bool.not_eq_false'] at e;subst e;exact ⟨fun _=>Gy.nil,(fun h=>nomatch h)⟩
 refine wS _ _ _ _ _ _ _ _ _ _ _ _ _ _ _ _ V _ ⟨fun g M o=>(gx (z.le o) hs.1 hk).mono ?_,fun g=>⟨fun a N A=>(gx (l.le A) hs.2 hk).mono ?_,fun a O B=>?_⟩⟩
 ·rintro r V2 C u;have i:=u;obtain ⟨_,_,_,_,_,_,_,rfl⟩:=u.shape;refine ⟨_,_,_,_,_,_,_,rfl,fun a P w=>(gx (l.le (o.trans (C.trans w))) hs.2 hk).mono ?_,fun a Q D=>?_⟩
  ·rintro r R E j;have b:=j;obtain ⟨_,_,_,_,_,_,_,rfl⟩:=j.shape;exact ⟨_,_,_,_,_,_,_,rfl,fun S y=>⟨_,_,_,_,_,_,_,_,_,_,_,_,_,_,rfl,t (i.le (w.trans (E.trans y))) g,t (b.le y) a⟩⟩
  ·exact ⟨_,_,_,_,_,_,_,_,_,_,_,_,_,_,rfl,t (i.le D) g,f a⟩
 ·rintro r T U j;have b:=j;obtain ⟨_,_,_,_,_,_,_,rfl⟩:=j.shape;exact ⟨_,_,_,_,_,_,_,rfl,fun W F=>⟨_,_,_,_,_,_,_,_,_,_,_,_,_,_,rfl,f g,t (b.le F) a⟩⟩
 ·exact ⟨_,_,_,_,_,_,_,_,_,_,_,_,_,_,rfl,f g,f a⟩
theorem eh.ai {k:Nat}{l:L3}(h:eh k l)(hk:k<=1099511627776):(ai l.1.natAbs).length<=1099511627776/\(ai l.2.1.natAbs).length<=1099511627776/\(ai l.2.2.natAbs).length<=1099511627776:=by
 have d1:=ag (show l.1.natAbs<2^k from h.1.1);have d2:=ag (show l.2.1.natAbs<2^k from h.2.1.1);have d3:=ag (show l.2.2.natAbs<2^k from h.2.2.1);exact ⟨by omega,by omega,by omega⟩
theorem uL {V:View}{v:Value}{l:L3}{s:Sp}(h:RF V v l s){k:Nat}(sl:eh k l)(hs:s.sz k)(hk:k<=1099511627776):ae prog 13 #[v] V fun r V'=>xi V' r l s:=by
 obtain ⟨d1,d2,d3⟩:=sl.ai hk;obtain ⟨b1,z,A,B,b2,C,D,E,b3,F,G,H,b,p,n,c,I,J,K,d,q,m,e,L,M,N,rfl,u,w⟩:=h;refine tO _ _ _ _ _ _ _ _ _ _ _ _ _ _ _ _ _ _ _ _ _ _ _ _ _ _ _ _ V _ fun O g=>(rU (u.le g) d1 d2 d3).mono ?_;rintro r V2 x i;have a:=i;obtain ⟨_,_,_,_,_,_,_,_,_,_,_,_,rfl⟩:=gI i;refine ⟨_,_,_,_,_,_,_,_,_,_,_,_,rfl,fun P j=>(xy (w.le (g.trans (x.trans j))) hs hk).mono ?_⟩;rintro r Q y o;have f:=o;obtain ⟨_,_,_,_,_,_,_,_,_,_,_,_,_,_,rfl,-,-⟩:=o;exact ⟨_,_,_,_,_,_,_,_,_,_,_,_,_,_,_,_,rfl,fun R t=>⟨_,_,_,_,_,_,_,_,_,_,_,_,_,_,_,_,_,_,_,_,_,_,_,_,_,_,rfl,a.le (j.trans (y.trans t)),f.le t⟩⟩
def R9 (V:View)(ad:Addr)(l:L3)(s:Sp):Prop:=∃xs:List Value,xi V (.agg xs.toArray) l s/\∀i x,xs[i]?=some x->V.at (ad.add i) x
theorem R9.le {V V':View}{ad:Addr}{l:L3}{s:Sp}(h:R9 V ad l s)(e:V.Le V'):R9 V' ad l s:=by
 obtain ⟨xs,a,b⟩:=h;exact ⟨xs,a.le e,fun i x c=>e.at (b i x c)⟩
structure oe (V:View) (p:OA) (n:Nat) (fs:List (L3×Sp)):Prop where
 len:n=fs.length
 at_:∀(i:Nat)(h:i<fs.length),∃ad,ah p (i*14)=some ad/\R9 V ad fs[i].1 fs[i].2
theorem oe.le {V V':View}{p:OA}{n:Nat}{fs:List (L3×Sp)}(h:oe V p n fs)(e:V.Le V'):oe V' p n fs:=⟨h.len,fun i a=>by obtain ⟨b,c,d⟩:=h.at_ i a;exact ⟨b,c,d.le e⟩⟩
theorem cB {p:OA}{j:Nat}{ad:Addr}(h:ah p j=some ad):p.isSome=true:=by
 cases p with
 | none=>cases h
 | some a=>rfl
theorem nH {V:View}{p q:OA}{n c m e:Nat}{fs:List (L3×Sp)}(hp:oe V p n fs)(hq:oe V q m fs){k:Nat}(sz:∀f∈fs,eh k f.1/\f.2.sz k)(hk:k<=1099511627776)(hn:fs.length<4611686018427387904) :
  ae prog 28 #[.slice p n c,.slice q m e] V fun r V'=>r=.bool true:=by
 obtain rfl:=hp.len;obtain rfl:=hq.len;refine tN p _ c q _ e V _ ⟨(by intro h;simp at h),fun _=>⟨fun z V'=>0<=z/\z<=fs.length,fun z=>(fs.length-z).toNat,⟨0,by and_intros<;>rfl,by omega,by omega⟩,?_⟩⟩;rintro z V2 D ⟨z0,z1⟩;refine ⟨rfl,fun g=>?_,fun g V9 l9=>rfl⟩;have g:z<fs.length:=of_decide_eq_true g;obtain ⟨i,rfl⟩:∃i:Nat,z=i:=⟨z.toNat,by omega⟩;have u:i<fs.length:=by omega
 rw [Int.toNat_natCast];have w:i64.wrap ((i:Int)+1)=(i:Int)+1:=aw (by omega);rw [w];obtain ⟨s1,s2⟩:=sz _ (List.getElem_mem u);obtain ⟨v,y,xs,⟨b1,p1,n1,c1,b2,p2,n2,c2,b3,p3,n3,c3,bb,pp,nn,cc,G,H,I,dd,qq,mm,ee,J,K,M,ex,N,O⟩,l⟩:=(hp.le D).at_ i u;obtain ⟨A,o,ys,⟨P,Xf,Q,R,S,Xg,Xa,T,U,Xk,Xb,W,X,Y,Z,a0,ZH,ZD,Yw,a1,a2,a3,a4,ZJ,Zz,YC,t,h3,h4⟩,s⟩:=(hq.le D).at_ i u;have ex:=congrArg Array.toList (Value.agg.inj ex);have t:=congrArg Array.toList (Value.agg.inj t);dsimp only at ex t;subst ex t;have d:=s1.ai hk;rw [y,o];refine ⟨cB y,⟨by omega,g⟩,rfl,_,_,_,_,_,_,_,_,_,_,_,_,v.add 0,rfl,l 0 _ rfl,l 1 _ rfl,l 2 _ rfl,l 3 _ rfl,l 4 _ rfl,l 5 _ rfl,cB o,⟨by omega,g⟩,rfl,_,_,_,_,_,_,_,_,_,_,_,_,A.add 0,rfl,s 0 _ rfl,s 1 _ rfl,s 2 _ rfl,s 3 _ rfl,s 4 _ rfl,s 5 _ rfl,fun V3 B=>(xw (N.le B) (h3.le B) d.1 d.2.1 d.2.2).mono ?_⟩;rintro r E l4 rfl;have L:=B.trans l4;have a:∀j x,_->E.at ((v.add 6).add j) x:=fun j x C=>by rw [hJ];exact L.at (l (6+j) x C)
 have b:∀j x,_->E.at ((A.add 6).add j) x:=fun j x C=>by rw [hJ];exact L.at (s (6+j) x C)
 refine ⟨_,rfl,(by intro h;simp at h),fun _=>⟨cB y,⟨by omega,g⟩,rfl,_,_,_,_,_,_,_,_,_,_,_,_,_,_,_,_,v.add 6,rfl,a 0 _ rfl,a 1 _ rfl,a 2 _ rfl,a 3 _ rfl,a 4 _ rfl,a 5 _ rfl,a 6 _ rfl,a 7 _ rfl,cB o,⟨by omega,g⟩,rfl,_,_,_,_,_,_,_,_,_,_,_,_,_,_,_,_,A.add 6,rfl,b 0 _ rfl,b 1 _ rfl,b 2 _ rfl,b 3 _ rfl,b 4 _ rfl,b 5 _ rfl,b 6 _ rfl,b 7 _ rfl,fun V6 F=>(Ag (O.le (L.trans F)) (h4.le (L.trans F)) s2 hk).mono ?_⟩⟩;rintro r V7 l7 rfl;exact ⟨_,rfl,(fun h=>nomatch h),fun _=>⟨(i:Int)+1,by dsimp only;omega,by and_intros<;>rfl,by omega,by omega⟩⟩
def Sc (V:View)(ad:Addr)(s:Sp):Prop:=∃xs:List Value,KI V (.agg xs.toArray) s/\∀i x,xs[i]?=some x->V.at (ad.add i) x
theorem Sc.le {V V':View}{ad:Addr}{s:Sp}(h:Sc V ad s)(e:V.Le V'):Sc V' ad s:=by
 obtain ⟨xs,a,b⟩:=h;exact ⟨xs,a.le e,fun i x c=>e.at (b i x c)⟩
structure SS (V:View) (p:OA) (n:Nat) (ss:List Sp):Prop where
 len:n=ss.length
 at_:∀(i:Nat)(h:i<ss.length),∃ad,ah p (i*8)=some ad/\Sc V ad ss[i]
theorem SS.le {V V':View}{p:OA}{n:Nat}{ss:List Sp}(h:SS V p n ss)(e:V.Le V'):SS V' p n ss:=⟨h.len,fun i a=>by obtain ⟨b,c,d⟩:=h.at_ i a;exact ⟨b,c,d.le e⟩⟩
def Ef (a b:Int):Int:=if 0<a/\b<0 then 2 else if (a=0/\b<=0)\/(b=0/\0<=a) then 1 else 0
def Sp.la (s:Sp)(t:Rat):Int:=if s.a then 1 else cmpQ t s.lo
def Sp.lb (s:Sp)(t:Rat):Int:=if s.b then -1 else cmpQ t s.hi
def G0:List Sp->Rat->Int
 | [],_=>0
 | s::r,t=>if Ef (s.la t) (s.lb t)≠0 then Ef (s.la t) (s.lb t) else G0 r t
theorem cmpQ_swap (x y:Rat):cmpQ y x=- cmpQ x y:=by
 unfold cmpQ;rw [show y-x=-(x-y) from by grind];exact Int.sign_neg _
theorem Kr {px py qx qy:Rat}:((mH px py qx qy).1.num / (bE (mH px py qx qy).1.num (mH px py qx qy).2.1.num (mH px py qx qy).2.2.num:Int),(mH px py qx qy).2.1.num / (bE (mH px py qx qy).1.num (mH px py qx qy).2.1.num (mH px py qx qy).2.2.num:Int),(mH px py qx qy).2.2.num / (bE (mH px py qx qy).1.num (mH px py qx qy).2.1.num (mH px py qx qy).2.2.num:Int))=gK px py qx qy:=by
 unfold mH gK ru vy;have e:∀x:Rat,(-x).den=x.den:=fun x=>rfl;rw [e (-(qy-py)*px+(qx-px)*py)];rfl
theorem Ks {px py qx qy:Rat}:((mH px py qx qy).1.num=0/\(mH px py qx qy).2.1.num=0)↔(px=qx/\py=qy):=by
 unfold mH;dsimp only;generalize hf:(-(qy-py)).den*(qx-px).den*(-(-(qy-py)*px+(qx-px)*py)).den=f;have b:f≠0:=by rw [←hf];exact Nat.mul_ne_zero (Nat.mul_ne_zero (Rat.den_nz _) (Rat.den_nz _)) (Rat.den_nz _)
 have a:((f:Int):Rat)≠0:=by exact_mod_cast b
 rw [Rat.num_eq_zero,Rat.num_eq_zero,Rat.mul_eq_zero,Rat.mul_eq_zero,or_iff_left a,or_iff_left a];exact Gm.symm
theorem Hy {V:View}{u w:Value}{px py qx qy:Rat}(hp:RP V u px py)(hq:RP V w qx qy){k:Nat}(s1:Sz k px)(s2:Sz k py)(s3:Sz k qx)(s4:Sz k qy)(hk1:1<=k)(hk:64*k+64<274877906944) :
  ae prog 37 #[u,w] V fun r V'=>(px=qx/\py=qy->∃l,r=.tuple #[l,.bool false]/\RL V' l 0 0 0)/\(¬(px=qx/\py=qy)->∃l,r=.tuple #[l,.bool true]/\RL V' l (gK px py qx qy).1 (gK px py qx qy).2.1 (gK px py qx qy).2.2):=by
 refine (lF hp hq s1 s2 s3 s4 hk1 hk).mono ?_;rintro r V2 d ⟨a,b⟩;have e:=Kr (px:=px) (py:=py) (qx:=qx) (qy:=qy);rw [Ks] at a b;refine ⟨a,fun h=>?_⟩;obtain ⟨l,c,g⟩:=b h;rw [←e];exact ⟨l,c,g⟩
theorem sU {V:View}{u v:Value}{px py qx qy:Rat}(hp:RP V u px py)(hq:RP V v qx qy){k:Nat}(s1:Sz k px)(s2:Sz k py)(s3:Sz k qx)(s4:Sz k qy)(hk1:1<=k)(hk:400*k+400<274877906944) :
  ae prog 33 #[u,v] V fun r V'=>(px=qx/\py=qy->∃l,r=.tuple #[l,.bool false]/\RF V' l (0,0,0) Sp.zero)/\(¬(px=qx/\py=qy)->∃l,r=.tuple #[l,.bool true]/\RF V' l (gK px py qx qy) (xG px py qx qy)):=by
 have a:=hp;have b:=hq;obtain ⟨_,_,_,_,_,_,_,_,_,_,_,_,_,_,rfl⟩:=gJ hp;obtain ⟨_,_,_,_,_,_,_,_,_,_,_,_,_,_,rfl⟩:=gJ hq;refine rM _ _ _ _ _ _ _ _ _ _ _ _ _ _ _ _ _ _ _ _ _ _ _ _ _ _ _ _ V _ fun y d=>(Hy (a.le d) (b.le d) s1 s2 s3 s4 hk1 (by omega)).mono ?_;rintro r V2 p ⟨w,x⟩;by_cases h:px=qx/\py=qy
 ·obtain ⟨l,rfl,e⟩:=w h;obtain ⟨_,_,_,_,_,_,_,_,_,_,_,_,rfl⟩:=gI e;have z:∀V:View,RQ V (.agg #[.bool false,.slice none 0 0,.slice none 0 0]) 0:=fun V=>by have:=RQ.zero (V:=V);simpa using this
  refine ⟨_,_,_,_,_,_,_,_,_,_,_,_,_,rfl,fun _ A B=>⟨fun _=>⟨_,rfl,?_⟩,fun g=>absurd h g⟩,fun h=>nomatch h⟩;exact ⟨_,_,_,_,_,_,_,_,_,_,_,_,_,_,_,_,_,_,_,_,_,_,_,_,_,_,rfl,⟨_,_,_,_,_,_,_,_,_,rfl,RD.nil,RD.nil,RD.nil⟩,_,_,_,_,_,_,_,_,_,_,_,_,_,_,rfl,z _,z _⟩
 ·obtain ⟨l,rfl,e⟩:=x h;have i:=e;have sl:=nj s1 s2 s3 s4 h;have nz:=Gn h;obtain ⟨_,_,_,_,_,_,_,_,_,_,_,_,rfl⟩:=gI e;refine ⟨_,_,_,_,_,_,_,_,_,_,_,_,_,rfl,(fun h=>nomatch h),fun _ C c=>(F_ (i.le c) (a.le (d.trans (p.trans c))) nz sl (Sz.mono s1 (by omega)) (Sz.mono s2 (by omega)) (by omega)).mono ?_⟩;rintro r D j q;have m:=q;obtain ⟨_,_,_,_,_,_,rfl⟩:=q.shape;refine ⟨_,_,_,_,_,_,_,rfl,fun E f=>(F_ (i.le (c.trans (j.trans f))) (b.le (d.trans (p.trans (c.trans (j.trans f))))) nz sl (Sz.mono s3 (by omega)) (Sz.mono s4 (by omega)) (by omega)).mono ?_⟩;rintro r F s t;have n:=t;obtain ⟨_,_,_,_,_,_,rfl⟩:=t.shape;refine ⟨_,_,_,_,_,_,_,rfl,fun G o=>⟨fun g=>absurd g h,fun _=>⟨_,rfl,?_⟩⟩⟩;exact ⟨_,_,_,_,_,_,_,_,_,_,_,_,_,_,_,_,_,_,_,_,_,_,_,_,_,_,rfl,i.le (c.trans (j.trans (f.trans (s.trans o)))),_,_,_,_,_,_,_,_,_,_,_,_,_,_,rfl,m.le (f.trans (s.trans o)),n.le o⟩
end Go.Proofs.Tryz
