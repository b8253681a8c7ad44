import Derived.Test.YtnnbfoejafcdlaaGreatDoorG9
import Derived.Test.YtnnbfoejafcdlaaGreatDoorG6
set_option linter.unusedVariables false
open Go.IntKind (i64 u64 u32)
namespace Go.Proofs.Tryz
open Go.bM Go.fR
theorem xi {x A d q r rest B W:Nat}(hA:A=d*B+rest)(h:d*q+r=rest*W+x):x+W*A=d*(q+W*B)+r:=by
 subst hA;grind
theorem Dv {V:View}{p:OA}{n c:Nat}{xs:List Nat}(hx:RD V p n c xs)(hm:xs.length<=1099511627776)(d:Nat)(hd0:d≠0)(hd:d<4294967296) :
  ab prog 231 #[.slice p n c,.int .u32 (d:Int)] V fun r V'=>∃p' n' c',r=.tuple #[.slice p' n' c',.int .u32 ((val xs%d:Nat):Int)]/\RN V' p' n' c' (val xs / d):=by
 have w:=hx.len
 refine CK p n c d V _ ⟨by omega,by omega,by omega,?_⟩
 simp (disch:=omega) only [ay,aM,Int.toNat_natCast,dh]
 refine ⟨fun z V'=>0<=z.1/\z.1<d/\-1<=z.2.1/\z.2.1<n/\∃es:List Nat,z.2.2=aD es/\es.length=n/\bX es /\
   val (xs.drop (z.2.1+1).toNat)=d*val (es.drop (z.2.1+1).toNat)+z.1.toNat,fun z=>(z.2.1+1).toNat,
   ⟨(0,(n:Int)-1,aD (List.replicate n 0)),by (try dsimp only);and_intros<;>trivial,by (try dsimp only);omega,by (try dsimp only);omega,by (try dsimp only);omega,by (try dsimp only);omega,_,rfl,by simp,bX.rep _,?_⟩,?_⟩
 ·(try dsimp only)
  rw [List.drop_of_length_le (by omega),List.drop_of_length_le (by simp)];rfl
 rintro ⟨rest,i,G⟩ V2 x ⟨f,g,h,j,es,rfl,m,b,a⟩
 dsimp only at f g h j a ⊢
 obtain ⟨rest,rfl⟩:=Int.eq_ofNat_of_zero_le f
 refine ⟨by trivial,fun e=>?_,fun e=>?_⟩
 ·have e:0<=i:=by simpa using e
  obtain ⟨i,rfl⟩:=Int.eq_ofNat_of_zero_le e
  have o:((i:Int)+1).toNat=i+1:=by omega
  rw [o] at a
  simp only [Int.toNat_natCast] at a
  refine ⟨by omega,(hx.le x).rd i rfl (by omega) ?_⟩
  have y:=hx.fo.get (i:=i) (by omega)
  have s:bB .or .u64 (u64.wrap ((rest:Int)*2^32)) (u64.wrap ((xs[i]:Nat):Int))=((rest*4294967296+xs[i]:Nat):Int):=by
   have A:((2:Int)^32)=4294967296:=by decide
   rw [A,aM (by omega),aM (by omega),Ep _ _ (by omega) y];omega
  rw [s]
  have t:((rest*4294967296+xs[i]:Nat):Int).tdiv (d:Int)=(((rest*4294967296+xs[i]) / d:Nat):Int):=by
   rw [Int.tdiv_eq_ediv_of_nonneg (by omega)];omega
  have B:((rest*4294967296+xs[i]:Nat):Int).tmod (d:Int)=(((rest*4294967296+xs[i])%d:Nat):Int):=by
   rw [Int.tmod_eq_emod_of_nonneg (by omega)];omega
  rw [t,B]
  have H:(rest*4294967296+xs[i]) / d<4294967296:=by
   rw [Nat.div_lt_iff_lt_mul (by omega)]
   have:rest+1<=d:=by omega
   have:=Nat.mul_le_mul_right 4294967296 this
   rw [Nat.mul_comm 4294967296 d]
   omega
  have I:(rest*4294967296+xs[i])%d<d:=Nat.mod_lt _ (by omega)
  have C:=Nat.div_add_mod (rest*4294967296+xs[i]) d
  generalize (rest*4294967296+xs[i]) / d=q at *
  generalize (rest*4294967296+xs[i])%d=r at *
  simp (disch:=omega) only [aM,q_,ay]
  refine ⟨by omega,⟨by omega,by omega⟩,by simp;omega,by omega,?_⟩
  refine ⟨((r:Int),(i:Int)-1,aD (es.set i q)),?_,?_,?_⟩
  ·(try dsimp only);omega
  ·(try dsimp only);and_intros<;>first|trivial|(rw [←bE];simp)
  ·(try dsimp only)
   refine ⟨by omega,by omega,by omega,by omega,_,rfl,by simpa using m,b.set _ _ (by omega),?_⟩
   have u:((i:Int)-1+1).toNat=i:=by omega
   rw [u,List.drop_eq_getElem_cons (by omega),List.drop_eq_getElem_cons (l:=es.set i q) (by simp;omega),List.getElem_set_self,List.drop_set_of_lt (by omega)]
   have D:xs[i]+4294967296*val (List.drop (i+1) xs)=d*(q+4294967296*val (List.drop (i+1) es))+r:=xi a C
   rw [bo,bo,Int.toNat_natCast]
   exact D
 ·have e:i=-1:=by simp at e;omega
  subst e
  simp only [Int.toNat_natCast] at a
  have a:val xs=d*val es+rest:=by simpa using a
  intro J K L E
  refine (aV (RD.bI E b (n:=n) (c:=n) (by omega) (Nat.le_refl _)) (by omega)).mono ?_
  rintro r M N ⟨k,rfl,v⟩
  refine ⟨_,_,_,rfl,fun _ O F=>?_⟩
  have s:val xs / d=val es:=by rw [a,Nat.mul_add_div (by omega),Nat.div_eq_of_lt (by omega),Nat.add_zero]
  have t:val xs%d=rest:=by rw [a,Nat.mul_add_mod,Nat.mod_eq_of_lt (by omega)]
  rw [q_ (by omega),s,t]
  rw [aO b] at v
  exact ⟨_,_,_,rfl,v.le F⟩
theorem Gw (a b:Nat)(ha:a<4294967296)(hb:b<4294967296):bB .or .u32 (a:Int) (b:Int)=((a ||| b:Nat):Int):=by
 rw [bB,jd]
 have c:(BitVec.ofInt IntKind.u32.bits ((a:Nat):Int) ||| BitVec.ofInt IntKind.u32.bits (b:Int)).toNat=a ||| b:=by
  show (BitVec.ofInt 32 ((a:Nat):Int) ||| BitVec.ofInt 32 (b:Int)).toNat=_
  rw [BitVec.ofInt_natCast,BitVec.ofInt_natCast,BitVec.toNat_or,BitVec.toNat_ofNat,BitVec.toNat_ofNat,Nat.mod_eq_of_lt (by omega),Nat.mod_eq_of_lt (by omega)]
 have d:a ||| b<2^32:=Nat.or_lt_two_pow (by omega) (by omega)
 rw [c]
 omega
theorem Qt {c m r:Nat}(h:c<2^r):c ||| m*2^r=c+m*2^r:=by
 rw [Nat.or_comm,←Nat.shiftLeft_eq,←Nat.shiftLeft_add_eq_or_of_lt h,Nat.add_comm]
theorem EM {d r c:Nat}(hd:d<4294967296)(hr:r<32)(hc:c<2^r) :
  c ||| (d*2^r%4294967296)=c+d*2^r%4294967296/\c+d*2^r%4294967296<4294967296/\d*2^r / 4294967296<2^r/\d*2^r<18446744073709551616:=by
 have e:4294967296=2^(32-r)*2^r:=by rw [←Nat.pow_add,Nat.sub_add_cancel (by omega)]
 have a:d*2^r%4294967296=(d%2^(32-r))*2^r:=by
  rw [e,Nat.mul_mod_mul_right]
 have f:d%2^(32-r)+1<=2^(32-r):=Nat.mod_lt _ (Nat.two_pow_pos _)
 have b:=Nat.mul_le_mul_right (2^r) f
 have h:2^r<=2^31:=Nat.pow_le_pow_right (by omega) (by omega)
 have g:d*2^r<4294967296*2^r:=Nat.mul_lt_mul_of_pos_right hd (Nat.two_pow_pos _)
 refine ⟨by rw [a,Qt hc],?_,?_,by omega⟩
 ·rw [a]
  rw [Nat.add_mul,Nat.one_mul] at b
  rw [←e] at b
  omega
 ·rw [Nat.div_lt_iff_lt_mul (by omega),Nat.mul_comm (2^r)];exact g
theorem Ax {V:View}{p:OA}{n c:Nat}{ds:List Nat}(h:RD V p n c ds)(hm:ds.length<=1099511627776)(k:Nat)(hk:k<=1048576) :
  ab prog 235 #[.slice p n c,.int .u64 (k:Int)] V fun r V'=>∃p' n' c',r=.slice p' n' c'/\RN V' p' n' c' (val ds*2^k)/\(val ds=0\/c'=(ah (val ds)).length+k / 32+1):=by
 have G:=bg h.fo
 refine G4 p n c k V _ fun Y H=>(aV (h.le H) (by omega)).mono ?_
 rintro r V2 Z ⟨n,rfl,o⟩
 rw [aO h.fo] at o
 generalize hxv:val ds=x at *
 have hl:=o.len
 refine ⟨_,_,_,rfl,fun m V3 l3=>?_,fun m=>?_⟩
 ·have:ah x=[]:=List.length_eq_zero_iff.1 (by simp at m;omega)
  have:=bC.1 this
  subst this
  rw [Nat.zero_mul]
  exact ⟨_,_,_,rfl,RD.nil,.inl rfl⟩
 ·have m:0<n:=by simp at m;omega
  have C:bV (k:Int) 1048576=k:=by unfold bV;rw [if_neg (by omega)]
  have D:(k:Int).tdiv 32=((k / 32:Nat):Int):=by rw [Int.tdiv_eq_ediv_of_nonneg (by omega)];omega
  have E:(k:Int).tmod 32=((k%32:Nat):Int):=by rw [Int.tmod_eq_emod_of_nonneg (by omega)];omega
  rw [C,D,E]
  have q:x*2^k=4294967296^(k / 32)*x*2^(k%32):=by
   have:2^k=4294967296^(k / 32)*2^(k%32):=by
    rw [show (4294967296:Nat)=2^32 from rfl,←Nat.pow_mul,←Nat.pow_add,Nat.div_add_mod]
   rw [this];grind
  rw [q]
  generalize hw:k / 32=w at *
  have s:k%32<32:=Nat.mod_lt _ (by omega)
  have I:w<=32768:=by omega
  generalize k%32=r at *
  clear C D E
  simp (disch:=omega) only [ay,aM,dh]
  have t:((n:Int)+w+1).toNat=n+w+1:=by omega
  rw [t]
  refine ⟨by omega,by omega,by omega,by omega,by omega,fun z V'=>0<=z.1/\z.1<=n/\∃es:List Nat,z.2=aD es/\es.length=n+w+1/\bX es/\(∀c,es[z.1.toNat+w]?=some c->c<2^r) /\
   val (es.take (z.1.toNat+w+1))=4294967296^w*val ((ah x).take z.1.toNat)*2^r,fun z=>n-z.1.toNat,
   ⟨(0,aD (List.replicate (n+w+1) 0)),by (try dsimp only);and_intros<;>trivial,by (try dsimp only);omega,by (try dsimp only);omega,_,rfl,by simp,bX.rep _,?_,?_⟩,?_⟩
  ·intro c a
   rw [List.getElem?_replicate] at a
   split at a
   ·cases a;exact Nat.two_pow_pos r
   ·cases a
  ·simp [List.take_replicate,u_]
  rintro ⟨i,vs⟩ V4 J ⟨f,u,es,rfl,v,b,a,d⟩
  dsimp only at f u a d ⊢
  obtain ⟨i,rfl⟩:=Int.eq_ofNat_of_zero_le f
  simp only [Int.toNat_natCast] at a d
  refine ⟨by trivial,fun e=>?_,fun e=>?_⟩
  ·have e:i<n:=by simpa using e
   refine (o.le J).rd i rfl (by omega) ?_
   have K:=(aE x).get (i:=i) (by omega)
   have y:=a (es[i+w]'(by omega)) (List.getElem?_eq_getElem _)
   obtain ⟨L,g2,M,g4⟩:=EM K s y
   have g:(min ((r:Nat):Int).toNat IntKind.u64.bits)=r:=by
    show min _ 64=r
    omega
   have N:((2:Int)^r)=((2^r:Nat):Int):=by simp
   rw [g,N]
   have hmul:(((ah x)[i]:Nat):Int)*((2^r:Nat):Int)=(((ah x)[i]*2^r:Nat):Int):=by simp
   simp (disch:=omega) only [ay]
   rw [aM (x:=(((ah x)[i]:Nat):Int)) (by omega),hmul,aM (by omega),jd,mQ]
   have A:((i:Int)+w).toNat=i+w:=by omega
   have O:((i:Int)+w+1).toNat=i+w+1:=by omega
   rw [A,O]
   refine ⟨by omega,⟨by omega,by omega⟩,((es[i+w]'(by omega):Nat):Int),by rw [Nat.zero_add,Nat.mul_one];exact gQ (by omega),⟨by omega,by omega⟩,by simp;omega,by omega,⟨by omega,by omega⟩,by simp;omega,?_⟩
   have P:(((ah x)[i]*2^r:Nat):Int)%4294967296=(((ah x)[i]*2^r%4294967296:Nat):Int):=by omega
   have Q:(((ah x)[i]*2^r:Nat):Int) / 4294967296=(((ah x)[i]*2^r / 4294967296:Nat):Int):=by omega
   rw [P,Q,Gw _ _ (by omega) (by omega),L]
   have R:=Nat.mod_add_div ((ah x)[i]*2^r) 4294967296
   have S:(ah x)[i]*2^r / 4294967296<4294967296:=by omega
   have B:val (List.take (i+1) (ah x))=val (List.take i (ah x))+4294967296^i*(ah x)[i]:=ax _ _ (by omega)
   have T:val (es.take (i+w+1))=val (es.take (i+w))+4294967296^(i+w)*es[i+w]'(by omega):=ax _ _ (by omega)
   generalize (ah x)[i]*2^r%4294967296=lo at *
   generalize hhi:(ah x)[i]*2^r / 4294967296=hi at *
   rw [q_ (by omega)]
   refine ⟨((i:Int)+1,aD ((es.set (i+w) (es[i+w]'(by omega)+lo)).set (i+w+1) hi)),?_,?_,?_⟩
   ·(try dsimp only);omega
   ·(try dsimp only);and_intros<;>first|trivial|(rw [←bE,←bE];simp)
   ·(try dsimp only)
    have j:((i:Int)+1).toNat=i+1:=by omega
    refine ⟨by omega,by omega,_,rfl,by simpa using v,(b.set _ _ (by omega)).set _ _ (by omega),?_,?_⟩
    ·intro c l
     rw [j,show i+1+w=i+w+1 from by omega,List.getElem?_set_self (by simp;omega)] at l
     cases l;exact M
    ·rw [j,show i+1+w+1=i+w+1+1 from by omega,aK _ _ _ (by simp;omega),aK _ _ _ (by omega),B]
     rw [T] at d
     have U:4294967296^(i+w+1)*hi=4294967296^(i+w)*(4294967296*hi):=by rw [Nat.pow_succ];grind
     rw [U,Nat.mul_add,←Nat.add_assoc,d,Nat.add_assoc,←Nat.mul_add,R,Nat.pow_add]
     grind
  ·have e:i=n:=by simp at e;omega
   subst e
   intro V5 l5 bk W
   refine (aV (RD.bI W b (n:=i+w+1) (c:=i+w+1) (by omega) (Nat.le_refl _)) (by omega)).mono ?_
   rintro r' V6 l6 ⟨k',rfl,F⟩
   refine ⟨_,_,_,rfl,fun _ V7 X=>⟨_,_,_,rfl,?_,.inr (by omega)⟩⟩
   rw [aq (by omega),aq (by omega),ae] at d
   rw [aO b,d] at F
   exact F.le X
theorem EN {d Y r:Nat}(hd:d<4294967296)(hr:r<32) :
  (d+4294967296*Y) / 2^r=(d+4294967296*(Y%4294967296)) / 2^r%4294967296+4294967296*(Y / 2^r):=by
 have e:4294967296=2^r*2^(32-r):=by rw [←Nat.pow_add,Nat.add_sub_cancel' (by omega)]
 have c:=Nat.two_pow_pos r
 have l:=Nat.two_pow_pos (32-r)
 generalize ha:2^r=a at *
 generalize hb:2^(32-r)=b at *
 have f:∀Z,(d+4294967296*Z) / a=d / a+b*Z:=by
  intro Z
  rw [e,Nat.mul_assoc,Nat.add_mul_div_left _ _ c]
 rw [f,f]
 have g:d / a<b:=by
  rw [Nat.div_lt_iff_lt_mul c,Nat.mul_comm,←e];exact hd
 have h:b*(Y%4294967296)%4294967296=b*(Y%a):=by
  rw [e,Nat.mul_comm a b,Nat.mul_mod_mul_left,Nat.mod_mul_left_mod]
 have m:b*(Y%a)+b<=4294967296:=by
  have:Y%a+1<=a:=Nat.mod_lt _ c
  have:=Nat.mul_le_mul_left b this
  rw [Nat.mul_add,Nat.mul_one,Nat.mul_comm b a,←e] at this
  exact this
 have i:(d / a+b*(Y%4294967296))%4294967296=d / a+b*(Y%a):=by
  rw [Nat.add_mod,h,Nat.mod_eq_of_lt (a:=d / a) (by omega),Nat.mod_eq_of_lt (by omega)]
 rw [i]
 have j:=Nat.mod_add_div Y a
 have k:b*Y=b*(Y%a)+4294967296*(Y / a):=by
  conv=>lhs;rw [←j]
  rw [Nat.mul_add,←Nat.mul_assoc,Nat.mul_comm b a,←e]
 rw [k];omega
theorem re {xs:List Nat}(h:bX xs)(i:Nat):val (xs.drop i)%4294967296=(xs[i]?).getD 0:=by
 rcases Nat.lt_or_ge i xs.length with a|a
 ·rw [List.drop_eq_getElem_cons a,bo,List.getElem?_eq_getElem a,Option.getD_some,Nat.add_mul_mod_self_left,Nat.mod_eq_of_lt (h.get a)]
 ·rw [List.drop_of_length_le a,List.getElem?_eq_none a];rfl
theorem Ix {V:View}{p:OA}{n c:Nat}{ds:List Nat}(h:RD V p n c ds)(hm:ds.length<=1099511627776)(k:Nat)(hk:k<18446744073709551616) :
  ab prog 236 #[.slice p n c,.int .u64 (k:Int)] V fun r V'=>∃p' n' c',r=.slice p' n' c'/\RN V' p' n' c' (val ds / 2^k):=by
 have T:=bg h.fo
 refine G5 p n c k V _ fun V1 U=>(aV (h.le U) (by omega)).mono ?_
 rintro r V2 l2 ⟨n,rfl,B⟩
 rw [aO h.fo] at B
 generalize val ds=x at *
 have hl:=B.len
 have P:(k:Int).tdiv 32=((k / 32:Nat):Int):=by rw [Int.tdiv_eq_ediv_of_nonneg (by omega)];omega
 have C:(k:Int).tmod 32=((k%32:Nat):Int):=by rw [Int.tmod_eq_emod_of_nonneg (by omega)];omega
 refine ⟨_,_,_,rfl,?_⟩
 rw [P,C]
 have q:x / 2^k=x / 4294967296^(k / 32) / 2^(k%32):=by
  rw [Nat.div_div_eq_div_mul,show (4294967296:Nat)=2^32 from rfl,←Nat.pow_mul,←Nat.pow_add,Nat.div_add_mod]
 rw [q]
 have W:k / 32<576460752303423488:=by omega
 generalize k / 32=w at *
 have E:k%32<32:=Nat.mod_lt _ (by omega)
 generalize k%32=r at *
 clear P C q
 refine ⟨by omega,fun j V3 l3=>?_,fun j=>?_⟩
 ·have j:n<=w:=by
   rw [aM (by omega),aM (by omega)] at j;simp at j;omega
  have:x / 4294967296^w=0:=Nat.div_eq_of_lt (Nat.lt_of_lt_of_le (aF.1 (Nat.le_refl _)) (Nat.pow_le_pow_right (by omega) (by omega)))
  rw [this,Nat.zero_div]
  exact ⟨_,_,_,rfl,RD.nil⟩
 ·have j:w<n:=by
   rw [aM (by omega),aM (by omega)] at j;simp at j;omega
  simp (disch:=omega) only [ay,aM,dh]
  have F:((n:Int)-w).toNat=n-w:=by omega
  rw [F]
  have G:x / 4294967296^w=val ((ah x).drop w):=by
   have e:val (ah x)=val ((ah x).take w++(ah x).drop w):=by rw [List.take_append_drop]
   have s:=gS ((aE x).take w)
   rw [dS,ae] at e
   rw [List.length_take,Nat.min_eq_left (by omega)] at e s
   have g:∀y,y=val ((ah x).take w)+4294967296^w*val ((ah x).drop w)->y / 4294967296^w=val ((ah x).drop w):=by
    intro y X
    rw [X,Nat.add_mul_div_left _ _ (Nat.pow_pos (by omega)),Nat.div_eq_of_lt s,Nat.zero_add]
   exact g x e
  rw [G]
  refine ⟨by omega,by omega,by omega,by omega,by omega,fun z V'=>0<=z.1/\z.1<=(n-w:Nat)/\∃es:List Nat,z.2=aD es/\es.length=n-w/\bX es /\
   val (es.take z.1.toNat)+4294967296^z.1.toNat*(val ((ah x).drop (w+z.1.toNat)) / 2^r)=val ((ah x).drop w) / 2^r,fun z=>(n-w)-z.1.toNat,
   ⟨(0,aD (List.replicate (n-w) 0)),by (try dsimp only);and_intros<;>trivial,by (try dsimp only);omega,by (try dsimp only);omega,_,rfl,by simp,bX.rep _,by simp⟩,?_⟩
  rintro ⟨i,vs⟩ V4 Q ⟨t,H,es,rfl,I,m,b⟩
  dsimp only at t H b ⊢
  obtain ⟨i,rfl⟩:=Int.eq_ofNat_of_zero_le t
  simp only [Int.toNat_natCast] at b
  refine ⟨by trivial,fun u=>?_,fun u=>?_⟩
  ·have u:i<n-w:=by simpa using u
   simp (disch:=omega) only [ay]
   refine (B.le Q).rd (w+i) (by omega) (by omega) ?_
   have R:=(aE x).get (i:=w+i) (by omega)
   have v:=EN (Y:=val ((ah x).drop (w+i+1))) R E
   rw [re (aE x)] at v
   have d:(min ((r:Nat):Int).toNat IntKind.u64.bits)=r:=by
    show min _ 64=r
    omega
   have o:val ((ah x).drop (w+i))=(ah x)[w+i]+4294967296*val ((ah x).drop (w+i+1)):=by
    rw [List.drop_eq_getElem_cons (by omega),bo]
   rw [o] at b
   rw [v] at b
   have S:∀D:Nat,D=((ah x)[w+i]+4294967296*((ah x)[w+i+1]?).getD 0) / 2^r%4294967296 ->
     ∃a:List Nat,(aD es).set (0+i*1) (.int .u32 (D:Int))=aD a/\a.length=n-w/\bX a /\
     val (a.take (i+1))+4294967296^(i+1)*(val ((ah x).drop (w+(i+1))) / 2^r)=val ((ah x).drop w) / 2^r:=by
    intro D Z
    refine ⟨es.set i D,by rw [←bE];simp,by simpa using I,m.set _ _ (by omega),?_⟩
    rw [aK _ _ _ (by omega),←b,Z,Nat.pow_succ,Nat.mul_add,Nat.add_assoc,Nat.mul_assoc,Nat.add_assoc w i 1]
   have A:((i:Int)+1).toNat=i+1:=by omega
   refine ⟨fun f=>?_,fun f=>?_⟩
   ·have f:w+i+1<n:=by simp at f;omega
    refine (B.le Q).rd (w+i+1) (by omega) (by omega) ?_
    have J:=(aE x).get (i:=w+i+1) (by omega)
    have K:bB .or .u64 (u64.wrap (((ah x)[w+i]:Nat):Int)) (u64.wrap (u64.wrap (((ah x)[w+i+1]:Nat):Int)*2^32))=(((ah x)[w+i]+4294967296*((ah x)[w+i+1]?).getD 0:Nat):Int):=by
     have C:((2:Int)^32)=4294967296:=by decide
     rw [C,aM (by omega),aM (x:=(((ah x)[w+i+1]:Nat):Int)) (by omega),aM (by omega),Lp _ _ J R,List.getElem?_eq_getElem (by omega),Option.getD_some]
     omega
    rw [K,d,gL,jd]
    refine ⟨by omega,by omega,⟨by omega,by omega⟩,by simp;omega,?_⟩
    obtain ⟨a,L,M,N,O⟩:=S _ rfl
    refine ⟨((i:Int)+1,aD a),?_,?_,?_⟩
    ·(try dsimp only);omega
    ·(try dsimp only);and_intros<;>first|trivial|(rw [←L];simp)
    ·(try dsimp only)
     exact ⟨by omega,by omega,a,rfl,M,N,by rw [A];exact O⟩
   ·have f:n<=w+i+1:=by simp at f;omega
    have K:u64.wrap (((ah x)[w+i]:Nat):Int)=(((ah x)[w+i]+4294967296*((ah x)[w+i+1]?).getD 0:Nat):Int):=by
     rw [aM (by omega),List.getElem?_eq_none (by omega)];simp
    rw [K,d,gL,jd]
    refine ⟨by omega,⟨by omega,by omega⟩,by simp;omega,?_⟩
    obtain ⟨a,L,M,N,O⟩:=S _ rfl
    refine ⟨((i:Int)+1,aD a),?_,?_,?_⟩
    ·(try dsimp only);omega
    ·(try dsimp only);and_intros<;>first|trivial|(rw [←L];simp)
    ·(try dsimp only)
     exact ⟨by omega,by omega,a,rfl,M,N,by rw [A];exact O⟩
  ·have u:i=n-w:=by simp at u;omega
   intro V5 l5 bk hb
   refine (aV (RD.bI hb m (n:=n-w) (c:=n-w) (by omega) (Nat.le_refl _)) (by omega)).mono ?_
   rintro r' V6 l6 ⟨k',rfl,f⟩
   refine ⟨_,_,_,rfl,fun _ V7 l7=>⟨_,_,_,rfl,?_⟩⟩
   rw [aq (by omega),List.drop_of_length_le (l:=ah x) (i:=w+i) (by omega)] at b
   have b:val es=val ((ah x).drop w) / 2^r:=by
    rw [←b,fg,Nat.zero_div,Nat.mul_zero,Nat.add_zero]
   rw [aO m,b] at f
   exact f.le l7
end Go.Proofs.Tryz
namespace Go.fR
theorem IU {v1 v2 v' u0 u1 u2 t' B W G ρ T Y:Nat}(hY:Y=(v1*W+v2)*B+v')(hT:T=((u0*W+u1)*W+u2)*B+t')(ht:t'<B)
  (hg:G*v1+ρ=u0*W+u1)(hd:ρ*W+u2<G*v2):T<G*Y:=by
 have a:(u0*W+u1)*W+u2+1<=G*(v1*W+v2):=by
  rw [←hg,Nat.mul_add,Nat.add_mul,←Nat.mul_assoc];omega
 have b:=Nat.mul_le_mul_right B a
 have c:G*(v1*W+v2)*B<=G*Y:=by rw [hY,Nat.mul_assoc];exact Nat.mul_le_mul_left _ (Nat.le_add_right _ _)
 rw [Nat.add_mul,Nat.one_mul] at b
 omega
theorem AO {v1 v2 v' u0 u1 u2 t' B W G ρ T Y:Nat}(hY:Y=(v1*W+v2)*B+v')(hT:T=((u0*W+u1)*W+u2)*B+t')(hv:v'<B)(hv1:1<=v1)(hW:0<W)
  (hg:G*v1+ρ=u0*W+u1)(hd:G*v2<=ρ*W+u2)(hG:G<=W):G*Y<T+Y:=by
 have a:G*(v1*W+v2)<=(u0*W+u1)*W+u2:=by
  rw [←hg,Nat.mul_add,Nat.add_mul,←Nat.mul_assoc];omega
 have d:=Nat.mul_le_mul_right B a
 have e:G*v'<=W*v':=Nat.mul_le_mul_right _ hG
 have f:W*v'<W*B:=Nat.mul_lt_mul_of_pos_left hv hW
 have g:W*B<=v1*W*B:=by
  have:=Nat.mul_le_mul_right (W*B) hv1
  rw [Nat.one_mul,←Nat.mul_assoc] at this;exact this
 have b:(v1*W+v2)*B=v1*W*B+v2*B:=Nat.add_mul _ _ _
 have c:G*Y=G*(v1*W+v2)*B+G*v':=by rw [hY,Nat.mul_add,Nat.mul_assoc]
 rw [c,hY,b]
 omega
theorem AP {v1 v2 v' u0 u1 u2 t' B W T Y:Nat}(hY:Y=(v1*W+v2)*B+v')(hT:T=((u0*W+u1)*W+u2)*B+t')(hv:v'<B)(h:T<W*Y):u0*W+u1<=v1*W+v2:=by
 rcases Nat.lt_or_ge (v1*W+v2) (u0*W+u1) with a|a
 ·exfalso
  have b:(v1*W+v2+1)*W<=(u0*W+u1)*W:=Nat.mul_le_mul_right _ a
  have c:=Nat.mul_le_mul_right B b
  have d:W*Y<=W*((v1*W+v2+1)*B):=by
   rw [hY,Nat.add_mul (v1*W+v2) 1 B,Nat.one_mul];exact Nat.mul_le_mul_left _ (by omega)
  have e:W*((v1*W+v2+1)*B)=(v1*W+v2+1)*W*B:=by grind
  have f:(u0*W+u1)*W*B<=T:=by rw [hT,Nat.add_mul ((u0*W+u1)*W) u2 B];omega
  omega
 ·exact a
theorem Kr {v1 v2 v' u0 u1 u2 t' B W G ρ T Y:Nat}(hY:Y=(v1*W+v2)*B+v')(hT:T=((u0*W+u1)*W+u2)*B+t')(ht:t'<B)(hu:u2<W)
  (hg:G*v1+ρ=u0*W+u1)(hr:ρ<v1):T<(G+1)*Y:=by
 have a:u0*W+u1+1<=(G+1)*v1:=by rw [Nat.add_mul,Nat.one_mul];omega
 have d:=Nat.mul_le_mul_right (W*B) a
 have e:(G+1)*v1*(W*B)<=(G+1)*Y:=by
  rw [hY,Nat.mul_assoc]
  refine Nat.mul_le_mul_left _ ?_
  rw [←Nat.mul_assoc,Nat.add_mul];omega
 have f:((u0*W+u1)*W+u2)*B+t'<(u0*W+u1+1)*(W*B):=by
  have b:(u2+1)*B<=W*B:=Nat.mul_le_mul_right _ hu
  rw [Nat.add_mul,Nat.one_mul] at b
  have c:(u0*W+u1+1)*(W*B)=(u0*W+u1)*W*B+W*B:=by grind
  rw [c,Nat.add_mul ((u0*W+u1)*W) u2 B];omega
 omega
theorem Bl {F U c b g d u Y W S:Nat}{x:Int}(h:F+W*(g*Y)=U+W*S*(c+b))(hc:c<4294967296)(hb:b<=1)(hu:u<4294967296)
  (hx:x=((u:Int)-((c+g*d)%4294967296:Nat)-b)%18446744073709551616) :
  0<=x/\0<=x / 9223372036854775808/\x / 9223372036854775808<=1 /\
  F+W*S*(x%4294967296).toNat+W*(g*(Y+S*d))=U+W*S*u+W*(S*4294967296)*((c+g*d) / 4294967296+(x / 9223372036854775808).toNat):=by
 have n:=Nat.mod_add_div (c+g*d) 4294967296
 have hm:(c+g*d)%4294967296<4294967296:=Nat.mod_lt _ (by omega)
 generalize (c+g*d) / 4294967296=q at *
 generalize (c+g*d)%4294967296=m at *
 have key:∃o B:Nat,(x%4294967296).toNat=o/\(x / 9223372036854775808).toNat=B/\u+4294967296*B=o+m+b/\0<=x/\0<=x / 9223372036854775808/\x / 9223372036854775808<=1:=by
  refine ⟨_,_,rfl,rfl,?_,by omega,by omega,by omega⟩
  omega
 obtain ⟨o,B,a,e,p,f,i,j⟩:=key
 refine ⟨f,i,j,?_⟩
 rw [a,e]
 have k:u+4294967296*(B+q)=o+b+(c+g*d):=by omega
 have l:W*S*u+W*(S*4294967296)*(q+B)=W*S*(u+4294967296*(B+q)):=by grind
 rw [Nat.add_assoc U,l,k]
 grind
theorem Ah {F U c d u Y W S t:Nat}(h:F+W*S*c=U+W*Y)(ht:t=c+u+d) :
  F+W*S*(t%4294967296)+W*(S*4294967296)*(t / 4294967296)=U+W*S*u+W*(Y+S*d):=by
 have a:W*S*(t%4294967296)+W*(S*4294967296)*(t / 4294967296)=W*S*t:=by
  have:=Nat.mod_add_div t 4294967296
  have e:W*(S*4294967296)*(t / 4294967296)=W*S*(4294967296*(t / 4294967296)):=by grind
  rw [e,←Nat.mul_add,this]
 rw [Nat.add_assoc,a,ht]
 grind
end Go.fR
namespace Go.Proofs.Tryz
open Go.bM Go.fR
theorem _root_.Go.bM.RD.rd0 {V:View}{p:OA}{n c:Nat}{ds:List Nat}(h:RD V p n c ds){i:Int}{K:Int->Prop}(j:Nat)(hj:i=j)(hn:j<ds.length)
  (hK:K ((ds[j]:Nat):Int)):(p.isSome=true)/\(0<=i/\i<(n:Int))/\∃x:Int,(∃a,ag p j=some a/\V.at a (.int .u32 x))/\K x:=by
 have:=h.rd (K:=K) j hj hn hK
 subst hj
 simpa only [Int.toNat_natCast,Nat.mul_one] using this
theorem NZ {us:List Nat}{rest:List Value}{k:Nat}(h:k<us.length):(aD us++rest)[0+k*1]?=some (.int .u32 (us[k]:Int)):=by
 rw [Nat.zero_add,Nat.mul_one,List.getElem?_append_left (by simpa using h)]
 exact gQ h
theorem uX {us:List Nat}{rest:List Value}{k x:Nat}(h:k<us.length):(aD us++rest).set (0+k*1) (.int .u32 (x:Int))=aD (us.set k x)++rest:=by
 rw [Nat.zero_add,Nat.mul_one,List.set_append_left _ _ (by simpa using h),bE]
theorem EL {y m t s:Nat}(hm:(ah y).length=m)(h0:0<m)(ht:t=(ah y)[m-1]'(by omega))(hs:s=32-bS t) :
  s<32/\(ah (y*2^s)).length=m/\2147483648*4294967296^(m-1)<=y*2^s:=by
 have d:t<4294967296:=by rw [ht];exact (aE y).get _
 have a:t≠0:=by rw [ht];have:=(jH y).last (by omega);simpa [hm] using this
 have f:=qG t
 have g:=qE a
 have b:bS t<=32:=jY.2 (by omega)
 have h:0<bS t:=by unfold bS;rw [if_neg a];omega
 have e:=ic (ah y) (m-1) (by omega)
 rw [ae,List.drop_of_length_le (by omega),←ht] at e
 simp only [fg,Nat.mul_zero,Nat.add_zero] at e
 have c:=gS ((aE y).take (m-1))
 rw [List.length_take,Nat.min_eq_left (by omega)] at c
 have i:2^bS t*2^s=4294967296:=by rw [←Nat.pow_add,hs,Nat.add_sub_cancel' b]
 have j:2^(bS t-1)*2^s=2147483648:=by rw [←Nat.pow_add,show bS t-1+s=31 from by omega]
 have k:2147483648*4294967296^(m-1)<=y*2^s:=by
  have:2^(bS t-1)*2^s*4294967296^(m-1)<=t*2^s*4294967296^(m-1):=Nat.mul_le_mul_right _ (Nat.mul_le_mul_right _ g)
  rw [j] at this
  have o:t*2^s*4294967296^(m-1)=4294967296^(m-1)*t*2^s:=by grind
  have p:4294967296^(m-1)*t*2^s<=y*2^s:=Nat.mul_le_mul_right _ (by omega)
  omega
 refine ⟨by omega,?_,k⟩
 have l:y*2^s<4294967296^m:=by
  have n:y<4294967296^(m-1)*(t+1):=by rw [Nat.mul_add,Nat.mul_one];omega
  have q:4294967296^(m-1)*(t+1)*2^s<=4294967296^(m-1)*2^bS t*2^s:=Nat.mul_le_mul_right _ (Nat.mul_le_mul_left _ f)
  have r:4294967296^(m-1)*2^bS t*2^s=4294967296^m:=by
   rw [Nat.mul_assoc,i,←Nat.pow_succ,Nat.succ_eq_add_one,Nat.sub_add_cancel h0]
  have u:y*2^s<4294967296^(m-1)*(t+1)*2^s:=Nat.mul_lt_mul_of_pos_right n (Nat.two_pow_pos s)
  omega
 have b1:=aF.2 l
 have b2:m-1<(ah (y*2^s)).length:=by
  rw [tE]
  have:1*4294967296^(m-1)<=2147483648*4294967296^(m-1):=Nat.mul_le_mul_right _ (by omega)
  omega
 omega
theorem X6 {us:List Nat}{k:Nat}(h:k+2<us.length)(hz:val (us.drop (k+3))=0) :
  val us=((us[k+2]*4294967296+us[k+1])*4294967296+us[k])*4294967296^k+val (us.take k):=by
 have a:=ic us k (by omega)
 rw [List.drop_eq_getElem_cons (i:=k+1) (by omega),List.drop_eq_getElem_cons (i:=k+1+1) (by omega),bo,bo] at a
 rw [show k+1+1+1=k+3 from rfl,hz] at a
 rw [a]
 grind
theorem X5 {us:List Nat}{k:Nat}(h:us.length=k+2):val us=(us[k+1]*4294967296+us[k])*4294967296^k+val (us.take k):=by
 have a:=ic us k (by omega)
 rw [List.drop_eq_getElem_cons (i:=k+1) (by omega),bo,List.drop_of_length_le (by omega),fg] at a
 rw [a]
 grind
theorem br (us:List Nat)(k:Nat)(h:k<=us.length):val us=val (us.take k)+4294967296^k*val (us.drop k):=by
 conv=>lhs;rw [←List.take_append_drop k us]
 rw [dS,List.length_take,Nat.min_eq_left h]
theorem iK {us:List Nat}{k:Nat}(h:val us<4294967296^k)(hk:k<=us.length):val (us.drop k)=0:=by
 have:=br us k hk
 rcases Nat.eq_zero_or_pos (val (us.drop k)) with e|e
 ·exact e
 ·have:4294967296^k*1<=4294967296^k*val (us.drop k):=Nat.mul_le_mul_left _ e
  omega
theorem _root_.Go.bM.RD.Uz {V:View}{p:OA}{n c:Nat}{ds:List Nat}(h:RD V p n c ds){i:Int}{K:Int->Prop}(j:Nat)(hj:i=j){d:Nat}(hn:ds[j]?=some d)
  (hK:K (d:Int)):(p.isSome=true)/\(0<=i/\i<(n:Int))/\∃x:Int,(∃a,ag p (i.toNat*1)=some a/\V.at a (.int .u32 x))/\K x:=by
 obtain ⟨b,e⟩:=List.getElem?_eq_some_iff.1 hn
 exact h.rd j hj b (by rw [e];exact hK)
theorem jL {us:List Nat}{rest:List Value}{k d:Nat}(h:us[k]?=some d):(aD us++rest)[0+k*1]?=some (.int .u32 (d:Int)):=by
 obtain ⟨a,b⟩:=List.getElem?_eq_some_iff.1 h
 rw [NZ a,b]
structure De (us vs:List Nat) (j G i b c:Nat) (fs:List Nat):Prop where
 b1:b<=1
 c1:c<4294967296
 hi:i<=vs.length
 len:fs.length=us.length
 fo:bX fs
 dr:fs.drop (j+i)=us.drop (j+i)
 tk:fs.take j=us.take j
 eq:val (fs.take (j+i))+4294967296^j*(G*val (vs.take i))=val (us.take (j+i))+4294967296^j*4294967296^i*(c+b)
theorem De.read {us vs:List Nat}{j G i b c:Nat}{fs:List Nat}(h:De us vs j G i b c fs)(hj:j+i<us.length):∃u,fs[j+i]?=some u/\us[j+i]?=some u:=by
 have:=congrArg (fun l=>l[0]?) h.dr
 simp only [List.getElem?_drop,Nat.add_zero] at this
 exact ⟨us[j+i],by rw [this,List.getElem?_eq_getElem hj],List.getElem?_eq_getElem hj⟩
theorem De.step {us vs:List Nat}{j G i b c:Nat}{fs:List Nat}(h:De us vs j G i b c fs)(hG:G<4294967296)(hdv:bX vs)(I0:bX us)(hi:i<vs.length)(hj:j+i<us.length) :
  ∃u d ob od cn cb:Nat,vs[i]?=some d/\fs[j+i]?=some u/\u64.wrap ((c:Int)+u64.wrap ((G:Int)*u64.wrap (d:Int)))=(cn:Int)/\(cn:Int).fdiv (2^32)=(cb:Int) /\
   (u64.wrap (u64.wrap (u64.wrap (u:Int)-bB .and .u64 (cn:Int) 4294967295)-(b:Int))).fdiv (2^63)=(ob:Int) /\
   u32.wrap (u64.wrap (u64.wrap (u64.wrap (u:Int)-bB .and .u64 (cn:Int) 4294967295)-(b:Int)))=(od:Int)/\od<4294967296 /\
   De us vs j G (i+1) ob cb (fs.set (j+i) od):=by
 obtain ⟨u,g,a⟩:=h.read hj
 obtain ⟨k,l,-,m,n,z,o,p⟩:=h
 have A:=hdv.get (i:=i) hi
 have B:u<4294967296:=I0 u (List.mem_of_getElem? a)
 have C:G*vs[i]<=4294967295*4294967295:=Nat.mul_le_mul (by omega) (by omega)
 refine ⟨u,vs[i],?_⟩
 have q:u64.wrap ((c:Int)+u64.wrap ((G:Int)*u64.wrap ((vs[i]:Nat):Int)))=((c+G*vs[i]:Nat):Int):=by
  rw [aM (x:=((vs[i]:Nat):Int)) (by omega),←Int.natCast_mul]
  generalize G*vs[i]=gd at *
  rw [aM (x:=((gd:Nat):Int)) (by omega),aM (by omega)];omega
 have r:=Bl (x:=((u:Int)-((c+G*vs[i])%4294967296:Nat)-b)%18446744073709551616) p l k B rfl
 have hand:bB .and .u64 ((c+G*vs[i]:Nat):Int) 4294967295=(((c+G*vs[i])%4294967296:Nat):Int):=Hs _ (by omega)
 have e:u64.wrap (u64.wrap (u64.wrap (u:Int)-(((c+G*vs[i])%4294967296:Nat):Int))-(b:Int))=((u:Int)-((c+G*vs[i])%4294967296:Nat)-b)%18446744073709551616:=by
  rw [aM (x:=(u:Int)) (by omega),sN,sN]
  omega
 have s:(c+G*vs[i]) / 4294967296<4294967296:=by
  generalize G*vs[i]=gd at *;omega
 generalize ((u:Int)-((c+G*vs[i])%4294967296:Nat)-b)%18446744073709551616=xx at *
 obtain ⟨E,F,H,t⟩:=r
 obtain ⟨ob,w⟩:∃ob:Nat,xx / 9223372036854775808=ob:=⟨(xx / 9223372036854775808).toNat,by omega⟩
 obtain ⟨od,f⟩:∃od:Nat,xx%4294967296=od:=⟨(xx%4294967296).toNat,by omega⟩
 rw [w,f] at t
 simp only [Int.toNat_natCast] at t
 have y:od<4294967296:=by omega
 have D:ob<=1:=by omega
 refine ⟨ob,od,c+G*vs[i],(c+G*vs[i]) / 4294967296,List.getElem?_eq_getElem hi,g,q,?_,?_,?_,y,D,s,hi,by simpa using m,n.set _ _ y,?_,?_,?_⟩
 ·rw [gL]
 ·rw [hand,e,LS,w]
 ·rw [hand,e,jd,f]
 ·rw [List.drop_set_of_lt (by omega)]
  have:=congrArg (List.drop 1) z
  simpa [List.drop_drop,Nat.add_comm,Nat.add_assoc,Nat.add_left_comm] using this
 ·rw [List.take_set,List.set_eq_of_length_le (by simp;omega)];exact o
 ·have v:us[j+i]=u:=by rw [List.getElem?_eq_getElem hj] at a;exact Option.some.inj a
  rw [show j+(i+1)=j+i+1 from by omega,aK _ _ _ (by omega),ax us (j+i) (by omega),ax vs i hi,Nat.pow_succ,Nat.pow_add,v]
  exact t
theorem J_ {ks us:List Nat}{j t a:Nat}(h1:ks.take j=us.take j)(hk:j<=ks.length)(hu:j<=us.length)(h:val ks+4294967296^j*a=val us+4294967296^j*t):val (ks.drop j)+a=val (us.drop j)+t:=by
 have b:=br ks j hk
 have c:=br us j hu
 rw [h1] at b
 have:4294967296^j*(val (ks.drop j)+a)=4294967296^j*(val (us.drop j)+t):=by rw [Nat.mul_add,Nat.mul_add];omega
 exact Nat.eq_of_mul_eq_mul_left (Nat.pow_pos (by omega)) this
theorem De.fin {us vs:List Nat}{j G b c:Nat}{fs:List Nat}(h:De us vs j G vs.length b c fs)(I0:bX us)(hj:j+vs.length<us.length)(hz:val (us.drop (j+vs.length+1))=0) :
  ∃u ob od:Nat,fs[j+vs.length]?=some u /\
   (u64.wrap (u64.wrap (u64.wrap (u:Int)-(c:Int))-(b:Int))).fdiv (2^63)=(ob:Int) /\
   u32.wrap (u64.wrap (u64.wrap (u64.wrap (u:Int)-(c:Int))-(b:Int)))=(od:Int)/\od<4294967296/\ob<=1 /\
   bX (fs.set (j+vs.length) od)/\(fs.set (j+vs.length) od).length=us.length/\(fs.set (j+vs.length) od).take j=us.take j/\val ((fs.set (j+vs.length) od).drop (j+vs.length+1))=0 /\
   val ((fs.set (j+vs.length) od).drop j)+G*val vs=val (us.drop j)+4294967296^(vs.length+1)*ob:=by
 obtain ⟨u,q,f⟩:=h.read hj
 obtain ⟨r,i,-,s,t,D,v,l⟩:=h
 have E:u<4294967296:=I0 u (List.mem_of_getElem? f)
 have w:us[j+vs.length]=u:=by rw [List.getElem?_eq_getElem hj] at f;exact Option.some.inj f
 rw [List.take_length] at l
 have k:=Bl (g:=G) (d:=0) (Y:=val vs) (x:=((u:Int)-((c+G*0)%4294967296:Nat)-b)%18446744073709551616) l i r E rfl
 simp only [Nat.mul_zero,Nat.add_zero] at k
 rw [Nat.mod_eq_of_lt i,Nat.div_eq_of_lt i,Nat.zero_add] at k
 have m:u64.wrap (u64.wrap (u64.wrap (u:Int)-(c:Int))-(b:Int))=((u:Int)-(c:Int)-b)%18446744073709551616:=by
  rw [aM (x:=(u:Int)) (by omega),sN,sN]
  omega
 generalize ((u:Int)-(c:Int)-b)%18446744073709551616=xx at *
 obtain ⟨K,L,M,y⟩:=k
 obtain ⟨ob,B⟩:∃ob:Nat,xx / 9223372036854775808=ob:=⟨(xx / 9223372036854775808).toNat,by omega⟩
 obtain ⟨od,n⟩:∃od:Nat,xx%4294967296=od:=⟨(xx%4294967296).toNat,by omega⟩
 rw [B,n] at y
 simp only [Int.toNat_natCast] at y
 have C:od<4294967296:=by omega
 have F:ob<=1:=by omega
 obtain ⟨e,a⟩:∃e,e=fs.set (j+vs.length) od:=⟨_,rfl⟩
 refine ⟨u,ob,od,q,by rw [m,LS,B],by rw [m,jd,n],C,F,?_⟩
 rw [←a]
 have z:e.length=us.length:=by rw [a];simpa using s
 have A:bX e:=by rw [a];exact t.set _ _ C
 have o:e.take j=us.take j:=by rw [a,List.take_set,List.set_eq_of_length_le (by simp;omega)];exact v
 have p:e.drop (j+vs.length+1)=us.drop (j+vs.length+1):=by
  rw [a,List.drop_set_of_lt (by omega)]
  have:=congrArg (List.drop 1) D
  simpa [List.drop_drop,Nat.add_comm,Nat.add_assoc,Nat.add_left_comm] using this
 refine ⟨A,z,o,by rw [p];exact hz,J_ o (by omega) (by omega) ?_⟩
 have H:=br e (j+vs.length+1) (by omega)
 have I:=br us (j+vs.length+1) (by omega)
 have N:val (e.take (j+vs.length+1))=val (fs.take (j+vs.length))+4294967296^j*4294967296^vs.length*od:=by rw [a,aK _ _ _ (by omega),Nat.pow_add]
 have O:val (us.take (j+vs.length+1))=val (us.take (j+vs.length))+4294967296^j*4294967296^vs.length*u:=by rw [ax us (j+vs.length) (by omega),Nat.pow_add,w]
 rw [p,hz,Nat.mul_zero,Nat.add_zero] at H
 rw [hz,Nat.mul_zero,Nat.add_zero] at I
 have J:4294967296^j*(4294967296^vs.length*4294967296)*ob=4294967296^j*(4294967296^(vs.length+1)*ob):=by rw [Nat.pow_succ];grind
 rw [J] at y
 omega
structure Db (ks vs:List Nat) (j i c:Nat) (gs:List Nat):Prop where
 c1:c<=1
 hi:i<=vs.length
 len:gs.length=ks.length
 fo:bX gs
 dr:gs.drop (j+i)=ks.drop (j+i)
 tk:gs.take j=ks.take j
 eq:val (gs.take (j+i))+4294967296^j*4294967296^i*c=val (ks.take (j+i))+4294967296^j*val (vs.take i)
theorem Db.read {ks vs:List Nat}{j i c:Nat}{gs:List Nat}(h:Db ks vs j i c gs)(hj:j+i<ks.length):∃u,gs[j+i]?=some u/\ks[j+i]?=some u:=by
 have:=congrArg (fun l=>l[0]?) h.dr
 simp only [List.getElem?_drop,Nat.add_zero] at this
 exact ⟨ks[j+i],by rw [this,List.getElem?_eq_getElem hj],List.getElem?_eq_getElem hj⟩
theorem Db.step {ks vs:List Nat}{j i c:Nat}{gs:List Nat}(h:Db ks vs j i c gs)(hdv:bX vs)(hdk:bX ks)(hi:i<vs.length)(hj:j+i<ks.length) :
  ∃u d od cn cb:Nat,vs[i]?=some d/\gs[j+i]?=some u/\u64.wrap ((c:Int)+u64.wrap (u64.wrap (u:Int)+u64.wrap (d:Int)))=(cn:Int)/\(cn:Int).fdiv (2^32)=(cb:Int) /\
   u32.wrap (cn:Int)=(od:Int)/\Db ks vs j (i+1) cb (gs.set (j+i) od):=by
 obtain ⟨u,b,a⟩:=h.read hj
 obtain ⟨p,-,e,f,q,g,k⟩:=h
 have r:=hdv.get (i:=i) hi
 have s:u<4294967296:=hdk u (List.mem_of_getElem? a)
 have l:ks[j+i]=u:=by rw [List.getElem?_eq_getElem hj] at a;exact Option.some.inj a
 obtain ⟨t5,m⟩:∃t5,t5=c+u+vs[i]:=⟨_,rfl⟩
 have n:=Ah k m
 have o:u64.wrap ((c:Int)+u64.wrap (u64.wrap (u:Int)+u64.wrap ((vs[i]:Nat):Int)))=(t5:Int):=by
  rw [aM (x:=((vs[i]:Nat):Int)) (by omega),aM (x:=(u:Int)) (by omega),aM (x:=(u:Int)+_) (by omega),aM (by omega)]
  omega
 refine ⟨u,vs[i],t5%4294967296,t5,t5 / 4294967296,List.getElem?_eq_getElem hi,b,o,by rw [gL],by rw [jd];omega,by omega,hi,by simpa using e,f.set _ _ (by omega),?_,?_,?_⟩
 ·rw [List.drop_set_of_lt (by omega)]
  have:=congrArg (List.drop 1) q
  simpa [List.drop_drop,Nat.add_comm,Nat.add_assoc,Nat.add_left_comm] using this
 ·rw [List.take_set,List.set_eq_of_length_le (by simp;omega)];exact g
 ·rw [show j+(i+1)=j+i+1 from by omega,aK _ _ _ (by omega),ax ks (j+i) (by omega),ax vs i hi,Nat.pow_succ,Nat.pow_add,l]
  exact n
theorem Db.fin {ks vs:List Nat}{j c:Nat}{gs:List Nat}(h:Db ks vs j vs.length c gs)(hdk:bX ks)(hj:j+vs.length<ks.length)(hz:val (ks.drop (j+vs.length+1))=0) :
  ∃u od kp:Nat,gs[j+vs.length]?=some u/\u32.wrap ((u:Int)+u32.wrap (c:Int))=(od:Int)/\kp<=1 /\
   bX (gs.set (j+vs.length) od)/\(gs.set (j+vs.length) od).length=ks.length/\(gs.set (j+vs.length) od).take j=ks.take j/\val ((gs.set (j+vs.length) od).drop (j+vs.length+1))=0 /\
   val ((gs.set (j+vs.length) od).drop j)+4294967296^(vs.length+1)*kp=val (ks.drop j)+val vs:=by
 obtain ⟨u,l,b⟩:=h.read hj
 obtain ⟨v,-,m,n,w,o,f⟩:=h
 have C:u<4294967296:=hdk u (List.mem_of_getElem? b)
 have p:ks[j+vs.length]=u:=by rw [List.getElem?_eq_getElem hj] at b;exact Option.some.inj b
 rw [List.take_length] at f
 have g:=Ah (d:=0) (u:=u) (Y:=val vs) (t:=c+u) f (by omega)
 simp only [Nat.mul_zero,Nat.add_zero] at g
 have y:(c+u)%4294967296<4294967296:=by omega
 have q:(c+u) / 4294967296<=1:=by omega
 have hw:u32.wrap ((u:Int)+u32.wrap (c:Int))=(((c+u)%4294967296:Nat):Int):=by
  rw [q_ (x:=(c:Int)) (by omega),jd];omega
 generalize (c+u)%4294967296=od at *
 generalize (c+u) / 4294967296=kp at *
 obtain ⟨a,e⟩:∃a,a=gs.set (j+vs.length) od:=⟨_,rfl⟩
 refine ⟨u,od,kp,l,hw,q,?_⟩
 rw [←e]
 have r:a.length=ks.length:=by rw [e];simpa using m
 have s:bX a:=by rw [e];exact n.set _ _ y
 have i:a.take j=ks.take j:=by rw [e,List.take_set,List.set_eq_of_length_le (by simp;omega)];exact o
 have k:a.drop (j+vs.length+1)=ks.drop (j+vs.length+1):=by
  rw [e,List.drop_set_of_lt (by omega)]
  have:=congrArg (List.drop 1) w
  simpa [List.drop_drop,Nat.add_comm,Nat.add_assoc,Nat.add_left_comm] using this
 refine ⟨s,r,i,by rw [k];exact hz,J_ i (by omega) (by omega) ?_⟩
 have z:=br a (j+vs.length+1) (by omega)
 have A:=br ks (j+vs.length+1) (by omega)
 have D:val (a.take (j+vs.length+1))=val (gs.take (j+vs.length))+4294967296^j*4294967296^vs.length*od:=by rw [e,aK _ _ _ (by omega),Nat.pow_add]
 have E:val (ks.take (j+vs.length+1))=val (ks.take (j+vs.length))+4294967296^j*4294967296^vs.length*u:=by rw [ax ks (j+vs.length) (by omega),Nat.pow_add,p]
 rw [k,hz,Nat.mul_zero,Nat.add_zero] at z
 rw [hz,Nat.mul_zero,Nat.add_zero] at A
 have B:4294967296^j*(4294967296^vs.length*4294967296)*kp=4294967296^j*(4294967296^(vs.length+1)*kp):=by rw [Nat.pow_succ];grind
 rw [B] at g
 omega
structure GK (v1 v2 v' u0 u1 u2 t' B T Y:Nat):Prop where
 hY:Y=(v1*4294967296+v2)*B+v'
 hT:T=((u0*4294967296+u1)*4294967296+u2)*B+t'
 oI:v'<B
 D0:t'<B
 X_:2147483648<=v1
 v1u:v1<4294967296
 Ya:v2<4294967296
 u0u:u0<4294967296
 u1u:u1<4294967296
 u2u:u2<4294967296
 lt:T<4294967296*Y
structure GI (v1 f T Y G ρ:Nat):Prop where
 r:ρ<4294967296
 g:G<=4294967297
 eq:G*v1+ρ=f
 lt:T<(G+1)*Y
structure GF (T Y G:Nat):Prop where
 g:G<4294967296
 lt:T<(G+1)*Y
 gt:G*Y<T+Y
section
variable {v1 v2 v' u0 u1 u2 t' B T Y G ρ:Nat}
theorem GK.start (h:GK v1 v2 v' u0 u1 u2 t' B T Y):GI v1 (u0*4294967296+u1) T Y ((u0*4294967296+u1) / v1) ((u0*4294967296+u1)%v1):=by
 have c:=AP h.hY h.hT h.oI h.lt
 have d:=h.X_
 have e:=h.v1u
 have f:=h.Ya
 have a:=Nat.div_add_mod (u0*4294967296+u1) v1
 have b:=Nat.mod_lt (u0*4294967296+u1) (show 0<v1 by omega)
 refine ⟨by omega,?_,by rw [Nat.mul_comm];exact a,?_⟩
 ·have:(u0*4294967296+u1) / v1<4294967298:=by
   rw [Nat.div_lt_iff_lt_mul (by omega)];omega
  omega
 ·rw [Nat.mul_comm] at a
  exact Kr h.hY h.hT h.D0 h.u2u a b
theorem GK.Ow (h:GK v1 v2 v' u0 u1 u2 t' B T Y)(hG:4294967296<=G):T<G*Y:=Nat.lt_of_lt_of_le h.lt (Nat.mul_le_mul_right _ hG)
theorem GK.dec (h:GK v1 v2 v' u0 u1 u2 t' B T Y)(hi:GI v1 (u0*4294967296+u1) T Y G ρ)(hd:ρ*4294967296+u2<G*v2):T<G*Y:=IU h.hY h.hT h.D0 hi.eq hd
theorem GK.last (h:GK v1 v2 v' u0 u1 u2 t' B T Y)(hi:GI v1 (u0*4294967296+u1) T Y G ρ)(hG:G<4294967296)(hd:G*v2<=ρ*4294967296+u2):GF T Y G:=
 ⟨hG,hi.lt,AO h.hY h.hT h.oI (by have:=h.X_;omega) (by omega) hi.eq hd (by omega)⟩
theorem GK.down (h:GK v1 v2 v' u0 u1 u2 t' B T Y)(hi:GI v1 (u0*4294967296+u1) T Y G ρ)(h1:T<G*Y):1<=G/\(G-1)*v1+(ρ+v1)=u0*4294967296+u1/\T<(G-1+1)*Y:=by
 have a:1<=G:=by
  rcases Nat.eq_zero_or_pos G with b|b
  ·subst b;omega
  ·exact b
 have:=hi.eq
 refine ⟨a,?_,by rw [Nat.sub_add_cancel a];exact h1⟩
 have:G*v1=(G-1)*v1+v1:=by conv=>lhs;rw [←Nat.sub_add_cancel a,Nat.add_mul,Nat.one_mul]
 omega
theorem GK.Oy (h:GK v1 v2 v' u0 u1 u2 t' B T Y)(hi:GI v1 (u0*4294967296+u1) T Y G ρ)(h1:T<G*Y)(h2:4294967296<=ρ+v1):1<=G/\GF T Y (G-1):=by
 obtain ⟨a,e,b⟩:=h.down hi h1
 have d:=AP h.hY h.hT h.oI h.lt
 have i:=h.Ya
 have j:=h.X_
 have k:=hi.g
 have f:G-1<4294967296:=by
  rcases Nat.lt_or_ge (G-1) 4294967296 with c|c
  ·exact c
  ·have:=Nat.mul_le_mul_right v1 c
   omega
 refine ⟨a,f,b,AO h.hY h.hT h.oI (by omega) (by omega) e ?_ (by omega)⟩
 have l:(G-1)*v2<=4294967295*4294967295:=Nat.mul_le_mul (by omega) (by omega)
 omega
theorem GK.Oz (h:GK v1 v2 v' u0 u1 u2 t' B T Y)(hi:GI v1 (u0*4294967296+u1) T Y G ρ)(h1:T<G*Y)(h2:ρ+v1<4294967296):1<=G/\GI v1 (u0*4294967296+u1) T Y (G-1) (ρ+v1):=by
 obtain ⟨a,c,b⟩:=h.down hi h1
 have d:=hi.g
 exact ⟨a,h2,by omega,c,b⟩
theorem GK.words (h:GK v1 v2 v' u0 u1 u2 t' B T Y) :
  bB .or .u64 (u64.wrap (u64.wrap (u0:Int)*2^32)) (u64.wrap (u1:Int))=((u0*4294967296+u1:Nat):Int) /\
  u64.wrap (((u0*4294967296+u1:Nat):Int).tdiv (v1:Int))=(((u0*4294967296+u1) / v1:Nat):Int) /\
  ((u0*4294967296+u1:Nat):Int).tmod (v1:Int)=(((u0*4294967296+u1)%v1:Nat):Int):=by
 have a:=h.u0u
 have b:=h.u1u
 have c:((2:Int)^32)=4294967296:=by decide
 refine ⟨?_,?_,?_⟩
 ·rw [c,aM (x:=(u0:Int)) (by omega),aM (x:=(u1:Int)) (by omega),aM (by omega),Ep _ _ a b];omega
 ·rw [Int.tdiv_eq_ediv_of_nonneg (by omega),←Int.natCast_ediv]
  have d:(u0*4294967296+u1) / v1<=u0*4294967296+u1:=Nat.div_le_self _ _
  generalize (u0*4294967296+u1) / v1=qq at *
  rw [aM (by omega)]
 ·rw [Int.tmod_eq_emod_of_nonneg (by omega),←Int.natCast_emod]
theorem GK.QR (h:GK v1 v2 v' u0 u1 u2 t' B T Y)(hi:GI v1 (u0*4294967296+u1) T Y G ρ) :
  u64.wrap ((G:Int)*(v2:Int))=((G*v2:Nat):Int)/\bB .or .u64 (u64.wrap ((ρ:Int)*2^32)) (u64.wrap (u2:Int))=((ρ*4294967296+u2:Nat):Int) /\
  u64.wrap ((ρ:Int)+v1)=((ρ+v1:Nat):Int)/\(1<=G->u64.wrap ((G:Int)-1)=((G-1:Nat):Int)):=by
 have a:=h.u2u
 have b:=hi.r
 have c:=hi.g
 have f:=h.Ya
 have d:=h.v1u
 have e:((2:Int)^32)=4294967296:=by decide
 refine ⟨?_,?_,?_,?_⟩
 ·have d:G*v2<=4294967297*4294967295:=Nat.mul_le_mul c (by omega)
  rw [←Int.natCast_mul,aM (by omega)]
 ·rw [e,aM (x:=(ρ:Int)*4294967296) (by omega),aM (by omega),Ep _ _ b a];omega
 ·rw [aM (by omega)];omega
 ·intro h;rw [aM (by omega)];omega
end
end Go.Proofs.Tryz
namespace Go.Proofs.Tryz
open Go.bM Go.fR
structure OI (X Y n n8:Nat) (j:Int) (us qs:List Nat):Prop where
 j0:-1<=j
 j1:j<(n+1-n8:Nat)
 ul:us.length=n+1
 ud:bX us
 ql:qs.length=n+1-n8
 qd:bX qs
 eq:X=val us+Y*(4294967296^(j+1).toNat*val (qs.drop (j+1).toNat))
 lt:val (us.drop (j+1).toNat)<Y
structure DK (Y n8 k v1 v2:Nat):Prop where
 WI:n8=k+2
 len:(ah Y).length=n8
 g1:(ah Y)[k+1]?=some v1
 g2:(ah Y)[k]?=some v2
 l1:2147483648<=v1
 u1:v1<4294967296
 u2:v2<4294967296
 eq:Y=(v1*4294967296+v2)*4294967296^k+val ((ah Y).take k)
 lt:val ((ah Y).take k)<4294967296^k
 top:Y<4294967296^n8
theorem DK.of {Y n8:Nat}(hl:(ah Y).length=n8)(h2:2<=n8)(ht:2147483648*4294967296^(n8-1)<=Y):∃k v1 v2,DK Y n8 k v1 v2:=by
 obtain ⟨k,e⟩:∃k,n8=k+2:=⟨n8-2,by omega⟩
 have a:=X5 (us:=ah Y) (k:=k) (by omega)
 rw [ae] at a
 have c:=gS ((aE Y).take k)
 rw [List.length_take,Nat.min_eq_left (by omega)] at c
 have f:=(aE Y).get (i:=k+1) (by omega)
 have g:=(aE Y).get (i:=k) (by omega)
 have b:2147483648<=(ah Y)[k+1]:=by
  rcases Nat.lt_or_ge (ah Y)[k+1] 2147483648 with d|d
  ·exfalso
   have h:((ah Y)[k+1]*4294967296+(ah Y)[k])+1<=2147483648*4294967296:=by omega
   have j:=Nat.mul_le_mul_right (4294967296^k) h
   rw [Nat.add_mul,Nat.one_mul] at j
   have l:2147483648*4294967296^(k+1)=2147483648*4294967296*4294967296^k:=by rw [Nat.pow_succ];grind
   rw [show n8-1=k+1 from by omega,l] at ht
   omega
  ·exact d
 exact ⟨k,_,_,e,hl,List.getElem?_eq_getElem _,List.getElem?_eq_getElem _,b,f,g,a,c,by rw [←hl,←aF];exact Nat.le_refl _⟩
theorem OI.start {x X Y n n8 s:Nat}(hX:X=x*2^s)(hx:(ah x).length=n)(hs:s<32)(WI:2<=n8)(hn:n8<=n)(hY:2147483648*4294967296^(n8-1)<=Y)(hXl:(ah X).length<=n+1) :
  OI X Y n n8 (((n+1-n8:Nat):Int)-1) ((ah X++[0,0]).take (n+1)) (List.replicate (n+1-n8) 0):=by
 have g:n<=(ah X).length:=by rw [←hx,hX];exact aH (Nat.le_mul_of_pos_right _ (Nat.two_pow_pos s))
 have h:((ah X++[0,0]).take (n+1)).length=n+1:=by simp;omega
 have a:val ((ah X++[0,0]).take (n+1))=X:=by
  have b:val (ah X++[0,0])=X:=by rw [dS,ae];simp
  have c:=br (ah X++[0,0]) (n+1) (by simp;omega)
  have d:val ((ah X++[0,0]).drop (n+1))=0:=by
   refine iK ?_ (by simp;omega)
   rw [b]
   exact aF.1 (by omega)
  rw [d,Nat.mul_zero,Nat.add_zero,b] at c
  exact c.symm
 have e:(((n+1-n8:Nat):Int)-1+1).toNat=n+1-n8:=by omega
 refine ⟨by omega,by omega,h,(bX.append.2 ⟨aE X,by simp [bX]⟩).take _,by simp,bX.rep _,?_,?_⟩
 ·rw [e,List.drop_of_length_le (by simp),fg,Nat.mul_zero,Nat.mul_zero,Nat.add_zero,a]
 ·rw [e]
  have b:=br ((ah X++[0,0]).take (n+1)) (n+1-n8) (by omega)
  rw [a] at b
  have f:X<4294967296^n*2^s:=by rw [hX];exact Nat.mul_lt_mul_of_pos_right (by rw [←hx];exact aF.1 (Nat.le_refl _)) (Nat.two_pow_pos s)
  have i:2^s<=2^31:=Nat.pow_le_pow_right (by omega) (by omega)
  have c:4294967296^n*2^s<=4294967296^(n+1-n8)*Y:=by
   have b1:4294967296^n=4294967296^(n+1-n8)*4294967296^(n8-1):=by rw [←Nat.pow_add];congr 1;omega
   rw [b1,Nat.mul_assoc]
   refine Nat.mul_le_mul_left _ ?_
   have b2:2^s*4294967296^(n8-1)<=2147483648*4294967296^(n8-1):=Nat.mul_le_mul_right _ (by omega)
   rw [Nat.mul_comm]
   omega
  have d:4294967296^(n+1-n8)*val (((ah X++[0,0]).take (n+1)).drop (n+1-n8))<4294967296^(n+1-n8)*Y:=by omega
  exact Nat.lt_of_mul_lt_mul_left d
theorem OI.body {X Y n n8 k v1 v2 j:Nat}{us qs:List Nat}(h:OI X Y n n8 (j:Int) us qs)(hd:DK Y n8 k v1 v2)(hjn:j+n8<=n) :
  val (us.drop (j+n8+1))=0/\∃u0 u1 u2 t',us[j+n8]?=some u0/\us[j+n8-1]?=some u1/\us[j+n8-2]?=some u2/\GK v1 v2 (val ((ah Y).take k)) u0 u1 u2 t' (4294967296^k) (val (us.drop j)) Y:=by
 obtain ⟨-,-,o,a,p,q,f,g⟩:=h
 have b:((j:Int)+1).toNat=j+1:=by omega
 rw [b] at f g
 have r:=hd.WI
 have c:=hd.top
 have l:val (us.drop j)=us[j]+4294967296*val (us.drop (j+1)):=by rw [List.drop_eq_getElem_cons (by omega),bo]
 have m:=a.get (i:=j) (by omega)
 have d:val (us.drop (j+n8+1))=0:=by
  have:=iK (us:=us.drop (j+1)) (k:=n8) (by omega) (by simp;omega)
  rw [List.drop_drop] at this
  rw [show j+n8+1=j+1+n8 from by omega];exact this
 have e:=gS ((a.drop j).take k)
 rw [List.length_take,List.length_drop,Nat.min_eq_left (by omega)] at e
 refine ⟨d,us[j+n8],us[j+n8-1],us[j+n8-2],val ((us.drop j).take k),List.getElem?_eq_getElem _,List.getElem?_eq_getElem _,List.getElem?_eq_getElem _,
  hd.eq,?_,hd.lt,e,hd.l1,hd.u1,hd.u2,a.get _,a.get _,a.get _,by omega⟩
 have:=X6 (us:=us.drop j) (k:=k) (by simp;omega) (by rw [List.drop_drop,show j+(k+3)=j+n8+1 from by omega];exact d)
 simp only [List.getElem_drop] at this
 rw [this]
 congr<;>omega
theorem OI.next {X Y n n8 j H:Nat}{us qs hs:List Nat}(h:OI X Y n n8 (j:Int) us qs)(hjn:j+n8<=n)(h1:hs.length=us.length)(hdh:bX hs)(h2:hs.take j=us.take j)(h3:val (hs.drop j)+H*Y=val (us.drop j))(h4:val (hs.drop j)<Y)(hH:H<4294967296) :
  OI X Y n n8 ((j:Int)-1) hs (qs.set j H):=by
 obtain ⟨-,f,k,m,g,i,b,o⟩:=h
 have a:((j:Int)+1).toNat=j+1:=by omega
 have c:((j:Int)-1+1).toNat=j:=by omega
 rw [a] at b
 refine ⟨by omega,by omega,by omega,hdh,by simpa using g,i.set _ _ hH,?_,by rw [c];exact h4⟩
 have d:=br hs j (by omega)
 have e:=br us j (by omega)
 rw [h2] at d
 rw [←h3] at e
 rw [c,List.drop_eq_getElem_cons (l:=qs.set j H) (by simp;omega),List.getElem_set_self,List.drop_set_of_lt (by omega),bo,b,d,e,Nat.pow_succ]
 grind
theorem OI.done {x y X Y n n8 s:Nat}{us qs:List Nat}(h:OI X Y n n8 (-1) us qs)(hX:X=x*2^s)(hY:Y=y*2^s)(hn:n8<=n+1)(hYl:Y<4294967296^n8):val qs=x / y/\val (us.take n8) / 2^s=x%y:=by
 obtain ⟨-,-,f,g,i,j,a,b⟩:=h
 have a:X=val us+Y*val qs:=by simpa using a
 have b:val us<Y:=by simpa using b
 have c:0<Y:=by omega
 have d:=iK (us:=us) (k:=n8) (by omega) (by omega)
 have e:val (us.take n8)=val us:=by
  have:=br us n8 (by omega)
  rw [d,Nat.mul_zero,Nat.add_zero] at this
  exact this.symm
 constructor
 ·rw [←Nat.mul_div_mul_right x y (Nat.two_pow_pos s),←hX,←hY,a,Nat.add_mul_div_left _ _ c,Nat.div_eq_of_lt b,Nat.zero_add]
 ·have:x*2^s%(y*2^s)=val us:=by
   rw [←hX,←hY,a,Nat.add_mul_mod_self_left,Nat.mod_eq_of_lt b]
  rw [Nat.mul_mod_mul_right] at this
  rw [e,←this,Nat.mul_div_cancel _ (Nat.two_pow_pos s)]
set_option maxHeartbeats 8000000 in
theorem FO {V:View}{p q:OA}{n c m e:Nat}{x y:Nat}(ha:RN V p n c x)(hb:RN V q m e y)(hn:n<=1099511627776)(hm2:2<=m)(hle:y<=x) :
  ab prog 232 #[.slice p n c,.slice q m e] V fun r V'=>∃p1 n1 c1 p2 n2 c2,r=.tuple #[.slice p1 n1 c1,.slice p2 n2 c2]/\RN V' p1 n1 c1 (x / y)/\RN V' p2 n2 c2 (x%y):=by
 have l:=ha.len
 have a0:=hb.len
 have b5:m<=n:=by rw [l,a0];exact aH hle
 refine E7 p n c q m e V _ ?_
 simp (disch:=omega) only [ay]
 refine hb.rd (m-1) (by omega) (by omega) fun V1 l1=>(gX _ ((aE y).get (by omega))).mono ?_
 rintro r V2 l2 rfl
 refine ⟨_,rfl,?_⟩
 obtain ⟨t,E⟩:∃t,t=(ah y)[m-1]'(by omega):=⟨_,rfl⟩
 rw [←E]
 have b6:bS t<=32:=jY.2 (by rw [E];exact (aE y).get _)
 obtain ⟨s,hs⟩:∃s,s=32-bS t:=⟨_,rfl⟩
 have es:(32-(bS t:Int))=(s:Int):=by omega
 obtain ⟨Nj,o,WQ⟩:=EL a0.symm (by omega) E hs
 rw [es,aM (by omega)]
 clear es b6
 intro V3 l3
 refine (Ax (ha.le (l1.trans (l2.trans l3))) (by omega) s (by omega)).mono ?_
 rintro r V4 l4 ⟨p4,n4,c4,rfl,h4,F⟩
 rw [ae] at h4 F
 have b7:x≠0:=by
  intro w;subst w
  rw [AD] at l
  simp at l;omega
 have F:c4=n+1:=by
  rcases F with w|w
  ·exact absurd w b7
  ·rw [w,←l,Nat.div_eq_of_lt Nj]
 have a3:=h4.len
 have a4:x*2^s<4294967296^n*2^s:=Nat.mul_lt_mul_of_pos_right (by rw [l];exact aF.1 (Nat.le_refl _)) (Nat.two_pow_pos s)
 have Zz:2^s<=2^31:=Nat.pow_le_pow_right (by omega) (by omega)
 have e5:n<=n4/\n4<=n+1:=by
  constructor
  ·rw [a3,l];exact aH (Nat.le_mul_of_pos_right _ (Nat.two_pow_pos s))
  ·rw [a3,aF,Nat.pow_succ]
   have:4294967296^n*2^s<=4294967296^n*4294967296:=Nat.mul_le_mul_left _ (by omega)
   omega
 refine ⟨_,_,_,rfl,aD (ah (x*2^s)),h4.sl,by simp;omega,h4.cap,h4.Ld,by omega,by omega,rfl,by simp [Value.oneCell'],?_⟩
 intro sp c7 d9 e1
 refine ⟨⟨by omega,by omega⟩,fun V5 l5=>(Ax (hb.le (l1.trans (l2.trans (l3.trans (l4.trans l5))))) (by omega) s (by omega)).mono ?_⟩
 rintro r V6 l6 ⟨p8,f,c8,rfl,W,-⟩
 rw [ae] at W
 have ZM:=W.len
 rw [o] at ZM
 subst ZM
 refine ⟨_,_,_,rfl,?_⟩
 obtain ⟨k,v1,v2,I⟩:=DK.of o hm2 WQ
 have hk:=I.WI
 have e6:=I.l1
 have e2:=I.u1
 have e3:=I.u2
 have b8:=OI.start (Y:=y*2^s) rfl l.symm Nj hm2 b5 WQ (by omega)
 have w6:i64.wrap ((f:Int)-1)=(f:Int)-1:=ay (by omega)
 have w7:i64.wrap ((f:Int)-2)=(f:Int)-2:=ay (by omega)
 simp only [w6,w7]
 refine W.Uz (k+1) (by omega) I.g1 (W.Uz k (by omega) I.g2 ?_)
 have b9:((n:Int)+1).toNat=n+1:=by omega
 have c0:(((n+1:Nat):Int)-(f:Int)).toNat=n+1-f:=by omega
 have w1:i64.wrap ((n:Int)+1)=(n:Int)+1:=ay (by omega)
 have w2:u64.wrap (v1:Int)=v1:=aM (by omega)
 have w3:u64.wrap (v2:Int)=v2:=aM (by omega)
 have w4:i64.wrap (((n+1:Nat):Int)-(f:Int))=((n+1:Nat):Int)-(f:Int):=ay (by omega)
 have w5:i64.wrap (((n+1-f:Nat):Int)-1)=((n+1-f:Nat):Int)-1:=ay (by omega)
 simp only [b9,w2,w3,w4,c0,w5,dh]
 obtain ⟨B,a5⟩:∃B,B=aD ((ah (x*2^s)++[0,0]).drop (n+1))++sp:=⟨_,rfl⟩
 have M:aD (ah (x*2^s))++([.int .u32 0,.int .u32 0]:List Value)++sp=aD ((ah (x*2^s)++[0,0]).take (n+1))++B:=by
  rw [a5,←List.append_assoc,←tQ,List.take_append_drop,tQ];rfl
 rw [M]
 clear a5 M WQ a4 Zz F hs E
 generalize hX:x*2^s=X at *
 generalize hY:y*2^s=Y at *
 refine ⟨by omega,by omega,by omega,fun z V'=>∃us D:List Nat,z.2.1=aD us++B/\z.2.2=aD D/\OI X Y n f z.1 us D,fun z=>(z.1+1).toNat,
  ⟨(((n+1-f:Nat):Int)-1,aD ((ah X++[0,0]).take (n+1))++B,aD (List.replicate (n+1-f) 0)),?_,_,_,rfl,rfl,b8⟩,?_⟩
 ·(try dsimp only);and_intros<;>first|exact True.intro|rfl
 rintro ⟨j,row,e4⟩ V7 l7 ⟨us,D,rfl,rfl,A⟩
 dsimp only at A ⊢
 have e7:=A.j0
 have e8:=A.j1
 have SB:=A.ul
 have PY:=A.ql
 refine ⟨by trivial,fun K=>?_,fun K=>?_⟩
 ·have K:0<=j:=by simpa using K
  obtain ⟨j,rfl⟩:=Int.eq_ofNat_of_zero_le K
  have P:j+f<=n:=by omega
  obtain ⟨hz,u0,u1,u2,t',a6,a7,a8,C⟩:=A.body I P
  obtain ⟨eb,Y7,Y8⟩:=C.words
  have w8:i64.wrap ((j:Int)+f)=((j+f:Nat):Int):=by rw [ay (by omega)];omega
  have w9:i64.wrap (((j+f:Nat):Int)-1)=((j+f-1:Nat):Int):=by rw [ay (by omega)];omega
  have Yc:i64.wrap (((j+f:Nat):Int)-2)=((j+f-2:Nat):Int):=by rw [ay (by omega)];omega
  have c3:i64.wrap ((j:Int)-1)=(j:Int)-1:=ay (by omega)
  simp only [w8,w9,Yc,c3,Int.toNat_natCast]
  refine ⟨⟨by omega,by omega⟩,_,jL a6,by omega,⟨by omega,by omega⟩,_,jL a7,by omega,by omega,?_⟩
  rw [eb,Y7,Y8]
  clear eb Y7 Y8
  refine ⟨fun g V'=>∃G:Nat,g=(G:Int)/\GF (val (us.drop j)) Y G,
   ⟨fun z V'=>∃G ρ:Nat,z=((G:Int),(ρ:Int))/\GI v1 (u0*4294967296+u1) (val (us.drop j)) Y G ρ,fun z=>z.1.toNat,
    ⟨((((u0*4294967296+u1) / v1:Nat):Int),(((u0*4294967296+u1)%v1:Nat):Int)),by (try dsimp only);and_intros<;>first|exact True.intro|rfl,_,_,rfl,C.start⟩,?_⟩,?_⟩
  ·rintro _ V8 l8 ⟨G,ρ,rfl,N⟩
   obtain ⟨Kw,Q,c5,UG⟩:=C.QR N
   dsimp only
   have t1:∀a:Nat,((((a / 2^32:Nat):Int) != 0)=true↔4294967296<=a)/\((((a / 2^32:Nat):Int) != 0)=false↔a<4294967296):=by
    intro a
    constructor
    ·rw [bne_iff_ne];omega
    ·rw [bne_eq_false_iff_eq];omega
   simp only [c5,gL,(t1 _).1,(t1 _).2]
   refine ⟨by trivial,by omega,fun h=>⟨by omega,fun R=>?_,fun R=>?_⟩,fun h=>⟨by omega,⟨by omega,by omega⟩,_,jL a8,fun E=>⟨by omega,fun R=>?_,fun R=>?_⟩,fun E=>?_⟩⟩
   ·obtain ⟨g1,g2⟩:=C.Oy N (C.Ow h) R
    exact ⟨((G-1:Nat):Int),by rw [UG g1];(try dsimp only);and_intros<;>first|exact True.intro|rfl,G-1,rfl,g2⟩
   ·obtain ⟨g1,g2⟩:=C.Oz N (C.Ow h) R
    exact ⟨(((G-1:Nat):Int),((ρ+v1:Nat):Int)),by (try dsimp only);omega,by rw [UG g1];(try dsimp only);and_intros<;>first|exact True.intro|rfl,G-1,ρ+v1,rfl,g2⟩
   ·have Z:=C.dec N (by rw [Kw,Q,decide_eq_true_eq] at E;omega)
    obtain ⟨g1,g2⟩:=C.Oy N Z R
    exact ⟨((G-1:Nat):Int),by rw [UG g1];(try dsimp only);and_intros<;>first|exact True.intro|rfl,G-1,rfl,g2⟩
   ·have Z:=C.dec N (by rw [Kw,Q,decide_eq_true_eq] at E;omega)
    obtain ⟨g1,g2⟩:=C.Oz N Z R
    exact ⟨(((G-1:Nat):Int),((ρ+v1:Nat):Int)),by (try dsimp only);omega,by rw [UG g1];(try dsimp only);and_intros<;>first|exact True.intro|rfl,G-1,ρ+v1,rfl,g2⟩
   ·have Z:G*v2<=ρ*4294967296+u2:=by rw [Kw,Q,decide_eq_false_iff_not] at E;omega
    exact ⟨(G:Int),by (try dsimp only);and_intros<;>first|exact True.intro|rfl,G,rfl,C.last N h Z⟩
  ·rintro _ V9 l9 ⟨G,rfl,S⟩
   have Q_:=S.g
   clear C a6 a7 a8
   have o:=I.len
   have a9:=ae Y
   refine ⟨by trivial,fun z V'=>∃(b c i:Nat)(fs:List Nat),z=((b:Int),(c:Int),(i:Int),aD fs++B)/\De us (ah Y) j G i b c fs,fun z=>f-z.2.2.1.toNat,
     ⟨(0,0,0,aD us++B),by (try dsimp only);and_intros<;>first|exact True.intro|rfl,0,0,0,us,rfl,by omega,by omega,by omega,rfl,A.ud,rfl,rfl,by simp⟩,?_⟩
   rintro _ iI L ⟨b,c,i,fs,rfl,hS⟩
   dsimp only
   simp only [Int.toNat_natCast]
   have hi:=hS.hi
   have e9:=hS.len
   refine ⟨by trivial,fun h=>?_,fun h=>?_⟩
   ·have h:i<f:=by simpa using h
    obtain ⟨u,d,ob,T,cn,cb,q1,q2,q3,q4,q5,O,q7,c6⟩:=hS.step Q_ (aE Y) A.ud (by omega) (by omega)
    refine (W.le (l7.trans (l9.trans L))).Uz i rfl q1 ?_
    have c9:i64.wrap ((j:Int)+i)=((j+i:Nat):Int):=by rw [ay (by omega)];omega
    have d0:i64.wrap ((i:Int)+1)=((i+1:Nat):Int):=by rw [ay (by omega)];omega
    rw [q3,c9,d0,Int.toNat_natCast]
    refine ⟨⟨by omega,by omega⟩,_,jL q2,⟨by omega,by omega⟩,by simp;omega,by omega,by omega,?_⟩
    rw [q4,q5,O]
    refine ⟨((ob:Int),(cb:Int),((i+1:Nat):Int),aD (fs.set (j+i) T)++B),by (try dsimp only);omega,?_,_,_,_,_,rfl,c6⟩
    (try dsimp only);and_intros<;>first|exact True.intro|rfl|exact uX (by omega)
   ·have h:i=(ah Y).length:=by simp at h;omega
    subst h
    obtain ⟨u,ob,T,q1,q2,q3,q4,q5,O,q7,q8,q9,NK⟩:=hS.fin A.ud (by omega) (by rw [o];exact hz)
    rw [o] at q1 O q7 q8 q9 NK
    rw [a9] at NK
    refine ⟨⟨by omega,by omega⟩,_,jL q1,⟨by omega,by omega⟩,by simp;omega,⟨by omega,by omega⟩,by simp;omega,by omega,?_⟩
    rw [q2,q3,uX (by omega),q_ (x:=(G:Int)) (by omega)]
    generalize fs.set (j+f) T=ks at *
    have Su:∀H:Nat,(aD D).set (0+j*1) (.int .u32 (H:Int))=aD (D.set j H):=by intro H;rw [Nat.zero_add,Nat.mul_one,bE]
    rw [Su]
    refine ⟨fun U=>?_,fun U=>?_⟩
    ·have U:ob=0:=by simpa using U
     rw [U,Nat.mul_zero,Nat.add_zero] at NK
     have b0:=S.lt
     rw [Nat.add_mul,Nat.one_mul] at b0
     refine ⟨((j:Int)-1,aD ks++B,aD (D.set j G)),by (try dsimp only);omega,by (try dsimp only);and_intros<;>first|exact True.intro|rfl,ks,D.set j G,rfl,rfl,?_⟩
     exact A.next P q7 O q8 NK (by omega) Q_
    ·have U:ob=1:=by
      have:ob≠0:=by simpa using U
      omega
     rw [U,Nat.mul_one] at NK
     have Sk:∀ls:List Nat,ls.length=n+1->bX ls->val (ls.drop (j+f+1))=0->val (ls.drop j)<4294967296^(f+1):=by
      intro ls Z h2 K
      have a1:=br (ls.drop j) (f+1) (by simp;omega)
      rw [List.drop_drop,show j+(f+1)=j+f+1 from by omega,K,Nat.mul_zero,Nat.add_zero] at a1
      have a2:=gS ((h2.drop j).take (f+1))
      rw [List.length_take,List.length_drop,Nat.min_eq_left (by omega)] at a2
      omega
     have f0:=Sk ks (by omega) O q9
     have d1:1<=G:=by
      rcases Nat.eq_zero_or_pos G with w|w
      ·subst w;omega
      ·exact w
     have f1:G*Y=(G-1)*Y+Y:=by conv=>lhs;rw [←Nat.sub_add_cancel d1,Nat.add_mul,Nat.one_mul]
     have f2:=S.gt
     have WS:u32.wrap ((G:Int)-1)=((G-1:Nat):Int):=by rw [q_ (by omega)];omega
     refine ⟨⟨by omega,by omega⟩,(G:Int),by rw [Nat.zero_add,Nat.mul_one,gQ (by simp;omega),List.getElem_set_self],⟨by omega,by omega⟩,by simp;omega,?_⟩
     have PZ:(aD (D.set j G)).set (0+j*1) (.int .u32 ((G-1:Nat):Int))=aD (D.set j (G-1)):=by rw [Nat.zero_add,Nat.mul_one,bE,List.set_set]
     rw [WS,PZ]
     refine ⟨fun z V'=>∃(c' i2:Nat)(gs:List Nat),z=((c':Int),(i2:Int),aD gs++B)/\Db ks (ah Y) j i2 c' gs,fun z=>f-z.2.1.toNat,
      ⟨(0,0,aD ks++B),by (try dsimp only);and_intros<;>first|exact True.intro|rfl,0,0,ks,rfl,by omega,by omega,rfl,O,rfl,rfl,by simp⟩,?_⟩
     rintro _ ie bA ⟨c',i2,gs,rfl,hA⟩
     dsimp only
     simp only [Int.toNat_natCast]
     have f3:=hA.hi
     have f4:=hA.len
     refine ⟨by trivial,fun h=>?_,fun h=>?_⟩
     ·have h:i2<f:=by simpa using h
      obtain ⟨u,d,T,cn,cb,r1,r2,r3,r4,r5,d2⟩:=hA.step (aE Y) O (by omega) (by omega)
      refine (W.le (l7.trans (l9.trans (L.trans bA)))).Uz i2 rfl r1 ?_
      have d3:i64.wrap ((j:Int)+i2)=((j+i2:Nat):Int):=by rw [ay (by omega)];omega
      have d4:i64.wrap ((i2:Int)+1)=((i2+1:Nat):Int):=by rw [ay (by omega)];omega
      rw [d3,d4,Int.toNat_natCast]
      refine ⟨⟨by omega,by omega⟩,_,jL r2,⟨by omega,by omega⟩,by simp;omega,by omega,?_⟩
      rw [r3,r4,r5]
      refine ⟨((cb:Int),((i2+1:Nat):Int),aD (gs.set (j+i2) T)++B),by (try dsimp only);omega,?_,_,_,_,rfl,d2⟩
      (try dsimp only);and_intros<;>first|exact True.intro|rfl|exact uX (by omega)
     ·have h:i2=(ah Y).length:=by simp at h;omega
      subst h
      obtain ⟨u,T,kp,r1,r2,r3,r4,r5,r6,r7,r8⟩:=hA.fin O (by omega) (by rw [o];exact q9)
      rw [o] at r1 r4 r5 r6 r7 r8
      rw [a9] at r8
      refine ⟨⟨by omega,by omega⟩,_,jL r1,⟨by omega,by omega⟩,by simp;omega,?_⟩
      rw [r2,uX (by omega)]
      have f5:=Sk _ (by omega) r4 r7
      generalize gs.set (j+f) T=hs at *
      have WE:kp=1:=by
       rcases Nat.eq_zero_or_pos kp with w|w
       ·rw [w,Nat.mul_zero] at r8;omega
       ·omega
      rw [WE,Nat.mul_one] at r8
      refine ⟨((j:Int)-1,aD hs++B,aD (D.set j (G-1))),by (try dsimp only);omega,by (try dsimp only);and_intros<;>first|exact True.intro|rfl,hs,D.set j (G-1),rfl,rfl,?_⟩
      exact A.next P (by omega) r4 (by rw [r6,q8]) (by omega) (by omega) (by omega)
 ·have K:j=-1:=by simp at K;omega
  subst K
  obtain ⟨hq,hr⟩:=A.done hX.symm hY.symm (by omega) I.top
  have Rb:=A.qd
  have I0:=A.ud
  intro V8 l8 f6 d5 d6 d7 J
  have d8:RD V8 (some ⟨d5,0,none⟩) f c7 (us.take f):=by
   refine ⟨by simp;omega,by omega,fun i v hv=>⟨_,rfl,?_⟩,I0.take f,fun w=>nomatch w⟩
   rw [add_zero']
   refine gH d7 ?_
   rw [Bm,List.getElem?_take] at hv
   split at hv
   ·rename_i b0
    rw [List.getElem?_append_left (by simp;omega)];exact hv
   ·cases hv
  refine ⟨⟨by omega,by omega⟩,fun V9 l9=>?_⟩
  refine (aV (RD.bI (ds:=D) d6 Rb (n:=n+1-f) (c:=n+1-f) (by omega) (Nat.le_refl _) |>.le l9) (by omega)).mono ?_
  rintro r iI L ⟨k1,rfl,g1⟩
  refine ⟨_,_,_,rfl,fun ie bA=>?_⟩
  rw [Int.toNat_natCast]
  refine (Ix (d8.le (l9.trans (L.trans bA))) (by simp;omega) s (by omega)).mono ?_
  rintro r lL bY ⟨p2,n2,c2,rfl,g2⟩
  refine ⟨_,_,_,rfl,fun o_ cg=>⟨_,_,_,_,_,_,rfl,?_,?_⟩⟩
  ·rw [aO Rb] at g1
   unfold RN
   rw [←hq];exact g1.le (bA.trans (bY.trans cg))
  ·rw [hr] at g2
   exact g2.le cg
theorem lV {V:View}{p q:OA}{n c m e:Nat}{xa xb:List Nat}(ha:RD V p n c xa)(hb:RD V q m e xb)(hm:xa.length<=1099511627776)(hn:xb.length<=1099511627776)(h0:val xb≠0) :
  ab prog 219 #[.slice p n c,.slice q m e] V fun r V'=>∃p1 n1 c1 p2 n2 c2,r=.tuple #[.slice p1 n1 c1,.slice p2 n2 c2,.bool true]/\RN V' p1 n1 c1 (val xa / val xb)/\RN V' p2 n2 c2 (val xa%val xb):=by
 have la:=bg ha.fo
 have lb:=bg hb.fo
 refine zK p n c q m e V _ fun Q t=>(aV (ha.le t) (by omega)).mono ?_
 rintro r V2 J ⟨n,rfl,b⟩
 rw [aO ha.fo] at b
 refine ⟨_,_,_,rfl,fun R u=>(aV (hb.le (t.trans (J.trans u))) (by omega)).mono ?_⟩
 rintro r S K ⟨m,rfl,f⟩
 rw [aO hb.fo] at f
 replace b:=b.le (u.trans K)
 generalize val xa=x at *
 generalize val xb=y at *
 have L:=b.len
 have T:=f.len
 refine ⟨_,_,_,rfl,fun v=>?_,fun v U k=>(Av (b.le k) (f.le k) (by omega) (by omega)).mono ?_⟩
 ·exfalso
  have:ah y=[]:=List.length_eq_zero_iff.1 (by simp at v;omega)
  exact h0 (bC.1 this)
 rintro r W w rfl
 rw [ae,ae]
 replace b:=b.le (k.trans w)
 replace f:=f.le (k.trans w)
 refine ⟨_,rfl,fun d z g=>(nj (b.le g) (by omega)).mono ?_,fun d=>⟨fun j=>?_,fun j z g=>?_⟩⟩
 ·rintro r A B ⟨C,D,E,rfl,h⟩
  have d:x<y:=by simpa [gK] using d
  refine ⟨_,_,_,rfl,fun F a=>⟨_,_,_,_,_,_,rfl,?_,?_⟩⟩
  ·rw [Nat.div_eq_of_lt d];exact RD.nil
  ·rw [Nat.mod_eq_of_lt d];exact h.le a
 ·have j:m=1:=by simp at j;omega
  subst j
  refine f.rd0 0 rfl (by omega) fun z g=>?_
  have G:=(aE y).get (i:=0) (by omega)
  have l:y=(ah y)[0]'(by omega):=by
   have e:=ic (ah y) 0 (by omega)
   rw [ae,List.drop_of_length_le (by omega)] at e
   simpa using e
  rw [←l] at G ⊢
  refine (Dv (b.le g) (by omega) y h0 G).mono ?_
  rintro r A B ⟨C,D,E,rfl,h⟩
  rw [ae] at h ⊢
  have H:x%y<y:=Nat.mod_lt _ (by omega)
  refine ⟨_,_,_,_,rfl,fun F a=>?_⟩
  rw [aM (by omega)]
  refine (eG _ (by omega) (by omega)).mono ?_
  rintro r X M ⟨N,O,P,rfl,o⟩
  exact ⟨_,_,_,rfl,fun Y I=>⟨_,_,_,_,_,_,rfl,h.le (a.trans (M.trans I)),o.le I⟩⟩
 ·have d:y<=x:=by simpa [←Int.not_lt,gK] using d
  have s:2<=m:=by
   have:¬(m:Int)=1:=by simpa using j
   have:ah y≠[]:=fun e=>h0 (bC.1 e)
   have:(ah y).length≠0:=fun e=>this (List.length_eq_zero_iff.1 e)
   omega
  refine (FO (b.le g) (f.le g) (by omega) s d).mono ?_
  rintro r A B ⟨C,D,E,N,O,P,rfl,h,o⟩
  exact ⟨_,_,_,_,_,_,rfl,fun F a=>⟨_,_,_,_,_,_,rfl,h.le a,o.le a⟩⟩
theorem we (x y:Nat):Nat.gcd y (x%y)=Nat.gcd x y:=by
 rw [Nat.gcd_comm x y,Nat.gcd_rec y x,Nat.gcd_comm]
theorem Aw {V:View}{p q:OA}{n c m e:Nat}{xa xb:List Nat}(ha:RD V p n c xa)(hb:RD V q m e xb)(hm:xa.length<=1099511627776)(hn:xb.length<=1099511627776) :
  ab prog 210 #[.slice p n c,.slice q m e] V fun r V'=>∃p1 n1 c1,r=.slice p1 n1 c1/\RN V' p1 n1 c1 (Nat.gcd (val xa) (val xb)):=by
 have la:=bg ha.fo
 have lb:=bg hb.fo
 refine G2 p n c q m e V _ fun V1 R=>(jx (ha.le R) hm).mono ?_
 rintro r V2 Y ⟨p1,n1,c1,rfl,f⟩
 refine ⟨_,_,_,rfl,fun V3 S=>(jx (hb.le (R.trans (Y.trans S))) hn).mono ?_⟩
 rintro r V4 Z ⟨q1,m1,e1,rfl,i⟩
 replace f:=f.le (S.trans Z)
 refine ⟨_,_,_,rfl,fun z k V'=>∃x y:Nat,RN V' z.1 z.2.1 z.2.2.1 x/\RN V' z.2.2.2.1 z.2.2.2.2.1 z.2.2.2.2.2 y/\Nat.gcd x y=Nat.gcd (val xa) (val xb)/\k=y/\(ah x).length<=1099511627776/\(ah y).length<=1099511627776,
  ⟨(p1,n1,c1,q1,m1,e1),val xb,by (try dsimp only);and_intros<;>trivial,val xa,val xb,f,i,rfl,rfl,by omega,by omega⟩,?_⟩
 rintro ⟨p,n,c,q,m,e⟩ k V5 l5 ⟨x,y,f,i,w,hk,I,g⟩
 dsimp only at f i ⊢
 have a0:=f.len
 have T:=i.len
 rw [←w]
 have stop:m=0->y=0:=fun h=>bC.1 (List.length_eq_zero_iff.1 (by omega))
 have more:∀j:View,V5.Le j->m≠0->ab prog 219 #[.slice p n c,.slice q m e] j fun r A=>∃p1 n1 c1 p2 n2 c2,r=.tuple #[.slice p1 n1 c1,.slice p2 n2 c2,.bool true]/\RN A p2 n2 c2 (x%y)/\x%y<y/\Nat.gcd y (x%y)=Nat.gcd (val xa) (val xb)/\(ah (x%y)).length<=1099511627776/\j.Le A:=by
  intro j l h
  have J:y≠0:=by
   intro e0;subst e0
   rw [AD] at T;simp at T;omega
  have d:x%y<y:=Nat.mod_lt _ (by omega)
  refine (lV (f.le l) (i.le l) I g (by rw [ae];exact J)).mono ?_
  rintro r A K ⟨L,M,N,F,G,H,rfl,U,u⟩
  rw [ae,ae] at u
  exact ⟨_,_,_,_,_,_,rfl,u,d,by rw [we,w],Nat.le_trans (aH (by omega)) g,K⟩
 refine ⟨by trivial,fun W=>⟨fun o V6 O=>?_,fun o j l=>(more j l ?_).mono ?_⟩,fun W=>⟨fun B=>⟨fun o V6 O=>?_,fun o j l=>(more j l ?_).mono ?_⟩,fun B lL X=>?_⟩⟩
 ·rw [stop (by simp at o;omega),Nat.gcd_zero_right]
  rw [stop (by simp at o;omega)] at w
  exact ⟨_,_,_,rfl,f.le O⟩
 ·simp at o;omega
 ·rintro r A K ⟨L,M,N,F,G,H,rfl,u,d,s,t,P⟩
  exact ⟨_,_,_,_,_,_,_,rfl,(q,m,e,F,G,H),x%y,(by omega),by (try dsimp only);and_intros<;>trivial,y,x%y,i.le (l.trans P),u,s.trans w.symm,rfl,g,t⟩
 ·rw [stop (by simp at o;omega),Nat.gcd_zero_right]
  exact ⟨_,_,_,rfl,f.le O⟩
 ·simp at o;omega
 ·rintro r A K ⟨L,M,N,F,G,H,rfl,u,d,s,t,P⟩
  exact ⟨_,_,_,_,_,_,_,rfl,(q,m,e,F,G,H),x%y,(by omega),by (try dsimp only);and_intros<;>trivial,y,x%y,i.le (l.trans P),u,s.trans w.symm,rfl,g,t⟩
 ·have a1:n<=2:=by simp at W;omega
  have a2:m<=2:=by simp at B;omega
  have C:x<18446744073709551616:=(aF (k:=2)).1 (by omega)
  have D:y<18446744073709551616:=(aF (k:=2)).1 (by omega)
  refine (lW (f.le X) (by omega)).mono ?_
  rintro r o_ cg rfl
  rw [ae,if_pos C]
  refine ⟨_,_,rfl,fun mJ c_=>(lW (i.le (X.trans (cg.trans c_))) (by omega)).mono ?_⟩
  rintro r lN dp rfl
  rw [ae,if_pos D]
  refine ⟨_,_,rfl,fun z V'=>∃a b:Nat,z=((a:Int),(b:Int))/\Nat.gcd a b=Nat.gcd x y/\a<18446744073709551616/\b<18446744073709551616,fun z=>z.2.toNat,
   ⟨((x:Int),(y:Int)),by (try dsimp only);and_intros<;>trivial,x,y,rfl,rfl,C,D⟩,?_⟩
  rintro _ kr cV ⟨a,b,rfl,Q,a3,E⟩
  dsimp only
  refine ⟨by trivial,fun v=>?_,fun v mZ cQ=>?_⟩
  ·have v:b≠0:=by rw [bne_iff_ne] at v;omega
   have d:a%b<b:=Nat.mod_lt _ (by omega)
   have e4:(a:Int).tmod (b:Int)=((a%b:Nat):Int):=by rw [Int.tmod_eq_emod_of_nonneg (by omega),←Int.natCast_emod]
   rw [e4]
   exact ⟨by omega,((b:Int),((a%b:Nat):Int)),by (try dsimp only);rw [Int.toNat_natCast,Int.toNat_natCast];exact d,by (try dsimp only);and_intros<;>trivial,b,a%b,rfl,by rw [we,Q],E,Nat.lt_trans d E⟩
  ·have v:b=0:=by rw [bne_eq_false_iff_eq] at v;omega
   subst v
   rw [Nat.gcd_zero_right] at Q
   refine (eG _ (by omega) (by omega)).mono ?_
   rintro r pe dF ⟨L,M,N,rfl,U⟩
   refine ⟨_,_,_,rfl,fun tj dq=>⟨_,_,_,rfl,?_⟩⟩
   rw [←Q]
   exact U.le dq
theorem dB {V:View}{p:OA}{n c:Nat}{ds:List Nat}(h:RD V p n c ds)(hm:ds.length<=4611686018427387904) :
  ab prog 122 #[.slice p n c] V fun r V'=>∃k,r=.slice p k c/\RD V' p k c (cj ds):=by
 have j:=h.len
 have l:=h.cap
 refine Fi p n c V _ ?_
 refine ⟨fun z V'=>0<=z/\z<=n/\cj (ds.take z.toNat)=cj ds,fun z=>z.toNat,⟨n,by (try dsimp only);and_intros<;>first|exact True.intro|rfl,by (try dsimp only);omega,by (try dsimp only);omega,?_⟩,?_⟩
 ·simp [j]
 ·rintro k o e ⟨f,m,d⟩
  obtain ⟨k,rfl⟩:=Int.eq_ofNat_of_zero_le f
  dsimp only at m d ⊢
  simp only [Int.toNat_natCast] at d
  refine ⟨rfl,fun a=>?_,fun a=>?_⟩
  ·have a:0<k:=by simpa using a
   have w:i64.wrap ((k:Int)-1)=((k-1:Nat):Int):=by rw [ay (by omega)];omega
   simp only [w]
   have g:ds.take k=ds.take (k-1)++[ds[k-1]]:=by rw [←List.take_succ_eq_append_getElem (by omega),Nat.sub_add_cancel a]
   refine (h.le e).rd (k-1) rfl (by omega) ⟨fun b=>?_,fun b=>?_⟩
   ·have b:ds[k-1]=0:=by simpa using b
    refine ⟨_,?_,by (try dsimp only);and_intros<;>first|exact True.intro|rfl,?_,?_,?_⟩
    ·(try dsimp only);omega
    ·(try dsimp only);omega
    ·(try dsimp only);omega
    ·(try dsimp only)
     rw [←d,g,b,iP];rfl
   ·have b:ds[k-1]≠0:=by simpa using b
    refine ⟨⟨by omega,by omega⟩,fun V2 i=>⟨k,rfl,?_⟩⟩
    rw [←d,g,pJ _ _ b,←g]
    exact ((h.le e).le i).take (by omega)
  ·have a:k=0:=by simpa using a
   subst a
   refine ⟨⟨by omega,by omega⟩,fun V2 i=>⟨0,rfl,?_⟩⟩
   rw [←d]
   exact ((h.le e).le i).take (by omega)
theorem dO {V:View}(u:Nat)(h1:u<18446744073709551616) :
  ab prog 121 #[.int .u64 (u:Int)] V fun r V'=>∃q k c',r=.slice q k c'/\RN V' q k c' u:=by
 refine Fj _ V _ ⟨by omega,fun e h f a=>?_⟩
 rw [mQ,jd,q_ (by omega)] at a
 have a:e.bI f (.cells (aD [u%4294967296,u / 4294967296]).toArray 188 (0,0)):=by
  simpa [aD] using a
 have d:bX [u%4294967296,u / 4294967296]:=by simp [bX];omega
 refine (dB (RD.bI a d (n:=2) (c:=2) rfl (Nat.le_refl _)) (by simp)).mono ?_
 rintro r V2 i ⟨k,rfl,b⟩
 refine ⟨_,_,_,rfl,fun _ j g=>⟨_,_,_,rfl,?_⟩⟩
 rw [aO d] at b
 have:val [u%4294967296,u / 4294967296]=u:=by simp;omega
 rw [this] at b
 exact b.le g
theorem oh {V:View} :
  ab prog 123 #[] V fun r V'=>∃q k c',r=.slice q k c'/\RN V' q k c' 1:=by
 refine Hc V _ fun b e c a=>⟨_,_,_,rfl,?_⟩
 have d:ah 1=[1]:=MY (by omega) (by omega)
 unfold RN
 rw [d]
 have a:b.bI c (.cells (aD [1]).toArray 188 (0,0)):=by
  simpa [aD] using a
 exact RD.bI a (by simp [bX]) rfl (Nat.le_refl _)
def Jp (x:Int):Int:=if 0<x then 1 else if x<0 then -1 else 0
theorem FR {V:View}(x:Int) :
  ab prog 199 #[.int .i64 x] V fun r V'=>r=.int .i64 (Jp x):=by
 refine Fl x V _ ⟨fun h b c=>?_,fun h=>⟨fun a b c=>?_,fun a b c=>?_⟩⟩
 ·have h:0<x:=by simpa using h
  rw [Jp,if_pos h]
 ·have h:x<0:=by simpa using a
  rw [Jp,if_neg (by omega),if_pos h]
 ·have h:¬0<x:=by simpa using h
  have a:¬x<0:=by simpa using a
  rw [Jp,if_neg h,if_neg a]
theorem jj {V:View}{p q:OA}{n c m e:Nat}{x y:Nat}(ha:RN V p n c x)(hb:RN V q m e y)(hm:(ah x).length<=1099511627776)(hn:(ah y).length<=1099511627776) :
  ab prog 165 #[.slice p n c,.slice q m e] V fun r V'=>r=.int .i64 (kZ x y):=by
 have v:=ha.len
 have A:=hb.len
 refine G8 p n c q m e V _ ⟨fun g D E=>?_,fun g=>?_⟩
 ·have w:i64.wrap ((n:Int)-m)=(n:Int)-m:=ay (by omega)
  simp only [w]
  refine (FR _).mono ?_
  rintro r V2 F rfl
  refine ⟨_,rfl,fun G H=>?_⟩
  have g:n≠m:=by simp at g;omega
  congr 1
  rcases Nat.lt_or_ge n m with h|h
  ·have:=ll (a:=x) (b:=y) (by omega)
   rw [kZ,if_pos this,Jp,if_neg (by omega),if_pos (by omega)]
  ·have:=ll (a:=y) (b:=x) (by omega)
   rw [kZ,if_neg (by omega),if_pos this,Jp,if_pos (by omega)]
 ·have g:n=m:=by simp at g;omega
  subst g
  have w:i64.wrap ((n:Int)-1)=(n:Int)-1:=ay (by omega)
  simp only [w]
  refine ⟨fun z V'=>-1<=z/\z<n/\(ah x).drop (z+1).toNat=(ah y).drop (z+1).toNat,fun z=>(z+1).toNat,⟨_,by (try dsimp only);and_intros<;>first|exact True.intro|rfl,by (try dsimp only);omega,by (try dsimp only);omega,?_⟩,?_⟩
  ·(try dsimp only)
   rw [List.drop_of_length_le (by omega),List.drop_of_length_le (by omega)]
  ·rintro i I j ⟨k,o,s⟩
   dsimp only at k o s ⊢
   refine ⟨by trivial,fun d=>?_,fun d J K=>?_⟩
   ·have d:0<=i:=by simpa using d
    obtain ⟨i,rfl⟩:=Int.eq_ofNat_of_zero_le d
    have w:i64.wrap ((i:Int)-1)=(i:Int)-1:=ay (by omega)
    simp only [w]
    have f:(ah x).drop (i+1)=(ah y).drop (i+1):=s
    refine (ha.le j).rd i rfl (by omega) ((hb.le j).rd i rfl (by omega) ⟨fun t B C=>?_,fun t=>?_⟩)
    ·have:=kh (aE y) (by omega) (by omega) f.symm (by simpa using t)
     rw [ae,ae] at this
     rw [kZ,if_neg (by omega),if_pos this]
    ·refine (ha.le j).rd i rfl (by omega) ((hb.le j).rd i rfl (by omega) ⟨fun u B C=>?_,fun u=>?_⟩)
     ·have:=kh (aE x) (by omega) (by omega) f (by simpa using u)
      rw [ae,ae] at this
      rw [kZ,if_pos this]
     ·refine ⟨_,?_,by (try dsimp only);and_intros<;>first|exact True.intro|rfl,?_,?_,?_⟩
      ·(try dsimp only);omega
      ·(try dsimp only);omega
      ·(try dsimp only);omega
      ·(try dsimp only)
       have:((i:Int)-1+1).toNat=i:=by omega
       rw [this,List.drop_eq_getElem_cons (by omega),List.drop_eq_getElem_cons (l:=ah y) (by omega),f]
       congr 1
       simp at t u
       omega
   ·have d:i=-1:=by simp at d;omega
    subst d
    have:ah x=ah y:=by simpa using s
    have:=qm this
    subst this
    simp [kZ]
theorem K3 (a b:Nat):bU (a:Int) (b:Int)=((max a b:Nat):Int):=by
 unfold bU
 split<;>omega
theorem Iz {V:View}{p q:OA}{n c m e:Nat}{xs ys:List Nat}(hx:RD V p n c xs)(hy:RD V q m e ys)(hm:xs.length<=1099511627776)(hn:ys.length<=1099511627776) :
  ab prog 166 #[.slice p n c,.slice q m e] V fun r V'=>∃p' n' c',r=.slice p' n' c'/\RN V' p' n' c' (val xs+val ys):=by
 have H:=hx.len
 have O:=hy.len
 have vc:=Hf p n c q m e V
 have w:i64.wrap (((max n m:Nat):Int)+1)=((max n m+1:Nat):Int):=by rw [ay (by omega)];omega
 simp only [K3,w,Int.toNat_natCast] at vc
 obtain ⟨k,I⟩:∃k,k=max n m:=⟨_,rfl⟩
 rw [←I] at vc
 refine vc _ ⟨by omega,by omega,by omega,fun z V'=>0<=z.1/\z.1<=1/\0<=z.2.1/\z.2.1<=k/\∃es:List Nat,z.2.2=aD es/\es.length=k+1/\bX es /\
   val (es.take z.2.1.toNat)+4294967296^z.2.1.toNat*z.1.toNat=val (xs.take z.2.1.toNat)+val (ys.take z.2.1.toNat),fun z=>k-z.2.1.toNat,⟨(0,0,aD (List.replicate (k+1) 0)),by (try dsimp only);and_intros<;>first|exact True.intro|rfl|exact dh _,by (try dsimp only);omega,by (try dsimp only);omega,by (try dsimp only);omega,by (try dsimp only);omega,_,rfl,by simp,bX.rep _,by simp⟩,?_⟩
 rintro ⟨b,i,P⟩ V2 D ⟨f,o,g,s,es,rfl,t,h,l⟩
 dsimp only at f o g s l ⊢
 obtain ⟨i,rfl⟩:=Int.eq_ofNat_of_zero_le g
 obtain ⟨b,rfl⟩:=Int.eq_ofNat_of_zero_le f
 simp only [Int.toNat_natCast] at l
 refine ⟨by trivial,fun d=>?_,fun d=>?_⟩
 ·have d:i<k:=by simpa using d
  refine ⟨fun z V'=>∃x:Nat,z=x/\x<4294967296/\val (xs.take (i+1))=val (xs.take i)+4294967296^i*x,⟨fun a=>?_,fun a=>?_⟩,?_⟩
  ·have a:i<n:=by simpa using a
   refine (hx.le D).rd i rfl (by omega) ?_
   exact ⟨_,by (try dsimp only);and_intros<;>first|exact True.intro|rfl,xs[i],rfl,hx.fo.get (by omega),ax _ _ (by omega)⟩
  ·have a:n<=i:=by simpa using a
   exact ⟨_,by (try dsimp only);and_intros<;>first|exact True.intro|rfl,0,rfl,by omega,by rw [aq (by omega),aq (by omega)];simp⟩
  rintro _ J E ⟨x,rfl,u,v⟩
  refine ⟨by trivial,fun z V'=>∃y:Nat,z=y/\y<4294967296/\val (ys.take (i+1))=val (ys.take i)+4294967296^i*y,⟨fun a=>?_,fun a=>?_⟩,?_⟩
  ·have a:i<m:=by simpa using a
   refine ((hy.le D).le E).rd i rfl (by omega) ?_
   exact ⟨_,by (try dsimp only);and_intros<;>first|exact True.intro|rfl,ys[i],rfl,hy.fo.get (by omega),ax _ _ (by omega)⟩
  ·have a:m<=i:=by simpa using a
   exact ⟨_,by (try dsimp only);and_intros<;>first|exact True.intro|rfl,0,rfl,by omega,by rw [aq (by omega),aq (by omega)];simp⟩
  rintro _ K L ⟨y,rfl,A,B⟩
  refine ⟨by trivial,fun M F=>(MO x y b u A (by omega)).mono ?_⟩
  rintro r Q R rfl
  have w:i64.wrap ((i:Int)+1)=((i+1:Nat):Int):=by rw [ay (by omega)];omega
  simp only [w,Int.toNat_natCast]
  refine ⟨_,_,rfl,⟨by omega,by omega⟩,by simp;omega,(((x+y+b) / 4294967296:Nat),((i+1:Nat):Int),aD (es.set i ((x+y+b)%4294967296))),?_,by (try dsimp only);and_intros<;>first|exact True.intro|rfl|(rw [←bE];simp),?_⟩
  ·(try dsimp only);omega
  ·(try dsimp only)
   refine ⟨by omega,by omega,by omega,by omega,_,rfl,by simpa using t,h.set _ _ (by omega),?_⟩
   simp only [Int.toNat_natCast]
   rw [aK _ _ _ (by omega),Nat.pow_succ,v,B]
   exact vh l (by omega)
 ·have d:i=k:=by simp at d;omega
  subst d
  refine ⟨⟨by omega,by omega⟩,by simp;omega,fun J E S C=>?_⟩
  have G:(aD es).set (0+((i:Int).toNat)*1) (.int .u32 (b:Int))=aD (es.set i b):=by rw [←bE];simp
  simp only [Int.toNat_natCast] at G
  try simp only [Int.toNat_natCast] at C
  rw [G] at C
  have j:=h.set i b (by omega)
  refine (dB (RD.bI C j (n:=i+1) (c:=i+1) (by simp;omega) (Nat.le_refl _)) (by simp;omega)).mono ?_
  rintro r K L ⟨k,rfl,a⟩
  refine ⟨_,_,_,rfl,fun _ M F=>⟨_,_,_,rfl,?_⟩⟩
  rw [aO j] at a
  have N:val (es.set i b)=val xs+val ys:=by
   have:=aK es i b (by omega)
   rw [aq (by simp;omega)] at this
   rw [this,l,aq (by omega),aq (by omega)]
  rw [N] at a
  exact a.le F
theorem GS {E A B c x y W d b:Nat}(h:E+B=A+W*c)(hv:d+(y+c)=x+4294967296*b) :
  E+W*d+(B+W*y)=A+W*x+W*4294967296*b:=by
 have:=congrArg (W*·) hv
 simp only [Nat.mul_add,←Nat.mul_assoc] at this
 omega
theorem pj {V:View}{p q:OA}{n c m e:Nat}{xs ys:List Nat}(hx:RD V p n c xs)(hy:RD V q m e ys)(hm:xs.length<=1099511627776)(hl:ys.length<=xs.length)(hle:val ys<=val xs) :
  ab prog 167 #[.slice p n c,.slice q m e] V fun r V'=>∃p' n' c',r=.slice p' n' c'/\RN V' p' n' c' (val xs-val ys):=by
 have G:=hx.len
 have N:=hy.len
 refine Fb p n c q m e V _ ⟨by omega,by omega,by omega,fun z V'=>0<=z.1/\z.1<=1/\0<=z.2.1/\z.2.1<=n/\∃es:List Nat,z.2.2=aD es/\es.length=n/\bX es /\
   val (es.take z.2.1.toNat)+val (ys.take z.2.1.toNat)=val (xs.take z.2.1.toNat)+4294967296^z.2.1.toNat*z.1.toNat,fun z=>n-z.2.1.toNat,
   ⟨(0,0,List.replicate n (.int .u32 0)),by (try dsimp only);and_intros<;>first|exact True.intro|rfl,by (try dsimp only);omega,by (try dsimp only);omega,by (try dsimp only);omega,by (try dsimp only);omega,List.replicate n 0,dh n,by simp,bX.rep _,by simp⟩,?_⟩
 rintro ⟨l,i,O⟩ V2 C ⟨o,u,s,v,es,rfl,g,a,t⟩
 dsimp only at o u s v t ⊢
 obtain ⟨i,rfl⟩:=Int.eq_ofNat_of_zero_le s
 obtain ⟨l,rfl⟩:=Int.eq_ofNat_of_zero_le o
 simp only [Int.toNat_natCast] at t
 refine ⟨by trivial,fun j=>?_,fun j=>?_⟩
 ·have j:i<n:=by simpa using j
  refine ⟨fun z V'=>∃y:Nat,z=y/\y<4294967296/\val (ys.take (i+1))=val (ys.take i)+4294967296^i*y,⟨fun f=>?_,fun f=>?_⟩,?_⟩
  ·have f:i<m:=by simpa using f
   refine (hy.le C).rd i rfl (by omega) ?_
   exact ⟨_,by (try dsimp only);and_intros<;>first|exact True.intro|rfl,ys[i],rfl,hy.fo.get (by omega),ax _ _ (by omega)⟩
  ·have f:m<=i:=by simpa using f
   exact ⟨_,by (try dsimp only);and_intros<;>first|exact True.intro|rfl,0,rfl,by omega,by rw [aq (by omega),aq (by omega)];simp⟩
  rintro _ H D ⟨y,rfl,x,A⟩
  refine ⟨by trivial,?_⟩
  refine ((hx.le C).le D).rd i rfl (by omega) fun I J=>(MU _ y l (hx.fo.get (by omega)) x (by omega)).mono ?_
  rintro r K E ⟨d,b,rfl,P,F,B⟩
  have w:i64.wrap ((i:Int)+1)=((i+1:Nat):Int):=by rw [ay (by omega)];omega
  simp only [w,Int.toNat_natCast]
  refine ⟨_,_,rfl,⟨by omega,by omega⟩,by simp;omega,((b:Int),((i+1:Nat):Int),aD (es.set i d)),?_,by (try dsimp only);and_intros<;>first|exact True.intro|rfl|(rw [←bE];simp),?_⟩
  ·(try dsimp only);omega
  ·(try dsimp only)
   refine ⟨by omega,by omega,by omega,by omega,_,rfl,by simpa using g,a.set _ _ (by omega),?_⟩
   simp only [Int.toNat_natCast]
   rw [aK _ _ _ (by omega),Nat.pow_succ,ax xs i (by omega),A]
   exact GS t B
 ·have j:i=n:=by simp at j;omega
  subst j
  simp only [Int.toNat_natCast]
  intro H D Q F
  refine (dB (RD.bI F a (n:=i) (c:=i) g.symm (Nat.le_refl _)) (by omega)).mono ?_
  rintro r I J ⟨k,rfl,f⟩
  refine ⟨_,_,_,rfl,fun _ K E=>⟨_,_,_,rfl,?_⟩⟩
  rw [aO a] at f
  rw [aq (by omega),aq (by omega),aq (by omega)] at t
  have L:=gS a
  rw [g] at L
  have M:l=0:=by
   rcases Nat.eq_zero_or_pos l with h|h
   ·exact h
   ·have:4294967296^i*1<=4294967296^i*l:=Nat.mul_le_mul_left _ h
    omega
  subst M
  rw [show val es=val xs-val ys from by omega] at f
  exact f.le E
end Go.Proofs.Tryz
