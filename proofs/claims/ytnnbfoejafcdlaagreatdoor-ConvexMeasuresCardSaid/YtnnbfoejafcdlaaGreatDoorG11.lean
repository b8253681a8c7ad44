import Derived.Test.YtnnbfoejafcdlaaGreatDoorG10
import Derived.Test.YtnnbfoejafcdlaaGreatDoorG6
import Derived.Test.YtnnbfoejafcdlaaGreatDoorG7
set_option linter.unusedVariables false
open Go.IntKind (i64 u64 u32)
namespace Go.Proofs.Tryz
open Go.bM Go.fR
theorem EB {V:View}{p:OA}{n c:Nat}{ds:List Nat}(h:RD V p n c ds){K:Int->Prop}(hn:0<ds.length)
  (hK:K ((ds[0]:Nat):Int)):(p.isSome=true)/\(0<=(0:Int)/\(0:Int)<(n:Int))/\∃x:Int,(∃a,ag p 0=some a/\V.at a (.int .u32 x))/\K x:=by
 have:=h.rd (i:=0) (K:=K) 0 rfl hn hK
 simpa using this
theorem NQ {V:View}{p:OA}{n c:Nat}{ds:List Nat}(h:RD V p n c ds){K:Int->Prop}(j:Nat)(hn:j<ds.length)
  (hK:K ((ds[j]:Nat):Int)):(p.isSome=true)/\(0<=(j:Int)/\(j:Int)<(n:Int))/\∃x:Int,(∃a,ag p j=some a/\V.at a (.int .u32 x))/\K x:=by
 have:=h.rd (i:=j) (K:=K) j rfl hn hK
 simpa using this
theorem mr {ds:List Nat}(h:ds.length=1):∃a,ds=[a]:=by
 match ds,h with
 | [a],_=>exact ⟨a,rfl⟩
theorem GW {ds:List Nat}(h:ds.length=2):∃a b,ds=[a,b]:=by
 match ds,h with
 | [a,b],_=>exact ⟨a,b,rfl⟩
theorem cG {V:View}{p q:OA}{n c m e:Nat}{xs ys:List Nat}(hx:RD V p n c xs)(hy:RD V q m e ys)(hm:xs.length+ys.length<=1099511627776) :
  ab prog 59 #[.slice p n c,.slice q m e] V fun r V'=>∃p' n' c',r=.slice p' n' c'/\RN V' p' n' c' (val xs*val ys):=by
 have X:=hx.len
 have AR:=hy.len
 have y:((n:Int)+m).toNat=n+m:=by omega
 have w:i64.wrap ((n:Int)+m)=(n:Int)+m:=ay (by omega)
 have vc:=xR p n c q m e V
 simp only [w,y,dh] at vc
 refine (fun tail=>vc _ ⟨fun S=>⟨fun A=>?_,fun _=>tail⟩,fun _=>tail⟩) ?_
 ·have S:n=1:=by simp at S;omega
  have A:m=1:=by simp at A;omega
  clear tail vc
  obtain ⟨a,rfl⟩:=mr (ds:=xs) (by omega)
  obtain ⟨b,rfl⟩:=mr (ds:=ys) (by omega)
  have T:=hx.fo.get (i:=0) (by simp)
  have B:=hy.fo.get (i:=0) (by simp)
  refine EB hx (by simp) (EB hy (by simp) fun V1 l1=>?_)
  simp only [List.getElem_cons_zero] at T B ⊢
  have yZ:a*b<=4294967295*4294967295:=Nat.mul_le_mul (by omega) (by omega)
  have J:u64.wrap (a:Int)=a:=aM (by omega)
  have K:u64.wrap (b:Int)=b:=aM (by omega)
  have Y:(a:Int)*(b:Int)=((a*b:Nat):Int):=by simp
  have Z:u64.wrap ((a*b:Nat):Int)=((a*b:Nat):Int):=aM (by omega)
  rw [J,K,Y,Z]
  refine (dO (a*b) (by omega)).mono ?_
  rintro r V2 l2 ⟨p',n',c',rfl,h⟩
  refine ⟨_,_,_,rfl,fun V3 l3=>⟨_,_,_,rfl,?_⟩⟩
  simp only [bo,fg,Nat.mul_zero,Nat.add_zero]
  exact h.le l3
 refine ⟨by omega,by omega,by omega,fun z V'=>0<=z.1/\z.1<=n/\∃es:List Nat,z.2=aD es/\es.length=n+m/\bX es /\
  val (es.take (z.1.toNat+m))=val (xs.take z.1.toNat)*val ys,fun z=>n-z.1.toNat,⟨(0,aD (List.replicate (n+m) 0)),by (try dsimp only);and_intros<;>first|exact True.intro|rfl,by (try dsimp only);omega,by (try dsimp only);omega,_,rfl,by simp,bX.rep _,by simp [u_,List.take_replicate]⟩,?_⟩
 rintro ⟨i,vs⟩ V5 U ⟨C,L,es,rfl,M,o,D⟩
 dsimp only at C L D ⊢
 obtain ⟨i,rfl⟩:=Int.eq_ofNat_of_zero_le C
 simp only [Int.toNat_natCast] at D
 refine ⟨by trivial,fun v=>?_,fun v=>?_⟩
 ·have v:i<n:=by simpa using v
  refine (hx.le U).rd i rfl (by omega) ?_
  have T:=hx.fo.get (i:=i) (by omega)
  refine ⟨fun z V'=>0<=z.1/\z.1<=4294967295/\0<=z.2.1/\z.2.1<=m/\∃d:List Nat,z.2.2=aD d/\d.length=n+m/\bX d/\d.drop (i+z.2.1.toNat)=es.drop (i+z.2.1.toNat) /\
   val (d.take (i+z.2.1.toNat))+4294967296^(i+z.2.1.toNat)*z.1.toNat=val (es.take (i+z.2.1.toNat))+4294967296^i*xs[i]*val (ys.take z.2.1.toNat),fun z=>m-z.2.1.toNat,
   ⟨(0,0,aD es),by (try dsimp only);and_intros<;>first|exact True.intro|rfl,by (try dsimp only);omega,by (try dsimp only);omega,by (try dsimp only);omega,by (try dsimp only);omega,es,rfl,M,o,rfl,by simp⟩,?_⟩
  rintro ⟨I,k,vs⟩ V6 W ⟨E,N,F,O,d,rfl,G,s,j,hw⟩
  dsimp only at E N F O j hw ⊢
  obtain ⟨k,rfl⟩:=Int.eq_ofNat_of_zero_le F
  obtain ⟨I,rfl⟩:=Int.eq_ofNat_of_zero_le E
  simp only [Int.toNat_natCast] at j hw
  refine ⟨by trivial,fun g=>?_,fun g=>?_⟩
  ·have g:k<m:=by simpa using g
   refine (hy.le (U.trans W)).rd k rfl (by omega) ?_
   have B:=hy.fo.get (i:=k) (by omega)
   have Wv:=s.get (i:=i+k) (by omega)
   have P:d[i+k]'(by omega)=es[i+k]'(by omega):=by
    have A:d[i+k]?=es[i+k]?:=by
     have:=congrArg (fun l=>l[0]?) j
     simpa [List.getElem?_drop] using this
    rw [List.getElem?_eq_getElem (by omega),List.getElem?_eq_getElem (by omega)] at A
    exact Option.some.inj A
   simp (disch:=omega) only [ay]
   have u:((i:Int)+k).toNat=i+k:=by omega
   rw [u]
   refine ⟨⟨by omega,by omega⟩,((d[i+k]'(by omega):Nat):Int),by rw [Nat.zero_add,Nat.mul_one];exact gQ (by omega),⟨by omega,by omega⟩,by simp;omega,by omega,?_⟩
   have a0:xs[i]*ys[k]<=4294967295*4294967295:=Nat.mul_le_mul (by omega) (by omega)
   have P8:(xs[i]:Int)*(ys[k]:Int)=((xs[i]*ys[k]:Nat):Int):=by simp
   obtain ⟨t,ht⟩:∃t:Nat,t=I+xs[i]*ys[k]+d[i+k]'(by omega):=⟨_,rfl⟩
   rw [Nat.pow_add] at hw
   have f:=Ei hw ht
   have J:u64.wrap (u64.wrap (u64.wrap (u64.wrap (xs[i]:Int)*u64.wrap (ys[k]:Int))+u64.wrap ((d[i+k]'(by omega):Nat):Int))+(I:Int))=(t:Int):=by
    clear f
    generalize xs[i]*ys[k]=pq at *
    rw [aM (x:=(xs[i]:Int)) (by omega),aM (x:=(ys[k]:Int)) (by omega),P8,aM (x:=((pq:Nat):Int)) (by omega)]
    simp (disch:=omega) only [aM]
    omega
   rw [J,jd,mQ]
   refine ⟨(_,_,_),?_,by (try dsimp only);and_intros<;>first|exact True.intro|rfl,?_⟩
   ·(try dsimp only);omega
   ·(try dsimp only)
    have H:((k:Int)+1).toNat=k+1:=by omega
    refine ⟨by omega,by omega,by omega,by omega,d.set (i+k) (t%4294967296),?_,by simpa using G,s.set _ _ (by omega),?_,?_⟩
    ·rw [←bE];simp
    ·rw [H,List.drop_set_of_lt (by omega)]
     have:=congrArg (List.drop 1) j
     simpa [List.drop_drop,Nat.add_comm,Nat.add_assoc,Nat.add_left_comm] using this
    ·rw [H,show i+(k+1)=i+k+1 from by omega,aK _ _ _ (by omega),ax es (i+k) (by omega),ax ys k (by omega),←P,Nat.pow_succ]
     have K:((t:Int) / 4294967296).toNat=t / 4294967296:=by omega
     rw [K,Nat.pow_add,f]
  ·have g:k=m:=by simp at g;omega
   subst g
   simp (disch:=omega) only [ay]
   have u:((i:Int)+k).toNat=i+k:=by omega
   rw [u]
   refine ⟨⟨by omega,by omega⟩,by simp;omega,(_,_),?_,by (try dsimp only);and_intros<;>first|exact True.intro|rfl,?_⟩
   ·(try dsimp only);omega
   ·(try dsimp only)
    have Q:((i:Int)+1).toNat=i+1:=by omega
    refine ⟨by omega,by omega,d.set (i+k) I,?_,by simpa using G,s.set _ _ (by omega),?_⟩
    ·rw [←bE,q_ (by omega)];simp
    ·rw [Q,show i+1+k=i+k+1 from by omega,aK _ _ _ (by omega),hw,D,ax xs i (by omega),aq (ds:=ys) (by omega)]
     grind
 ·have v:i=n:=by simp at v;omega
  subst v
  intro V6 W bk R
  refine (dB (RD.bI R o (n:=i+m) (c:=i+m) (by omega) (Nat.le_refl _)) (by omega)).mono ?_
  rintro r V7 l7 ⟨k,rfl,g⟩
  refine ⟨_,_,_,rfl,fun _ V8 l8=>⟨_,_,_,rfl,?_⟩⟩
  rw [aO o] at g
  rw [aq (by omega),aq (by omega)] at D
  rw [D] at g
  exact g.le l8
theorem mb {V:View}{p:OA}{n c:Nat}{ds:List Nat}(h:RD V p n c ds)(hm:ds.length<=1099511627776) :
  ab prog 171 #[.slice p n c] V fun r V'=>r=.tuple #[.int .u64 ((if n<=2 then val ds else 0:Nat):Int),.bool (decide (n<=2))]:=by
 have u:=h.len
 refine Fm p n c V _ ⟨fun e k l=>?_,fun e=>⟨fun f=>?_,fun f=>⟨fun d=>?_,fun d k l=>?_⟩⟩⟩
 ·have e:n=0:=by simp at e;omega
  subst e
  have:ds=[]:=List.length_eq_zero_iff.1 (by omega)
  subst this
  rfl
 ·have f:n=1:=by simp at f;omega
  subst f
  obtain ⟨a,rfl⟩:=mr (ds:=ds) (by omega)
  have o:=h.fo.get (i:=0) (by simp)
  refine EB h (by simp) fun k l=>?_
  simp only [List.getElem_cons_zero] at o ⊢
  have m:u64.wrap (a:Int)=a:=aM (by omega)
  rw [m,if_pos (by omega),decide_eq_true (by omega)]
  simp
 ·have d:n=2:=by simp at d;omega
  subst d
  obtain ⟨a,b,rfl⟩:=GW (ds:=ds) (by omega)
  have g:=h.fo.get (i:=0) (by simp)
  have j:=h.fo.get (i:=1) (by simp)
  refine NQ h 1 (by simp) ⟨by omega,EB h (by simp) fun k l=>?_⟩
  simp only [List.getElem_cons_zero,List.getElem_cons_succ] at g j ⊢
  have m:u64.wrap (a:Int)=a:=aM (by omega)
  have q:u64.wrap (b:Int)=b:=aM (by omega)
  have s:((2:Int)^32)=4294967296:=by decide
  have t:u64.wrap ((b:Int)*4294967296)=(b:Int)*4294967296:=aM (by omega)
  rw [m,q,s,t,Ep _ _ j g,if_pos (by omega),decide_eq_true (by omega)]
  simp only [bo,fg]
  congr 4
  omega
 ·have d:¬n<=2:=by simp at e f d;omega
  rw [if_neg d,decide_eq_false d]
  rfl
theorem I9 (b:Nat):0 ||| b=b:=Nat.zero_or b
theorem l_ {V:View}{p:OA}{n c:Nat}{ds:List Nat}(hx:RD V p n c ds)(hm:ds.length<=1099511627776)(k:Nat)(hk:k<=35184372088832) :
  ab prog 204 #[.slice p n c,.int .i64 (k:Int)] V fun r V'=>∃p' n' c',r=.slice p' n' c'/\RN V' p' n' c' (val ds*2^k):=by
 have hl:=hx.len
 have A:(k:Int).tdiv 32=((k / 32:Nat):Int):=by rw [Int.tdiv_eq_ediv_of_nonneg (by omega)];omega
 have B:(k:Int).tmod 32=((k%32:Nat):Int):=by rw [Int.tmod_eq_emod_of_nonneg (by omega)];omega
 have vc:=Fa p n c k V
 have g:val ds*2^k=4294967296^(k / 32)*val ds*2^(k%32):=by
  have:2^k=4294967296^(k / 32)*2^(k%32):=by
   rw [show (4294967296:Nat)=2^32 from rfl,←Nat.pow_mul,←Nat.pow_add,Nat.div_add_mod]
  rw [this];grind
 rw [g]
 have D:k / 32<=1099511627776:=by omega
 have o:k%32<32:=Nat.mod_lt _ (by omega)
 rw [A,B] at vc
 generalize k / 32=w at *
 generalize k%32=r at *
 clear A B g
 have E:i64.wrap (w:Int)=(w:Int):=ay (by omega)
 have F:i64.wrap ((w:Int)+n)=((w+n:Nat):Int):=by rw [ay (by omega)];omega
 have G:i64.wrap (((w+n:Nat):Int)+1)=((w+n+1:Nat):Int):=by rw [ay (by omega)];omega
 have H:u64.wrap (r:Int)=(r:Int):=aM (by omega)
 have h:(min r IntKind.u64.bits)=r:=by
  show min _ 64=r
  omega
 have I:((2:Int)^r)=((2^r:Nat):Int):=by simp
 simp only [E,F,G,H,Int.toNat_natCast,h,I,dh] at vc
 refine vc _ ⟨by omega,by omega,by omega,by omega,by omega,fun z V'=>0<=z.1/\z.1<=n/\∃es:List Nat,z.2=aD es/\es.length=w+n+1/\bX es/\(∀c,es[z.1.toNat+w]?=some c->c<2^r)/\(∀j c,z.1.toNat+w<j->es[j]?=some c->c=0) /\
   val (es.take (z.1.toNat+w+1))=4294967296^w*val (ds.take z.1.toNat)*2^r,fun z=>n-z.1.toNat,
   ⟨(0,aD (List.replicate (w+n+1) 0)),by (try dsimp only);and_intros<;>first|exact True.intro|rfl,by (try dsimp only);omega,by (try dsimp only);omega,_,rfl,by simp,bX.rep _,?_,?_,?_⟩,?_⟩
 ·intro c a
  rw [List.getElem?_replicate] at a
  split at a
  ·cases a;exact Nat.two_pow_pos r
  ·cases a
 ·intro j c _ a
  rw [List.getElem?_replicate] at a
  split at a
  ·cases a;rfl
  ·cases a
 ·simp [List.take_replicate,u_]
 rintro ⟨i,vs⟩ V4 J ⟨l,q,es,rfl,s,d,a,m,e⟩
 dsimp only at l q a m e ⊢
 obtain ⟨i,rfl⟩:=Int.eq_ofNat_of_zero_le l
 simp only [Int.toNat_natCast] at a m e
 refine ⟨by trivial,fun f=>?_,fun f=>?_⟩
 ·have f:i<n:=by simpa using f
  have K:i64.wrap ((w:Int)+i)=((i+w:Nat):Int):=by rw [ay (by omega)];omega
  have L:i64.wrap (((i+w:Nat):Int)+1)=((i+w+1:Nat):Int):=by rw [ay (by omega)];omega
  have M:i64.wrap ((i:Int)+1)=((i+1:Nat):Int):=by rw [ay (by omega)];omega
  simp only [K,L,M,Int.toNat_natCast,Nat.mul_one,Nat.zero_add]
  refine NQ (hx.le J) i (by omega) ?_
  have N:=hx.fo.get (i:=i) (by omega)
  have t:=a (es[i+w]'(by omega)) (List.getElem?_eq_getElem _)
  have u:=m (i+w+1) (es[i+w+1]'(by omega)) (by omega) (List.getElem?_eq_getElem _)
  obtain ⟨O,g2,P,g4⟩:=EM N o t
  have hmul:((ds[i]:Nat):Int)*((2^r:Nat):Int)=((ds[i]*2^r:Nat):Int):=by simp
  have Q:u64.wrap ((ds[i]:Nat):Int)=((ds[i]:Nat):Int):=aM (by omega)
  have R:u64.wrap ((ds[i]*2^r:Nat):Int)=((ds[i]*2^r:Nat):Int):=aM (by omega)
  have S:u32.wrap ((ds[i]*2^r:Nat):Int)=((ds[i]*2^r%4294967296:Nat):Int):=by rw [jd];omega
  have T:u32.wrap (((ds[i]*2^r:Nat):Int).fdiv (2^32))=((ds[i]*2^r / 4294967296:Nat):Int):=by rw [mQ,jd];omega
  simp only [Q,hmul,R,S,T]
  have v:ds[i]*2^r / 4294967296<4294967296:=by omega
  have U:=Nat.mod_add_div (ds[i]*2^r) 4294967296
  have x:val (List.take (i+1) ds)=val (List.take i ds)+4294967296^i*ds[i]:=ax _ _ (by omega)
  have W:val (es.take (i+w+1))=val (es.take (i+w))+4294967296^(i+w)*es[i+w]'(by omega):=ax _ _ (by omega)
  have y:ds[i]*2^r%4294967296<4294967296:=Nat.mod_lt _ (by omega)
  generalize ds[i]*2^r%4294967296=lo at *
  generalize ds[i]*2^r / 4294967296=hi at *
  refine ⟨by omega,by omega,⟨by omega,by omega⟩,((es[i+w]'(by omega):Nat):Int),gQ (by omega),⟨by omega,by omega⟩,by simp;omega,by omega,⟨by omega,by omega⟩,((es[i+w+1]'(by omega):Nat):Int),?_,by omega,⟨by omega,by omega⟩,by simp;omega,?_⟩
  ·rw [List.getElem?_set_ne (by omega)];exact gQ (by omega)
  have X:es[i+w]'(by omega)<4294967296:=d.get (by omega)
  rw [Gw _ _ X y,O,u,Gw _ _ (by omega) v,I9]
  refine ⟨(((i+1:Nat):Int),aD ((es.set (i+w) (es[i+w]'(by omega)+lo)).set (i+w+1) hi)),?_,?_,?_⟩
  ·(try dsimp only);omega
  ·(try dsimp only);and_intros<;>first|exact True.intro|rfl|rw [←bE,←bE]
  ·(try dsimp only)
   refine ⟨by omega,by omega,_,rfl,by simpa using s,(d.set _ _ (by omega)).set _ _ (by omega),?_,?_,?_⟩
   ·intro c b
    simp only [Int.toNat_natCast] at b
    rw [show i+1+w=i+w+1 from by omega,List.getElem?_set_self (by simp;omega)] at b
    cases b;exact P
   ·intro j c Y b
    simp only [Int.toNat_natCast] at Y
    rw [List.getElem?_set_ne (by omega),List.getElem?_set_ne (by omega)] at b
    exact m j c (by omega) b
   ·simp only [Int.toNat_natCast]
    rw [show i+1+w+1=i+w+1+1 from by omega,aK _ _ _ (by simp;omega),aK _ _ _ (by omega),x]
    rw [W] at e
    have Z:4294967296^(i+w+1)*hi=4294967296^(i+w)*(4294967296*hi):=by rw [Nat.pow_succ];grind
    rw [Z,Nat.mul_add,←Nat.add_assoc,e,Nat.add_assoc,←Nat.mul_add,U,Nat.pow_add]
    grind
 ·have f:i=n:=by simp at f;omega
  subst f
  intro V5 l5 bk hb
  refine (dB (RD.bI hb d (n:=w+i+1) (c:=w+i+1) (by omega) (Nat.le_refl _)) (by omega)).mono ?_
  rintro r' V6 l6 ⟨k',rfl,C⟩
  refine ⟨_,_,_,rfl,fun _ V7 l7=>⟨_,_,_,rfl,?_⟩⟩
  rw [aq (by omega),aq (by omega)] at e
  rw [aO d,e] at C
  exact C.le l7
theorem Bp (a:Addr)(m n:Nat):(a.add m).add n=a.add (m+n):=by
 unfold Addr.add
 by_cases b:m=0
 ·subst b;simp
 ·by_cases c:n=0
  ·subst c;simp [b]
  ·rw [if_neg b,if_neg c,if_neg (by omega)]
   simp only [Nat.add_assoc]
theorem Pl {V:View}{p:OA}{n c:Nat}{ds:List Nat}(h:RD V p n c ds){k:Nat}(hk:k<n):RD V (mX p c k 1) (n-k) (c-k) (ds.drop k):=by
 have g:=h.len
 have j:=h.cap
 have e:mX p c k 1=ag p k:=by unfold mX;rw [if_neg (by omega),Nat.mul_one]
 rw [e]
 refine ⟨by simp;omega,by omega,fun i v b=>?_,h.fo.drop k,fun l=>?_⟩
 ·rw [Ju,List.getElem?_drop] at b
  obtain ⟨d,f,a⟩:=h.sl _ _ b
  refine ⟨d.add k,by rw [f];rfl,?_⟩
  rw [Bp];exact a
 ·have:p.isNone=true:=by cases p<;>simp_all [ag]
  have:=h.Ld this
  omega
theorem Dw {V:View}{p:OA}{n c:Nat}{ds:List Nat}(hd:RD V p n c ds)(hm:ds.length<=1099511627776)(k:Nat)(hk:k<=35184372088832) :
  ab prog 205 #[.slice p n c,.int .i64 (k:Int)] V fun r V'=>∃p' n' c',r=.slice p' n' c'/\RN V' p' n' c' (val ds / 2^k):=by
 have U:=hd.len
 have F:(k:Int).tdiv 32=((k / 32:Nat):Int):=by rw [Int.tdiv_eq_ediv_of_nonneg (by omega)];omega
 have v:(k:Int).tmod 32=((k%32:Nat):Int):=by rw [Int.tmod_eq_emod_of_nonneg (by omega)];omega
 have vc:=CN p n c k V
 have o:val ds / 2^k=val ds / 4294967296^(k / 32) / 2^(k%32):=by
  rw [Nat.div_div_eq_div_mul,show (4294967296:Nat)=2^32 from rfl,←Nat.pow_mul,←Nat.pow_add,Nat.div_add_mod]
 rw [o]
 have J:k / 32<=1099511627776:=by omega
 have y:k%32<32:=Nat.mod_lt _ (by omega)
 rw [F,v] at vc
 generalize k / 32=w at *
 generalize k%32=r at *
 clear F v o
 have K:i64.wrap (w:Int)=(w:Int):=ay (by omega)
 have L:u64.wrap (r:Int)=(r:Int):=aM (by omega)
 have q:(min r IntKind.u64.bits)=r:=by
  show min _ 64=r
  omega
 simp only [K,L,Int.toNat_natCast,q,dh] at vc
 refine vc _ ⟨by omega,fun h W X=>?_,fun h=>?_⟩
 ·have h:n<=w:=by simp at h;omega
  have a:=gS hd.fo
  have:4294967296^ds.length<=4294967296^w:=Nat.pow_le_pow_right (by omega) (by omega)
  rw [Nat.div_eq_of_lt (Nat.lt_of_lt_of_le a this),Nat.zero_div]
  exact ⟨_,_,_,rfl,RD.nil⟩
 ·have h:w<n:=by simp at h;omega
  clear vc
  have s:val ds / 4294967296^w=val (ds.drop w):=by
   have e:val ds=val (ds.take w++ds.drop w):=by rw [List.take_append_drop]
   have a:=gS (hd.fo.take w)
   rw [dS] at e
   rw [List.length_take,Nat.min_eq_left (by omega)] at e a
   rw [e,Nat.add_mul_div_left _ _ (Nat.pow_pos (by omega)),Nat.div_eq_of_lt a,Nat.zero_add]
  rw [s]
  have j:=Pl hd h
  have M:=j.len
  clear s
  generalize mX p c w 1=sp at *
  generalize ds.drop w=xs at *
  generalize hN:n-w=N at *
  refine ⟨by omega,by omega,⟨by omega,by omega⟩,by omega,by omega,by omega,fun z V'=>0<=z.1/\z.1<=N/\∃es:List Nat,z.2=aD es/\es.length=N/\bX es /\
   val (es.take z.1.toNat)+4294967296^z.1.toNat*(val (xs.drop z.1.toNat) / 2^r)=val xs / 2^r,fun z=>N-z.1.toNat,
   ⟨(0,aD (List.replicate N 0)),by (try dsimp only);and_intros<;>first|exact True.intro|rfl,by (try dsimp only);omega,by (try dsimp only);omega,_,rfl,by simp,bX.rep _,by simp⟩,?_⟩
  rintro ⟨i,Z⟩ V4 G ⟨t,A,es,rfl,B,f,b⟩
  dsimp only at t A b ⊢
  obtain ⟨i,rfl⟩:=Int.eq_ofNat_of_zero_le t
  simp only [Int.toNat_natCast] at b
  refine ⟨by trivial,fun m=>?_,fun m=>?_⟩
  ·have m:i<N:=by simpa using m
   have O:i64.wrap ((i:Int)+1)=((i+1:Nat):Int):=by rw [ay (by omega)];omega
   simp only [O,Int.toNat_natCast,Nat.mul_one,Nat.zero_add]
   refine NQ (j.le G) i (by omega) ?_
   have H:=j.fo.get (i:=i) (by omega)
   refine ⟨fun z V'=>z=((xs[i]+4294967296*(xs[i+1]?).getD 0:Nat):Int),⟨fun d=>?_,fun d=>?_⟩,?_⟩
   ·have d:i+1<N:=by simp at d;omega
    have C:=j.fo.get (i:=i+1) (by omega)
    have E:bB .or .u64 (u64.wrap ((xs[i]:Nat):Int)) (u64.wrap (u64.wrap ((xs[i+1]:Nat):Int)*2^32))=((xs[i]+4294967296*(xs[i+1]?).getD 0:Nat):Int):=by
     have v:((2:Int)^32)=4294967296:=by decide
     rw [v,aM (by omega),aM (x:=((xs[i+1]:Nat):Int)) (by omega),aM (by omega),Lp _ _ C H,List.getElem?_eq_getElem (by omega),Option.getD_some]
     omega
    refine NQ (j.le G) (i+1) (by omega) ⟨by omega,((xs[i]+4294967296*(xs[i+1]?).getD 0:Nat):Int),?_,rfl⟩
    (try dsimp only);and_intros<;>first|exact True.intro|exact E|rfl
   ·have d:N<=i+1:=by simp at d;omega
    have E:u64.wrap ((xs[i]:Nat):Int)=((xs[i]+4294967296*(xs[i+1]?).getD 0:Nat):Int):=by
     rw [aM (by omega),List.getElem?_eq_none (by omega)];simp
    refine ⟨((xs[i]+4294967296*(xs[i+1]?).getD 0:Nat):Int),?_,rfl⟩
    (try dsimp only);and_intros<;>first|exact True.intro|exact E|rfl
   rintro _ P Q rfl
   have u:=EN (Y:=val (xs.drop (i+1))) H y
   rw [re j.fo] at u
   have g:val (xs.drop i)=xs[i]+4294967296*val (xs.drop (i+1)):=by
    rw [List.drop_eq_getElem_cons (by omega),bo]
   rw [g,u] at b
   rw [gL,jd]
   obtain ⟨D,I⟩:∃D,D=(xs[i]+4294967296*(xs[i+1]?).getD 0) / 2^r%4294967296:=⟨_,rfl⟩
   have R:(((xs[i]+4294967296*(xs[i+1]?).getD 0) / 2^r:Nat):Int)%4294967296=(D:Int):=by rw [I];omega
   rw [R]
   rw [←I] at b
   refine ⟨by trivial,by omega,⟨by omega,by omega⟩,by simp;omega,(((i+1:Nat):Int),aD (es.set i D)),?_,?_,?_⟩
   ·(try dsimp only);omega
   ·(try dsimp only);and_intros<;>first|exact True.intro|rfl|rw [←bE]
   ·(try dsimp only)
    refine ⟨by omega,by omega,_,rfl,by simpa using B,f.set _ _ (by omega),?_⟩
    simp only [Int.toNat_natCast]
    rw [aK _ _ _ (by omega),←b,Nat.pow_succ,Nat.mul_add,Nat.add_assoc,Nat.mul_assoc]
  ·have m:i=N:=by simp at m;omega
   subst m
   intro P Q bk S
   refine (dB (RD.bI S f (n:=i) (c:=i) (by omega) (Nat.le_refl _)) (by omega)).mono ?_
   rintro r' V6 l6 ⟨k',rfl,d⟩
   refine ⟨_,_,_,rfl,fun _ V7 T=>⟨_,_,_,rfl,?_⟩⟩
   rw [aq (by omega),List.drop_of_length_le (l:=xs) (i:=i) (by omega)] at b
   have b:val es=val xs / 2^r:=by
    rw [←b,fg,Nat.zero_div,Nat.mul_zero,Nat.add_zero]
   rw [aO f,b] at d
   exact d.le T
end Go.Proofs.Tryz
namespace Go.fR
theorem tR {ds:List Nat}(hd:bX ds)(w:Nat)(hw:w<=ds.length):val ds / 4294967296^w=val (ds.drop w):=by
 have e:val ds=val (ds.take w++ds.drop w):=by rw [List.take_append_drop]
 have a:=gS (hd.take w)
 rw [dS] at e
 rw [List.length_take,Nat.min_eq_left (by omega)] at e a
 rw [e,Nat.add_mul_div_left _ _ (Nat.pow_pos (by omega)),Nat.div_eq_of_lt a,Nat.zero_add]
theorem S1 {R n:Nat}(h:(ah R).length=n+2):R / 4294967296^n=(ah R)[n+1]'(by omega)*4294967296+(ah R)[n]'(by omega):=by
 have:=tR (aE R) n (by omega)
 rw [ae] at this
 rw [this,List.drop_eq_getElem_cons (by omega),List.drop_eq_getElem_cons (i:=n+1) (by omega),List.drop_of_length_le (by omega)]
 simp only [bo,fg]
 omega
theorem OX {R n:Nat}(h:(ah R).length=n+1):R / 4294967296^n=(ah R)[n]'(by omega):=by
 have:=tR (aE R) n (by omega)
 rw [ae] at this
 rw [this,List.drop_eq_getElem_cons (by omega),List.drop_of_length_le (by omega)]
 simp only [bo,fg]
 omega
theorem S0 {R n:Nat}(h:(ah R).length<=n):R / 4294967296^n=0:=Nat.div_eq_of_lt (aF.1 h)
theorem GV {V n:Nat}(h:(ah V).length=n+1):(ah V)[n]'(by omega)*4294967296^n<=V:=by
 have:=OX h
 rw [←this]
 exact Nat.div_mul_le_self _ _
theorem Kp {R V top P W:Nat}(hV:top*P<=V)(ht:0<top)(hP:0<P)(hW:0<W):R / (V*W)<=R / (P*W) / top:=by
 rw [Nat.le_div_iff_mul_le ht,Nat.le_div_iff_mul_le (Nat.mul_pos hP hW)]
 have a:R / (V*W)*(V*W)<=R:=Nat.div_mul_le_self _ _
 have b:R / (V*W)*(top*P*W)<=R / (V*W)*(V*W):=Nat.mul_le_mul_left _ (Nat.mul_le_mul_right _ hV)
 have c:R / (V*W)*top*(P*W)=R / (V*W)*(top*P*W):=by
  generalize R / (V*W)=q
  rw [Nat.mul_assoc q top,←Nat.mul_assoc top P W]
 omega
theorem I5 {A V W D R q R':Nat}(h:A=V*(W*4294967296*D)+R)(hq:R=V*q*W+R'):A=V*(W*(q+4294967296*D))+R':=by
 subst hq;rw [h];grind
theorem K0 {x y s Q R:Nat}(h:x*2^s=y*2^s*Q+R)(hR:R<y*2^s):Q=x / y/\R / 2^s=x%y:=by
 have c:=Nat.two_pow_pos s
 have f:0<y:=by
  rcases Nat.eq_zero_or_pos y with e|e
  ·subst e;simp at hR
  ·exact e
 have g:y*2^s*Q=(y*Q)*2^s:=by grind
 rw [g] at h
 have i:y*Q<=x:=by
  rcases Nat.lt_or_ge x (y*Q) with a|a
  ·have:(x+1)*2^s<=y*Q*2^s:=Nat.mul_le_mul_right _ a
   rw [Nat.add_mul] at this
   omega
  ·exact a
 obtain ⟨d,rfl⟩:=Nat.exists_eq_add_of_le i
 rw [Nat.add_mul] at h
 have j:R=d*2^s:=by omega
 subst j
 have b:d<y:=Nat.lt_of_mul_lt_mul_right hR
 rw [Nat.mul_div_cancel _ c]
 constructor
 ·rw [Nat.mul_add_div f,Nat.div_eq_of_lt b,Nat.add_zero]
 ·rw [Nat.mul_add_mod,Nat.mod_eq_of_lt b]
theorem O0 (j:Nat):2^(32*j)=4294967296^j:=by rw [Nat.pow_mul]
theorem F8 {R V W g:Nat}(Ra:0<V*W)(h:V*g*W<=R)(hq:R / (V*W)<=g):g=R / (V*W):=by
 have:g<=R / (V*W):=by
  rw [Nat.le_div_iff_mul_le Ra]
  have:g*(V*W)=V*g*W:=by grind
  omega
 omega
theorem Kq {R V W g:Nat}(Ra:0<V*W)(h:R<V*g*W):R / (V*W)<g:=by
 rw [Nat.div_lt_iff_lt_mul Ra]
 have:g*(V*W)=V*g*W:=by grind
 omega
theorem GM {R V W:Nat}:R=V*(R / (V*W))*W+R%(V*W):=by
 have:=Nat.div_add_mod R (V*W)
 have e:V*(R / (V*W))*W=V*W*(R / (V*W)):=by
  generalize R / (V*W)=q
  grind
 omega
theorem iX {a b:Nat}:(ah (a*b)).length<=(ah a).length+(ah b).length:=by
 rw [aF,Nat.pow_add]
 have c:a<4294967296^(ah a).length:=aF.1 (Nat.le_refl _)
 have d:b<4294967296^(ah b).length:=aF.1 (Nat.le_refl _)
 exact Nat.mul_lt_mul'' c d
theorem BV (j:Nat):(ah (4294967296^j)).length<=j+1:=by
 rw [aF]
 exact Nat.pow_lt_pow_right (by omega) (by omega)
end Go.fR
namespace Go.Proofs.Tryz
open Go.bM Go.fR
theorem rdG {V:View}{p:OA}{n c:Nat}{ds:List Nat}(h:RD V p n c ds){i:Int}{K:Int->Prop}(j d:Nat)(hj:i=j)(hn:ds[j]?=some d)
  (hK:K (d:Int)):(p.isSome=true)/\(0<=i/\i<(n:Int))/\∃x:Int,(∃a,ag p (i.toNat*1)=some a/\V.at a (.int .u32 x))/\K x:=by
 have b:j<ds.length:=by
  rcases Nat.lt_or_ge j ds.length with h|h
  ·exact h
  ·rw [List.getElem?_eq_none h] at hn;cases hn
 refine h.rd j hj b ?_
 rw [List.getElem?_eq_getElem b] at hn
 cases hn;exact hK
theorem Js {W n:Nat}(h:(ah W).length=n+1):∃top,(ah W)[n]?=some top/\top≠0/\top<4294967296/\top*4294967296^n<=W:=by
 refine ⟨(ah W)[n]'(by omega),List.getElem?_eq_getElem _,?_,(aE W).get _,GV h⟩
 have:=(jH W).last (by omega)
 simpa [h] using this
structure Ag (A V L:Nat) (R:Nat) (j:Nat) (es:List Nat):Prop where
 len:es.length=L
 fo:bX es
 lt:R<V*4294967296^j
 eq:A=V*(4294967296^j*val (es.drop j))+R
theorem Ag.step {A V L R j:Nat}{es:List Nat}(h:Ag A V L R (j+1) es)(hj:j<L)(hV:0<V) :
  R / (V*4294967296^j)<4294967296/\Ag A V L (R-V*(R / (V*4294967296^j))*4294967296^j) j (es.set j (R / (V*4294967296^j))):=by
 have c:0<4294967296^j:=Nat.pow_pos (by omega)
 have a:0<V*4294967296^j:=Nat.mul_pos hV c
 have b:R / (V*4294967296^j)<4294967296:=by
  rw [Nat.div_lt_iff_lt_mul a]
  have:=h.lt
  rw [Nat.pow_succ] at this
  have e:4294967296*(V*4294967296^j)=V*(4294967296^j*4294967296):=by
   generalize 4294967296^j=w
   grind
  omega
 have d:=GM (R:=R) (V:=V) (W:=4294967296^j)
 have hm:=Nat.mod_lt R a
 have he:R-V*(R / (V*4294967296^j))*4294967296^j=R%(V*4294967296^j):=by omega
 refine ⟨b,⟨by simpa using h.len,h.fo.set _ _ b,by rw [he];exact hm,?_⟩⟩
 have f:=h.len
 rw [List.drop_eq_getElem_cons (by simp;omega),List.getElem_set_self,List.drop_set_of_lt (by omega),bo,he]
 exact I5 (by have:=h.eq;rwa [Nat.pow_succ] at this) d
theorem LP {R V j:Nat}(h:R<V*4294967296^(j+1)):(ah R).length<=(ah V).length+j+1:=by
 have a:V*4294967296^(j+1)<=4294967296^(ah V).length*4294967296^(j+1):=Nat.mul_le_mul_right _ (Nat.le_of_lt (aF.1 (Nat.le_refl _)))
 rw [←Nat.pow_add] at a
 have:=aF.2 (Nat.lt_of_lt_of_le h a)
 omega
theorem Ns {R n:Nat}(h:(ah R).length<=n+2):R / 4294967296^n<18446744073709551616:=by
 rw [Nat.div_lt_iff_lt_mul (Nat.pow_pos (by omega))]
 have:=aF.1 h
 rw [Nat.pow_succ,Nat.pow_succ] at this
 have e:4294967296^n*4294967296*4294967296=18446744073709551616*4294967296^n:=by
  generalize 4294967296^n=w
  omega
 omega
theorem FQ {V:View}{p q:OA}{n c m e:Nat}{x y:Nat}(hx:RN V p n c x)(hy:RN V q m e y)(hm:(ah x).length<=274877906944)(hy0:0<y)(hle:(ah y).length<=(ah x).length) :
  ab prog 173 #[.slice p n c,.slice q m e] V fun r V'=>∃p1 n1 c1 p2 n2 c2,r=.tuple #[.slice p1 n1 c1,.slice p2 n2 c2]/\RN V' p1 n1 c1 (x / y)/\RN V' p2 n2 c2 (x%y):=by
 have a2:=hx.len
 have AR:=hy.len
 have c3:0<m:=by
  rcases Nat.eq_zero_or_pos m with h|h
  ·have:=bC.1 (List.length_eq_zero_iff.1 (AR▸h));omega
  ·exact h
 have vc:=Fk p n c q m e V
 have w1:i64.wrap ((m:Int)-1)=((m-1:Nat):Int):=by rw [ay (by omega)];omega
 have w2:i64.wrap ((n:Int)-m)=((n-m:Nat):Int):=by rw [ay (by omega)];omega
 have w3:i64.wrap (((n-m:Nat):Int)+1)=((n-m+1:Nat):Int):=by rw [ay (by omega)];omega
 have w4:i64.wrap (((n-m+1:Nat):Int)-1)=((n-m:Nat):Int):=by rw [ay (by omega)];omega
 simp only [w1,w2,w3,Int.toNat_natCast,w4,dh] at vc
 obtain ⟨L,hL⟩:∃L,L=n-m+1:=⟨_,rfl⟩
 rw [←hL] at vc
 refine vc _ ?_
 clear vc
 refine hy.rd (m-1) rfl (by omega) fun V1 O=>(gX _ ((aE y).get (by omega))).mono ?_
 rintro r V2 P rfl
 have a3:bS ((ah y)[m-1]'(by omega))<=32:=jY.2 (by have:=(aE y).get (i:=m-1) (by omega);omega)
 obtain ⟨s,hs⟩:∃s:Nat,(32:Int)-(bS ((ah y)[m-1]'(by omega)):Int)=s:=⟨32-bS ((ah y)[m-1]'(by omega)),by omega⟩
 have Nj:s<=32:=by omega
 rw [hs]
 clear hs a3
 refine ⟨_,rfl,fun V3 l3=>(l_ (hy.le (O.trans (P.trans l3))) (by omega) s (by omega)).mono ?_⟩
 rintro r V4 l4 ⟨vp,d,vc,rfl,F⟩
 rw [ae] at F
 refine ⟨_,_,_,rfl,fun V5 l5=>(l_ (hx.le (O.trans (P.trans (l3.trans (l4.trans l5))))) (by omega) s (by omega)).mono ?_⟩
 rintro r V6 l6 ⟨rp,N,rc,rfl,hr⟩
 rw [ae] at hr
 replace F:=F.le (l5.trans l6)
 have a4:=F.len
 have S:=Nat.two_pow_pos s
 have c4:2^s<=4294967296:=Nat.pow_le_pow_right (n:=2) (by omega) Nj
 have Sf:0<y*2^s:=Nat.mul_pos hy0 S
 have c5:(ah (2^s)).length<=2:=aF.2 (by omega)
 have c6:d<=m+2:=by have:=iX (a:=y) (b:=2^s);omega
 have c7:0<d:=by
  rcases Nat.eq_zero_or_pos d with h|h
  ·have:=bC.1 (List.length_eq_zero_iff.1 (a4▸h));omega
  ·exact h
 have G:Ag (x*2^s) (y*2^s) L (x*2^s) L (List.replicate L 0):=by
  refine ⟨by simp,bX.rep _,?_,by simp⟩
  have h1:x<4294967296^n:=by rw [a2];exact aF.1 (Nat.le_refl _)
  have h2:4294967296^(m-1)<=y:=by rw [←tE];omega
  have v:4294967296^(m-1)*4294967296^L<=y*4294967296^L:=Nat.mul_le_mul_right _ h2
  rw [←Nat.pow_add,show m-1+L=n from by omega] at v
  have B:x*2^s<y*4294967296^L*2^s:=Nat.mul_lt_mul_of_pos_right (by omega) S
  have C:y*4294967296^L*2^s=y*2^s*4294967296^L:=by
   generalize 4294967296^L=w
   grind
  omega
 have E:∀{Q R:Nat},x*2^s=y*2^s*Q+R->R<y*2^s->Q=x / y/\R / 2^s=x%y:=fun h1 h2=>K0 h1 h2
 generalize x*2^s=A at *
 generalize y*2^s=W at *
 have w5:i64.wrap ((d:Int)-1)=((d-1:Nat):Int):=by rw [ay (by omega)];omega
 simp only [w5,Int.toNat_natCast]
 refine ⟨_,_,_,rfl,?_⟩
 obtain ⟨top,a5,ZO,ZP,Sy⟩:=Js (W:=W) (n:=d-1) (by omega)
 refine rdG F (d-1) top rfl a5 ?_
 have w6:u64.wrap (top:Int)=top:=aM (by omega)
 simp only [w6]
 refine ⟨by omega,by omega,by omega,fun z V'=>∃R:Nat,RN V' z.1 z.2.1 z.2.2.1 R/\-1<=z.2.2.2.1/\z.2.2.2.1<L/\∃es:List Nat,z.2.2.2.2=aD es/\Ag A W L R (z.2.2.2.1+1).toNat es,fun z=>(z.2.2.2.1+1).toNat,
  ⟨(rp,N,rc,((n-m:Nat):Int),aD (List.replicate L 0)),by (try dsimp only);and_intros<;>first|exact True.intro|rfl,A,hr,by (try dsimp only);omega,by (try dsimp only);omega,_,rfl,?_⟩,?_⟩
 ·(try dsimp only)
  rw [show (((n-m:Nat):Int)+1).toNat=L from by omega]
  exact G
 rintro ⟨rp,N,rc,j,vs⟩ V7 l7 ⟨R,H,a6,a7,es,rfl,o⟩
 dsimp only at H a6 a7 o ⊢
 have c8:=H.len
 refine ⟨by trivial,fun v=>?_,fun v=>?_⟩
 ·have v:0<=j:=by simpa using v
  obtain ⟨j,rfl⟩:=Int.eq_ofNat_of_zero_le v
  have o:Ag A W L R (j+1) es:=o
  have a8:j<L:=by omega
  have T:=LP o.lt
  obtain ⟨hq,U⟩:=o.step a8 Sf
  have w7:i64.wrap ((d:Int)+j)=((d-1+j+1:Nat):Int):=by rw [ay (by omega)];omega
  have w8:i64.wrap (((d-1+j+1:Nat):Int)-1)=((d-1+j:Nat):Int):=by rw [ay (by omega)];omega
  have w9:i64.wrap ((32:Int)*j)=((32*j:Nat):Int):=by rw [ay (by omega)];omega
  have Yc:i64.wrap ((j:Int)-1)=(j:Int)-1:=ay (by omega)
  simp only [w7,w8,w9,Yc,Int.toNat_natCast]
  have T:(ah R).length<=d-1+j+2:=by omega
  have a9:=Ns T
  have hP:0<4294967296^(d-1):=Nat.pow_pos (by omega)
  have hW:0<4294967296^j:=Nat.pow_pos (by omega)
  have hg:=Kp (R:=R) Sy (by omega) hP hW
  rw [←Nat.pow_add] at hg
  have P:=@S1 R (d-1+j)
  have O:=@OX R (d-1+j)
  have l0:=@S0 R (d-1+j)
  have l:∀i (hi:i<(ah R).length),(ah R)[i]<4294967296:=fun i hi=>(aE R).get hi
  generalize R / 4294967296^(d-1+j)=lead at *
  refine ⟨fun z V'=>z=(lead:Int),⟨fun B=>?_,fun B=>?_⟩,?_⟩
  ·have B:d-1+j+1<N:=by simp at B;omega
   refine (H.rd (d-1+j+1) rfl (by omega) ⟨by omega,H.rd (d-1+j) rfl (by omega) ⟨(lead:Int),?_,rfl⟩⟩)
   have X:bB .or .u64 (u64.wrap (u64.wrap (((ah R)[d-1+j+1]'(by omega):Nat):Int)*2^32)) (u64.wrap (((ah R)[d-1+j]'(by omega):Nat):Int))=(lead:Int):=by
    have e3:((2:Int)^32)=4294967296:=by decide
    have g1:=l (d-1+j+1) (by omega)
    have Y:=l (d-1+j) (by omega)
    have:=P (by omega)
    rw [e3,aM (x:=(((ah R)[d-1+j+1]'(by omega):Nat):Int)) (by omega),aM (x:=(((ah R)[d-1+j]'(by omega):Nat):Int)) (by omega),aM (by omega),Ep _ _ g1 Y,this]
    omega
   (try dsimp only);and_intros<;>first|exact True.intro|exact X|rfl
  ·have B:N<=d-1+j+1:=by simp at B;omega
   refine ⟨fun z V'=>z=(lead:Int),⟨fun C=>?_,fun C=>?_⟩,?_⟩
   ·have C:d-1+j<N:=by simp at C;omega
    refine H.rd (d-1+j) rfl (by omega) ⟨(lead:Int),?_,rfl⟩
    have X:u64.wrap (((ah R)[d-1+j]'(by omega):Nat):Int)=(lead:Int):=by
     have Y:=l (d-1+j) (by omega)
     rw [aM (by omega),O (by omega)]
    (try dsimp only);and_intros<;>first|exact True.intro|exact X|rfl
   ·have C:N<=d-1+j:=by simp at C;omega
    have X:(0:Int)=(lead:Int):=by rw [l0 (by omega)];rfl
    refine ⟨(lead:Int),?_,rfl⟩
    (try dsimp only);and_intros<;>first|exact True.intro|exact X|rfl
   ·rintro _ V8 l8 rfl
    refine ⟨by trivial,(lead:Int),?_,rfl⟩
    (try dsimp only);and_intros<;>first|exact True.intro|rfl
  rintro _ V9 Z rfl
  clear P O l0 l
  have RX:(lead:Int).tdiv (top:Int)=((lead / top:Nat):Int):=by rw [Int.tdiv_eq_ediv_of_nonneg (by omega)];omega
  have b0:lead / top<=lead:=Nat.div_le_self _ _
  rw [RX]
  generalize lead / top=lt at *
  obtain ⟨D,a0,PO,WA⟩:∃D:Nat,bV (u64.wrap (lt:Int)) 4294967295=(D:Int)/\D<4294967296/\R / (W*4294967296^j)<=D:=by
   rw [aM (by omega)]
   unfold bV
   split
   ·exact ⟨4294967295,rfl,by omega,by omega⟩
   ·exact ⟨lt,rfl,by omega,hg⟩
  rw [a0]
  clear a0 RX b0 hg a9
  have ZG:0<W*4294967296^j:=Nat.mul_pos Sf hW
  have u:∀g:Nat,g<4294967296->(ah g).length<=1:=fun g hg=>aF.2 (by omega)
  refine ⟨by trivial,by omega,fun iI t=>(dO D (by omega)).mono ?_⟩
  rintro r ie bA ⟨gp,gn,gc,rfl,b5⟩
  refine ⟨_,_,_,rfl,fun lL I=>(cG (F.le (l7.trans (Z.trans (t.trans (bA.trans I))))) (b5.le I) (by have:=u D PO;omega)).mono ?_⟩
  rintro r o_ cg ⟨pp,pn,pc,rfl,Q8⟩
  rw [ae,ae] at Q8
  have J:=fun g=>iX (a:=W) (b:=g)
  refine ⟨_,_,_,rfl,fun mJ c_=>(l_ (Q8.le c_) (by have:=u D PO;have:=J D;omega) (32*j) (by omega)).mono ?_⟩
  rintro r lN dp ⟨tp,tn,tc,rfl,Q9⟩
  rw [ae,O0] at Q9
  have Se:=H.le (Z.trans (t.trans (bA.trans (I.trans (cg.trans (c_.trans dp))))))
  have WO:=F.le (l7.trans (Z.trans (t.trans (bA.trans (I.trans (cg.trans (c_.trans dp)))))))
  refine ⟨_,_,_,rfl,fun z V'=>∃g:Nat,z.1=g/\g<4294967296/\R / (W*4294967296^j)<=g/\RN V' z.2.1 z.2.2.1 z.2.2.2 (W*g*4294967296^j),fun z=>z.1.toNat,
   ⟨((D:Int),tp,tn,tc),by (try dsimp only);and_intros<;>first|exact True.intro|rfl,D,rfl,PO,WA,Q9⟩,?_⟩
  rintro ⟨_,tp,tn,tc⟩ kr cV ⟨g,rfl,b6,b7,ht⟩
  dsimp only at ht ⊢
  have b8:(ah (W*g*4294967296^j)).length<=1099511627776:=by
   have h1:=iX (a:=W*g) (b:=4294967296^j)
   have h2:=BV j
   have v:=J g
   have B:=u g b6
   omega
  refine ⟨by trivial,fun mZ cQ=>(jj (ht.le cQ) (Se.le (cV.trans cQ)) b8 (by omega)).mono ?_⟩
  rintro r pe dF rfl
  refine ⟨_,rfl,fun f=>?_,fun f=>?_⟩
  ·have f:R<W*g*4294967296^j:=by
    have f:0<kZ (W*g*4294967296^j) R:=by simpa using f
    unfold kZ at f
    split at f
    ·omega
    ·split at f
     ·assumption
     ·omega
   have b9:=Kq ZG f
   have c9:0<g:=Nat.lt_of_le_of_lt (Nat.zero_le _) b9
   have e1:u64.wrap ((g:Int)-1)=((g-1:Nat):Int):=by rw [aM (by omega)];omega
   simp only [e1]
   refine fun tj dq=>(dO (g-1) (by omega)).mono ?_
   rintro r yF gy ⟨gp,gn,gc,rfl,c0⟩
   refine ⟨_,_,_,rfl,fun uJ fB=>(cG (WO.le (cV.trans (cQ.trans (dF.trans (dq.trans (gy.trans fB)))))) (c0.le fB) (by have:=u (g-1) (by omega);omega)).mono ?_⟩
   rintro r tm iF ⟨pp,pn,pc,rfl,a1⟩
   rw [ae,ae] at a1
   refine ⟨_,_,_,rfl,fun yx gT=>(l_ (a1.le gT) (by have:=u (g-1) (by omega);have:=J (g-1);omega) (32*j) (by omega)).mono ?_⟩
   rintro r Ik nE ⟨tp,tn,tc,rfl,Zx⟩
   rw [ae,O0] at Zx
   refine ⟨_,_,_,rfl,(((g-1:Nat):Int),tp,tn,tc),?_,by (try dsimp only);and_intros<;>first|exact True.intro|rfl,g-1,rfl,by omega,by omega,Zx⟩
   (try dsimp only);omega
  ·have f:W*g*4294967296^j<=R:=by
    have f:¬0<kZ (W*g*4294967296^j) R:=by simpa using f
    unfold kZ at f
    split at f
    ·omega
    ·split at f
     ·omega
     ·omega
   have K:=F8 ZG f b7
   rw [←K] at U
   have d0:=o.len
   refine ⟨⟨by omega,by omega⟩,by simp;omega,fun Hq mO=>(pj (Se.le (cV.trans (cQ.trans (dF.trans mO)))) (ht.le (cQ.trans (dF.trans mO))) (by omega) (aH f) (by rw [ae,ae];exact f)).mono ?_⟩
   rintro r JB mo ⟨np,nn,nc,rfl,Zy⟩
   rw [ae,ae] at Zy
   have e1:u32.wrap (g:Int)=(g:Int):=q_ (by omega)
   have e2:(aD es).set (0+j*1) (.int .u32 (g:Int))=aD (es.set j g):=by rw [←bE];simp
   simp only [e1]
   refine ⟨_,_,_,rfl,(np,nn,nc,(j:Int)-1,aD (es.set j g)),?_,by (try dsimp only);and_intros<;>first|exact True.intro|rfl|exact e2|(rw [←bE];simp),R-W*g*4294967296^j,Zy,by (try dsimp only);omega,by (try dsimp only);omega,_,rfl,?_⟩
   ·(try dsimp only);omega
   ·(try dsimp only)
    rw [show ((j:Int)-1+1).toNat=j from by omega]
    exact U
 ·have v:j=-1:=by simp at v;omega
  subst v
  have WL:(ah R).length<=1099511627776:=by
   have f:=o.lt
   have f:R<W:=by simpa using f
   have:=aH (Nat.le_of_lt f)
   omega
  intro V8 l8 bk hb
  refine (dB (RD.bI hb o.fo (n:=L) (c:=L) o.len.symm (Nat.le_refl _)) (by have:=o.len;omega)).mono ?_
  rintro r V9 Z ⟨k,rfl,B⟩
  refine ⟨_,_,_,rfl,fun _ iI t=>(Dw (H.le (l8.trans (Z.trans t))) WL s (by omega)).mono ?_⟩
  rintro r ie bA ⟨p2,n2,c2,rfl,C⟩
  rw [ae] at C
  refine ⟨_,_,_,rfl,fun lL I=>⟨_,_,_,_,_,_,rfl,?_,?_⟩⟩
  ·have f:=o.lt
   have M:=o.eq
   have f:R<W:=by simpa using f
   have M:A=W*val es+R:=by simpa using M
   obtain ⟨g1,Y⟩:=E M f
   rw [aO o.fo,g1] at B
   exact B.le (t.trans (bA.trans I))
  ·have f:=o.lt
   have M:=o.eq
   have f:R<W:=by simpa using f
   have M:A=W*val es+R:=by simpa using M
   obtain ⟨g1,Y⟩:=E M f
   rw [Y] at C
   exact C.le I
theorem rF {x:Nat}(h:(ah x).length<=2):x<18446744073709551616:=by
 have:=aF.1 h
 omega
theorem copied {V:View}{b n c:Nat}{ds:List Nat}{sp:List Value}{ty:TypeId}(hd:bX ds)(hn:n=ds.length)(hc:n<=c)(hb:V.bI b (.cells (aD ds++sp).toArray ty (0,0))):RD V (some ⟨b,0,none⟩) n c ds:=by
 refine ⟨hn,hc,fun i v a=>⟨_,rfl,?_⟩,hd,fun e=>nomatch e⟩
 rw [add_zero']
 refine gH hb ?_
 rw [List.getElem?_append_left]
 ·exact a
 ·rcases Nat.lt_or_ge i (aD ds).length with e|e
  ·exact e
  ·rw [List.getElem?_eq_none e] at a;cases a
theorem eW {V:View}{p q:OA}{n c m e:Nat}{x y:Nat}(hx:RN V p n c x)(hy:RN V q m e y)(hm:(ah x).length<=274877906944)(hm':(ah y).length<=274877906944)(hy0:0<y) :
  ab prog 125 #[.slice p n c,.slice q m e] V fun r V'=>∃p1 n1 c1 p2 n2 c2,r=.tuple #[.slice p1 n1 c1,.slice p2 n2 c2]/\RN V' p1 n1 c1 (x / y)/\RN V' p2 n2 c2 (x%y):=by
 have j:=hx.len
 have AR:=hy.len
 have a0:0<m:=by
  rcases Nat.eq_zero_or_pos m with h|h
  ·have:=bC.1 (List.length_eq_zero_iff.1 (AR▸h));omega
  ·exact h
 refine zN p n c q m e V _ fun V1 u=>(mb (hx.le u) (by omega)).mono ?_
 rintro r V2 E rfl
 rw [ae]
 refine ⟨_,_,rfl,fun z V'=>True,⟨fun a=>?_,fun a=>⟨(),by (try dsimp only);and_intros<;>first|exact True.intro|rfl,trivial⟩⟩,?_⟩
 ·have a:n<=2:=by simpa using a
  refine fun V3 l3=>(mb (hy.le (u.trans (E.trans l3))) (by omega)).mono ?_
  rintro r V4 l4 rfl
  rw [ae]
  refine ⟨_,_,rfl,fun f=>?_,fun f=>⟨(),by (try dsimp only);and_intros<;>first|exact True.intro|rfl,trivial⟩⟩
  have f:m<=2:=by simpa using f
  have a1:=rF (x:=x) (by omega)
  have ZS:=rF (x:=y) (by omega)
  rw [if_pos a,if_pos f]
  have hq:x / y<=x:=Nat.div_le_self _ _
  have hr:x%y<y:=Nat.mod_lt _ hy0
  have F:((x:Nat):Int).tdiv (y:Int)=((x / y:Nat):Int):=by rw [Int.tdiv_eq_ediv_of_nonneg (by omega)];omega
  have G:((x:Nat):Int).tmod (y:Int)=((x%y:Nat):Int):=by rw [Int.tmod_eq_emod_of_nonneg (by omega)];omega
  rw [F,G]
  generalize x / y=qq at *
  generalize x%y=rr at *
  have H:u64.wrap (qq:Int)=qq:=aM (by omega)
  rw [H]
  refine ⟨by omega,by omega,fun V5 l5=>(dO qq (by omega)).mono ?_⟩
  rintro r V6 l6 ⟨p1,n1,c1,rfl,I⟩
  refine ⟨_,_,_,rfl,fun V7 l7=>(dO rr (by omega)).mono ?_⟩
  rintro r V8 l8 ⟨p2,n2,c2,rfl,K⟩
  exact ⟨_,_,_,rfl,fun V9 Y=>⟨_,_,_,_,_,_,rfl,I.le (l7.trans (l8.trans Y)),K.le Y⟩⟩
 rintro _ iI w _
 replace hx:=hx.le (u.trans (E.trans w))
 replace hy:=hy.le (u.trans (E.trans w))
 refine ⟨by trivial,fun ie B=>(jj (hx.le B) (hy.le B) (by omega) (by omega)).mono ?_⟩
 rintro r lL Z rfl
 replace hx:=hx.le (B.trans Z)
 replace hy:=hy.le (B.trans Z)
 refine ⟨_,rfl,fun a=>⟨aD (ah x),hx.sl,by simp [j],by omega,by omega,by simp,by simp [j],?_,?_⟩,fun a=>⟨fun f=>?_,fun f=>?_⟩⟩
 ·intro v g
  simp only [aD,List.mem_map] at g
  obtain ⟨d,-,rfl⟩:=g
  rfl
 ·have a:x<y:=by simpa [gK] using a
  intro bk J sp c' f h2 V1 u b C
  rw [Nat.div_eq_of_lt a,Nat.mod_eq_of_lt a]
  refine ⟨_,_,_,_,_,_,rfl,RD.nil,?_⟩
  simp only [Nat.zero_add,Nat.zero_mul,List.take_zero,List.nil_append] at C f ⊢
  exact copied (aE x) j f C
 ·have a:y<=x:=by simpa [←Int.not_lt,gK] using a
  have f:m=1:=by simp at f;omega
  subst f
  obtain ⟨d,D⟩:=mr (ds:=ah y) (by omega)
  have L:d=y:=by have:=ae y;rw [D] at this;simpa using this
  subst L
  have M:d<4294967296:=by have:=aE d;rw [D] at this;exact (bX.cons.1 this).1
  try unfold RN at hy
  rw [D] at hy
  have a2:0<n:=by have:=aH a;omega
  have w1:i64.wrap ((n:Int)-1)=(n:Int)-1:=ay (by omega)
  simp only [w1,Int.toNat_natCast,dh]
  have yy:=aE x
  have SE:=ae x
  try unfold RN at hx
  clear D
  rw [←SE]
  clear SE a
  generalize ah x=xs at *
  refine ⟨by omega,by omega,by omega,fun z V'=>0<=z.1/\z.1<d/\-1<=z.2.1/\z.2.1<n/\∃es:List Nat,z.2.2=aD es/\es.length=n/\bX es /\
   val (xs.drop (z.2.1+1).toNat)=d*val (es.drop (z.2.1+1).toNat)+z.1.toNat,fun z=>(z.2.1+1).toNat,
   ⟨(0,(n:Int)-1,aD (List.replicate n 0)),by (try dsimp only);and_intros<;>first|exact True.intro|rfl,by (try dsimp only);omega,by (try dsimp only);omega,by (try dsimp only);omega,by (try dsimp only);omega,_,rfl,by simp,bX.rep _,?_⟩,?_⟩
  ·(try dsimp only)
   rw [List.drop_of_length_le (by omega),List.drop_of_length_le (by simp)];rfl
  rintro ⟨rest,i,vs⟩ mJ N ⟨A,O,P,Q,es,rfl,R,o,g⟩
  dsimp only at A O P Q g ⊢
  obtain ⟨rest,rfl⟩:=Int.eq_ofNat_of_zero_le A
  refine ⟨by trivial,fun s=>?_,fun s=>?_⟩
  ·have s:0<=i:=by simpa using s
   obtain ⟨i,rfl⟩:=Int.eq_ofNat_of_zero_le s
   have S:((i:Int)+1).toNat=i+1:=by omega
   rw [S] at g
   simp only [Int.toNat_natCast] at g ⊢
   have Wy:=yy.get (i:=i) (by omega)
   refine (hx.le N).rd i rfl (by omega) (EB (hy.le N) (by simp) fun lN T=>(MP rest xs[i] d (by omega) Wy M).mono ?_)
   rintro r kr cV rfl
   have hq:(rest*4294967296+xs[i]) / d<4294967296:=by
    rw [Nat.div_lt_iff_lt_mul (by omega)]
    have:rest+1<=d:=by omega
    have:=Nat.mul_le_mul_right 4294967296 this
    rw [Nat.mul_comm 4294967296 d]
    omega
   have hr:(rest*4294967296+xs[i])%d<d:=Nat.mod_lt _ (by omega)
   have F9:=Nat.div_add_mod (rest*4294967296+xs[i]) d
   generalize (rest*4294967296+xs[i]) / d=q at *
   generalize (rest*4294967296+xs[i])%d=r at *
   have w2:i64.wrap ((i:Int)-1)=(i:Int)-1:=ay (by omega)
   simp only [w2]
   refine ⟨_,_,rfl,⟨by omega,by omega⟩,by simp;omega,((r:Int),(i:Int)-1,aD (es.set i q)),?_,?_,?_⟩
   ·(try dsimp only);omega
   ·(try dsimp only);and_intros<;>first|exact True.intro|rfl|(rw [←bE];simp)
   ·(try dsimp only)
    refine ⟨by omega,by omega,by omega,by omega,_,rfl,by simpa using R,o.set _ _ (by omega),?_⟩
    have U:((i:Int)-1+1).toNat=i:=by omega
    rw [U,List.drop_eq_getElem_cons (by omega),List.drop_eq_getElem_cons (l:=es.set i q) (by simp;omega),List.getElem_set_self,List.drop_set_of_lt (by omega)]
    have h9:xs[i]+4294967296*val (List.drop (i+1) xs)=d*(q+4294967296*val (List.drop (i+1) es))+r:=xi g F9
    rw [bo,bo,Int.toNat_natCast]
    exact h9
  ·have s:i=-1:=by simp at s;omega
   subst s
   simp only [Int.toNat_natCast] at g
   have g:val xs=d*val es+rest:=by simpa using g
   intro mZ cQ bk C
   refine (dB (RD.bI C o (n:=n) (c:=n) (by omega) (Nat.le_refl _)) (by omega)).mono ?_
   rintro r pe dF ⟨k,rfl,h4⟩
   refine ⟨_,_,_,rfl,fun _ tj dq W t=>?_⟩
   have t:tj.bI W (.cells (aD [rest]).toArray 188 (0,0)):=by
    simpa [aD] using t
   refine (dB (RD.bI t (n:=1) (c:=1) (by simp [bX];omega) rfl (Nat.le_refl _)) (by simp)).mono ?_
   rintro r yF gy ⟨k2,rfl,X⟩
   refine ⟨_,_,_,rfl,fun _ uJ fB=>⟨_,_,_,_,_,_,rfl,?_,?_⟩⟩
   ·have F:val xs / d=val es:=by rw [g,Nat.mul_add_div (by omega),Nat.div_eq_of_lt (by omega),Nat.add_zero]
    rw [aO o] at h4
    rw [F]
    exact h4.le (dq.trans (gy.trans fB))
   ·have G:val xs%d=rest:=by rw [g,Nat.mul_add_mod,Nat.mod_eq_of_lt (by omega)]
    rw [aO (by simp [bX];omega)] at X
    have H:val [rest]=rest:=by simp
    rw [H] at X
    rw [G]
    exact X.le fB
 ·have a:y<=x:=by simpa [←Int.not_lt,gK] using a
  refine fun o_ cg=>(FQ (hx.le cg) (hy.le cg) hm hy0 (aH a)).mono ?_
  rintro r mJ N ⟨p1,n1,c1,p2,n2,c2,rfl,I,K⟩
  exact ⟨_,_,_,_,_,_,rfl,fun lN T=>⟨_,_,_,_,_,_,rfl,I.le T,K.le T⟩⟩
theorem lY {V:View}{p q:OA}{n c m e:Nat}{x y:Nat}(hx:RN V p n c x)(hy:RN V q m e y)(hm:(ah x).length<=274877906944)(hm':(ah y).length<=274877906944) :
  ab prog 124 #[.slice p n c,.slice q m e] V fun r V'=>∃p1 n1 c1,r=.slice p1 n1 c1/\RN V' p1 n1 c1 (Nat.gcd x y):=by
 have L:=hx.len
 have AR:=hy.len
 refine zM p n c q m e V _ fun M t=>(mb (hx.le t) (by omega)).mono ?_
 rintro r V2 B rfl
 rw [ae]
 refine ⟨_,_,rfl,fun z V'=>True,⟨fun w=>?_,fun w=>⟨(),by (try dsimp only);and_intros<;>first|exact True.intro|rfl,trivial⟩⟩,?_⟩
 ·have w:n<=2:=by simpa using w
  refine fun V3 N=>(mb (hy.le (t.trans (B.trans N))) (by omega)).mono ?_
  rintro r V4 l4 rfl
  rw [ae]
  refine ⟨_,_,rfl,fun j=>?_,fun j=>⟨(),by (try dsimp only);and_intros<;>first|exact True.intro|rfl,trivial⟩⟩
  have j:m<=2:=by simpa using j
  have C:=rF (x:=x) (by omega)
  have O:=rF (x:=y) (by omega)
  rw [if_pos w,if_pos j]
  refine ⟨fun z V'=>∃a b:Nat,z=((a:Int),(b:Int))/\a<18446744073709551616/\b<18446744073709551616/\Nat.gcd a b=Nat.gcd x y,fun z=>z.2.toNat,
   ⟨((x:Int),(y:Int)),by (try dsimp only);and_intros<;>first|exact True.intro|rfl,x,y,rfl,C,O,rfl⟩,?_⟩
  rintro _ V5 l5 ⟨a,b,rfl,s,g,l⟩
  dsimp only
  refine ⟨by trivial,fun f=>?_,fun f=>?_⟩
  ·have f:0<b:=by simpa using f
   have P:(a:Int).tmod (b:Int)=((a%b:Nat):Int):=by rw [Int.tmod_eq_emod_of_nonneg (by omega)];omega
   have A:a%b<b:=Nat.mod_lt _ f
   refine ⟨by omega,((b:Int),((a%b:Nat):Int)),?_,by (try dsimp only);and_intros<;>first|exact True.intro|rfl|exact P,b,a%b,rfl,g,by omega,?_⟩
   ·(try dsimp only);simp only [Int.toNat_natCast];exact A
   ·rw [←l,Nat.gcd_comm a b,Nat.gcd_rec b a,Nat.gcd_comm]
  ·have f:b=0:=by simp at f;omega
   subst f
   rw [Nat.gcd_zero_right] at l
   refine fun V6 l6=>(dO a s).mono ?_
   rintro r V7 l7 ⟨p1,n1,c1,rfl,D⟩
   rw [l] at D
   exact ⟨_,_,_,rfl,fun V8 Q=>⟨_,_,_,rfl,D.le Q⟩⟩
 rintro _ V9 I _
 replace hx:=hx.le (t.trans (B.trans I))
 replace hy:=hy.le (t.trans (B.trans I))
 refine ⟨by trivial,fun z k V'=>∃a b:Nat,RN V' z.1 z.2.1 z.2.2.1 a/\RN V' z.2.2.2.1 z.2.2.2.2.1 z.2.2.2.2.2 b/\b=k/\(ah a).length<=274877906944/\(ah b).length<=274877906944/\Nat.gcd a b=Nat.gcd x y,
  ⟨(p,n,c,q,m,e),y,by (try dsimp only);and_intros<;>first|exact True.intro|rfl,x,y,hx,hy,rfl,hm,hm',rfl⟩,?_⟩
 rintro ⟨ap,an,ac,R,E,S⟩ _ iI T ⟨a,b,s,g,rfl,F,u,l⟩
 dsimp only at s g ⊢
 have o:=s.len
 have G:=g.len
 refine ⟨by trivial,fun f=>?_,fun f=>?_⟩
 ·have f:0<E:=by simpa using f
  have i:0<b:=by
   rcases Nat.eq_zero_or_pos b with h|h
   ·subst h;simp at G;omega
   ·exact h
  refine fun ie H=>(eW (s.le H) (g.le H) F u i).mono ?_
  rintro r lL U ⟨p1,n1,c1,W,X,Y,rfl,D,Z⟩
  have A:a%b<b:=Nat.mod_lt _ i
  have a0:=aH (Nat.le_of_lt A)
  refine ⟨_,_,_,_,_,_,rfl,(R,E,S,W,X,Y),a%b,A,by (try dsimp only);and_intros<;>first|exact True.intro|rfl,b,a%b,g.le (H.trans U),Z,rfl,u,by omega,?_⟩
  rw [←l,Nat.gcd_comm a b,Nat.gcd_rec b a,Nat.gcd_comm]
 ·have f:E=0:=by simp at f;omega
  have i:b=0:=bC.1 (List.length_eq_zero_iff.1 (by omega))
  subst i
  rw [Nat.gcd_zero_right] at l
  rw [←l]
  refine ⟨aD (ah a),s.sl,by simp [o],by omega,by omega,by simp,by simp [o],?_,?_⟩
  ·intro v K
   simp only [aD,List.mem_map] at K
   obtain ⟨d,-,rfl⟩:=K
   rfl
  ·intro bk J sp c' j h2 M t b g
   refine ⟨_,_,_,rfl,?_⟩
   simp only [Nat.zero_add,Nat.zero_mul,List.take_zero,List.nil_append] at g j ⊢
   exact copied (aE a) o j g
end Go.Proofs.Tryz
namespace Go.fR
def aY (b:Bool)(ds:List Nat):Int:=if b then -(val ds:Int) else val ds
end Go.fR
namespace Go.bM
open Go.fR
def RI (V:View)(v:Value)(z:Int):Prop:=∃p n c,v=.agg #[.bool (decide (z<0)),.slice p n c]/\RD V p n c (ah z.natAbs)
theorem RI.le {V V':View}{v:Value}{z:Int}(h:RI V v z)(l:V.Le V'):RI V' v z:=by
 obtain ⟨p,n,c,e,h⟩:=h;exact ⟨p,n,c,e,h.le l⟩
theorem RI.mk {V:View}{b:Bool}{p:OA}{n c:Nat}{z:Int}(hb:b=decide (z<0))(h:RD V p n c (ah z.natAbs)):RI V (.agg #[.bool b,.slice p n c]) z:=⟨p,n,c,by rw [hb],h⟩
theorem RI.zero {V:View}:RI V (.agg #[.bool false,.slice none 0 0]) 0:=⟨_,_,_,rfl,RD.nil⟩
end Go.bM
namespace Go.Proofs.Tryz
open Go.bM Go.fR
theorem kR {n:Nat}:bS n=0↔n=0:=by
 unfold bS;split<;>simp_all
theorem eL (b:Bool)(ds:List Nat):(aY b ds).natAbs=val ds:=by unfold aY;cases b<;>simp
theorem D6 (b:Bool)(ds:List Nat):aY b ds<0↔b=true/\val ds≠0:=by
 unfold aY;cases b
 ·simp
 ·simp;omega
theorem aG (z:Int):aY (decide (z<0)) (ah z.natAbs)=z:=by
 unfold aY;rw [ae]
 by_cases h:z<0
 ·rw [decide_eq_true h,if_pos rfl];omega
 ·rw [decide_eq_false h,if_neg (by decide)];omega
theorem KC (b:Bool)(ds:List Nat):aY (!b) ds=-aY b ds:=by unfold aY;cases b<;>simp
theorem pt (ds:List Nat):aY false ds=val ds:=rfl
theorem gN {x n:Nat}(h:n=(ah x).length):0<n↔x≠0:=by
 rw [h]
 constructor
 ·intro a b;subst b;simp at a
 ·intro a
  rcases Nat.eq_zero_or_pos (ah x).length with e|e
  ·exact absurd (bC.1 (List.length_eq_zero_iff.1 e)) a
  ·exact e
theorem kV {V:View}(b:Bool){p:OA}{n c x:Nat}(h:RN V p n c x) :
  ab prog 227 #[.bool b,.slice p n c] V fun r V'=>RI V' r (if b then -(x:Int) else x):=by
 have f:=gN h.len
 refine rC b p n c V _ ⟨fun a e d=>?_,fun a e d=>?_⟩
 ·rw [if_pos a]
  refine RI.mk ?_ ?_
  ·rw [Bool.eq_iff_iff,decide_eq_true_eq,decide_eq_true_eq]
   omega
  ·rw [Int.natAbs_neg,Int.natAbs_natCast];exact h.le d
 ·rw [a,if_neg (by decide)]
  refine RI.mk ?_ ?_
  ·symm;rw [decide_eq_false_iff_not];omega
  ·rw [Int.natAbs_natCast];exact h.le d
theorem jv {V:View}(b:Bool){p:OA}{n c:Nat}{ds:List Nat}(h:RD V p n c ds)(hm:ds.length<=1099511627776) :
  ab prog 186 #[.agg #[.bool b,.slice p n c]] V fun r V'=>RI V' r (aY b ds):=by
 refine uu b p n c V _ fun j g=>(jx (h.le g) hm).mono ?_
 rintro r V2 k ⟨l,m,o,rfl,a⟩
 have q:=gN a.len
 have f:=D6 b ds
 refine ⟨_,_,_,rfl,fun d i e=>RI.mk ?_ ?_,fun d i e=>RI.mk ?_ ?_⟩
 ·rw [Bool.eq_iff_iff,decide_eq_true_eq,decide_eq_true_eq,f]
  simp [d];omega
 ·rw [eL];exact a.le e
 ·symm;rw [decide_eq_false_iff_not,f];simp [d]
 ·rw [eL];exact a.le e
def mS (b:Bool)(ds:List Nat):Bool:=decide (ah (val ds)=ds)&&(!b||decide (ds≠[]))
theorem gZ {V:View}(b:Bool){p:OA}{n c:Nat}{ds:List Nat}(h:RD V p n c ds)(hm:ds.length<=1099511627776) :
  ab prog 174 #[.agg #[.bool b,.slice p n c]] V fun r V'=>r=.bool (mS b ds):=by
 refine rB b p n c V _ fun m j=>(BI (h.le j) hm).mono ?_
 rintro r V2 o rfl
 refine ⟨_,rfl,fun d=>⟨fun a f g=>?_,fun a f g=>?_⟩,fun d f g=>?_⟩
 ·simp [mS,d];simp at a;simp [a]
 ·have k:=h.len
  simp [mS,d];simp at a;simp [a]
  rw [Bool.eq_iff_iff,decide_eq_true_eq]
  simp
  constructor
  ·intro i l;subst l;simp at k;omega
  ·intro i
   rcases Nat.eq_zero_or_pos ds.length with e|e
   ·exact absurd (List.length_eq_zero_iff.1 e) i
   ·omega
 ·simp [mS,d]
theorem j8 {V:View}(n:Int)(h0:-9223372036854775808<=n)(h1:n<=9223372036854775807) :
  ab prog 187 #[.int .i64 n] V fun r V'=>RI V' r n:=by
 refine pM n V _ ⟨fun a d f=>?_,fun a d f=>?_⟩
 ·have a:n<0:=by simpa using a
  have e:u64.wrap (0-u64.wrap n)=-n:=by rw [sN,sN];omega
  rw [e]
  refine (eG _ (by omega) (by omega)).mono ?_
  rintro r V2 g ⟨h,i,j,rfl,b⟩
  refine ⟨_,_,_,rfl,fun k c=>⟨_,_,_,rfl,?_⟩⟩
  rw [show n.natAbs=(-n).toNat from by omega];exact b.le c
 ·have a:0<=n:=by simpa using a
  rw [aM (by omega)]
  refine (eG _ (by omega) (by omega)).mono ?_
  rintro r V2 g ⟨h,i,j,rfl,b⟩
  refine ⟨_,_,_,rfl,fun k c=>⟨_,_,_,rfl,?_⟩⟩
  rw [show n.natAbs=n.toNat from by omega];exact b.le c
theorem ng {V:View}(b:Bool){p:OA}{n c:Nat}{ds:List Nat}(h:RD V p n c ds)(hm:ds.length<=1099511627776) :
  ab prog 185 #[.agg #[.bool b,.slice p n c]] V fun r V'=>r=.int .i64 (aY b ds).sign:=by
 refine uv b p n c V _ fun l k=>(jw (h.le k) hm).mono ?_
 rintro r V2 m rfl
 have f:(aY b ds)=0↔val ds=0:=by rw [←eL b ds];omega
 have g:=D6 b ds
 refine ⟨_,rfl,fun a i j=>?_,fun a=>⟨fun d i j=>?_,fun d i j=>?_⟩⟩
 ·have:val ds=0:=kR.1 (by simp at a;omega)
  rw [f.2 this];rfl
 ·have:val ds≠0:=fun e=>by simp [kR.2 e] at a
  rw [Int.sign_eq_neg_one_of_neg (g.2 ⟨d,this⟩)]
 ·have:val ds≠0:=fun e=>by simp [kR.2 e] at a
  have:0<aY b ds:=by
   have:=f
   have:¬aY b ds<0:=by rw [g];simp [d]
   omega
  rw [Int.sign_eq_one_of_pos this]
theorem yI {V:View}(b:Bool){p:OA}{n c:Nat}{ds:List Nat}(h:RD V p n c ds)(hm:ds.length<=1099511627776) :
  ab prog 193 #[.agg #[.bool b,.slice p n c]] V fun r V'=>RI V' r (-aY b ds):=by
 refine xO b p n c V _ fun f d=>(jv (!b) (h.le d) hm).mono ?_
 rintro r V2 g ⟨i,j,k,rfl,a⟩
 rw [KC] at a ⊢
 exact ⟨_,_,_,_,rfl,fun l e=>⟨_,_,_,rfl,a.le e⟩⟩
theorem ig {V:View}(b1 b2:Bool){p q:OA}{n c m e:Nat}{xa xb:List Nat}(ha:RD V p n c xa)(hb:RD V q m e xb)(hm:xa.length+xb.length<=1099511627776) :
  ab prog 214 #[.agg #[.bool b1,.slice p n c],.agg #[.bool b2,.slice q m e]] V fun r V'=>RI V' r (aY b1 xa*aY b2 xb):=by
 refine xN b1 p n c b2 q m e V _ fun i a=>(g_ (ha.le a) (hb.le a) hm).mono ?_
 rintro r V2 j ⟨k,l,o,rfl,d⟩
 refine ⟨_,_,_,rfl,fun s f=>(kV _ (d.le f)).mono ?_⟩
 rintro r t u ⟨v,w,x,rfl,b⟩
 have g:(if (!(b1==b2))=true then -((val xa*val xb:Nat):Int) else ((val xa*val xb:Nat):Int))=aY b1 xa*aY b2 xb:=by
  unfold aY;cases b1<;>cases b2<;>simp [Int.neg_mul,Int.mul_neg]
 rw [g] at b ⊢
 exact ⟨_,_,_,_,rfl,fun y h=>⟨_,_,_,rfl,b.le h⟩⟩
theorem yH {V:View}(b1 b2:Bool){p q:OA}{n c m e:Nat}{xa xb:List Nat}(ha:RD V p n c xa)(hb:RD V q m e xb)(hm:xa.length<=1099511627776)(hn:xb.length<=1099511627776) :
  ab prog 213 #[.agg #[.bool b1,.slice p n c],.agg #[.bool b2,.slice q m e]] V fun r V'=>RI V' r (aY b1 xa+aY b2 xb):=by
 have fin:∀{b:Bool} {x:Nat} {i:View} {j:OA} {k l:Nat},RN i j k l x->(if b then -(x:Int) else x)=aY b1 xa+aY b2 xb ->
   ab prog 227 #[.bool b,.slice j k l] i fun r V'=>∃(JQ:Bool)(Lq:OA)(K8 JX:Nat),r=.agg #[.bool JQ,.slice Lq K8 JX]/\∀o:View,V'.Le o->RI o (.agg #[.bool JQ,.slice Lq K8 JX]) (aY b1 xa+aY b2 xb):=by
  intro b x i j k l h he
  refine (kV b h).mono ?_
  rintro r v w ⟨y,z,A,rfl,a⟩
  rw [he] at a ⊢
  exact ⟨_,_,_,_,rfl,fun B s=>⟨_,_,_,rfl,a.le s⟩⟩
 refine xM b1 p n c b2 q m e V _ ⟨fun f i d=>(Iw (ha.le d) (hb.le d) hm hn).mono ?_,fun f i d=>(Ay (ha.le d) (hb.le d) hm hn).mono ?_⟩
 ·rintro r V2 t ⟨j,k,l,rfl,u⟩
  have f:b1=b2:=by simpa using f
  subst f
  exact ⟨_,_,_,rfl,fun o g=>fin (u.le g) (by unfold aY;cases b1<;>simp;omega)⟩
 ·rintro r V2 t ⟨j,k,l,rfl,u⟩
  have f:b2=!b1:=by cases b1<;>cases b2<;>simp_all
  subst f
  refine ⟨_,_,_,_,rfl,fun a o g=>fin (u.le g) ?_,fun a o g=>(Ay (hb.le (d.trans (t.trans g))) (ha.le (d.trans (t.trans g))) hn hm).mono ?_⟩
  ·have a:val xb<=val xa:=by simpa using a
   unfold aY;cases b1<;>simp<;>omega
  ·rintro r v w ⟨y,z,A,rfl,C⟩
   have a:val xa<val xb:=by simpa using a
   exact ⟨_,_,_,_,rfl,fun B s=>fin (C.le s) (by unfold aY;cases b1<;>simp<;>omega)⟩
theorem tZ {V:View}(b:Bool){p:OA}{n c:Nat}{ds:List Nat}(h:RD V p n c ds)(hm:ds.length<=1099511627776)(hs:val ds<4611686018427387904) :
  ab prog 220 #[.agg #[.bool b,.slice p n c]] V fun r V'=>r=.tuple #[.int .i64 (aY b ds),.bool true]:=by
 refine sU b p n c V _ fun i g=>(lW (h.le g) hm).mono ?_
 rintro r V2 j rfl
 rw [if_pos (by omega),decide_eq_true (show val ds<18446744073709551616 by omega)]
 refine ⟨_,_,rfl,fun _=>⟨fun d=>⟨fun a k l=>?_,fun a=>?_⟩,fun d=>⟨fun _=>⟨fun a=>⟨fun f m o=>?_,fun f=>?_⟩,fun a=>?_⟩,fun a=>nomatch a⟩⟩,fun d=>nomatch d⟩
 ·subst d
  have e:i64.wrap (u64.wrap (0-(val ds:Int)))=-(val ds:Int):=by
   rw [sN,IntKind.wrap_i64];omega
  rw [e];rfl
 ·simp at a;omega
 ·subst d
  rw [ay (by omega)];rfl
 ·simp at f;omega
 ·simp [d] at a
end Go.Proofs.Tryz
namespace Go.bM
open Go.fR
def Wd (q:Rat):Prop:=q.num.natAbs<4611686018427387904/\q.den<4611686018427387904
def RR (V:View)(v:Value)(q:Rat):Prop:=
 (v=.agg #[.int .i64 q.num,.int .i64 ((q.den:Int)-1),.pointer none]/\Wd q) \/
 (∃a b p n c p' n' c',v=.agg #[.int .i64 0,.int .i64 0,.pointer (some a)]/\V.at (a.add 0) (.bool b)/\V.at (a.add 1) (.slice p n c)/\V.at (a.add 2) (.slice p' n' c') /\
  RI V (.agg #[.bool b,.slice p n c]) q.num/\RD V p' n' c' (ah q.den)/\¬Wd q)
theorem RR.le {V V':View}{v:Value}{q:Rat}(h:RR V v q)(l:V.Le V'):RR V' v q:=by
 rcases h with h|⟨a,b,p,n,c,d,f,g,e,i,j,k,m,o,r⟩
 ·exact .inl h
 ·exact .inr ⟨a,b,p,n,c,d,f,g,e,l.at i,l.at j,l.at k,m.le l,o.le l,r⟩
def Sz (k:Nat)(q:Rat):Prop:=q.num.natAbs<2^k/\q.den<2^k
theorem Sz.mono {k m:Nat}{q:Rat}(h:Sz k q)(hm:k<=m):Sz m q:=
 ⟨Nat.lt_of_lt_of_le h.1 (Nat.pow_le_pow_right (by omega) hm),Nat.lt_of_lt_of_le h.2 (Nat.pow_le_pow_right (by omega) hm)⟩
theorem af {n k:Nat}(h:n<2^k):(ah n).length<=k:=by
 rw [aF]
 exact Nat.lt_of_lt_of_le h (Nat.pow_le_pow_left (by omega) k)
theorem Wd.sz {q:Rat}(h:Wd q):Sz 62 q:=h
theorem RR.shape {V:View}{v:Value}{q:Rat}(h:RR V v q):∃(n d:Int)(p:OA),v=.agg #[.int .i64 n,.int .i64 d,.pointer p]:=by
 rcases h with ⟨e,-⟩|⟨a,b,p,n,c,f,g,i,e,-⟩
 ·exact ⟨_,_,_,e⟩
 ·exact ⟨_,_,_,e⟩
end Go.bM
namespace Go.Proofs.Tryz
open Go.bM Go.fR
theorem Bz (n:Nat):decide ((bS n:Int)<=62)=decide (n<4611686018427387904):=by
 have:=@jY n 62
 rw [Bool.eq_iff_iff,decide_eq_true_eq,decide_eq_true_eq]
 omega
theorem I7 {z:Int}{d:Nat}(hd:d≠0)(hg:Nat.gcd z.natAbs d=1):(mkRat z d).num=z/\(mkRat z d).den=d:=by
 have:Nat.gcd d z.natAbs=1:=by rw [Nat.gcd_comm];exact hg
 rw [Rat.num_mkRat,Rat.den_mkRat,if_neg hd,if_neg hd,this]
 simp
theorem cF {V:View}(b:Bool){p q:OA}{n c m e:Nat}{xs ys:List Nat}(hx:RD V p n c xs)(hy:RD V q m e ys)(hm:xs.length<=1099511627776)(hn:ys.length<=1099511627776) :
  ab prog 190 #[.agg #[.bool b,.slice p n c],.slice q m e] V fun r V'=>RR V' r (mkRat (aY b xs) (val ys)):=by
 have zero:∀V':View,RR V' (.agg #[.int .i64 0,.int .i64 0,.pointer none]) 0:=fun V'=>.inl ⟨rfl,by unfold Wd;decide⟩
 refine xF b p n c q m e V _ fun D h=>(jw (hy.le h) hn).mono ?_
 rintro r V2 o rfl
 refine ⟨_,rfl,fun M E N=>?_,fun M O s=>(ng b (hx.le (h.trans (o.trans s))) hm).mono ?_⟩
 ·have:val ys=0:=kR.1 (by simp at M;omega)
  rw [this,Rat.mkRat_zero];exact zero _
 rintro r t u rfl
 have v:val ys≠0:=fun e=>by simp [kR.2 e] at M
 refine ⟨_,rfl,fun P V6 l6=>?_,fun P V7 l7=>?_⟩
 ·have:aY b xs=0:=Int.sign_eq_zero_iff_zero.1 (by simpa using P)
  rw [this,Rat.zero_mkRat];exact zero _
 have a1:aY b xs≠0:=fun e=>by simp [e] at P
 have y:val xs≠0:=by rw [←eL b xs];omega
 replace hx:=hx.le (h.trans (o.trans (s.trans (u.trans l7))))
 replace hy:=hy.le (h.trans (o.trans (s.trans (u.trans l7))))
 refine (Aw hx hy hm hn).mono ?_
 rintro r V8 l8 ⟨p3,n3,c3,rfl,A⟩
 replace hx:=hx.le l8
 replace hy:=hy.le l8
 have Q:Nat.gcd (val xs) (val ys)<=val ys:=Nat.le_of_dvd (by omega) (Nat.gcd_dvd_right _ _)
 have i:(ah (Nat.gcd (val xs) (val ys))).length<=1099511627776:=Nat.le_trans (aH Q) (by have:=bg hy.fo;omega)
 have R:Nat.gcd (val xs) (val ys)≠0:=by
  intro S;exact y (Nat.eq_zero_of_gcd_eq_zero_left S)
 refine ⟨_,_,_,rfl,fun V9 F=>(jw (A.le F) i).mono ?_⟩
 rintro r iI j rfl
 rw [ae]
 replace hx:=hx.le (F.trans j)
 replace hy:=hy.le (F.trans j)
 replace A:=A.le (F.trans j)
 refine ⟨_,rfl,fun z V'=>∃(us d:List Nat),z.2.2.2.1=b/\RD V' z.2.2.2.2.1 z.2.2.2.2.2.1 z.2.2.2.2.2.2 us/\RD V' z.1 z.2.1 z.2.2.1 d/\us.length<=1099511627776/\d.length<=1099511627776/\val d≠0 /\
  Nat.gcd (val us) (val d)=1/\mkRat (aY b xs) (val ys)=mkRat (aY b us) (val d),⟨fun G ie H=>?_,fun G=>?_⟩,?_⟩
 ·refine (lV (hx.le H) (A.le H) hm i (by rw [ae];exact R)).mono ?_
  rintro r lL bY ⟨p4,n4,c4,p5,n5,c5,rfl,g1,g2⟩
  refine ⟨_,_,_,_,_,_,_,rfl,fun o_ T=>(lV (hy.le (H.trans (bY.trans T))) (A.le (H.trans (bY.trans T))) hn i (by rw [ae];exact R)).mono ?_⟩
  rintro r mJ c_ ⟨p6,n6,c6,p7,n7,c7,rfl,g3,g4⟩
  rw [ae] at g1 g3
  have e1:val (ah (val xs / Nat.gcd (val xs) (val ys)))=val xs / Nat.gcd (val xs) (val ys):=ae _
  have U:val (ah (val ys / Nat.gcd (val xs) (val ys)))=val ys / Nat.gcd (val xs) (val ys):=ae _
  have d1:=Nat.gcd_dvd_left (val xs) (val ys)
  have d2:=Nat.gcd_dvd_right (val xs) (val ys)
  have W:val ys / Nat.gcd (val xs) (val ys)≠0:=by
   intro S
   have:=Nat.div_mul_cancel d2
   rw [S,Nat.zero_mul] at this
   exact v this.symm
  refine ⟨_,_,_,_,_,_,_,rfl,(p6,n6,c6,b,p4,n4,c4),by (try dsimp only);and_intros<;>trivial,_,_,rfl,g1.le (T.trans c_),g3,?_,?_,?_,?_,?_⟩
  ·exact Nat.le_trans (aH (Nat.div_le_self _ _)) (by have:=bg hx.fo;omega)
  ·exact Nat.le_trans (aH (Nat.div_le_self _ _)) (by have:=bg hy.fo;omega)
  ·rw [U];exact W
  ·rw [e1,U];exact Nat.gcd_div_gcd_div_gcd_of_pos_left (by omega)
  ·rw [U]
   have k1:val ys=val ys / Nat.gcd (val xs) (val ys)*Nat.gcd (val xs) (val ys):=(Nat.div_mul_cancel d2).symm
   have k2:aY b xs=aY b (ah (val xs / Nat.gcd (val xs) (val ys)))*(Nat.gcd (val xs) (val ys):Nat):=by
    have k3:(val xs:Int)=((val xs / Nat.gcd (val xs) (val ys):Nat):Int)*(Nat.gcd (val xs) (val ys):Nat):=by
     rw [←Int.natCast_mul,Nat.div_mul_cancel d1]
    unfold aY
    rw [e1]
    cases b
    ·simpa using k3
    ·simp only [if_true];rw [Int.neg_mul,←k3]
   conv=>lhs;rw [k1,k2]
   exact Rat.mkRat_mul_right R
 ·have X:Nat.gcd (val xs) (val ys)=1:=by
   have f:¬(1<bS (Nat.gcd (val xs) (val ys))):=by simp at G;omega
   have:=@jY (Nat.gcd (val xs) (val ys)) 1
   omega
  exact ⟨(q,m,e,b,p,n,c),by (try dsimp only);and_intros<;>trivial,xs,ys,rfl,hx,hy,hm,hn,v,X,rfl⟩
 ·rintro ⟨q,m,e,g,p,n,c⟩ lN dp ⟨us,d,B,hu,I,Y,k,Z,a0,hq⟩
  dsimp only at B hu I ⊢
  subst B
  rw [hq]
  obtain ⟨ub,a⟩:=I7 (z:=aY g us) Z (by rw [eL];exact a0)
  generalize mkRat (aY g us) (val d)=w at *
  have hW:Wd w↔val us<4611686018427387904/\val d<4611686018427387904:=by
   unfold Wd;rw [ub,a,eL]
  have Ow:∀D:View,lN.Le D->¬Wd w->ab prog 186 #[.agg #[.bool g,.slice p n c]] D fun r V2=>∃(JQ:Bool)(Lq:OA)(K8 JX:Nat),r=.agg #[.bool JQ,.slice Lq K8 JX] /\
    (∀E:View,V2.Le E->ab prog 188 #[.slice q m e] E fun r O=>∃(p3_:OA)(n3_ Y2:Nat),r=.slice p3_ n3_ Y2 /\
    (∀t:View,O.Le t->∀J:Nat,t.bI J (.cells #[.bool JQ,.slice Lq K8 JX,.slice p3_ n3_ Y2] 256 (0,0))->RR t (.agg #[.int .i64 0,.int .i64 0,.pointer (some ⟨J,0,none⟩)]) w)):=by
   intro D h hw
   refine (jv g (hu.le h) Y).mono ?_
   rintro r V2 o JF
   obtain ⟨p2,n2,c2,rfl,G⟩:=JF
   have JF:RI V2 (.agg #[.bool (decide (aY g us<0)),.slice p2 n2 c2]) (aY g us):=⟨_,_,_,rfl,G⟩
   refine ⟨_,_,_,_,rfl,fun E N=>(jx (I.le (h.trans (o.trans N))) k).mono ?_⟩
   rintro r O s ⟨p3,n3,c3,rfl,f⟩
   refine ⟨_,_,_,rfl,fun t u J hb=>.inr ⟨⟨J,0,none⟩,decide (aY g us<0),p2,n2,c2,p3,n3,c3,rfl,?_,?_,?_,?_,?_,hw⟩⟩
   ·rw [add_zero'];exact gH (xs:=[_,_,_]) hb rfl
   ·rw [add_zero'];exact gH (xs:=[_,_,_]) hb rfl
   ·rw [add_zero'];exact gH (xs:=[_,_,_]) hb rfl
   ·rw [ub];exact JF.le (N.trans (s.trans u))
   ·rw [a];exact f.le u
  refine ⟨by trivial,fun kr l=>(jw (hu.le l) Y).mono ?_⟩
  rintro r mZ C rfl
  refine ⟨_,rfl,fun f pe K=>(jw (I.le (l.trans (C.trans K))) k).mono ?_,fun f Mv AX=>Ow Mv (l.trans (C.trans AX)) ?_⟩
  ·rintro r tj dq rfl
   rw [Bz,decide_eq_true_eq] at f
   refine ⟨_,rfl,fun L yF gy=>?_,fun L Hq mO=>Ow Hq (l.trans (C.trans (K.trans (dq.trans mO)))) ?_⟩
   ·rw [Bz,decide_eq_true_eq] at L
    refine (tZ g (hu.le (l.trans (C.trans (K.trans (dq.trans gy))))) Y f).mono ?_
    rintro r uJ fB rfl
    refine ⟨_,_,rfl,fun tm iF=>(lW (I.le (l.trans (C.trans (K.trans (dq.trans (gy.trans (fB.trans iF))))))) k).mono ?_⟩
    rintro r yx gT rfl
    rw [if_pos (by omega)]
    refine ⟨_,_,rfl,fun Ik nE=>.inl ⟨?_,hW.2 ⟨f,L⟩⟩⟩
    rw [ay (x:=((val d:Nat):Int)) (by omega),ay (by omega),ub,a]
   ·rw [Bz,decide_eq_false_iff_not] at L
    rw [hW];omega
  ·rw [Bz,decide_eq_false_iff_not] at f
   rw [hW];omega
theorem eH {V:View}(b:Bool){p:OA}{n c x:Nat}(h:RN V p n c x) :
  ab prog 61 #[.bool b,.slice p n c] V fun r V'=>RI V' r (if b then -(x:Int) else x):=by
 have f:=gN h.len
 refine Fc b p n c V _ ⟨fun a e d=>?_,fun a e d=>?_⟩
 ·rw [if_pos a]
  refine RI.mk ?_ ?_
  ·rw [Bool.eq_iff_iff,decide_eq_true_eq,decide_eq_true_eq]
   omega
  ·rw [Int.natAbs_neg,Int.natAbs_natCast];exact h.le d
 ·rw [a,if_neg (by decide)]
  refine RI.mk ?_ ?_
  ·symm;rw [decide_eq_false_iff_not];omega
  ·rw [Int.natAbs_natCast];exact h.le d
theorem jF {V:View}{b:Bool}{p:OA}{n c x:Nat}{z:Int}(h:RN V p n c x)(hz:(if b then -(x:Int) else x)=z) :
  ab prog 61 #[.bool b,.slice p n c] V fun r V'=>∃(JQ:Bool)(Lq:OA)(K8 JX:Nat),r=.agg #[.bool JQ,.slice Lq K8 JX]/\∀V3:View,V'.Le V3->RI V3 (.agg #[.bool JQ,.slice Lq K8 JX]) z:=by
 refine (eH b h).mono ?_
 rintro r V2 d ⟨e,f,i,rfl,g⟩
 rw [hz] at g ⊢
 exact ⟨_,_,_,_,rfl,fun V3 a=>⟨_,_,_,rfl,g.le a⟩⟩
theorem Az {V:View}(n:Int)(h0:-9223372036854775808<=n)(h1:n<=9223372036854775807) :
  ab prog 126 #[.int .i64 n] V fun r V'=>RI V' r n:=by
 refine G_ n V _ ⟨fun a d f=>?_,fun a d f=>?_⟩
 ·have a:n<0:=by simpa using a
  have e:u64.wrap (0-u64.wrap n)=((-n).toNat:Int):=by rw [sN,sN];omega
  rw [e]
  refine (dO _ (by omega)).mono ?_
  rintro r V2 g ⟨h,i,j,rfl,b⟩
  exact ⟨_,_,_,rfl,fun k c=>jF (b.le c) (by simp;omega)⟩
 ·have a:0<=n:=by simpa using a
  have e:u64.wrap n=(n.toNat:Int):=by rw [aM (by omega)];omega
  rw [e]
  refine (dO _ (by omega)).mono ?_
  rintro r V2 g ⟨h,i,j,rfl,b⟩
  exact ⟨_,_,_,rfl,fun k c=>jF (b.le c) (by simp;omega)⟩
theorem vH {V:View}(z:Int){p:OA}{n c:Nat}(h:RN V p n c z.natAbs) :
  ab prog 104 #[.agg #[.bool (decide (z<0)),.slice p n c]] V fun r V'=>r=.int .i64 z.sign:=by
 have f:=gN h.len
 refine Fh _ p n c V _ ⟨fun b d e=>?_,fun b=>⟨fun a d e=>?_,fun a d e=>?_⟩⟩
 ·have:z=0:=by simp at b;omega
  rw [this];rfl
 ·rw [decide_eq_true_eq] at a
  rw [Int.sign_eq_neg_one_of_neg a]
 ·rw [decide_eq_false_iff_not] at a
  have:0<z:=by simp at b;omega
  rw [Int.sign_eq_one_of_pos this]
theorem iw {V:View}(z:Int){p:OA}{n c:Nat}(h:RN V p n c z.natAbs) :
  ab prog 103 #[.agg #[.bool (decide (z<0)),.slice p n c]] V fun r V'=>RI V' r (-z):=by
 refine CL _ p n c V _ fun d a=>jF (h.le a) ?_
 by_cases b:z<0<;>simp [b]<;>omega
theorem kW {V:View}(z w:Int){p q:OA}{n c m e:Nat}(ha:RN V p n c z.natAbs)(hb:RN V q m e w.natAbs)(hm:(ah z.natAbs).length+(ah w.natAbs).length<=1099511627776) :
  ab prog 109 #[.agg #[.bool (decide (z<0)),.slice p n c],.agg #[.bool (decide (w<0)),.slice q m e]] V fun r V'=>RI V' r (z*w):=by
 refine Hb _ p n c _ q m e V _ fun h a=>(cG (ha.le a) (hb.le a) hm).mono ?_
 rintro r V2 i ⟨j,k,l,rfl,b⟩
 rw [ae,ae] at b
 refine ⟨_,_,_,rfl,fun o d=>jF (b.le d) ?_⟩
 have f:z=aY (decide (z<0)) (ah z.natAbs):=(aG z).symm
 have g:w=aY (decide (w<0)) (ah w.natAbs):=(aG w).symm
 conv=>rhs;rw [f,g]
 unfold aY
 rw [ae,ae]
 cases decide (z<0)<;>cases decide (w<0)<;>simp [Int.neg_mul,Int.mul_neg]
theorem rQ {V:View}(z w:Int){p q:OA}{n c m e:Nat}(ha:RN V p n c z.natAbs)(hb:RN V q m e w.natAbs)(hm:(ah z.natAbs).length<=1099511627776)(hn:(ah w.natAbs).length<=1099511627776) :
  ab prog 108 #[.agg #[.bool (decide (z<0)),.slice p n c],.agg #[.bool (decide (w<0)),.slice q m e]] V fun r V'=>RI V' r (z+w):=by
 refine G7 _ p n c _ q m e V _ ⟨fun i t a=>(Iz (ha.le a) (hb.le a) hm hn).mono ?_,fun i t a=>(jj (ha.le a) (hb.le a) hm hn).mono ?_⟩
 ·rintro r V2 g ⟨k,l,o,rfl,b⟩
  rw [ae,ae] at b
  refine ⟨_,_,_,rfl,fun s d=>jF (b.le d) ?_⟩
  by_cases h:z<0<;>by_cases hw:w<0<;>simp [h,hw] at i⊢<;> omega
 ·rintro r V2 g rfl
  refine ⟨_,rfl,fun f s d=>?_,fun f s d=>?_⟩
  ·have f:z.natAbs<w.natAbs:=by simpa [gK] using f
   refine (pj (hb.le (a.trans (g.trans d))) (ha.le (a.trans (g.trans d))) hn (aH (Nat.le_of_lt f)) (by rw [ae,ae];omega)).mono ?_
   rintro r u v ⟨k,l,o,rfl,b⟩
   rw [ae,ae] at b
   refine ⟨_,_,_,rfl,fun x j=>jF (b.le j) ?_⟩
   by_cases h:z<0<;>by_cases hw:w<0<;>simp [h,hw] at i⊢<;> omega
  ·have f:w.natAbs<=z.natAbs:=by simpa [←Int.not_lt,gK] using f
   refine (pj (ha.le (a.trans (g.trans d))) (hb.le (a.trans (g.trans d))) hm (aH f) (by rw [ae,ae];omega)).mono ?_
   rintro r u v ⟨k,l,o,rfl,b⟩
   rw [ae,ae] at b
   refine ⟨_,_,_,rfl,fun x j=>jF (b.le j) ?_⟩
   by_cases h:z<0<;>by_cases hw:w<0<;>simp [h,hw] at i⊢<;> omega
end Go.Proofs.Tryz
namespace Go.bM
open Go.fR
def ua (d:Nat):List Nat:=if d=1 then [] else ah d
def RQ (V:View)(v:Value)(q:Rat):Prop:=∃p n c p' n' c',v=.agg #[.bool (decide (q.num<0)),.slice p n c,.slice p' n' c'] /\
 RD V p n c (ah q.num.natAbs)/\RD V p' n' c' (ua q.den)
theorem RQ.le {V V':View}{v:Value}{q:Rat}(h:RQ V v q)(l:V.Le V'):RQ V' v q:=by
 obtain ⟨p,n,c,a,b,d,e,f,g⟩:=h
 exact ⟨p,n,c,a,b,d,e,f.le l,g.le l⟩
theorem DM {q:Rat}:ua q.den=[]↔q.den=1:=by
 unfold ua
 split
 ·rename_i h;simp [h]
 ·rename_i h
  rw [bC]
  have:=q.den_nz
  omega
end Go.bM
namespace Go.Proofs.Tryz
open Go.bM Go.fR
theorem nq {V:View}{q:Rat}{p:OA}{n c:Nat}(h:RD V p n c (ua q.den)):n=0↔q.den=1:=by
 rw [←DM,h.len,List.length_eq_zero_iff]
theorem cY {V:View}(q:Rat){p p':OA}{n c n' c':Nat}(b:Bool)(h2:RD V p' n' c' (ua q.den)) :
  ab prog 60 #[.agg #[.bool b,.slice p n c,.slice p' n' c']] V fun r V'=>∃p1 n1 c1,r=.slice p1 n1 c1/\RN V' p1 n1 c1 q.den:=by
 have d:=nq h2
 refine G9 b p n c p' n' c' V _ ⟨fun a h f=>oh.mono ?_,fun a h f=>⟨_,_,_,rfl,?_⟩⟩
 ·rintro r V2 j ⟨p1,n1,c1,rfl,g⟩
  have:q.den=1:=d.1 (by simp at a;omega)
  rw [this]
  exact ⟨_,_,_,rfl,fun k i=>⟨_,_,_,rfl,g.le i⟩⟩
 ·have:q.den≠1:=fun e=>by have:=d.2 e;simp at a;omega
  unfold ua at h2
  rw [if_neg this] at h2
  exact h2.le f
theorem oU {V:View}{q:Rat}{z:Int}{d:Nat}{p p':OA}{n c n' c':Nat}(hn:q.num=z)(hd:q.den=d)(h1:RD V p n c (ah z.natAbs))(h2:RD V p' n' c' (ua d)){b:Bool}(hb:b=decide (z<0)) :
  RQ V (.agg #[.bool b,.slice p n c,.slice p' n' c']) q:=by
 subst hn hd hb
 exact ⟨_,_,_,_,_,_,rfl,h1,h2⟩
theorem jy {V:View}(z:Int){d:Nat}{p q:OA}{n c m e:Nat}(hx:RN V p n c z.natAbs)(hy:RN V q m e d)(hm:(ah z.natAbs).length<=274877906944)(hn:(ah d).length<=274877906944)(hd:d≠0) :
  ab prog 106 #[.agg #[.bool (decide (z<0)),.slice p n c],.slice q m e] V fun r V'=>RQ V' r (mkRat z d):=by
 refine E9 _ p n c q m e V _ fun V1 y=>(lY (hx.le y) (hy.le y) hm hn).mono ?_
 rintro r V2 W ⟨p1,n1,c1,rfl,h⟩
 have I:=Nat.gcd_dvd_right z.natAbs d
 have J:=Nat.gcd_dvd_left z.natAbs d
 have K:0<Nat.gcd z.natAbs d:=Nat.gcd_pos_of_pos_right _ (by omega)
 have i:(ah (Nat.gcd z.natAbs d)).length<=274877906944:=Nat.le_trans (aH (Nat.le_of_dvd (by omega) I)) hn
 have L:(mkRat z d).num=z / (Nat.gcd d z.natAbs:Nat):=by rw [Rat.num_mkRat,if_neg hd]
 have a:(mkRat z d).den=d / Nat.gcd d z.natAbs:=by rw [Rat.den_mkRat,if_neg hd]
 rw [Nat.gcd_comm d] at L a
 generalize hG:Nat.gcd z.natAbs d=g at *
 generalize mkRat z d=w at *
 refine ⟨_,_,_,rfl,fun V3 A=>oh.mono ?_⟩
 rintro r V4 B ⟨p2,n2,c2,rfl,h1⟩
 refine ⟨_,_,_,rfl,fun V5 j=>(jj (h.le (A.trans (B.trans j))) (h1.le j) (by omega) (by decide)).mono ?_⟩
 rintro r V6 M rfl
 replace hx:=hx.le (y.trans (W.trans (A.trans (B.trans (j.trans M)))))
 replace hy:=hy.le (y.trans (W.trans (A.trans (B.trans (j.trans M)))))
 replace h:=h.le (A.trans (B.trans (j.trans M)))
 refine ⟨_,rfl,fun X V7 C=>(eW (hx.le C) (h.le C) hm i K).mono ?_,fun X tj D=>oh.mono ?_⟩
 ·rintro r V8 Y ⟨p4,n4,c4,p5,n5,c5,rfl,Z,-⟩
  have a0:(mkRat z d).num.natAbs=(mkRat z d).num.natAbs:=rfl
  obtain ⟨k,N⟩:=J
  have O:z.natAbs / g=k:=by rw [N,Nat.mul_div_cancel_left _ K]
  rw [O] at Z
  have hz:z=(g:Int)*(if z<0 then -(k:Int) else k):=by
   split
   ·rw [Int.mul_neg,←Int.natCast_mul,←N];omega
   ·rw [←Int.natCast_mul,←N];omega
  have b:w.num=(if z<0 then -(k:Int) else k):=by
   rw [L]
   generalize (if z<0 then -(k:Int) else k)=t at *
   rw [hz,Int.mul_ediv_cancel_left _ (by omega)]
  refine ⟨_,_,_,_,_,_,rfl,fun V9 P=>(eH _ (Z.le P)).mono ?_⟩
  have WC:(if decide (z<0)=true then -(k:Int) else k)=w.num:=by
   rw [b];simp
  rw [WC]
  rintro r iI l ⟨p7,n7,c7,rfl,g2⟩
  refine ⟨_,_,_,_,rfl,fun ie E=>(eW (hy.le (C.trans (Y.trans (P.trans (l.trans E))))) (h.le (C.trans (Y.trans (P.trans (l.trans E))))) hn i K).mono ?_⟩
  rintro r lL bY ⟨p8,n8,c8,p9,n9,c9,rfl,Q,-⟩
  rw [←a] at Q
  refine ⟨_,_,_,_,_,_,rfl,fun o_ F=>oh.mono ?_⟩
  rintro r mJ G ⟨HZ,a1,a2,rfl,R⟩
  have a3:(ah w.den).length<=274877906944:=by rw [a];exact Nat.le_trans (aH (Nat.div_le_self _ _)) hn
  refine ⟨_,_,_,rfl,fun lN o=>(jj (Q.le (F.trans (G.trans o))) (R.le o) (by omega) (by decide)).mono ?_⟩
  rintro r kr S rfl
  refine ⟨_,rfl,fun f mZ T=>oU rfl rfl (g2.le (E.trans (bY.trans (F.trans (G.trans (o.trans (S.trans T))))))) ?_ rfl,fun f pe s=>oU rfl rfl (g2.le (E.trans (bY.trans (F.trans (G.trans (o.trans (S.trans s))))))) ?_ rfl⟩
  ·have:w.den=1:=k_.1 (by simpa using f)
   rw [DM.2 this];exact RD.nil
  ·have:w.den≠1:=fun e=>by rw [k_.2 e] at f;simp at f
   unfold ua
   rw [if_neg this]
   exact Q.le (F.trans (G.trans (o.trans (S.trans s))))
 ·have u:g=1:=k_.1 (by simpa using X)
  have b:w.num=z:=by rw [L,u];simp
  have v:w.den=d:=by rw [a,u];simp
  rintro r yF H ⟨a4,a5,a6,rfl,R⟩
  refine ⟨_,_,_,rfl,fun uJ x=>(jj (hy.le (D.trans (H.trans x))) (R.le x) (by omega) (by decide)).mono ?_⟩
  rintro r tm U rfl
  refine ⟨_,rfl,fun f mZ T=>oU b v (hx.le (D.trans (H.trans (x.trans (U.trans T))))) ?_ rfl,fun f pe s=>oU b v (hx.le (D.trans (H.trans (x.trans (U.trans s))))) ?_ rfl⟩
  ·have:d=1:=k_.1 (by simpa using f)
   unfold ua
   rw [if_pos this];exact RD.nil
  ·have:d≠1:=fun e=>by rw [k_.2 e] at f;simp at f
   unfold ua
   rw [if_neg this]
   exact hy.le (D.trans (H.trans (x.trans (U.trans s))))
theorem eI {V:View}(n:Int)(h0:-9223372036854775808<=n)(h1:n<=9223372036854775807) :
  ab prog 63 #[.int .i64 n] V fun r V'=>RQ V' r (n:Rat):=by
 refine Jx n V _ fun b e=>(Az n h0 h1).mono ?_
 rintro r V2 f ⟨p,m,c,rfl,g⟩
 exact ⟨_,_,_,_,rfl,fun h a=>oU (z:=n) (d:=1) rfl rfl (g.le a) RD.nil rfl⟩
theorem uK {V:View}(q:Rat){p p':OA}{n c n' c':Nat}(h1:RD V p n c (ah q.num.natAbs)) :
  ab prog 42 #[.agg #[.bool (decide (q.num<0)),.slice p n c,.slice p' n' c']] V fun r V'=>r=.int .i64 q.num.sign:=by
 refine Mi _ p n c p' n' c' V _ fun b a=>(vH q.num (h1.le a)).mono ?_
 rintro r V2 d rfl
 exact ⟨_,rfl,fun e f=>rfl⟩
theorem kX {V:View}(q:Rat){p p':OA}{n c n' c':Nat}(h1:RD V p n c (ah q.num.natAbs))(h2:RD V p' n' c' (ua q.den)) :
  ab prog 57 #[.agg #[.bool (decide (q.num<0)),.slice p n c,.slice p' n' c']] V fun r V'=>RQ V' r (-q):=by
 refine Hd _ p n c p' n' c' V _ fun f a=>(iw q.num (h1.le a)).mono ?_
 rintro r V2 e ⟨h,i,j,rfl,g⟩
 exact ⟨_,_,_,_,rfl,fun k b=>oU (q:=-q) (z:=-q.num) (d:=q.den) (by rfl) (by rfl) (g.le b) ((h2.le a).le (e.trans b)) rfl⟩
end Go.Proofs.Tryz
namespace Go.bM
open Go.fR
theorem RI.inv {V:View}{b:Bool}{p:OA}{n c:Nat}{z:Int}(h:RI V (.agg #[.bool b,.slice p n c]) z):b=decide (z<0)/\RD V p n c (ah z.natAbs):=by
 obtain ⟨d,f,g,e,a⟩:=h
 simp at e
 obtain ⟨rfl,rfl,rfl,rfl⟩:=e
 exact ⟨rfl,a⟩
end Go.bM
namespace Go.Proofs.Tryz
open Go.bM Go.fR
theorem fK {V:View}{v:Value}{q:Rat}(h:RR V v q){k:Nat}(hs:Sz k q)(hk:k<=1099511627776) :
  ab prog 140 #[v] V fun r V'=>RI V' r q.num:=by
 rcases h with ⟨rfl,hw⟩|⟨a,b,p,n,c,u,w,x,rfl,i,j,y,l,z,hw⟩
 ·have:=hw.1
  refine oZ _ _ _ V _ ⟨(fun d=>nomatch d),fun _ m f=>(j8 _ (by omega) (by omega)).mono ?_⟩
  rintro r V2 o ⟨p,n,c,rfl,g⟩
  exact ⟨_,_,_,_,rfl,fun s e=>⟨_,_,_,rfl,g.le e⟩⟩
 ·obtain ⟨rfl,t⟩:=l.inv
  refine oZ _ _ _ V _ ⟨fun _=>⟨rfl,rfl,decide (q.num<0),p,n,c,a.add 0,rfl,?_,?_,fun m f=>(jv _ (t.le f) (Nat.le_trans (af hs.1) hk)).mono ?_⟩,fun d=>nomatch d⟩
  ·exact i
  ·simpa [Addr.add] using j
  ·rintro r V2 o ⟨p,n,c,rfl,g⟩
   rw [aG] at g ⊢
   exact ⟨_,_,_,_,rfl,fun s e=>⟨_,_,_,rfl,g.le e⟩⟩
theorem eV {V:View}{v:Value}{q:Rat}(h:RR V v q){k:Nat}(hs:Sz k q)(hk:k<=1099511627776) :
  ab prog 141 #[v] V fun r V'=>∃p n c,r=.slice p n c/\RN V' p n c q.den:=by
 rcases h with ⟨rfl,hw⟩|⟨a,b,p,n,c,s,t,u,rfl,w,x,i,y,j,hw⟩
 ·have:=hw.2
  have z:=q.den_nz
  refine oW _ _ _ V _ ⟨(fun d=>nomatch d),fun _ l f=>?_⟩
  rw [ay (by omega),aM (by omega)]
  refine (eG _ (by omega) (by omega)).mono ?_
  rintro r V2 m ⟨p,n,c,rfl,g⟩
  rw [show ((q.den:Int)-1+1).toNat=q.den from by omega] at g
  exact ⟨_,_,_,rfl,fun o e=>⟨_,_,_,rfl,g.le e⟩⟩
 ·refine oW _ _ _ V _ ⟨fun _=>⟨rfl,rfl,_,_,_,⟨_,rfl,i⟩,fun l f=>(jx (j.le f) (Nat.le_trans (af hs.2) hk)).mono ?_⟩,fun d=>nomatch d⟩
  rintro r V2 m ⟨p,n,c,rfl,g⟩
  rw [ae] at g
  exact ⟨_,_,_,rfl,fun o e=>⟨_,_,_,rfl,g.le e⟩⟩
theorem js {V:View}(n:Int)(h0:-9223372036854775808<n)(h1:n<=9223372036854775807) :
  ab prog 208 #[.int .i64 n] V fun r V'=>r=.int .u64 (n.natAbs:Int):=by
 refine EZ n V _ ⟨fun a b c=>?_,fun a b c=>?_⟩
 ·have a:n<0:=by simpa using a
  rw [ay (by omega),aM (by omega)];congr 1;omega
 ·have a:0<=n:=by simpa using a
  rw [aM (by omega)];congr 1;omega
theorem vE {V:View}(x y:Nat)(hx:x<18446744073709551616)(hy:y<18446744073709551616) :
  ab prog 207 #[.int .u64 (x:Int),.int .u64 (y:Int)] V fun r V'=>r=.int .u64 (Nat.gcd x y:Int):=by
 refine E0 _ _ V _ ⟨fun z V'=>∃a b:Nat,z=((a:Int),(b:Int))/\Nat.gcd a b=Nat.gcd x y,fun z=>z.2.toNat,
  ⟨((x:Int),(y:Int)),by (try dsimp only);and_intros<;>trivial,x,y,rfl,rfl⟩,?_⟩
 rintro _ g h ⟨a,b,rfl,d⟩
 dsimp only
 refine ⟨by trivial,fun c=>?_,fun c i j=>?_⟩
 ·have c:b≠0:=by rw [bne_iff_ne] at c;omega
  have e:a%b<b:=Nat.mod_lt _ (by omega)
  have f:(a:Int).tmod (b:Int)=((a%b:Nat):Int):=by rw [Int.tmod_eq_emod_of_nonneg (by omega),←Int.natCast_emod]
  rw [f]
  exact ⟨by omega,((b:Int),((a%b:Nat):Int)),by (try dsimp only);rw [Int.toNat_natCast,Int.toNat_natCast];exact e,by (try dsimp only);and_intros<;>trivial,b,a%b,rfl,by rw [we,d]⟩
 ·have c:b=0:=by rw [bne_eq_false_iff_eq] at c;omega
  subst c
  rw [Nat.gcd_zero_right] at d
  rw [d]
theorem gI {V:View}(a b:Int)(ha:a.natAbs<4611686018427387904)(hb:b.natAbs<4611686018427387904) :
  ab prog 211 #[.int .i64 a,.int .i64 b] V fun r V'=>∃z:Int,r=.tuple #[.int .i64 z,.bool (decide ((a*b).natAbs<4611686018427387904))]/\((a*b).natAbs<4611686018427387904->z=a*b):=by
 refine zy a b V _ fun k l=>(js a (by omega) (by omega)).mono ?_
 rintro r V2 m rfl
 refine ⟨_,rfl,fun n o=>(js b (by omega) (by omega)).mono ?_⟩
 rintro r q s rfl
 refine ⟨_,rfl,fun t u=>(MR _ _ (by omega) (by omega)).mono ?_⟩
 rintro r v w rfl
 have j:(a*b).natAbs=a.natAbs*b.natAbs:=Int.natAbs_mul a b
 have f:a*b=if (decide (a<0)==decide (b<0)) then ((a.natAbs*b.natAbs:Nat):Int) else -((a.natAbs*b.natAbs:Nat):Int):=by
  rw [Int.natCast_mul]
  by_cases c:a<0<;>by_cases d:b<0
  ·rw [decide_eq_true c,decide_eq_true d,show (a.natAbs:Int)=-a from by omega,show (b.natAbs:Int)=-b from by omega];simp [Int.neg_mul,Int.mul_neg]
  ·rw [decide_eq_true c,decide_eq_false d,if_neg (by decide),show (a.natAbs:Int)=-a from by omega,show (b.natAbs:Int)=b from by omega];simp [Int.neg_mul]
  ·rw [decide_eq_false c,decide_eq_true d,if_neg (by decide),show (a.natAbs:Int)=a from by omega,show (b.natAbs:Int)=-b from by omega];simp [Int.mul_neg]
  ·rw [decide_eq_false c,decide_eq_false d,show (a.natAbs:Int)=a from by omega,show (b.natAbs:Int)=b from by omega];simp
 rw [j]
 generalize a.natAbs*b.natAbs=p at *
 refine ⟨_,_,rfl,fun e g i=>?_,fun e=>⟨fun c g i=>?_,fun c=>⟨fun d g i=>?_,fun d g i=>?_⟩⟩⟩
 ·have e:18446744073709551616<=p:=by rw [bne_iff_ne] at e;omega
  rw [decide_eq_false (by omega)]
  exact ⟨_,rfl,fun h=>by omega⟩
 ·have c:4611686018427387904<=p:=by
   rw [decide_eq_true_eq] at c;omega
  rw [decide_eq_false (by omega)]
  exact ⟨_,rfl,fun h=>by omega⟩
 ·have e:p / 18446744073709551616=0:=by rw [bne_eq_false_iff_eq] at e;omega
  have c:p<4611686018427387904:=by rw [decide_eq_false_iff_not] at c;omega
  rw [decide_eq_true c,ay (x:=((p%18446744073709551616:Nat):Int)) (by omega),ay (by omega)]
  refine ⟨_,rfl,fun _=>?_⟩
  have d:(decide (a<0)==decide (b<0))=false:=by simpa using d
  rw [f,d,if_neg (by decide)];omega
 ·have e:p / 18446744073709551616=0:=by rw [bne_eq_false_iff_eq] at e;omega
  have c:p<4611686018427387904:=by rw [decide_eq_false_iff_not] at c;omega
  rw [decide_eq_true c,ay (x:=((p%18446744073709551616:Nat):Int)) (by omega)]
  refine ⟨_,rfl,fun _=>?_⟩
  have d:(decide (a<0)==decide (b<0))=true:=by simpa using d
  rw [f,d,if_pos rfl];omega
theorem oM {V:View}(n:Int)(d:Nat)(hn:n.natAbs<4611686018427387904)(hd:d<4611686018427387904)(hd0:d≠0) :
  ab prog 212 #[.int .i64 n,.int .i64 (d:Int)] V fun r V'=>RR V' r (mkRat n d):=by
 refine xE n _ V _ fun o p=>(js n (by omega) (by omega)).mono ?_
 rintro r V2 q rfl
 rw [aM (x:=(d:Int)) (by omega)]
 refine ⟨_,rfl,fun s t=>(vE _ _ (by omega) (by omega)).mono ?_⟩
 rintro r u v rfl
 have g:Nat.gcd n.natAbs d<=d:=Nat.le_of_dvd (by omega) (Nat.gcd_dvd_right _ _)
 have w:0<Nat.gcd n.natAbs d:=Nat.gcd_pos_of_pos_right _ (by omega)
 have c:=Rat.num_mkRat n d
 have a:=Rat.den_mkRat n d
 rw [if_neg hd0,Nat.gcd_comm] at c a
 have b:(Nat.gcd n.natAbs d:Int)∣n:=Int.ofNat_dvd_left.2 (Nat.gcd_dvd_left _ _)
 have h:d / Nat.gcd n.natAbs d<=d:=Nat.div_le_self _ _
 have i:(n / (Nat.gcd n.natAbs d:Int)).natAbs<=n.natAbs:=by
  rw [Int.natAbs_ediv_of_dvd b,Int.natAbs_natCast];exact Nat.div_le_self _ _
 have f:Wd (mkRat n d):=by unfold Wd;rw [c,a];omega
 refine ⟨_,rfl,?_⟩
 rw [ay (x:=((Nat.gcd n.natAbs d:Nat):Int)) (by omega)]
 refine ⟨fun e=>⟨by omega,by omega,fun j k=>.inl ⟨?_,f⟩⟩,fun e j k=>.inl ⟨?_,f⟩⟩
 ·rw [c,a]
  have l:n.tdiv (Nat.gcd n.natAbs d:Int)=n / (Nat.gcd n.natAbs d:Int):=Int.tdiv_eq_ediv_of_dvd b
  have m:(d:Int).tdiv (Nat.gcd n.natAbs d:Int)=((d / Nat.gcd n.natAbs d:Nat):Int):=by rw [Int.tdiv_eq_ediv_of_nonneg (by omega),←Int.natCast_ediv]
  rw [l,m]
  generalize n / (Nat.gcd n.natAbs d:Int)=nn at *
  generalize d / Nat.gcd n.natAbs d=dd at *
  rw [ay (by omega),ay (x:=(dd:Int)) (by omega),ay (by omega)]
 ·have e:Nat.gcd n.natAbs d=1:=by rw [decide_eq_false_iff_not] at e;omega
  rw [c,a,e,ay (by omega)]
  simp
end Go.Proofs.Tryz
