import Derived.Test.YtnnbfoejafcdlaaGreatDoorF10
import Derived.Test.YtnnbfoejafcdlaaGreatDoorF6
import Derived.Test.YtnnbfoejafcdlaaGreatDoorF7
set_option linter.unusedVariables false
open Go.IntKind (i64 u64 u32)
namespace Go.Proofs.Tryz
open Go.bJ Go.fo
theorem C8 {V:View}{p:OA}{n c:Nat}{ds:List Nat}(h:RD V p n c ds){K:Int->Prop}(hn:0<ds.length)
  (hK:K ((ds[0]:Nat):Int)):(p.isSome=true)/\(0<=(0:Int)/\(0:Int)<(n:Int))/\∃x:Int,(∃a,ah p 0=some a/\V.at a (.int .u32 x))/\K x:=by
 have:=h.rd (i:=0) (K:=K) 0 rfl hn hK
 simpa using this
theorem LH {V:View}{p:OA}{n c:Nat}{ds:List Nat}(h:RD V p n c ds){K:Int->Prop}(j:Nat)(hn:j<ds.length)
  (hK:K ((ds[j]:Nat):Int)):(p.isSome=true)/\(0<=(j:Int)/\(j:Int)<(n:Int))/\∃x:Int,(∃a,ah p j=some a/\V.at a (.int .u32 x))/\K x:=by
 have:=h.rd (i:=j) (K:=K) j rfl hn hK
 simpa using this
theorem kZ {ds:List Nat}(h:ds.length=1):∃a,ds=[a]:=by
 match ds,h with
 | [a],_=>exact ⟨a,rfl⟩
theorem Fb {ds:List Nat}(h:ds.length=2):∃a b,ds=[a,b]:=by
 match ds,h with
 | [a,b],_=>exact ⟨a,b,rfl⟩
theorem cw {V:View}{p q:OA}{n c m e:Nat}{xs ys:List Nat}(hx:RD V p n c xs)(hy:RD V q m e ys)(hm:xs.length+ys.length<=1099511627776) :
  ab prog 59 #[.slice p n c,.slice q m e] V fun r V'=>∃p' n' c',r=.slice p' n' c'/\RN V' p' n' c' (val xs*val ys):=by
 have hlx:=hx.len
 have zz:=hy.len
 have hnm':((n:Int)+m).toNat=n+m:=by omega
 have w:i64.wrap ((n:Int)+m)=(n:Int)+m:=ay (by omega)
 have vc:=wH p n c q m e V
 simp only [w,hnm',cQ] at vc
 refine (fun tail=>vc _ ⟨fun h0=>⟨fun h1=>?_,fun _=>tail⟩,fun _=>tail⟩) ?_
 ·have h0:n=1:=by simp at h0;omega
  have h1:m=1:=by simp at h1;omega
  clear tail vc
  obtain ⟨a,rfl⟩:=kZ (ds:=xs) (by omega)
  obtain ⟨b,rfl⟩:=kZ (ds:=ys) (by omega)
  have zx:=hx.eN.get (i:=0) (by simp)
  have hdy:=hy.eN.get (i:=0) (by simp)
  refine C8 hx (by simp) (C8 hy (by simp) fun V1 l1=>?_)
  simp only [List.getElem_cons_zero] at zx hdy ⊢
  have xG:a*b<=4294967295*4294967295:=Nat.mul_le_mul (by omega) (by omega)
  have e1:u64.wrap (a:Int)=a:=aM (by omega)
  have e2:u64.wrap (b:Int)=b:=aM (by omega)
  have e3:(a:Int)*(b:Int)=((a*b:Nat):Int):=by simp
  have e4:u64.wrap ((a*b:Nat):Int)=((a*b:Nat):Int):=aM (by omega)
  rw [e1,e2,e3,e4]
  refine (dA (a*b) (by omega)).mono ?_
  rintro r V2 l2 ⟨p',n',c',rfl,h⟩
  refine ⟨_,_,_,rfl,fun V3 l3=>⟨_,_,_,rfl,?_⟩⟩
  simp only [bj,eJ,Nat.mul_zero,Nat.add_zero]
  exact h.le l3
 refine ⟨by omega,by omega,by omega,fun z V'=>0<=z.1/\z.1<=n/\∃es:List Nat,z.2=aC es/\es.length=n+m/\bV es /\
  val (es.take (z.1.toNat+m))=val (xs.take z.1.toNat)*val ys,fun z=>n-z.1.toNat,⟨(0,aC (List.replicate (n+m) 0)),by (try dsimp only);and_intros<;>first|exact True.intro|rfl,by (try dsimp only);omega,by (try dsimp only);omega,_,rfl,by simp,bV.rep _,by simp [tX,List.take_replicate]⟩,?_⟩
 rintro ⟨i,vs⟩ V5 l5 ⟨hi0,hi1,es,rfl,hes,hde,hv⟩
 dsimp only at hi0 hi1 hv ⊢
 obtain ⟨i,rfl⟩:=Int.eq_ofNat_of_zero_le hi0
 simp only [Int.toNat_natCast] at hv
 refine ⟨by trivial,fun h3=>?_,fun h3=>?_⟩
 ·have h3:i<n:=by simpa using h3
  refine (hx.le l5).rd i rfl (by omega) ?_
  have zx:=hx.eN.get (i:=i) (by omega)
  refine ⟨fun z V'=>0<=z.1/\z.1<=4294967295/\0<=z.2.1/\z.2.1<=m/\∃fs:List Nat,z.2.2=aC fs/\fs.length=n+m/\bV fs/\fs.drop (i+z.2.1.toNat)=es.drop (i+z.2.1.toNat) /\
   val (fs.take (i+z.2.1.toNat))+4294967296^(i+z.2.1.toNat)*z.1.toNat=val (es.take (i+z.2.1.toNat))+4294967296^i*xs[i]*val (ys.take z.2.1.toNat),fun z=>m-z.2.1.toNat,
   ⟨(0,0,aC es),by (try dsimp only);and_intros<;>first|exact True.intro|rfl,by (try dsimp only);omega,by (try dsimp only);omega,by (try dsimp only);omega,by (try dsimp only);omega,es,rfl,hes,hde,rfl,by simp⟩,?_⟩
  rintro ⟨cy,k,vs⟩ V6 l6 ⟨hc0,hc1,hk0,hk1,fs,rfl,hfs,hdf,hdr,hw⟩
  dsimp only at hc0 hc1 hk0 hk1 hdr hw ⊢
  obtain ⟨k,rfl⟩:=Int.eq_ofNat_of_zero_le hk0
  obtain ⟨cy,rfl⟩:=Int.eq_ofNat_of_zero_le hc0
  simp only [Int.toNat_natCast] at hdr hw
  refine ⟨by trivial,fun h4=>?_,fun h4=>?_⟩
  ·have h4:k<m:=by simpa using h4
   refine (hy.le (l5.trans l6)).rd k rfl (by omega) ?_
   have hdy:=hy.eN.get (i:=k) (by omega)
   have TX:=hdf.get (i:=i+k) (by omega)
   have hef:fs[i+k]'(by omega)=es[i+k]'(by omega):=by
    have h1:fs[i+k]?=es[i+k]?:=by
     have:=congrArg (fun l=>l[0]?) hdr
     simpa [List.getElem?_drop] using this
    rw [List.getElem?_eq_getElem (by omega),List.getElem?_eq_getElem (by omega)] at h1
    exact Option.some.inj h1
   simp (disch:=omega) only [ay]
   have hik:((i:Int)+k).toNat=i+k:=by omega
   rw [hik]
   refine ⟨⟨by omega,by omega⟩,((fs[i+k]'(by omega):Nat):Int),by rw [Nat.zero_add,Nat.mul_one];exact fP (by omega),⟨by omega,by omega⟩,by simp;omega,by omega,?_⟩
   have hxy:xs[i]*ys[k]<=4294967295*4294967295:=Nat.mul_le_mul (by omega) (by omega)
   have NX:(xs[i]:Int)*(ys[k]:Int)=((xs[i]*ys[k]:Nat):Int):=by simp
   obtain ⟨t,ht⟩:∃t:Nat,t=cy+xs[i]*ys[k]+fs[i+k]'(by omega):=⟨_,rfl⟩
   rw [Nat.pow_add] at hw
   have hstep:=CP hw ht
   have e1:u64.wrap (u64.wrap (u64.wrap (u64.wrap (xs[i]:Int)*u64.wrap (ys[k]:Int))+u64.wrap ((fs[i+k]'(by omega):Nat):Int))+(cy:Int))=(t:Int):=by
    clear hstep
    generalize xs[i]*ys[k]=pq at *
    rw [aM (x:=(xs[i]:Int)) (by omega),aM (x:=(ys[k]:Int)) (by omega),NX,aM (x:=((pq:Nat):Int)) (by omega)]
    simp (disch:=omega) only [aM]
    omega
   rw [e1,ij,lJ]
   refine ⟨(_,_,_),?_,by (try dsimp only);and_intros<;>first|exact True.intro|rfl,?_⟩
   ·(try dsimp only);omega
   ·(try dsimp only)
    have hk2:((k:Int)+1).toNat=k+1:=by omega
    refine ⟨by omega,by omega,by omega,by omega,fs.set (i+k) (t%4294967296),?_,by simpa using hfs,hdf.set _ _ (by omega),?_,?_⟩
    ·rw [←bw];simp
    ·rw [hk2,List.drop_set_of_lt (by omega)]
     have:=congrArg (List.drop 1) hdr
     simpa [List.drop_drop,Nat.add_comm,Nat.add_assoc,Nat.add_left_comm] using this
    ·rw [hk2,show i+(k+1)=i+k+1 from by omega,aJ _ _ _ (by omega),aw es (i+k) (by omega),aw ys k (by omega),←hef,Nat.pow_succ]
     have e2:((t:Int) / 4294967296).toNat=t / 4294967296:=by omega
     rw [e2,Nat.pow_add,hstep]
  ·have h4:k=m:=by simp at h4;omega
   subst h4
   simp (disch:=omega) only [ay]
   have hik:((i:Int)+k).toNat=i+k:=by omega
   rw [hik]
   refine ⟨⟨by omega,by omega⟩,by simp;omega,(_,_),?_,by (try dsimp only);and_intros<;>first|exact True.intro|rfl,?_⟩
   ·(try dsimp only);omega
   ·(try dsimp only)
    have hi2:((i:Int)+1).toNat=i+1:=by omega
    refine ⟨by omega,by omega,fs.set (i+k) cy,?_,by simpa using hfs,hdf.set _ _ (by omega),?_⟩
    ·rw [←bw,qb (by omega)];simp
    ·rw [hi2,show i+1+k=i+k+1 from by omega,aJ _ _ _ (by omega),hw,hv,aw xs i (by omega),ao (ds:=ys) (by omega)]
     grind
 ·have h3:i=n:=by simp at h3;omega
  subst h3
  intro V6 l6 bk hb'
  refine (cZ (RD.bD hb' hde (n:=i+m) (c:=i+m) (by omega) (Nat.le_refl _)) (by omega)).mono ?_
  rintro r V7 l7 ⟨k,rfl,h4⟩
  refine ⟨_,_,_,rfl,fun _ V8 l8=>⟨_,_,_,rfl,?_⟩⟩
  rw [aO hde] at h4
  rw [ao (by omega),ao (by omega)] at hv
  rw [hv] at h4
  exact h4.le l8
theorem kO {V:View}{p:OA}{n c:Nat}{ds:List Nat}(h:RD V p n c ds)(hm:ds.length<=1099511627776) :
  ab prog 171 #[.slice p n c] V fun r V'=>r=.tuple #[.int .u64 ((if n<=2 then val ds else 0:Nat):Int),.bool (decide (n<=2))]:=by
 have hl:=h.len
 refine DV p n c V _ ⟨fun h0 V1 l1=>?_,fun h0=>⟨fun h1=>?_,fun h1=>⟨fun h2=>?_,fun h2 V1 l1=>?_⟩⟩⟩
 ·have h0:n=0:=by simp at h0;omega
  subst h0
  have:ds=[]:=List.length_eq_zero_iff.1 (by omega)
  subst this
  rfl
 ·have h1:n=1:=by simp at h1;omega
  subst h1
  obtain ⟨a,rfl⟩:=kZ (ds:=ds) (by omega)
  have hd:=h.eN.get (i:=0) (by simp)
  refine C8 h (by simp) fun V1 l1=>?_
  simp only [List.getElem_cons_zero] at hd ⊢
  have e1:u64.wrap (a:Int)=a:=aM (by omega)
  rw [e1,if_pos (by omega),decide_eq_true (by omega)]
  simp
 ·have h2:n=2:=by simp at h2;omega
  subst h2
  obtain ⟨a,b,rfl⟩:=Fb (ds:=ds) (by omega)
  have hd0:=h.eN.get (i:=0) (by simp)
  have hd1:=h.eN.get (i:=1) (by simp)
  refine LH h 1 (by simp) ⟨by omega,C8 h (by simp) fun V1 l1=>?_⟩
  simp only [List.getElem_cons_zero,List.getElem_cons_succ] at hd0 hd1 ⊢
  have e1:u64.wrap (a:Int)=a:=aM (by omega)
  have e2:u64.wrap (b:Int)=b:=aM (by omega)
  have e3:((2:Int)^32)=4294967296:=by decide
  have e4:u64.wrap ((b:Int)*4294967296)=(b:Int)*4294967296:=aM (by omega)
  rw [e1,e2,e3,e4,CW _ _ hd1 hd0,if_pos (by omega),decide_eq_true (by omega)]
  simp only [bj,eJ]
  congr 4
  omega
 ·have h2:¬n<=2:=by simp at h0 h1 h2;omega
  rw [if_neg h2,decide_eq_false h2]
  rfl
theorem Hr (b:Nat):0 ||| b=b:=Nat.zero_or b
theorem kL {V:View}{p:OA}{n c:Nat}{ds:List Nat}(hx:RD V p n c ds)(hm:ds.length<=1099511627776)(k:Nat)(hk:k<=35184372088832) :
  ab prog 204 #[.slice p n c,.int .i64 (k:Int)] V fun r V'=>∃p' n' c',r=.slice p' n' c'/\RN V' p' n' c' (val ds*2^k):=by
 have hl:=hx.len
 have e2:(k:Int).tdiv 32=((k / 32:Nat):Int):=by rw [Int.tdiv_eq_ediv_of_nonneg (by omega)];omega
 have e3:(k:Int).tmod 32=((k%32:Nat):Int):=by rw [Int.tmod_eq_emod_of_nonneg (by omega)];omega
 have vc:=DJ p n c k V
 have hk2:val ds*2^k=4294967296^(k / 32)*val ds*2^(k%32):=by
  have:2^k=4294967296^(k / 32)*2^(k%32):=by
   rw [show (4294967296:Nat)=2^32 from rfl,←Nat.pow_mul,←Nat.pow_add,Nat.div_add_mod]
  rw [this];grind
 rw [hk2]
 have hwl:k / 32<=1099511627776:=by omega
 have hrl:k%32<32:=Nat.mod_lt _ (by omega)
 rw [e2,e3] at vc
 generalize k / 32=w at *
 generalize k%32=r at *
 clear e2 e3 hk2
 have w1:i64.wrap (w:Int)=(w:Int):=ay (by omega)
 have w2:i64.wrap ((w:Int)+n)=((w+n:Nat):Int):=by rw [ay (by omega)];omega
 have w3:i64.wrap (((w+n:Nat):Int)+1)=((w+n+1:Nat):Int):=by rw [ay (by omega)];omega
 have w4:u64.wrap (r:Int)=(r:Int):=aM (by omega)
 have hmin:(min r IntKind.u64.bits)=r:=by
  show min _ 64=r
  omega
 have hp:((2:Int)^r)=((2^r:Nat):Int):=by simp
 simp only [w1,w2,w3,w4,Int.toNat_natCast,hmin,hp,cQ] at vc
 refine vc _ ⟨by omega,by omega,by omega,by omega,by omega,fun z V'=>0<=z.1/\z.1<=n/\∃es:List Nat,z.2=aC es/\es.length=w+n+1/\bV es/\(∀c,es[z.1.toNat+w]?=some c->c<2^r)/\(∀j c,z.1.toNat+w<j->es[j]?=some c->c=0) /\
   val (es.take (z.1.toNat+w+1))=4294967296^w*val (ds.take z.1.toNat)*2^r,fun z=>n-z.1.toNat,
   ⟨(0,aC (List.replicate (w+n+1) 0)),by (try dsimp only);and_intros<;>first|exact True.intro|rfl,by (try dsimp only);omega,by (try dsimp only);omega,_,rfl,by simp,bV.rep _,?_,?_,?_⟩,?_⟩
 ·intro c hc
  rw [List.getElem?_replicate] at hc
  split at hc
  ·cases hc;exact Nat.two_pow_pos r
  ·cases hc
 ·intro j c _ hc
  rw [List.getElem?_replicate] at hc
  split at hc
  ·cases hc;rfl
  ·cases hc
 ·simp [List.take_replicate,tX]
 rintro ⟨i,vs⟩ V4 l4 ⟨hi0,hi1,es,rfl,hes,hde,hc,hz,hv⟩
 dsimp only at hi0 hi1 hc hz hv ⊢
 obtain ⟨i,rfl⟩:=Int.eq_ofNat_of_zero_le hi0
 simp only [Int.toNat_natCast] at hc hz hv
 refine ⟨by trivial,fun h3=>?_,fun h3=>?_⟩
 ·have h3:i<n:=by simpa using h3
  have x1:i64.wrap ((w:Int)+i)=((i+w:Nat):Int):=by rw [ay (by omega)];omega
  have x2:i64.wrap (((i+w:Nat):Int)+1)=((i+w+1:Nat):Int):=by rw [ay (by omega)];omega
  have x3:i64.wrap ((i:Int)+1)=((i+1:Nat):Int):=by rw [ay (by omega)];omega
  simp only [x1,x2,x3,Int.toNat_natCast,Nat.mul_one,Nat.zero_add]
  refine LH (hx.le l4) i (by omega) ?_
  have zx:=hx.eN.get (i:=i) (by omega)
  have hce:=hc (es[i+w]'(by omega)) (List.getElem?_eq_getElem _)
  have ZK:=hz (i+w+1) (es[i+w+1]'(by omega)) (by omega) (List.getElem?_eq_getElem _)
  obtain ⟨g1,g2,g3,g4⟩:=Dk zx hrl hce
  have hmul:((ds[i]:Nat):Int)*((2^r:Nat):Int)=((ds[i]*2^r:Nat):Int):=by simp
  have x4:u64.wrap ((ds[i]:Nat):Int)=((ds[i]:Nat):Int):=aM (by omega)
  have x5:u64.wrap ((ds[i]*2^r:Nat):Int)=((ds[i]*2^r:Nat):Int):=aM (by omega)
  have ec:u32.wrap ((ds[i]*2^r:Nat):Int)=((ds[i]*2^r%4294967296:Nat):Int):=by rw [ij];omega
  have ed:u32.wrap (((ds[i]*2^r:Nat):Int).fdiv (2^32))=((ds[i]*2^r / 4294967296:Nat):Int):=by rw [lJ,ij];omega
  simp only [x4,hmul,x5,ec,ed]
  have hd2:ds[i]*2^r / 4294967296<4294967296:=by omega
  have EB:=Nat.mod_add_div (ds[i]*2^r) 4294967296
  have hdr:val (List.take (i+1) ds)=val (List.take i ds)+4294967296^i*ds[i]:=aw _ _ (by omega)
  have NG:val (es.take (i+w+1))=val (es.take (i+w))+4294967296^(i+w)*es[i+w]'(by omega):=aw _ _ (by omega)
  have hlo:ds[i]*2^r%4294967296<4294967296:=Nat.mod_lt _ (by omega)
  generalize ds[i]*2^r%4294967296=lo at *
  generalize ds[i]*2^r / 4294967296=hi at *
  refine ⟨by omega,by omega,⟨by omega,by omega⟩,((es[i+w]'(by omega):Nat):Int),fP (by omega),⟨by omega,by omega⟩,by simp;omega,by omega,⟨by omega,by omega⟩,((es[i+w+1]'(by omega):Nat):Int),?_,by omega,⟨by omega,by omega⟩,by simp;omega,?_⟩
  ·rw [List.getElem?_set_ne (by omega)];exact fP (by omega)
  have PS:es[i+w]'(by omega)<4294967296:=hde.get (by omega)
  rw [EV _ _ PS hlo,g1,ZK,EV _ _ (by omega) hd2,Hr]
  refine ⟨(((i+1:Nat):Int),aC ((es.set (i+w) (es[i+w]'(by omega)+lo)).set (i+w+1) hi)),?_,?_,?_⟩
  ·(try dsimp only);omega
  ·(try dsimp only);and_intros<;>first|exact True.intro|rfl|rw [←bw,←bw]
  ·(try dsimp only)
   refine ⟨by omega,by omega,_,rfl,by simpa using hes,(hde.set _ _ (by omega)).set _ _ (by omega),?_,?_,?_⟩
   ·intro c hc'
    simp only [Int.toNat_natCast] at hc'
    rw [show i+1+w=i+w+1 from by omega,List.getElem?_set_self (by simp;omega)] at hc'
    cases hc';exact g3
   ·intro j c hj hc'
    simp only [Int.toNat_natCast] at hj
    rw [List.getElem?_set_ne (by omega),List.getElem?_set_ne (by omega)] at hc'
    exact hz j c (by omega) hc'
   ·simp only [Int.toNat_natCast]
    rw [show i+1+w+1=i+w+1+1 from by omega,aJ _ _ _ (by simp;omega),aJ _ _ _ (by omega),hdr]
    rw [NG] at hv
    have hA:4294967296^(i+w+1)*hi=4294967296^(i+w)*(4294967296*hi):=by rw [Nat.pow_succ];grind
    rw [hA,Nat.mul_add,←Nat.add_assoc,hv,Nat.add_assoc,←Nat.mul_add,EB,Nat.pow_add]
    grind
 ·have h3:i=n:=by simp at h3;omega
  subst h3
  intro V5 l5 bk hb
  refine (cZ (RD.bD hb hde (n:=w+i+1) (c:=w+i+1) (by omega) (Nat.le_refl _)) (by omega)).mono ?_
  rintro r' V6 l6 ⟨k',rfl,h4⟩
  refine ⟨_,_,_,rfl,fun _ V7 l7=>⟨_,_,_,rfl,?_⟩⟩
  rw [ao (by omega),ao (by omega)] at hv
  rw [aO hde,hv] at h4
  exact h4.le l7
theorem zV (a:Addr)(m n:Nat):(a.add m).add n=a.add (m+n):=by
 unfold Addr.add
 by_cases h1:m=0
 ·subst h1;simp
 ·by_cases h2:n=0
  ·subst h2;simp [h1]
  ·rw [if_neg h1,if_neg h2,if_neg (by omega)]
   simp only [Nat.add_assoc]
theorem M_ {V:View}{p:OA}{n c:Nat}{ds:List Nat}(h:RD V p n c ds){k:Nat}(hk:k<n):RD V (rf p c k 1) (n-k) (c-k) (ds.drop k):=by
 have hl:=h.len
 have hc:=h.cap
 have e:rf p c k 1=ah p k:=by unfold rf;rw [if_neg (by omega),Nat.mul_one]
 rw [e]
 refine ⟨by simp;omega,by omega,fun i v hv=>?_,h.eN.drop k,fun hp=>?_⟩
 ·rw [HM,List.getElem?_drop] at hv
  obtain ⟨ad,e1,hat⟩:=h.sl _ _ hv
  refine ⟨ad.add k,by rw [e1];rfl,?_⟩
  rw [zV];exact hat
 ·have:p.isNone=true:=by cases p<;>simp_all [ah]
  have:=h.Jo this
  omega
theorem B8 {V:View}{p:OA}{n c:Nat}{ds:List Nat}(hd:RD V p n c ds)(hm:ds.length<=1099511627776)(k:Nat)(hk:k<=35184372088832) :
  ab prog 205 #[.slice p n c,.int .i64 (k:Int)] V fun r V'=>∃p' n' c',r=.slice p' n' c'/\RN V' p' n' c' (val ds / 2^k):=by
 have hl:=hd.len
 have e2:(k:Int).tdiv 32=((k / 32:Nat):Int):=by rw [Int.tdiv_eq_ediv_of_nonneg (by omega)];omega
 have e3:(k:Int).tmod 32=((k%32:Nat):Int):=by rw [Int.tmod_eq_emod_of_nonneg (by omega)];omega
 have vc:=Bn p n c k V
 have hk2:val ds / 2^k=val ds / 4294967296^(k / 32) / 2^(k%32):=by
  rw [Nat.div_div_eq_div_mul,show (4294967296:Nat)=2^32 from rfl,←Nat.pow_mul,←Nat.pow_add,Nat.div_add_mod]
 rw [hk2]
 have hwl:k / 32<=1099511627776:=by omega
 have hrl:k%32<32:=Nat.mod_lt _ (by omega)
 rw [e2,e3] at vc
 generalize k / 32=w at *
 generalize k%32=r at *
 clear e2 e3 hk2
 have w1:i64.wrap (w:Int)=(w:Int):=ay (by omega)
 have w4:u64.wrap (r:Int)=(r:Int):=aM (by omega)
 have hmin:(min r IntKind.u64.bits)=r:=by
  show min _ 64=r
  omega
 simp only [w1,w4,Int.toNat_natCast,hmin,cQ] at vc
 refine vc _ ⟨by omega,fun h0 V1 l1=>?_,fun h0=>?_⟩
 ·have h0:n<=w:=by simp at h0;omega
  have hlt:=fR hd.eN
  have:4294967296^ds.length<=4294967296^w:=Nat.pow_le_pow_right (by omega) (by omega)
  rw [Nat.div_eq_of_lt (Nat.lt_of_lt_of_le hlt this),Nat.zero_div]
  exact ⟨_,_,_,rfl,RD.nil⟩
 ·have h0:w<n:=by simp at h0;omega
  clear vc
  have hxw:val ds / 4294967296^w=val (ds.drop w):=by
   have e:val ds=val (ds.take w++ds.drop w):=by rw [List.take_append_drop]
   have hlt:=fR (hd.eN.take w)
   rw [dD] at e
   rw [List.length_take,Nat.min_eq_left (by omega)] at e hlt
   rw [e,Nat.add_mul_div_left _ _ (Nat.pow_pos (by omega)),Nat.div_eq_of_lt hlt,Nat.zero_add]
  rw [hxw]
  have hx:=M_ hd h0
  have hlx:=hx.len
  clear hxw
  generalize rf p c w 1=sp at *
  generalize ds.drop w=xs at *
  generalize hN:n-w=N at *
  refine ⟨by omega,by omega,⟨by omega,by omega⟩,by omega,by omega,by omega,fun z V'=>0<=z.1/\z.1<=N/\∃es:List Nat,z.2=aC es/\es.length=N/\bV es /\
   val (es.take z.1.toNat)+4294967296^z.1.toNat*(val (xs.drop z.1.toNat) / 2^r)=val xs / 2^r,fun z=>N-z.1.toNat,
   ⟨(0,aC (List.replicate N 0)),by (try dsimp only);and_intros<;>first|exact True.intro|rfl,by (try dsimp only);omega,by (try dsimp only);omega,_,rfl,by simp,bV.rep _,by simp⟩,?_⟩
  rintro ⟨i,vs⟩ V4 l4 ⟨hi0,hi1,es,rfl,hes,hde,hv⟩
  dsimp only at hi0 hi1 hv ⊢
  obtain ⟨i,rfl⟩:=Int.eq_ofNat_of_zero_le hi0
  simp only [Int.toNat_natCast] at hv
  refine ⟨by trivial,fun h3=>?_,fun h3=>?_⟩
  ·have h3:i<N:=by simpa using h3
   have x3:i64.wrap ((i:Int)+1)=((i+1:Nat):Int):=by rw [ay (by omega)];omega
   simp only [x3,Int.toNat_natCast,Nat.mul_one,Nat.zero_add]
   refine LH (hx.le l4) i (by omega) ?_
   have zx:=hx.eN.get (i:=i) (by omega)
   refine ⟨fun z V'=>z=((xs[i]+4294967296*(xs[i+1]?).getD 0:Nat):Int),⟨fun h4=>?_,fun h4=>?_⟩,?_⟩
   ·have h4:i+1<N:=by simp at h4;omega
    have hdy:=hx.eN.get (i:=i+1) (by omega)
    have e4:br .or .u64 (u64.wrap ((xs[i]:Nat):Int)) (u64.wrap (u64.wrap ((xs[i+1]:Nat):Int)*2^32))=((xs[i]+4294967296*(xs[i+1]?).getD 0:Nat):Int):=by
     have e3:((2:Int)^32)=4294967296:=by decide
     rw [e3,aM (by omega),aM (x:=((xs[i+1]:Nat):Int)) (by omega),aM (by omega),Jx _ _ hdy zx,List.getElem?_eq_getElem (by omega),Option.getD_some]
     omega
    refine LH (hx.le l4) (i+1) (by omega) ⟨by omega,((xs[i]+4294967296*(xs[i+1]?).getD 0:Nat):Int),?_,rfl⟩
    (try dsimp only);and_intros<;>first|exact True.intro|exact e4|rfl
   ·have h4:N<=i+1:=by simp at h4;omega
    have e4:u64.wrap ((xs[i]:Nat):Int)=((xs[i]+4294967296*(xs[i+1]?).getD 0:Nat):Int):=by
     rw [aM (by omega),List.getElem?_eq_none (by omega)];simp
    refine ⟨((xs[i]+4294967296*(xs[i+1]?).getD 0:Nat):Int),?_,rfl⟩
    (try dsimp only);and_intros<;>first|exact True.intro|exact e4|rfl
   rintro _ V5 l5 rfl
   have hst:=Dl (Y:=val (xs.drop (i+1))) zx hrl
   rw [qc hx.eN] at hst
   have hdrop:val (xs.drop i)=xs[i]+4294967296*val (xs.drop (i+1)):=by
    rw [List.drop_eq_getElem_cons (by omega),bj]
   rw [hdrop,hst] at hv
   rw [fL,ij]
   obtain ⟨D,hD⟩:∃D,D=(xs[i]+4294967296*(xs[i+1]?).getD 0) / 2^r%4294967296:=⟨_,rfl⟩
   have eD:(((xs[i]+4294967296*(xs[i+1]?).getD 0) / 2^r:Nat):Int)%4294967296=(D:Int):=by rw [hD];omega
   rw [eD]
   rw [←hD] at hv
   refine ⟨by trivial,by omega,⟨by omega,by omega⟩,by simp;omega,(((i+1:Nat):Int),aC (es.set i D)),?_,?_,?_⟩
   ·(try dsimp only);omega
   ·(try dsimp only);and_intros<;>first|exact True.intro|rfl|rw [←bw]
   ·(try dsimp only)
    refine ⟨by omega,by omega,_,rfl,by simpa using hes,hde.set _ _ (by omega),?_⟩
    simp only [Int.toNat_natCast]
    rw [aJ _ _ _ (by omega),←hv,Nat.pow_succ,Nat.mul_add,Nat.add_assoc,Nat.mul_assoc]
  ·have h3:i=N:=by simp at h3;omega
   subst h3
   intro V5 l5 bk hb
   refine (cZ (RD.bD hb hde (n:=i) (c:=i) (by omega) (Nat.le_refl _)) (by omega)).mono ?_
   rintro r' V6 l6 ⟨k',rfl,h4⟩
   refine ⟨_,_,_,rfl,fun _ V7 l7=>⟨_,_,_,rfl,?_⟩⟩
   rw [ao (by omega),List.drop_of_length_le (l:=xs) (i:=i) (by omega)] at hv
   have hv:val es=val xs / 2^r:=by
    rw [←hv,eJ,Nat.zero_div,Nat.mul_zero,Nat.add_zero]
   rw [aO hde,hv] at h4
   exact h4.le l7
end Go.Proofs.Tryz
namespace Go.fo
theorem sG {ds:List Nat}(hd:bV ds)(w:Nat)(hw:w<=ds.length):val ds / 4294967296^w=val (ds.drop w):=by
 have e:val ds=val (ds.take w++ds.drop w):=by rw [List.take_append_drop]
 have hlt:=fR (hd.take w)
 rw [dD] at e
 rw [List.length_take,Nat.min_eq_left (by omega)] at e hlt
 rw [e,Nat.add_mul_div_left _ _ (Nat.pow_pos (by omega)),Nat.div_eq_of_lt hlt,Nat.zero_add]
theorem QA {R n:Nat}(h:(ag R).length=n+2):R / 4294967296^n=(ag R)[n+1]'(by omega)*4294967296+(ag R)[n]'(by omega):=by
 have:=sG (aD R) n (by omega)
 rw [ae] at this
 rw [this,List.drop_eq_getElem_cons (by omega),List.drop_eq_getElem_cons (i:=n+1) (by omega),List.drop_of_length_le (by omega)]
 simp only [bj,eJ]
 omega
theorem MO {R n:Nat}(h:(ag R).length=n+1):R / 4294967296^n=(ag R)[n]'(by omega):=by
 have:=sG (aD R) n (by omega)
 rw [ae] at this
 rw [this,List.drop_eq_getElem_cons (by omega),List.drop_of_length_le (by omega)]
 simp only [bj,eJ]
 omega
theorem Qz {R n:Nat}(h:(ag R).length<=n):R / 4294967296^n=0:=Nat.div_eq_of_lt (aE.1 h)
theorem Fa {V n:Nat}(h:(ag V).length=n+1):(ag V)[n]'(by omega)*4294967296^n<=V:=by
 have:=MO h
 rw [←this]
 exact Nat.div_mul_le_self _ _
theorem II {R V top P W:Nat}(hV:top*P<=V)(ht:0<top)(hP:0<P)(hW:0<W):R / (V*W)<=R / (P*W) / top:=by
 rw [Nat.le_div_iff_mul_le ht,Nat.le_div_iff_mul_le (Nat.mul_pos hP hW)]
 have h1:R / (V*W)*(V*W)<=R:=Nat.div_mul_le_self _ _
 have h2:R / (V*W)*(top*P*W)<=R / (V*W)*(V*W):=Nat.mul_le_mul_left _ (Nat.mul_le_mul_right _ hV)
 have h3:R / (V*W)*top*(P*W)=R / (V*W)*(top*P*W):=by
  generalize R / (V*W)=q
  rw [Nat.mul_assoc q top,←Nat.mul_assoc top P W]
 omega
theorem Hk {A V W D R q R':Nat}(h:A=V*(W*4294967296*D)+R)(hq:R=V*q*W+R'):A=V*(W*(q+4294967296*D))+R':=by
 subst hq;rw [h];grind
theorem Jc {x y s Q R:Nat}(h:x*2^s=y*2^s*Q+R)(hR:R<y*2^s):Q=x / y/\R / 2^s=x%y:=by
 have hp:=Nat.two_pow_pos s
 have hy:0<y:=by
  rcases Nat.eq_zero_or_pos y with e|e
  ·subst e;simp at hR
  ·exact e
 have h1:y*2^s*Q=(y*Q)*2^s:=by grind
 rw [h1] at h
 have h2:y*Q<=x:=by
  rcases Nat.lt_or_ge x (y*Q) with hl|hl
  ·have:(x+1)*2^s<=y*Q*2^s:=Nat.mul_le_mul_right _ hl
   rw [Nat.add_mul] at this
   omega
  ·exact hl
 obtain ⟨d,rfl⟩:=Nat.exists_eq_add_of_le h2
 rw [Nat.add_mul] at h
 have h3:R=d*2^s:=by omega
 subst h3
 have h4:d<y:=Nat.lt_of_mul_lt_mul_right hR
 rw [Nat.mul_div_cancel _ hp]
 constructor
 ·rw [Nat.mul_add_div hy,Nat.div_eq_of_lt h4,Nat.add_zero]
 ·rw [Nat.mul_add_mod,Nat.mod_eq_of_lt h4]
theorem MR (j:Nat):2^(32*j)=4294967296^j:=by rw [Nat.pow_mul]
theorem EA {R V W g:Nat}(O9:0<V*W)(h:V*g*W<=R)(hq:R / (V*W)<=g):g=R / (V*W):=by
 have:g<=R / (V*W):=by
  rw [Nat.le_div_iff_mul_le O9]
  have:g*(V*W)=V*g*W:=by grind
  omega
 omega
theorem IJ {R V W g:Nat}(O9:0<V*W)(h:R<V*g*W):R / (V*W)<g:=by
 rw [Nat.div_lt_iff_lt_mul O9]
 have:g*(V*W)=V*g*W:=by grind
 omega
theorem E5 {R V W:Nat}:R=V*(R / (V*W))*W+R%(V*W):=by
 have:=Nat.div_add_mod R (V*W)
 have e:V*(R / (V*W))*W=V*W*(R / (V*W)):=by
  generalize R / (V*W)=q
  grind
 omega
theorem ia {a b:Nat}:(ag (a*b)).length<=(ag a).length+(ag b).length:=by
 rw [aE,Nat.pow_add]
 have h1:a<4294967296^(ag a).length:=aE.1 (Nat.le_refl _)
 have h2:b<4294967296^(ag b).length:=aE.1 (Nat.le_refl _)
 exact Nat.mul_lt_mul'' h1 h2
theorem Aw (j:Nat):(ag (4294967296^j)).length<=j+1:=by
 rw [aE]
 exact Nat.pow_lt_pow_right (by omega) (by omega)
end Go.fo
namespace Go.Proofs.Tryz
open Go.bJ Go.fo
theorem rdG {V:View}{p:OA}{n c:Nat}{ds:List Nat}(h:RD V p n c ds){i:Int}{K:Int->Prop}(j d:Nat)(hj:i=j)(hn:ds[j]?=some d)
  (hK:K (d:Int)):(p.isSome=true)/\(0<=i/\i<(n:Int))/\∃x:Int,(∃a,ah p (i.toNat*1)=some a/\V.at a (.int .u32 x))/\K x:=by
 have hl:j<ds.length:=by
  rcases Nat.lt_or_ge j ds.length with h|h
  ·exact h
  ·rw [List.getElem?_eq_none h] at hn;cases hn
 refine h.rd j hj hl ?_
 rw [List.getElem?_eq_getElem hl] at hn
 cases hn;exact hK
theorem HK {W n:Nat}(h:(ag W).length=n+1):∃top,(ag W)[n]?=some top/\top≠0/\top<4294967296/\top*4294967296^n<=W:=by
 refine ⟨(ag W)[n]'(by omega),List.getElem?_eq_getElem _,?_,(aD W).get _,Fa h⟩
 have:=(iP W).last (by omega)
 simpa [h] using this
structure yI (A V L:Nat) (R:Nat) (j:Nat) (es:List Nat):Prop where
 len:es.length=L
 eN:bV es
 lt:R<V*4294967296^j
 eq:A=V*(4294967296^j*val (es.drop j))+R
theorem yI.step {A V L R j:Nat}{es:List Nat}(h:yI A V L R (j+1) es)(hj:j<L)(hV:0<V) :
  R / (V*4294967296^j)<4294967296/\yI A V L (R-V*(R / (V*4294967296^j))*4294967296^j) j (es.set j (R / (V*4294967296^j))):=by
 have hW:0<4294967296^j:=Nat.pow_pos (by omega)
 have O9:0<V*4294967296^j:=Nat.mul_pos hV hW
 have hq:R / (V*4294967296^j)<4294967296:=by
  rw [Nat.div_lt_iff_lt_mul O9]
  have:=h.lt
  rw [Nat.pow_succ] at this
  have e:4294967296*(V*4294967296^j)=V*(4294967296^j*4294967296):=by
   generalize 4294967296^j=w
   grind
  omega
 have hs:=E5 (R:=R) (V:=V) (W:=4294967296^j)
 have hm:=Nat.mod_lt R O9
 have he:R-V*(R / (V*4294967296^j))*4294967296^j=R%(V*4294967296^j):=by omega
 refine ⟨hq,⟨by simpa using h.len,h.eN.set _ _ hq,by rw [he];exact hm,?_⟩⟩
 have hl:=h.len
 rw [List.drop_eq_getElem_cons (by simp;omega),List.getElem_set_self,List.drop_set_of_lt (by omega),bj,he]
 exact Hk (by have:=h.eq;rwa [Nat.pow_succ] at this) hs
theorem JU {R V j:Nat}(h:R<V*4294967296^(j+1)):(ag R).length<=(ag V).length+j+1:=by
 have h1:V*4294967296^(j+1)<=4294967296^(ag V).length*4294967296^(j+1):=Nat.mul_le_mul_right _ (Nat.le_of_lt (aE.1 (Nat.le_refl _)))
 rw [←Nat.pow_add] at h1
 have:=aE.2 (Nat.lt_of_lt_of_le h h1)
 omega
theorem Ll {R n:Nat}(h:(ag R).length<=n+2):R / 4294967296^n<18446744073709551616:=by
 rw [Nat.div_lt_iff_lt_mul (Nat.pow_pos (by omega))]
 have:=aE.1 h
 rw [Nat.pow_succ,Nat.pow_succ] at this
 have e:4294967296^n*4294967296*4294967296=18446744073709551616*4294967296^n:=by
  generalize 4294967296^n=w
  omega
 omega
theorem Eh {V:View}{p q:OA}{n c m e:Nat}{x y:Nat}(hx:RN V p n c x)(hy:RN V q m e y)(hm:(ag x).length<=274877906944)(hy0:0<y)(hle:(ag y).length<=(ag x).length) :
  ab prog 173 #[.slice p n c,.slice q m e] V fun r V'=>∃p1 n1 c1 p2 n2 c2,r=.tuple #[.slice p1 n1 c1,.slice p2 n2 c2]/\RN V' p1 n1 c1 (x / y)/\RN V' p2 n2 c2 (x%y):=by
 have hlx:=hx.len
 have zz:=hy.len
 have hm0:0<m:=by
  rcases Nat.eq_zero_or_pos m with h|h
  ·have:=bu.1 (List.length_eq_zero_iff.1 (zz▸h));omega
  ·exact h
 have vc:=DT p n c q m e V
 have w1:i64.wrap ((m:Int)-1)=((m-1:Nat):Int):=by rw [ay (by omega)];omega
 have w2:i64.wrap ((n:Int)-m)=((n-m:Nat):Int):=by rw [ay (by omega)];omega
 have w3:i64.wrap (((n-m:Nat):Int)+1)=((n-m+1:Nat):Int):=by rw [ay (by omega)];omega
 have w4:i64.wrap (((n-m+1:Nat):Int)-1)=((n-m:Nat):Int):=by rw [ay (by omega)];omega
 simp only [w1,w2,w3,Int.toNat_natCast,w4,cQ] at vc
 obtain ⟨L,hL⟩:∃L,L=n-m+1:=⟨_,rfl⟩
 rw [←hL] at vc
 refine vc _ ?_
 clear vc
 refine hy.rd (m-1) rfl (by omega) fun V1 l1=>(fX _ ((aD y).get (by omega))).mono ?_
 rintro r V2 l2 rfl
 have hbl:bP ((ag y)[m-1]'(by omega))<=32:=jk.2 (by have:=(aD y).get (i:=m-1) (by omega);omega)
 obtain ⟨s,hs⟩:∃s:Nat,(32:Int)-(bP ((ag y)[m-1]'(by omega)):Int)=s:=⟨32-bP ((ag y)[m-1]'(by omega)),by omega⟩
 have La:s<=32:=by omega
 rw [hs]
 clear hs hbl
 refine ⟨_,rfl,fun V3 l3=>(kL (hy.le (l1.trans (l2.trans l3))) (by omega) s (by omega)).mono ?_⟩
 rintro r V4 l4 ⟨vp,vn,vc,rfl,hv⟩
 rw [ae] at hv
 refine ⟨_,_,_,rfl,fun V5 l5=>(kL (hx.le (l1.trans (l2.trans (l3.trans (l4.trans l5))))) (by omega) s (by omega)).mono ?_⟩
 rintro r V6 l6 ⟨rp,rn,rc,rfl,hr⟩
 rw [ae] at hr
 replace hv:=hv.le (l5.trans l6)
 have hlv:=hv.len
 have hsp:=Nat.two_pow_pos s
 have hs2:2^s<=4294967296:=Nat.pow_le_pow_right (n:=2) (by omega) La
 have PN:0<y*2^s:=Nat.mul_pos hy0 hsp
 have hsl:(ag (2^s)).length<=2:=aE.2 (by omega)
 have hvl:vn<=m+2:=by have:=ia (a:=y) (b:=2^s);omega
 have hvn:0<vn:=by
  rcases Nat.eq_zero_or_pos vn with h|h
  ·have:=bu.1 (List.length_eq_zero_iff.1 (hlv▸h));omega
  ·exact h
 have hinit:yI (x*2^s) (y*2^s) L (x*2^s) L (List.replicate L 0):=by
  refine ⟨by simp,bV.rep _,?_,by simp⟩
  have h1:x<4294967296^n:=by rw [hlx];exact aE.1 (Nat.le_refl _)
  have h2:4294967296^(m-1)<=y:=by rw [←rU];omega
  have h3:4294967296^(m-1)*4294967296^L<=y*4294967296^L:=Nat.mul_le_mul_right _ h2
  rw [←Nat.pow_add,show m-1+L=n from by omega] at h3
  have h4:x*2^s<y*4294967296^L*2^s:=Nat.mul_lt_mul_of_pos_right (by omega) hsp
  have h5:y*4294967296^L*2^s=y*2^s*4294967296^L:=by
   generalize 4294967296^L=w
   grind
  omega
 have hend:∀{Q R:Nat},x*2^s=y*2^s*Q+R->R<y*2^s->Q=x / y/\R / 2^s=x%y:=fun h1 h2=>Jc h1 h2
 generalize x*2^s=A at *
 generalize y*2^s=W at *
 have w5:i64.wrap ((vn:Int)-1)=((vn-1:Nat):Int):=by rw [ay (by omega)];omega
 simp only [w5,Int.toNat_natCast]
 refine ⟨_,_,_,rfl,?_⟩
 obtain ⟨top,ZD,Xl,Xm,P8⟩:=HK (W:=W) (n:=vn-1) (by omega)
 refine rdG hv (vn-1) top rfl ZD ?_
 have w6:u64.wrap (top:Int)=top:=aM (by omega)
 simp only [w6]
 refine ⟨by omega,by omega,by omega,fun z V'=>∃R:Nat,RN V' z.1 z.2.1 z.2.2.1 R/\-1<=z.2.2.2.1/\z.2.2.2.1<L/\∃es:List Nat,z.2.2.2.2=aC es/\yI A W L R (z.2.2.2.1+1).toNat es,fun z=>(z.2.2.2.1+1).toNat,
  ⟨(rp,rn,rc,((n-m:Nat):Int),aC (List.replicate L 0)),by (try dsimp only);and_intros<;>first|exact True.intro|rfl,A,hr,by (try dsimp only);omega,by (try dsimp only);omega,_,rfl,?_⟩,?_⟩
 ·(try dsimp only)
  rw [show (((n-m:Nat):Int)+1).toNat=L from by omega]
  exact hinit
 rintro ⟨rp,rn,rc,j,vs⟩ V7 l7 ⟨R,hR,hj0,hj1,es,rfl,hI⟩
 dsimp only at hR hj0 hj1 hI ⊢
 have hlr:=hR.len
 refine ⟨by trivial,fun h3=>?_,fun h3=>?_⟩
 ·have h3:0<=j:=by simpa using h3
  obtain ⟨j,rfl⟩:=Int.eq_ofNat_of_zero_le h3
  have hI:yI A W L R (j+1) es:=hI
  have Zq:j<L:=by omega
  have hrl:=JU hI.lt
  obtain ⟨hq,hI'⟩:=hI.step Zq PN
  have w7:i64.wrap ((vn:Int)+j)=((vn-1+j+1:Nat):Int):=by rw [ay (by omega)];omega
  have w8:i64.wrap (((vn-1+j+1:Nat):Int)-1)=((vn-1+j:Nat):Int):=by rw [ay (by omega)];omega
  have w9:i64.wrap ((32:Int)*j)=((32*j:Nat):Int):=by rw [ay (by omega)];omega
  have Vz:i64.wrap ((j:Int)-1)=(j:Int)-1:=ay (by omega)
  simp only [w7,w8,w9,Vz,Int.toNat_natCast]
  have hrl:(ag R).length<=vn-1+j+2:=by omega
  have hld:=Ll hrl
  have hP:0<4294967296^(vn-1):=Nat.pow_pos (by omega)
  have hW:0<4294967296^j:=Nat.pow_pos (by omega)
  have hg:=II (R:=R) P8 (by omega) hP hW
  rw [←Nat.pow_add] at hg
  have l2:=@QA R (vn-1+j)
  have l1:=@MO R (vn-1+j)
  have l0:=@Qz R (vn-1+j)
  have hlast:∀i (hi:i<(ag R).length),(ag R)[i]<4294967296:=fun i hi=>(aD R).get hi
  generalize R / 4294967296^(vn-1+j)=lead at *
  refine ⟨fun z V'=>z=(lead:Int),⟨fun h4=>?_,fun h4=>?_⟩,?_⟩
  ·have h4:vn-1+j+1<rn:=by simp at h4;omega
   refine (hR.rd (vn-1+j+1) rfl (by omega) ⟨by omega,hR.rd (vn-1+j) rfl (by omega) ⟨(lead:Int),?_,rfl⟩⟩)
   have e4:br .or .u64 (u64.wrap (u64.wrap (((ag R)[vn-1+j+1]'(by omega):Nat):Int)*2^32)) (u64.wrap (((ag R)[vn-1+j]'(by omega):Nat):Int))=(lead:Int):=by
    have e3:((2:Int)^32)=4294967296:=by decide
    have g1:=hlast (vn-1+j+1) (by omega)
    have g2:=hlast (vn-1+j) (by omega)
    have:=l2 (by omega)
    rw [e3,aM (x:=(((ag R)[vn-1+j+1]'(by omega):Nat):Int)) (by omega),aM (x:=(((ag R)[vn-1+j]'(by omega):Nat):Int)) (by omega),aM (by omega),CW _ _ g1 g2,this]
    omega
   (try dsimp only);and_intros<;>first|exact True.intro|exact e4|rfl
  ·have h4:rn<=vn-1+j+1:=by simp at h4;omega
   refine ⟨fun z V'=>z=(lead:Int),⟨fun h5=>?_,fun h5=>?_⟩,?_⟩
   ·have h5:vn-1+j<rn:=by simp at h5;omega
    refine hR.rd (vn-1+j) rfl (by omega) ⟨(lead:Int),?_,rfl⟩
    have e4:u64.wrap (((ag R)[vn-1+j]'(by omega):Nat):Int)=(lead:Int):=by
     have g2:=hlast (vn-1+j) (by omega)
     rw [aM (by omega),l1 (by omega)]
    (try dsimp only);and_intros<;>first|exact True.intro|exact e4|rfl
   ·have h5:rn<=vn-1+j:=by simp at h5;omega
    have e4:(0:Int)=(lead:Int):=by rw [l0 (by omega)];rfl
    refine ⟨(lead:Int),?_,rfl⟩
    (try dsimp only);and_intros<;>first|exact True.intro|exact e4|rfl
   ·rintro _ V8 l8 rfl
    refine ⟨by trivial,(lead:Int),?_,rfl⟩
    (try dsimp only);and_intros<;>first|exact True.intro|rfl
  rintro _ V9 l9 rfl
  clear l2 l1 l0 hlast
  have PF:(lead:Int).tdiv (top:Int)=((lead / top:Nat):Int):=by rw [Int.tdiv_eq_ediv_of_nonneg (by omega)];omega
  have hlt:lead / top<=lead:=Nat.div_le_self _ _
  rw [PF]
  generalize lead / top=lt at *
  obtain ⟨g0,hg0,NI,T2⟩:∃g0:Nat,bS (u64.wrap (lt:Int)) 4294967295=(g0:Int)/\g0<4294967296/\R / (W*4294967296^j)<=g0:=by
   rw [aM (by omega)]
   unfold bS
   split
   ·exact ⟨4294967295,rfl,by omega,by omega⟩
   ·exact ⟨lt,rfl,by omega,hg⟩
  rw [hg0]
  clear hg0 PF hlt hg hld
  have Xc:0<W*4294967296^j:=Nat.mul_pos PN hW
  have hsz:∀g:Nat,g<4294967296->(ag g).length<=1:=fun g hg=>aE.2 (by omega)
  refine ⟨by trivial,by omega,fun jh l10=>(dA g0 (by omega)).mono ?_⟩
  rintro r jd bG ⟨gp,gn,gc,rfl,h11⟩
  refine ⟨_,_,_,rfl,fun nF cN=>(cw (hv.le (l7.trans (l9.trans (l10.trans (bG.trans cN))))) (h11.le cN) (by have:=hsz g0 NI;omega)).mono ?_⟩
  rintro r rH dg ⟨pp,pn,pc,rfl,O6⟩
  rw [ae,ae] at O6
  have hpl:=fun g=>ia (a:=W) (b:=g)
  refine ⟨_,_,_,rfl,fun nG dE=>(kL (O6.le dE) (by have:=hsz g0 NI;have:=hpl g0;omega) (32*j) (by omega)).mono ?_⟩
  rintro r lU dO ⟨tp,tn,tc,rfl,O7⟩
  rw [ae,MR] at O7
  have PM:=hR.le (l9.trans (l10.trans (bG.trans (cN.trans (dg.trans (dE.trans dO))))))
  have Ue:=hv.le (l7.trans (l9.trans (l10.trans (bG.trans (cN.trans (dg.trans (dE.trans dO)))))))
  refine ⟨_,_,_,rfl,fun z V'=>∃g:Nat,z.1=g/\g<4294967296/\R / (W*4294967296^j)<=g/\RN V' z.2.1 z.2.2.1 z.2.2.2 (W*g*4294967296^j),fun z=>z.1.toNat,
   ⟨((g0:Int),tp,tn,tc),by (try dsimp only);and_intros<;>first|exact True.intro|rfl,g0,rfl,NI,T2,O7⟩,?_⟩
  rintro ⟨_,tp,tn,tc⟩ lR dv ⟨g,rfl,hgb,Zo,ht⟩
  dsimp only at ht ⊢
  have htl:(ag (W*g*4294967296^j)).length<=1099511627776:=by
   have h1:=ia (a:=W*g) (b:=4294967296^j)
   have h2:=Aw j
   have h3:=hpl g
   have h4:=hsz g hgb
   omega
  refine ⟨by trivial,fun nH c_=>(iu (ht.le c_) (PM.le (dv.trans c_)) htl (by omega)).mono ?_⟩
  rintro r qm dM rfl
  refine ⟨_,rfl,fun h6=>?_,fun h6=>?_⟩
  ·have h6:R<W*g*4294967296^j:=by
    have h6:0<kc (W*g*4294967296^j) R:=by simpa using h6
    unfold kc at h6
    split at h6
    ·omega
    ·split at h6
     ·assumption
     ·omega
   have hgo:=IJ Xc h6
   have hg1:0<g:=Nat.lt_of_le_of_lt (Nat.zero_le _) hgo
   have e1:u64.wrap ((g:Int)-1)=((g-1:Nat):Int):=by rw [aM (by omega)];omega
   simp only [e1]
   refine fun rI dF=>(dA (g-1) (by omega)).mono ?_
   rintro r zW gI ⟨gp,gn,gc,rfl,h20⟩
   refine ⟨_,_,_,rfl,fun w_ fS=>(cw (Ue.le (dv.trans (c_.trans (dM.trans (dF.trans (gI.trans fS)))))) (h20.le fS) (by have:=hsz (g-1) (by omega);omega)).mono ?_⟩
   rintro r t_ jc ⟨pp,pn,pc,rfl,h22⟩
   rw [ae,ae] at h22
   refine ⟨_,_,_,rfl,fun zY gU=>(kL (h22.le gU) (by have:=hsz (g-1) (by omega);have:=hpl (g-1);omega) (32*j) (by omega)).mono ?_⟩
   rintro r H3 oY ⟨tp,tn,tc,rfl,W4⟩
   rw [ae,MR] at W4
   refine ⟨_,_,_,rfl,(((g-1:Nat):Int),tp,tn,tc),?_,by (try dsimp only);and_intros<;>first|exact True.intro|rfl,g-1,rfl,by omega,by omega,W4⟩
   (try dsimp only);omega
  ·have h6:W*g*4294967296^j<=R:=by
    have h6:¬0<kc (W*g*4294967296^j) R:=by simpa using h6
    unfold kc at h6
    split at h6
    ·omega
    ·split at h6
     ·omega
     ·omega
   have hstop:=EA Xc h6 Zo
   rw [←hstop] at hI'
   have hes:=hI.len
   refine ⟨⟨by omega,by omega⟩,by simp;omega,fun HT nB=>(oo (PM.le (dv.trans (c_.trans (dM.trans nB)))) (ht.le (c_.trans (dM.trans nB))) (by omega) (aG h6) (by rw [ae,ae];exact h6)).mono ?_⟩
   rintro r Kr lS ⟨np,nn,nc,rfl,W5⟩
   rw [ae,ae] at W5
   have e1:u32.wrap (g:Int)=(g:Int):=qb (by omega)
   have e2:(aC es).set (0+j*1) (.int .u32 (g:Int))=aC (es.set j g):=by rw [←bw];simp
   simp only [e1]
   refine ⟨_,_,_,rfl,(np,nn,nc,(j:Int)-1,aC (es.set j g)),?_,by (try dsimp only);and_intros<;>first|exact True.intro|rfl|exact e2|(rw [←bw];simp),R-W*g*4294967296^j,W5,by (try dsimp only);omega,by (try dsimp only);omega,_,rfl,?_⟩
   ·(try dsimp only);omega
   ·(try dsimp only)
    rw [show ((j:Int)-1+1).toNat=j from by omega]
    exact hI'
 ·have h3:j=-1:=by simp at h3;omega
  subst h3
  have Ub:(ag R).length<=1099511627776:=by
   have h6:=hI.lt
   have h6:R<W:=by simpa using h6
   have:=aG (Nat.le_of_lt h6)
   omega
  intro V8 l8 bk hb
  refine (cZ (RD.bD hb hI.eN (n:=L) (c:=L) hI.len.symm (Nat.le_refl _)) (by have:=hI.len;omega)).mono ?_
  rintro r V9 l9 ⟨k,rfl,h4⟩
  refine ⟨_,_,_,rfl,fun _ jh l10=>(B8 (hR.le (l8.trans (l9.trans l10))) Ub s (by omega)).mono ?_⟩
  rintro r jd bG ⟨p2,n2,c2,rfl,h5⟩
  rw [ae] at h5
  refine ⟨_,_,_,rfl,fun nF cN=>⟨_,_,_,_,_,_,rfl,?_,?_⟩⟩
  ·have h6:=hI.lt
   have h7:=hI.eq
   have h6:R<W:=by simpa using h6
   have h7:A=W*val es+R:=by simpa using h7
   obtain ⟨g1,g2⟩:=hend h7 h6
   rw [aO hI.eN,g1] at h4
   exact h4.le (l10.trans (bG.trans cN))
  ·have h6:=hI.lt
   have h7:=hI.eq
   have h6:R<W:=by simpa using h6
   have h7:A=W*val es+R:=by simpa using h7
   obtain ⟨g1,g2⟩:=hend h7 h6
   rw [g2] at h5
   exact h5.le cN
theorem qj {x:Nat}(h:(ag x).length<=2):x<18446744073709551616:=by
 have:=aE.1 h
 omega
theorem copied {V:View}{b n c:Nat}{ds:List Nat}{sp:List Value}{ty:TypeId}(hd:bV ds)(hn:n=ds.length)(hc:n<=c)(hb:V.bD b (.cells (aC ds++sp).toArray ty (0,0))):RD V (some ⟨b,0,none⟩) n c ds:=by
 refine ⟨hn,hc,fun i v hv=>⟨_,rfl,?_⟩,hd,fun e=>nomatch e⟩
 rw [add_zero']
 refine fH hb ?_
 rw [List.getElem?_append_left]
 ·exact hv
 ·rcases Nat.lt_or_ge i (aC ds).length with e|e
  ·exact e
  ·rw [List.getElem?_eq_none e] at hv;cases hv
theorem eE {V:View}{p q:OA}{n c m e:Nat}{x y:Nat}(hx:RN V p n c x)(hy:RN V q m e y)(hm:(ag x).length<=274877906944)(hm':(ag y).length<=274877906944)(hy0:0<y) :
  ab prog 125 #[.slice p n c,.slice q m e] V fun r V'=>∃p1 n1 c1 p2 n2 c2,r=.tuple #[.slice p1 n1 c1,.slice p2 n2 c2]/\RN V' p1 n1 c1 (x / y)/\RN V' p2 n2 c2 (x%y):=by
 have hlx:=hx.len
 have zz:=hy.len
 have hm0:0<m:=by
  rcases Nat.eq_zero_or_pos m with h|h
  ·have:=bu.1 (List.length_eq_zero_iff.1 (zz▸h));omega
  ·exact h
 refine yj p n c q m e V _ fun V1 l1=>(kO (hx.le l1) (by omega)).mono ?_
 rintro r V2 l2 rfl
 rw [ae]
 refine ⟨_,_,rfl,fun z V'=>True,⟨fun h0=>?_,fun h0=>⟨(),by (try dsimp only);and_intros<;>first|exact True.intro|rfl,trivial⟩⟩,?_⟩
 ·have h0:n<=2:=by simpa using h0
  refine fun V3 l3=>(kO (hy.le (l1.trans (l2.trans l3))) (by omega)).mono ?_
  rintro r V4 l4 rfl
  rw [ae]
  refine ⟨_,_,rfl,fun h1=>?_,fun h1=>⟨(),by (try dsimp only);and_intros<;>first|exact True.intro|rfl,trivial⟩⟩
  have h1:m<=2:=by simpa using h1
  have hxw:=qj (x:=x) (by omega)
  have Xq:=qj (x:=y) (by omega)
  rw [if_pos h0,if_pos h1]
  have hq:x / y<=x:=Nat.div_le_self _ _
  have hr:x%y<y:=Nat.mod_lt _ hy0
  have e1:((x:Nat):Int).tdiv (y:Int)=((x / y:Nat):Int):=by rw [Int.tdiv_eq_ediv_of_nonneg (by omega)];omega
  have e2:((x:Nat):Int).tmod (y:Int)=((x%y:Nat):Int):=by rw [Int.tmod_eq_emod_of_nonneg (by omega)];omega
  rw [e1,e2]
  generalize x / y=qq at *
  generalize x%y=rr at *
  have e3:u64.wrap (qq:Int)=qq:=aM (by omega)
  rw [e3]
  refine ⟨by omega,by omega,fun V5 l5=>(dA qq (by omega)).mono ?_⟩
  rintro r V6 l6 ⟨p1,n1,c1,rfl,g1⟩
  refine ⟨_,_,_,rfl,fun V7 l7=>(dA rr (by omega)).mono ?_⟩
  rintro r V8 l8 ⟨p2,n2,c2,rfl,g2⟩
  exact ⟨_,_,_,rfl,fun V9 l9=>⟨_,_,_,_,_,_,rfl,g1.le (l7.trans (l8.trans l9)),g2.le l9⟩⟩
 rintro _ jh l10 _
 replace hx:=hx.le (l1.trans (l2.trans l10))
 replace hy:=hy.le (l1.trans (l2.trans l10))
 refine ⟨by trivial,fun jd bG=>(iu (hx.le bG) (hy.le bG) (by omega) (by omega)).mono ?_⟩
 rintro r nF cN rfl
 replace hx:=hx.le (bG.trans cN)
 replace hy:=hy.le (bG.trans cN)
 refine ⟨_,rfl,fun h0=>⟨aC (ag x),hx.sl,by simp [hlx],by omega,by omega,by simp,by simp [hlx],?_,?_⟩,fun h0=>⟨fun h1=>?_,fun h1=>?_⟩⟩
 ·intro v hv
  simp only [aC,List.mem_map] at hv
  obtain ⟨d,-,rfl⟩:=hv
  rfl
 ·have h0:x<y:=by simpa [fK] using h0
  intro bk J sp c' h1 h2 V1 l1 b hb
  rw [Nat.div_eq_of_lt h0,Nat.mod_eq_of_lt h0]
  refine ⟨_,_,_,_,_,_,rfl,RD.nil,?_⟩
  simp only [Nat.zero_add,Nat.zero_mul,List.take_zero,List.nil_append] at hb h1 ⊢
  exact copied (aD x) hlx h1 hb
 ·have h0:y<=x:=by simpa [←Int.not_lt,fK] using h0
  have h1:m=1:=by simp at h1;omega
  subst h1
  obtain ⟨d,hd⟩:=kZ (ds:=ag y) (by omega)
  have hdy:d=y:=by have:=ae y;rw [hd] at this;simpa using this
  subst hdy
  have hdl:d<4294967296:=by have:=aD d;rw [hd] at this;exact (bV.cons.1 this).1
  try unfold RN at hy
  rw [hd] at hy
  have hn0:0<n:=by have:=aG h0;omega
  have w1:i64.wrap ((n:Int)-1)=(n:Int)-1:=ay (by omega)
  simp only [w1,Int.toNat_natCast,cQ]
  have zx:=aD x
  have Qc:=ae x
  try unfold RN at hx
  clear hd
  rw [←Qc]
  clear Qc h0
  generalize ag x=xs at *
  refine ⟨by omega,by omega,by omega,fun z V'=>0<=z.1/\z.1<d/\-1<=z.2.1/\z.2.1<n/\∃es:List Nat,z.2.2=aC es/\es.length=n/\bV es /\
   val (xs.drop (z.2.1+1).toNat)=d*val (es.drop (z.2.1+1).toNat)+z.1.toNat,fun z=>(z.2.1+1).toNat,
   ⟨(0,(n:Int)-1,aC (List.replicate n 0)),by (try dsimp only);and_intros<;>first|exact True.intro|rfl,by (try dsimp only);omega,by (try dsimp only);omega,by (try dsimp only);omega,by (try dsimp only);omega,_,rfl,by simp,bV.rep _,?_⟩,?_⟩
  ·(try dsimp only)
   rw [List.drop_of_length_le (by omega),List.drop_of_length_le (by simp)];rfl
  rintro ⟨rest,i,vs⟩ nG dE ⟨hr0,hr1,hi0,hi1,es,rfl,hes,hde,hv⟩
  dsimp only at hr0 hr1 hi0 hi1 hv ⊢
  obtain ⟨rest,rfl⟩:=Int.eq_ofNat_of_zero_le hr0
  refine ⟨by trivial,fun h3=>?_,fun h3=>?_⟩
  ·have h3:0<=i:=by simpa using h3
   obtain ⟨i,rfl⟩:=Int.eq_ofNat_of_zero_le h3
   have hi2:((i:Int)+1).toNat=i+1:=by omega
   rw [hi2] at hv
   simp only [Int.toNat_natCast] at hv ⊢
   have T0:=zx.get (i:=i) (by omega)
   refine (hx.le dE).rd i rfl (by omega) (C8 (hy.le dE) (by simp) fun lU dO=>(KL rest xs[i] d (by omega) T0 hdl).mono ?_)
   rintro r lR dv rfl
   have hq:(rest*4294967296+xs[i]) / d<4294967296:=by
    rw [Nat.div_lt_iff_lt_mul (by omega)]
    have:rest+1<=d:=by omega
    have:=Nat.mul_le_mul_right 4294967296 this
    rw [Nat.mul_comm 4294967296 d]
    omega
   have hr:(rest*4294967296+xs[i])%d<d:=Nat.mod_lt _ (by omega)
   have EB:=Nat.div_add_mod (rest*4294967296+xs[i]) d
   generalize (rest*4294967296+xs[i]) / d=q at *
   generalize (rest*4294967296+xs[i])%d=r at *
   have w2:i64.wrap ((i:Int)-1)=(i:Int)-1:=ay (by omega)
   simp only [w2]
   refine ⟨_,_,rfl,⟨by omega,by omega⟩,by simp;omega,((r:Int),(i:Int)-1,aC (es.set i q)),?_,?_,?_⟩
   ·(try dsimp only);omega
   ·(try dsimp only);and_intros<;>first|exact True.intro|rfl|(rw [←bw];simp)
   ·(try dsimp only)
    refine ⟨by omega,by omega,by omega,by omega,_,rfl,by simpa using hes,hde.set _ _ (by omega),?_⟩
    have hi3:((i:Int)-1+1).toNat=i:=by omega
    rw [hi3,List.drop_eq_getElem_cons (by omega),List.drop_eq_getElem_cons (l:=es.set i q) (by simp;omega),List.getElem_set_self,List.drop_set_of_lt (by omega)]
    have h9:xs[i]+4294967296*val (List.drop (i+1) xs)=d*(q+4294967296*val (List.drop (i+1) es))+r:=vQ hv EB
    rw [bj,bj,Int.toNat_natCast]
    exact h9
  ·have h3:i=-1:=by simp at h3;omega
   subst h3
   simp only [Int.toNat_natCast] at hv
   have hv:val xs=d*val es+rest:=by simpa using hv
   intro nH c_ bk hb
   refine (cZ (RD.bD hb hde (n:=n) (c:=n) (by omega) (Nat.le_refl _)) (by omega)).mono ?_
   rintro r qm dM ⟨k,rfl,h4⟩
   refine ⟨_,_,_,rfl,fun _ rI dF bk2 hb2=>?_⟩
   have hb2:rI.bD bk2 (.cells (aC [rest]).toArray 188 (0,0)):=by
    simpa [aC] using hb2
   refine (cZ (RD.bD hb2 (n:=1) (c:=1) (by simp [bV];omega) rfl (Nat.le_refl _)) (by simp)).mono ?_
   rintro r zW gI ⟨k2,rfl,h5⟩
   refine ⟨_,_,_,rfl,fun _ w_ fS=>⟨_,_,_,_,_,_,rfl,?_,?_⟩⟩
   ·have e1:val xs / d=val es:=by rw [hv,Nat.mul_add_div (by omega),Nat.div_eq_of_lt (by omega),Nat.add_zero]
    rw [aO hde] at h4
    rw [e1]
    exact h4.le (dF.trans (gI.trans fS))
   ·have e2:val xs%d=rest:=by rw [hv,Nat.mul_add_mod,Nat.mod_eq_of_lt (by omega)]
    rw [aO (by simp [bV];omega)] at h5
    have e3:val [rest]=rest:=by simp
    rw [e3] at h5
    rw [e2]
    exact h5.le fS
 ·have h0:y<=x:=by simpa [←Int.not_lt,fK] using h0
  refine fun rH dg=>(Eh (hx.le dg) (hy.le dg) hm hy0 (aG h0)).mono ?_
  rintro r nG dE ⟨p1,n1,c1,p2,n2,c2,rfl,g1,g2⟩
  exact ⟨_,_,_,_,_,_,rfl,fun lU dO=>⟨_,_,_,_,_,_,rfl,g1.le dO,g2.le dO⟩⟩
theorem kK {V:View}{p q:OA}{n c m e:Nat}{x y:Nat}(hx:RN V p n c x)(hy:RN V q m e y)(hm:(ag x).length<=274877906944)(hm':(ag y).length<=274877906944) :
  ab prog 124 #[.slice p n c,.slice q m e] V fun r V'=>∃p1 n1 c1,r=.slice p1 n1 c1/\RN V' p1 n1 c1 (Nat.gcd x y):=by
 have hlx:=hx.len
 have zz:=hy.len
 refine yh p n c q m e V _ fun V1 l1=>(kO (hx.le l1) (by omega)).mono ?_
 rintro r V2 l2 rfl
 rw [ae]
 refine ⟨_,_,rfl,fun z V'=>True,⟨fun h0=>?_,fun h0=>⟨(),by (try dsimp only);and_intros<;>first|exact True.intro|rfl,trivial⟩⟩,?_⟩
 ·have h0:n<=2:=by simpa using h0
  refine fun V3 l3=>(kO (hy.le (l1.trans (l2.trans l3))) (by omega)).mono ?_
  rintro r V4 l4 rfl
  rw [ae]
  refine ⟨_,_,rfl,fun h1=>?_,fun h1=>⟨(),by (try dsimp only);and_intros<;>first|exact True.intro|rfl,trivial⟩⟩
  have h1:m<=2:=by simpa using h1
  have hxw:=qj (x:=x) (by omega)
  have Xq:=qj (x:=y) (by omega)
  rw [if_pos h0,if_pos h1]
  refine ⟨fun z V'=>∃a b:Nat,z=((a:Int),(b:Int))/\a<18446744073709551616/\b<18446744073709551616/\Nat.gcd a b=Nat.gcd x y,fun z=>z.2.toNat,
   ⟨((x:Int),(y:Int)),by (try dsimp only);and_intros<;>first|exact True.intro|rfl,x,y,rfl,hxw,Xq,rfl⟩,?_⟩
  rintro _ V5 l5 ⟨a,b,rfl,ha,hb,hg⟩
  dsimp only
  refine ⟨by trivial,fun h3=>?_,fun h3=>?_⟩
  ·have h3:0<b:=by simpa using h3
   have e2:(a:Int).tmod (b:Int)=((a%b:Nat):Int):=by rw [Int.tmod_eq_emod_of_nonneg (by omega)];omega
   have hr:a%b<b:=Nat.mod_lt _ h3
   refine ⟨by omega,((b:Int),((a%b:Nat):Int)),?_,by (try dsimp only);and_intros<;>first|exact True.intro|rfl|exact e2,b,a%b,rfl,hb,by omega,?_⟩
   ·(try dsimp only);simp only [Int.toNat_natCast];exact hr
   ·rw [←hg,Nat.gcd_comm a b,Nat.gcd_rec b a,Nat.gcd_comm]
  ·have h3:b=0:=by simp at h3;omega
   subst h3
   rw [Nat.gcd_zero_right] at hg
   refine fun V6 l6=>(dA a ha).mono ?_
   rintro r V7 l7 ⟨p1,n1,c1,rfl,g1⟩
   rw [hg] at g1
   exact ⟨_,_,_,rfl,fun V8 l8=>⟨_,_,_,rfl,g1.le l8⟩⟩
 rintro _ V9 l9 _
 replace hx:=hx.le (l1.trans (l2.trans l9))
 replace hy:=hy.le (l1.trans (l2.trans l9))
 refine ⟨by trivial,fun z k V'=>∃a b:Nat,RN V' z.1 z.2.1 z.2.2.1 a/\RN V' z.2.2.2.1 z.2.2.2.2.1 z.2.2.2.2.2 b/\b=k/\(ag a).length<=274877906944/\(ag b).length<=274877906944/\Nat.gcd a b=Nat.gcd x y,
  ⟨(p,n,c,q,m,e),y,by (try dsimp only);and_intros<;>first|exact True.intro|rfl,x,y,hx,hy,rfl,hm,hm',rfl⟩,?_⟩
 rintro ⟨ap,an,ac,bp,bn,bc⟩ _ jh l10 ⟨a,b,ha,hb,rfl,hal,hbl,hg⟩
 dsimp only at ha hb ⊢
 have hla:=ha.len
 have hlb:=hb.len
 refine ⟨by trivial,fun h3=>?_,fun h3=>?_⟩
 ·have h3:0<bn:=by simpa using h3
  have hb0:0<b:=by
   rcases Nat.eq_zero_or_pos b with h|h
   ·subst h;simp at hlb;omega
   ·exact h
  refine fun jd bG=>(eE (ha.le bG) (hb.le bG) hal hbl hb0).mono ?_
  rintro r nF cN ⟨p1,n1,c1,p2,n2,c2,rfl,g1,g2⟩
  have hr:a%b<b:=Nat.mod_lt _ hb0
  have hrl:=aG (Nat.le_of_lt hr)
  refine ⟨_,_,_,_,_,_,rfl,(bp,bn,bc,p2,n2,c2),a%b,hr,by (try dsimp only);and_intros<;>first|exact True.intro|rfl,b,a%b,hb.le (bG.trans cN),g2,rfl,hbl,by omega,?_⟩
  rw [←hg,Nat.gcd_comm a b,Nat.gcd_rec b a,Nat.gcd_comm]
 ·have h3:bn=0:=by simp at h3;omega
  have hb0:b=0:=bu.1 (List.length_eq_zero_iff.1 (by omega))
  subst hb0
  rw [Nat.gcd_zero_right] at hg
  rw [←hg]
  refine ⟨aC (ag a),ha.sl,by simp [hla],by omega,by omega,by simp,by simp [hla],?_,?_⟩
  ·intro v hv
   simp only [aC,List.mem_map] at hv
   obtain ⟨d,-,rfl⟩:=hv
   rfl
  ·intro bk J sp c' h1 h2 V1 l1 b hb
   refine ⟨_,_,_,rfl,?_⟩
   simp only [Nat.zero_add,Nat.zero_mul,List.take_zero,List.nil_append] at hb h1 ⊢
   exact copied (aD a) hla h1 hb
end Go.Proofs.Tryz
namespace Go.fo
def aX (b:Bool)(ds:List Nat):Int:=if b then -(val ds:Int) else val ds
end Go.fo
namespace Go.bJ
open Go.fo
def RI (V:View)(v:Value)(z:Int):Prop:=∃p n c,v=.agg #[.bool (decide (z<0)),.slice p n c]/\RD V p n c (ag z.natAbs)
theorem RI.le {V V':View}{v:Value}{z:Int}(h:RI V v z)(l:V.Le V'):RI V' v z:=by
 obtain ⟨p,n,c,e,h⟩:=h;exact ⟨p,n,c,e,h.le l⟩
theorem RI.mk {V:View}{b:Bool}{p:OA}{n c:Nat}{z:Int}(hb:b=decide (z<0))(h:RD V p n c (ag z.natAbs)):RI V (.agg #[.bool b,.slice p n c]) z:=⟨p,n,c,by rw [hb],h⟩
theorem RI.zero {V:View}:RI V (.agg #[.bool false,.slice none 0 0]) 0:=⟨_,_,_,rfl,RD.nil⟩
end Go.bJ
namespace Go.Proofs.Tryz
open Go.bJ Go.fo
theorem jZ {n:Nat}:bP n=0↔n=0:=by
 unfold bP;split<;>simp_all
theorem d_ (b:Bool)(ds:List Nat):(aX b ds).natAbs=val ds:=by unfold aX;cases b<;>simp
theorem CC (b:Bool)(ds:List Nat):aX b ds<0↔b=true/\val ds≠0:=by
 unfold aX;cases b
 ·simp
 ·simp;omega
theorem aF (z:Int):aX (decide (z<0)) (ag z.natAbs)=z:=by
 unfold aX;rw [ae]
 by_cases h:z<0
 ·rw [decide_eq_true h,if_pos rfl];omega
 ·rw [decide_eq_false h,if_neg (by decide)];omega
theorem IX (b:Bool)(ds:List Nat):aX (!b) ds=-aX b ds:=by unfold aX;cases b<;>simp
theorem oA (ds:List Nat):aX false ds=val ds:=rfl
theorem fN {x n:Nat}(h:n=(ag x).length):0<n↔x≠0:=by
 rw [h]
 constructor
 ·intro h1 h2;subst h2;simp at h1
 ·intro h1
  rcases Nat.eq_zero_or_pos (ag x).length with e|e
  ·exact absurd (bu.1 (List.length_eq_zero_iff.1 e)) h1
  ·exact e
theorem j9 {V:View}(b:Bool){p:OA}{n c x:Nat}(h:RN V p n c x) :
  ab prog 227 #[.bool b,.slice p n c] V fun r V'=>RI V' r (if b then -(x:Int) else x):=by
 have hp:=fN h.len
 refine qi b p n c V _ ⟨fun h0 V1 l1=>?_,fun h0 V1 l1=>?_⟩
 ·rw [if_pos h0]
  refine RI.mk ?_ ?_
  ·rw [Bool.eq_iff_iff,decide_eq_true_eq,decide_eq_true_eq]
   omega
  ·rw [Int.natAbs_neg,Int.natAbs_natCast];exact h.le l1
 ·rw [h0,if_neg (by decide)]
  refine RI.mk ?_ ?_
  ·symm;rw [decide_eq_false_iff_not];omega
  ·rw [Int.natAbs_natCast];exact h.le l1
theorem iE {V:View}(b:Bool){p:OA}{n c:Nat}{ds:List Nat}(h:RD V p n c ds)(hm:ds.length<=1099511627776) :
  ab prog 186 #[.agg #[.bool b,.slice p n c]] V fun r V'=>RI V' r (aX b ds):=by
 refine tu b p n c V _ fun V1 l1=>(iG (h.le l1) hm).mono ?_
 rintro r V2 l2 ⟨p1,n1,c1,rfl,h1⟩
 have hp:=fN h1.len
 have hn:=CC b ds
 refine ⟨_,_,_,rfl,fun h0 V3 l3=>RI.mk ?_ ?_,fun h0 V3 l3=>RI.mk ?_ ?_⟩
 ·rw [Bool.eq_iff_iff,decide_eq_true_eq,decide_eq_true_eq,hn]
  simp [h0];omega
 ·rw [d_];exact h1.le l3
 ·symm;rw [decide_eq_false_iff_not,hn];simp [h0]
 ·rw [d_];exact h1.le l3
def lL (b:Bool)(ds:List Nat):Bool:=decide (ag (val ds)=ds)&&(!b||decide (ds≠[]))
theorem fZ {V:View}(b:Bool){p:OA}{n c:Nat}{ds:List Nat}(h:RD V p n c ds)(hm:ds.length<=1099511627776) :
  ab prog 174 #[.agg #[.bool b,.slice p n c]] V fun r V'=>r=.bool (lL b ds):=by
 refine qh b p n c V _ fun V1 l1=>(Al (h.le l1) hm).mono ?_
 rintro r V2 l2 rfl
 refine ⟨_,rfl,fun h0=>⟨fun h1 V3 l3=>?_,fun h1 V3 l3=>?_⟩,fun h0 V3 l3=>?_⟩
 ·simp [lL,h0];simp at h1;simp [h1]
 ·have hl:=h.len
  simp [lL,h0];simp at h1;simp [h1]
  rw [Bool.eq_iff_iff,decide_eq_true_eq]
  simp
  constructor
  ·intro h2 h3;subst h3;simp at hl;omega
  ·intro h2
   rcases Nat.eq_zero_or_pos ds.length with e|e
   ·exact absurd (List.length_eq_zero_iff.1 e) h2
   ·omega
 ·simp [lL,h0]
theorem jn {V:View}(n:Int)(h0:-9223372036854775808<=n)(h1:n<=9223372036854775807) :
  ab prog 187 #[.int .i64 n] V fun r V'=>RI V' r n:=by
 refine oO n V _ ⟨fun h2 V1 l1=>?_,fun h2 V1 l1=>?_⟩
 ·have h2:n<0:=by simpa using h2
  have e:u64.wrap (0-u64.wrap n)=-n:=by rw [rk,rk];omega
  rw [e]
  refine (dV _ (by omega) (by omega)).mono ?_
  rintro r V2 l2 ⟨p1,n1,c1,rfl,g1⟩
  refine ⟨_,_,_,rfl,fun V3 l3=>⟨_,_,_,rfl,?_⟩⟩
  rw [show n.natAbs=(-n).toNat from by omega];exact g1.le l3
 ·have h2:0<=n:=by simpa using h2
  rw [aM (by omega)]
  refine (dV _ (by omega) (by omega)).mono ?_
  rintro r V2 l2 ⟨p1,n1,c1,rfl,g1⟩
  refine ⟨_,_,_,rfl,fun V3 l3=>⟨_,_,_,rfl,?_⟩⟩
  rw [show n.natAbs=n.toNat from by omega];exact g1.le l3
theorem ma {V:View}(b:Bool){p:OA}{n c:Nat}{ds:List Nat}(h:RD V p n c ds)(hm:ds.length<=1099511627776) :
  ab prog 185 #[.agg #[.bool b,.slice p n c]] V fun r V'=>r=.int .i64 (aX b ds).sign:=by
 refine tv b p n c V _ fun V1 l1=>(iF (h.le l1) hm).mono ?_
 rintro r V2 l2 rfl
 have hz:(aX b ds)=0↔val ds=0:=by rw [←d_ b ds];omega
 have hn:=CC b ds
 refine ⟨_,rfl,fun h0 V3 l3=>?_,fun h0=>⟨fun h1 V3 l3=>?_,fun h1 V3 l3=>?_⟩⟩
 ·have:val ds=0:=jZ.1 (by simp at h0;omega)
  rw [hz.2 this];rfl
 ·have:val ds≠0:=fun e=>by simp [jZ.2 e] at h0
  rw [Int.sign_eq_neg_one_of_neg (hn.2 ⟨h1,this⟩)]
 ·have:val ds≠0:=fun e=>by simp [jZ.2 e] at h0
  have:0<aX b ds:=by
   have:=hz
   have:¬aX b ds<0:=by rw [hn];simp [h1]
   omega
  rw [Int.sign_eq_one_of_pos this]
theorem xj {V:View}(b:Bool){p:OA}{n c:Nat}{ds:List Nat}(h:RD V p n c ds)(hm:ds.length<=1099511627776) :
  ab prog 193 #[.agg #[.bool b,.slice p n c]] V fun r V'=>RI V' r (-aX b ds):=by
 refine wE b p n c V _ fun V1 l1=>(iE (!b) (h.le l1) hm).mono ?_
 rintro r V2 l2 ⟨p1,n1,c1,rfl,h1⟩
 rw [IX] at h1 ⊢
 exact ⟨_,_,_,_,rfl,fun V3 l3=>⟨_,_,_,rfl,h1.le l3⟩⟩
theorem gy {V:View}(b1 b2:Bool){p q:OA}{n c m e:Nat}{xa xb:List Nat}(ha:RD V p n c xa)(hb:RD V q m e xb)(hm:xa.length+xb.length<=1099511627776) :
  ab prog 214 #[.agg #[.bool b1,.slice p n c],.agg #[.bool b2,.slice q m e]] V fun r V'=>RI V' r (aX b1 xa*aX b2 xb):=by
 refine wD b1 p n c b2 q m e V _ fun V1 l1=>(f_ (ha.le l1) (hb.le l1) hm).mono ?_
 rintro r V2 l2 ⟨p1,n1,c1,rfl,h1⟩
 refine ⟨_,_,_,rfl,fun V3 l3=>(j9 _ (h1.le l3)).mono ?_⟩
 rintro r V4 l4 ⟨p2,n2,c2,rfl,h2⟩
 have e1:(if (!(b1==b2))=true then -((val xa*val xb:Nat):Int) else ((val xa*val xb:Nat):Int))=aX b1 xa*aX b2 xb:=by
  unfold aX;cases b1<;>cases b2<;>simp [Int.neg_mul,Int.mul_neg]
 rw [e1] at h2 ⊢
 exact ⟨_,_,_,_,rfl,fun V5 l5=>⟨_,_,_,rfl,h2.le l5⟩⟩
theorem xi {V:View}(b1 b2:Bool){p q:OA}{n c m e:Nat}{xa xb:List Nat}(ha:RD V p n c xa)(hb:RD V q m e xb)(hm:xa.length<=1099511627776)(hn:xb.length<=1099511627776) :
  ab prog 213 #[.agg #[.bool b1,.slice p n c],.agg #[.bool b2,.slice q m e]] V fun r V'=>RI V' r (aX b1 xa+aX b2 xb):=by
 have fin:∀{b:Bool} {x:Nat} {V1:View} {p1:OA} {n1 c1:Nat},RN V1 p1 n1 c1 x->(if b then -(x:Int) else x)=aX b1 xa+aX b2 xb ->
   ab prog 227 #[.bool b,.slice p1 n1 c1] V1 fun r V'=>∃(H9:Bool)(Jy:OA)(Ji Ig:Nat),r=.agg #[.bool H9,.slice Jy Ji Ig]/\∀V3:View,V'.Le V3->RI V3 (.agg #[.bool H9,.slice Jy Ji Ig]) (aX b1 xa+aX b2 xb):=by
  intro b x V1 p1 n1 c1 h he
  refine (j9 b h).mono ?_
  rintro r V4 l4 ⟨p2,n2,c2,rfl,h2⟩
  rw [he] at h2 ⊢
  exact ⟨_,_,_,_,rfl,fun V5 l5=>⟨_,_,_,rfl,h2.le l5⟩⟩
 refine wC b1 p n c b2 q m e V _ ⟨fun h0 V1 l1=>(GX (ha.le l1) (hb.le l1) hm hn).mono ?_,fun h0 V1 l1=>(ze (ha.le l1) (hb.le l1) hm hn).mono ?_⟩
 ·rintro r V2 l2 ⟨p1,n1,c1,rfl,h1⟩
  have h0:b1=b2:=by simpa using h0
  subst h0
  exact ⟨_,_,_,rfl,fun V3 l3=>fin (h1.le l3) (by unfold aX;cases b1<;>simp;omega)⟩
 ·rintro r V2 l2 ⟨p1,n1,c1,rfl,h1⟩
  have h0:b2=!b1:=by cases b1<;>cases b2<;>simp_all
  subst h0
  refine ⟨_,_,_,_,rfl,fun h2 V3 l3=>fin (h1.le l3) ?_,fun h2 V3 l3=>(ze (hb.le (l1.trans (l2.trans l3))) (ha.le (l1.trans (l2.trans l3))) hn hm).mono ?_⟩
  ·have h2:val xb<=val xa:=by simpa using h2
   unfold aX;cases b1<;>simp<;>omega
  ·rintro r V4 l4 ⟨p2,n2,c2,rfl,h3⟩
   have h2:val xa<val xb:=by simpa using h2
   exact ⟨_,_,_,_,rfl,fun V5 l5=>fin (h3.le l5) (by unfold aX;cases b1<;>simp<;>omega)⟩
theorem sO {V:View}(b:Bool){p:OA}{n c:Nat}{ds:List Nat}(h:RD V p n c ds)(hm:ds.length<=1099511627776)(hs:val ds<4611686018427387904) :
  ab prog 220 #[.agg #[.bool b,.slice p n c]] V fun r V'=>r=.tuple #[.int .i64 (aX b ds),.bool true]:=by
 refine rD b p n c V _ fun V1 l1=>(kJ (h.le l1) hm).mono ?_
 rintro r V2 l2 rfl
 rw [if_pos (by omega),decide_eq_true (show val ds<18446744073709551616 by omega)]
 refine ⟨_,_,rfl,fun _=>⟨fun h1=>⟨fun h2 V3 l3=>?_,fun h2=>?_⟩,fun h1=>⟨fun _=>⟨fun h2=>⟨fun h3 V4 l4=>?_,fun h3=>?_⟩,fun h2=>?_⟩,fun h2=>nomatch h2⟩⟩,fun h1=>nomatch h1⟩
 ·subst h1
  have e:i64.wrap (u64.wrap (0-(val ds:Int)))=-(val ds:Int):=by
   rw [rk,IntKind.wrap_i64];omega
  rw [e];rfl
 ·simp at h2;omega
 ·subst h1
  rw [ay (by omega)];rfl
 ·simp at h3;omega
 ·simp [h1] at h2
end Go.Proofs.Tryz
namespace Go.bJ
open Go.fo
def Wd (q:Rat):Prop:=q.num.natAbs<4611686018427387904/\q.den<4611686018427387904
def RR (V:View)(v:Value)(q:Rat):Prop:=
 (v=.agg #[.int .i64 q.num,.int .i64 ((q.den:Int)-1),.pointer none]/\Wd q) \/
 (∃a b p n c p' n' c',v=.agg #[.int .i64 0,.int .i64 0,.pointer (some a)]/\V.at (a.add 0) (.bool b)/\V.at (a.add 1) (.slice p n c)/\V.at (a.add 2) (.slice p' n' c') /\
  RI V (.agg #[.bool b,.slice p n c]) q.num/\RD V p' n' c' (ag q.den)/\¬Wd q)
theorem RR.le {V V':View}{v:Value}{q:Rat}(h:RR V v q)(l:V.Le V'):RR V' v q:=by
 rcases h with h|⟨a,b,p,n,c,p',n',c',e,h1,h2,h3,h4,h5,h6⟩
 ·exact .inl h
 ·exact .inr ⟨a,b,p,n,c,p',n',c',e,l.at h1,l.at h2,l.at h3,h4.le l,h5.le l,h6⟩
def Sz (k:Nat)(q:Rat):Prop:=q.num.natAbs<2^k/\q.den<2^k
theorem Sz.mono {k m:Nat}{q:Rat}(h:Sz k q)(hm:k<=m):Sz m q:=
 ⟨Nat.lt_of_lt_of_le h.1 (Nat.pow_le_pow_right (by omega) hm),Nat.lt_of_lt_of_le h.2 (Nat.pow_le_pow_right (by omega) hm)⟩
theorem af {n k:Nat}(h:n<2^k):(ag n).length<=k:=by
 rw [aE]
 exact Nat.lt_of_lt_of_le h (Nat.pow_le_pow_left (by omega) k)
theorem Wd.sz {q:Rat}(h:Wd q):Sz 62 q:=h
theorem RR.shape {V:View}{v:Value}{q:Rat}(h:RR V v q):∃(n d:Int)(p:OA),v=.agg #[.int .i64 n,.int .i64 d,.pointer p]:=by
 rcases h with ⟨e,-⟩|⟨a,b,p,n,c,p',n',c',e,-⟩
 ·exact ⟨_,_,_,e⟩
 ·exact ⟨_,_,_,e⟩
end Go.bJ
namespace Go.Proofs.Tryz
open Go.bJ Go.fo
theorem Ae (n:Nat):decide ((bP n:Int)<=62)=decide (n<4611686018427387904):=by
 have:=@jk n 62
 rw [Bool.eq_iff_iff,decide_eq_true_eq,decide_eq_true_eq]
 omega
theorem Hn {z:Int}{d:Nat}(hd:d≠0)(hg:Nat.gcd z.natAbs d=1):(mkRat z d).num=z/\(mkRat z d).den=d:=by
 have:Nat.gcd d z.natAbs=1:=by rw [Nat.gcd_comm];exact hg
 rw [Rat.num_mkRat,Rat.den_mkRat,if_neg hd,if_neg hd,this]
 simp
theorem cq {V:View}(b:Bool){p q:OA}{n c m e:Nat}{xs ys:List Nat}(hx:RD V p n c xs)(hy:RD V q m e ys)(hm:xs.length<=1099511627776)(hn:ys.length<=1099511627776) :
  ab prog 190 #[.agg #[.bool b,.slice p n c],.slice q m e] V fun r V'=>RR V' r (mkRat (aX b xs) (val ys)):=by
 have zero:∀V':View,RR V' (.agg #[.int .i64 0,.int .i64 0,.pointer none]) 0:=fun V'=>.inl ⟨rfl,by unfold Wd;decide⟩
 refine wk b p n c q m e V _ fun V1 l1=>(iF (hy.le l1) hn).mono ?_
 rintro r V2 l2 rfl
 refine ⟨_,rfl,fun h0 V3 l3=>?_,fun h0 V4 l4=>(ma b (hx.le (l1.trans (l2.trans l4))) hm).mono ?_⟩
 ·have:val ys=0:=jZ.1 (by simp at h0;omega)
  rw [this,Rat.mkRat_zero];exact zero _
 rintro r V5 l5 rfl
 have hy0:val ys≠0:=fun e=>by simp [jZ.2 e] at h0
 refine ⟨_,rfl,fun h1 V6 l6=>?_,fun h1 V7 l7=>?_⟩
 ·have:aX b xs=0:=Int.sign_eq_zero_iff_zero.1 (by simpa using h1)
  rw [this,Rat.zero_mkRat];exact zero _
 have hx0:aX b xs≠0:=fun e=>by simp [e] at h1
 have hx0':val xs≠0:=by rw [←d_ b xs];omega
 replace hx:=hx.le (l1.trans (l2.trans (l4.trans (l5.trans l7))))
 replace hy:=hy.le (l1.trans (l2.trans (l4.trans (l5.trans l7))))
 refine (y_ hx hy hm hn).mono ?_
 rintro r V8 l8 ⟨p3,n3,c3,rfl,hg⟩
 replace hx:=hx.le l8
 replace hy:=hy.le l8
 have hgl:Nat.gcd (val xs) (val ys)<=val ys:=Nat.le_of_dvd (by omega) (Nat.gcd_dvd_right _ _)
 have hgd:(ag (Nat.gcd (val xs) (val ys))).length<=1099511627776:=Nat.le_trans (aG hgl) (by have:=bg hy.eN;omega)
 have Mz:Nat.gcd (val xs) (val ys)≠0:=by
  intro e0;exact hx0' (Nat.eq_zero_of_gcd_eq_zero_left e0)
 refine ⟨_,_,_,rfl,fun V9 l9=>(iF (hg.le l9) hgd).mono ?_⟩
 rintro r jh l10 rfl
 rw [ae]
 replace hx:=hx.le (l9.trans l10)
 replace hy:=hy.le (l9.trans l10)
 replace hg:=hg.le (l9.trans l10)
 refine ⟨_,rfl,fun z V'=>∃(us vs:List Nat),z.2.2.2.1=b/\RD V' z.2.2.2.2.1 z.2.2.2.2.2.1 z.2.2.2.2.2.2 us/\RD V' z.1 z.2.1 z.2.2.1 vs/\us.length<=1099511627776/\vs.length<=1099511627776/\val vs≠0 /\
  Nat.gcd (val us) (val vs)=1/\mkRat (aX b xs) (val ys)=mkRat (aX b us) (val vs),⟨fun h2 jd bG=>?_,fun h2=>?_⟩,?_⟩
 ·refine (kI (hx.le bG) (hg.le bG) hm hgd (by rw [ae];exact Mz)).mono ?_
  rintro r nF cN ⟨p4,n4,c4,p5,n5,c5,rfl,g1,g2⟩
  refine ⟨_,_,_,_,_,_,_,rfl,fun rH dg=>(kI (hy.le (bG.trans (cN.trans dg))) (hg.le (bG.trans (cN.trans dg))) hn hgd (by rw [ae];exact Mz)).mono ?_⟩
  rintro r nG dE ⟨p6,n6,c6,p7,n7,c7,rfl,g3,g4⟩
  rw [ae] at g1 g3
  have e1:val (ag (val xs / Nat.gcd (val xs) (val ys)))=val xs / Nat.gcd (val xs) (val ys):=ae _
  have e2:val (ag (val ys / Nat.gcd (val xs) (val ys)))=val ys / Nat.gcd (val xs) (val ys):=ae _
  have d1:=Nat.gcd_dvd_left (val xs) (val ys)
  have d2:=Nat.gcd_dvd_right (val xs) (val ys)
  have hdy:val ys / Nat.gcd (val xs) (val ys)≠0:=by
   intro e0
   have:=Nat.div_mul_cancel d2
   rw [e0,Nat.zero_mul] at this
   exact hy0 this.symm
  refine ⟨_,_,_,_,_,_,_,rfl,(p6,n6,c6,b,p4,n4,c4),by (try dsimp only);and_intros<;>trivial,_,_,rfl,g1.le (dg.trans dE),g3,?_,?_,?_,?_,?_⟩
  ·exact Nat.le_trans (aG (Nat.div_le_self _ _)) (by have:=bg hx.eN;omega)
  ·exact Nat.le_trans (aG (Nat.div_le_self _ _)) (by have:=bg hy.eN;omega)
  ·rw [e2];exact hdy
  ·rw [e1,e2];exact Nat.gcd_div_gcd_div_gcd_of_pos_left (by omega)
  ·rw [e2]
   have k1:val ys=val ys / Nat.gcd (val xs) (val ys)*Nat.gcd (val xs) (val ys):=(Nat.div_mul_cancel d2).symm
   have k2:aX b xs=aX b (ag (val xs / Nat.gcd (val xs) (val ys)))*(Nat.gcd (val xs) (val ys):Nat):=by
    have k3:(val xs:Int)=((val xs / Nat.gcd (val xs) (val ys):Nat):Int)*(Nat.gcd (val xs) (val ys):Nat):=by
     rw [←Int.natCast_mul,Nat.div_mul_cancel d1]
    unfold aX
    rw [e1]
    cases b
    ·simpa using k3
    ·simp only [if_true];rw [Int.neg_mul,←k3]
   conv=>lhs;rw [k1,k2]
   exact Rat.mkRat_mul_right Mz
 ·have hg1:Nat.gcd (val xs) (val ys)=1:=by
   have h3:¬(1<bP (Nat.gcd (val xs) (val ys))):=by simp at h2;omega
   have:=@jk (Nat.gcd (val xs) (val ys)) 1
   omega
  exact ⟨(q,m,e,b,p,n,c),by (try dsimp only);and_intros<;>trivial,xs,ys,rfl,hx,hy,hm,hn,hy0,hg1,rfl⟩
 ·rintro ⟨q,m,e,b',p,n,c⟩ lU dO ⟨us,vs,hbb,hu,hv,P9,hvl,hv0,hgc,hq⟩
  dsimp only at hbb hu hv ⊢
  subst hbb
  rw [hq]
  obtain ⟨sR,hden⟩:=Hn (z:=aX b' us) hv0 (by rw [d_];exact hgc)
  generalize mkRat (aX b' us) (val vs)=w at *
  have hW:Wd w↔val us<4611686018427387904/\val vs<4611686018427387904:=by
   unfold Wd;rw [sR,hden,d_]
  have Mu:∀V1:View,lU.Le V1->¬Wd w->ab prog 186 #[.agg #[.bool b',.slice p n c]] V1 fun r V2=>∃(H9:Bool)(Jy:OA)(Ji Ig:Nat),r=.agg #[.bool H9,.slice Jy Ji Ig] /\
    (∀V3:View,V2.Le V3->ab prog 188 #[.slice q m e] V3 fun r V4=>∃(XI:OA)(XE Wt:Nat),r=.slice XI XE Wt /\
    (∀V5:View,V4.Le V5->∀bk:Nat,V5.bD bk (.cells #[.bool H9,.slice Jy Ji Ig,.slice XI XE Wt] 256 (0,0))->RR V5 (.agg #[.int .i64 0,.int .i64 0,.pointer (some ⟨bk,0,none⟩)]) w)):=by
   intro V1 l1 hw
   refine (iE b' (hu.le l1) P9).mono ?_
   rintro r V2 l2 HX
   obtain ⟨p2,n2,c2,rfl,h2⟩:=HX
   have HX:RI V2 (.agg #[.bool (decide (aX b' us<0)),.slice p2 n2 c2]) (aX b' us):=⟨_,_,_,rfl,h2⟩
   refine ⟨_,_,_,_,rfl,fun V3 l3=>(iG (hv.le (l1.trans (l2.trans l3))) hvl).mono ?_⟩
   rintro r V4 l4 ⟨p3,n3,c3,rfl,h3⟩
   refine ⟨_,_,_,rfl,fun V5 l5 bk hb=>.inr ⟨⟨bk,0,none⟩,decide (aX b' us<0),p2,n2,c2,p3,n3,c3,rfl,?_,?_,?_,?_,?_,hw⟩⟩
   ·rw [add_zero'];exact fH (xs:=[_,_,_]) hb rfl
   ·rw [add_zero'];exact fH (xs:=[_,_,_]) hb rfl
   ·rw [add_zero'];exact fH (xs:=[_,_,_]) hb rfl
   ·rw [sR];exact HX.le (l3.trans (l4.trans l5))
   ·rw [hden];exact h3.le l5
  refine ⟨by trivial,fun lR dv=>(iF (hu.le dv) P9).mono ?_⟩
  rintro r nH c_ rfl
  refine ⟨_,rfl,fun h3 qm dM=>(iF (hv.le (dv.trans (c_.trans dM))) hvl).mono ?_,fun h3 Mr CE=>Mu Mr (dv.trans (c_.trans CE)) ?_⟩
  ·rintro r rI dF rfl
   rw [Ae,decide_eq_true_eq] at h3
   refine ⟨_,rfl,fun h4 zW gI=>?_,fun h4 HT nB=>Mu HT (dv.trans (c_.trans (dM.trans (dF.trans nB)))) ?_⟩
   ·rw [Ae,decide_eq_true_eq] at h4
    refine (sO b' (hu.le (dv.trans (c_.trans (dM.trans (dF.trans gI))))) P9 h3).mono ?_
    rintro r w_ fS rfl
    refine ⟨_,_,rfl,fun t_ jc=>(kJ (hv.le (dv.trans (c_.trans (dM.trans (dF.trans (gI.trans (fS.trans jc))))))) hvl).mono ?_⟩
    rintro r zY gU rfl
    rw [if_pos (by omega)]
    refine ⟨_,_,rfl,fun H3 oY=>.inl ⟨?_,hW.2 ⟨h3,h4⟩⟩⟩
    rw [ay (x:=((val vs:Nat):Int)) (by omega),ay (by omega),sR,hden]
   ·rw [Ae,decide_eq_false_iff_not] at h4
    rw [hW];omega
  ·rw [Ae,decide_eq_false_iff_not] at h3
   rw [hW];omega
theorem dW {V:View}(b:Bool){p:OA}{n c x:Nat}(h:RN V p n c x) :
  ab prog 61 #[.bool b,.slice p n c] V fun r V'=>RI V' r (if b then -(x:Int) else x):=by
 have hp:=fN h.len
 refine DM b p n c V _ ⟨fun h0 V1 l1=>?_,fun h0 V1 l1=>?_⟩
 ·rw [if_pos h0]
  refine RI.mk ?_ ?_
  ·rw [Bool.eq_iff_iff,decide_eq_true_eq,decide_eq_true_eq]
   omega
  ·rw [Int.natAbs_neg,Int.natAbs_natCast];exact h.le l1
 ·rw [h0,if_neg (by decide)]
  refine RI.mk ?_ ?_
  ·symm;rw [decide_eq_false_iff_not];omega
  ·rw [Int.natAbs_natCast];exact h.le l1
theorem iN {V:View}{b:Bool}{p:OA}{n c x:Nat}{z:Int}(h:RN V p n c x)(hz:(if b then -(x:Int) else x)=z) :
  ab prog 61 #[.bool b,.slice p n c] V fun r V'=>∃(H9:Bool)(Jy:OA)(Ji Ig:Nat),r=.agg #[.bool H9,.slice Jy Ji Ig]/\∀V3:View,V'.Le V3->RI V3 (.agg #[.bool H9,.slice Jy Ji Ig]) z:=by
 refine (dW b h).mono ?_
 rintro r V2 l2 ⟨p1,n1,c1,rfl,g⟩
 rw [hz] at g ⊢
 exact ⟨_,_,_,_,rfl,fun V3 l3=>⟨_,_,_,rfl,g.le l3⟩⟩
theorem zf {V:View}(n:Int)(h0:-9223372036854775808<=n)(h1:n<=9223372036854775807) :
  ab prog 126 #[.int .i64 n] V fun r V'=>RI V' r n:=by
 refine Fs n V _ ⟨fun h2 V1 l1=>?_,fun h2 V1 l1=>?_⟩
 ·have h2:n<0:=by simpa using h2
  have e:u64.wrap (0-u64.wrap n)=((-n).toNat:Int):=by rw [rk,rk];omega
  rw [e]
  refine (dA _ (by omega)).mono ?_
  rintro r V2 l2 ⟨p1,n1,c1,rfl,g1⟩
  exact ⟨_,_,_,rfl,fun V3 l3=>iN (g1.le l3) (by simp;omega)⟩
 ·have h2:0<=n:=by simpa using h2
  have e:u64.wrap n=(n.toNat:Int):=by rw [aM (by omega)];omega
  rw [e]
  refine (dA _ (by omega)).mono ?_
  rintro r V2 l2 ⟨p1,n1,c1,rfl,g1⟩
  exact ⟨_,_,_,rfl,fun V3 l3=>iN (g1.le l3) (by simp;omega)⟩
theorem uA {V:View}(z:Int){p:OA}{n c:Nat}(h:RN V p n c z.natAbs) :
  ab prog 104 #[.agg #[.bool (decide (z<0)),.slice p n c]] V fun r V'=>r=.int .i64 z.sign:=by
 have hp:=fN h.len
 refine DQ _ p n c V _ ⟨fun h0 V1 l1=>?_,fun h0=>⟨fun h1 V1 l1=>?_,fun h1 V1 l1=>?_⟩⟩
 ·have:z=0:=by simp at h0;omega
  rw [this];rfl
 ·rw [decide_eq_true_eq] at h1
  rw [Int.sign_eq_neg_one_of_neg h1]
 ·rw [decide_eq_false_iff_not] at h1
  have:0<z:=by simp at h0;omega
  rw [Int.sign_eq_one_of_pos this]
theorem gK {V:View}(z:Int){p:OA}{n c:Nat}(h:RN V p n c z.natAbs) :
  ab prog 103 #[.agg #[.bool (decide (z<0)),.slice p n c]] V fun r V'=>RI V' r (-z):=by
 refine Bm _ p n c V _ fun V1 l1=>iN (h.le l1) ?_
 by_cases hz:z<0<;>simp [hz]<;>omega
theorem j_ {V:View}(z w:Int){p q:OA}{n c m e:Nat}(ha:RN V p n c z.natAbs)(hb:RN V q m e w.natAbs)(hm:(ag z.natAbs).length+(ag w.natAbs).length<=1099511627776) :
  ab prog 109 #[.agg #[.bool (decide (z<0)),.slice p n c],.agg #[.bool (decide (w<0)),.slice q m e]] V fun r V'=>RI V' r (z*w):=by
 refine Ft _ p n c _ q m e V _ fun V1 l1=>(cw (ha.le l1) (hb.le l1) hm).mono ?_
 rintro r V2 l2 ⟨p1,n1,c1,rfl,g1⟩
 rw [ae,ae] at g1
 refine ⟨_,_,_,rfl,fun V3 l3=>iN (g1.le l3) ?_⟩
 have e1:z=aX (decide (z<0)) (ag z.natAbs):=(aF z).symm
 have e2:w=aX (decide (w<0)) (ag w.natAbs):=(aF w).symm
 conv=>rhs;rw [e1,e2]
 unfold aX
 rw [ae,ae]
 cases decide (z<0)<;>cases decide (w<0)<;>simp [Int.neg_mul,Int.mul_neg]
theorem qD {V:View}(z w:Int){p q:OA}{n c m e:Nat}(ha:RN V p n c z.natAbs)(hb:RN V q m e w.natAbs)(hm:(ag z.natAbs).length<=1099511627776)(hn:(ag w.natAbs).length<=1099511627776) :
  ab prog 108 #[.agg #[.bool (decide (z<0)),.slice p n c],.agg #[.bool (decide (w<0)),.slice q m e]] V fun r V'=>RI V' r (z+w):=by
 refine Fo _ p n c _ q m e V _ ⟨fun h0 V1 l1=>(GZ (ha.le l1) (hb.le l1) hm hn).mono ?_,fun h0 V1 l1=>(iu (ha.le l1) (hb.le l1) hm hn).mono ?_⟩
 ·rintro r V2 l2 ⟨p1,n1,c1,rfl,g1⟩
  rw [ae,ae] at g1
  refine ⟨_,_,_,rfl,fun V3 l3=>iN (g1.le l3) ?_⟩
  by_cases hz:z<0<;>by_cases hw:w<0<;>simp [hz,hw] at h0⊢<;> omega
 ·rintro r V2 l2 rfl
  refine ⟨_,rfl,fun h2 V3 l3=>?_,fun h2 V3 l3=>?_⟩
  ·have h2:z.natAbs<w.natAbs:=by simpa [fK] using h2
   refine (oo (hb.le (l1.trans (l2.trans l3))) (ha.le (l1.trans (l2.trans l3))) hn (aG (Nat.le_of_lt h2)) (by rw [ae,ae];omega)).mono ?_
   rintro r V4 l4 ⟨p1,n1,c1,rfl,g1⟩
   rw [ae,ae] at g1
   refine ⟨_,_,_,rfl,fun V5 l5=>iN (g1.le l5) ?_⟩
   by_cases hz:z<0<;>by_cases hw:w<0<;>simp [hz,hw] at h0⊢<;> omega
  ·have h2:w.natAbs<=z.natAbs:=by simpa [←Int.not_lt,fK] using h2
   refine (oo (ha.le (l1.trans (l2.trans l3))) (hb.le (l1.trans (l2.trans l3))) hm (aG h2) (by rw [ae,ae];omega)).mono ?_
   rintro r V4 l4 ⟨p1,n1,c1,rfl,g1⟩
   rw [ae,ae] at g1
   refine ⟨_,_,_,rfl,fun V5 l5=>iN (g1.le l5) ?_⟩
   by_cases hz:z<0<;>by_cases hw:w<0<;>simp [hz,hw] at h0⊢<;> omega
end Go.Proofs.Tryz
namespace Go.bJ
open Go.fo
def sP (d:Nat):List Nat:=if d=1 then [] else ag d
def RQ (V:View)(v:Value)(q:Rat):Prop:=∃p n c p' n' c',v=.agg #[.bool (decide (q.num<0)),.slice p n c,.slice p' n' c'] /\
 RD V p n c (ag q.num.natAbs)/\RD V p' n' c' (sP q.den)
theorem RQ.le {V V':View}{v:Value}{q:Rat}(h:RQ V v q)(l:V.Le V'):RQ V' v q:=by
 obtain ⟨p,n,c,p',n',c',e,h1,h2⟩:=h
 exact ⟨p,n,c,p',n',c',e,h1.le l,h2.le l⟩
theorem Cm {q:Rat}:sP q.den=[]↔q.den=1:=by
 unfold sP
 split
 ·rename_i h;simp [h]
 ·rename_i h
  rw [bu]
  have:=q.den_nz
  omega
end Go.bJ
namespace Go.Proofs.Tryz
open Go.bJ Go.fo
theorem mf {V:View}{q:Rat}{p:OA}{n c:Nat}(h:RD V p n c (sP q.den)):n=0↔q.den=1:=by
 rw [←Cm,h.len,List.length_eq_zero_iff]
theorem cM {V:View}(q:Rat){p p':OA}{n c n' c':Nat}(b:Bool)(h2:RD V p' n' c' (sP q.den)) :
  ab prog 60 #[.agg #[.bool b,.slice p n c,.slice p' n' c']] V fun r V'=>∃p1 n1 c1,r=.slice p1 n1 c1/\RN V' p1 n1 c1 q.den:=by
 have hl:=mf h2
 refine Fq b p n c p' n' c' V _ ⟨fun h0 V1 l1=>mT.mono ?_,fun h0 V1 l1=>⟨_,_,_,rfl,?_⟩⟩
 ·rintro r V2 l2 ⟨p1,n1,c1,rfl,g⟩
  have:q.den=1:=hl.1 (by simp at h0;omega)
  rw [this]
  exact ⟨_,_,_,rfl,fun V3 l3=>⟨_,_,_,rfl,g.le l3⟩⟩
 ·have:q.den≠1:=fun e=>by have:=hl.2 e;simp at h0;omega
  unfold sP at h2
  rw [if_neg this] at h2
  exact h2.le l1
theorem nS {V:View}{q:Rat}{z:Int}{d:Nat}{p p':OA}{n c n' c':Nat}(hn:q.num=z)(hd:q.den=d)(h1:RD V p n c (ag z.natAbs))(h2:RD V p' n' c' (sP d)){b:Bool}(hb:b=decide (z<0)) :
  RQ V (.agg #[.bool b,.slice p n c,.slice p' n' c']) q:=by
 subst hn hd hb
 exact ⟨_,_,_,_,_,_,rfl,h1,h2⟩
theorem iH {V:View}(z:Int){d:Nat}{p q:OA}{n c m e:Nat}(hx:RN V p n c z.natAbs)(hy:RN V q m e d)(hm:(ag z.natAbs).length<=274877906944)(hn:(ag d).length<=274877906944)(hd:d≠0) :
  ab prog 106 #[.agg #[.bool (decide (z<0)),.slice p n c],.slice q m e] V fun r V'=>RQ V' r (mkRat z d):=by
 refine DI _ p n c q m e V _ fun V1 l1=>(kK (hx.le l1) (hy.le l1) hm hn).mono ?_
 rintro r V2 l2 ⟨p1,n1,c1,rfl,hg⟩
 have hgd:=Nat.gcd_dvd_right z.natAbs d
 have hgx:=Nat.gcd_dvd_left z.natAbs d
 have Mz:0<Nat.gcd z.natAbs d:=Nat.gcd_pos_of_pos_right _ (by omega)
 have hgl:(ag (Nat.gcd z.natAbs d)).length<=274877906944:=Nat.le_trans (aG (Nat.le_of_dvd (by omega) hgd)) hn
 have sR:(mkRat z d).num=z / (Nat.gcd d z.natAbs:Nat):=by rw [Rat.num_mkRat,if_neg hd]
 have hden:(mkRat z d).den=d / Nat.gcd d z.natAbs:=by rw [Rat.den_mkRat,if_neg hd]
 rw [Nat.gcd_comm d] at sR hden
 generalize hG:Nat.gcd z.natAbs d=g at *
 generalize mkRat z d=w at *
 refine ⟨_,_,_,rfl,fun V3 l3=>mT.mono ?_⟩
 rintro r V4 l4 ⟨p2,n2,c2,rfl,h1⟩
 refine ⟨_,_,_,rfl,fun V5 l5=>(iu (hg.le (l3.trans (l4.trans l5))) (h1.le l5) (by omega) (by decide)).mono ?_⟩
 rintro r V6 l6 rfl
 replace hx:=hx.le (l1.trans (l2.trans (l3.trans (l4.trans (l5.trans l6)))))
 replace hy:=hy.le (l1.trans (l2.trans (l3.trans (l4.trans (l5.trans l6)))))
 replace hg:=hg.le (l3.trans (l4.trans (l5.trans l6)))
 refine ⟨_,rfl,fun h0 V7 l7=>(eE (hx.le l7) (hg.le l7) hm hgl Mz).mono ?_,fun h0 rI dF=>mT.mono ?_⟩
 ·rintro r V8 l8 ⟨p4,n4,c4,p5,n5,c5,rfl,g1,-⟩
  have hnd:(mkRat z d).num.natAbs=(mkRat z d).num.natAbs:=rfl
  obtain ⟨k,hk⟩:=hgx
  have hk1:z.natAbs / g=k:=by rw [hk,Nat.mul_div_cancel_left _ Mz]
  rw [hk1] at g1
  have hz:z=(g:Int)*(if z<0 then -(k:Int) else k):=by
   split
   ·rw [Int.mul_neg,←Int.natCast_mul,←hk];omega
   ·rw [←Int.natCast_mul,←hk];omega
  have hwn:w.num=(if z<0 then -(k:Int) else k):=by
   rw [sR]
   generalize (if z<0 then -(k:Int) else k)=t at *
   rw [hz,Int.mul_ediv_cancel_left _ (by omega)]
  refine ⟨_,_,_,_,_,_,rfl,fun V9 l9=>(dW _ (g1.le l9)).mono ?_⟩
  have T4:(if decide (z<0)=true then -(k:Int) else k)=w.num:=by
   rw [hwn];simp
  rw [T4]
  rintro r jh l10 ⟨p7,n7,c7,rfl,g2⟩
  refine ⟨_,_,_,_,rfl,fun jd bG=>(eE (hy.le (l7.trans (l8.trans (l9.trans (l10.trans bG))))) (hg.le (l7.trans (l8.trans (l9.trans (l10.trans bG))))) hn hgl Mz).mono ?_⟩
  rintro r nF cN ⟨p8,n8,c8,p9,n9,c9,rfl,g3,-⟩
  rw [←hden] at g3
  refine ⟨_,_,_,_,_,_,rfl,fun rH dg=>mT.mono ?_⟩
  rintro r nG dE ⟨Gk,n10,c10,rfl,g4⟩
  have hdl:(ag w.den).length<=274877906944:=by rw [hden];exact Nat.le_trans (aG (Nat.div_le_self _ _)) hn
  refine ⟨_,_,_,rfl,fun lU dO=>(iu (g3.le (dg.trans (dE.trans dO))) (g4.le dO) (by omega) (by decide)).mono ?_⟩
  rintro r lR dv rfl
  refine ⟨_,rfl,fun h9 nH c_=>nS rfl rfl (g2.le (bG.trans (cN.trans (dg.trans (dE.trans (dO.trans (dv.trans c_))))))) ?_ rfl,fun h9 qm dM=>nS rfl rfl (g2.le (bG.trans (cN.trans (dg.trans (dE.trans (dO.trans (dv.trans dM))))))) ?_ rfl⟩
  ·have:w.den=1:=kd.1 (by simpa using h9)
   rw [Cm.2 this];exact RD.nil
  ·have:w.den≠1:=fun e=>by rw [kd.2 e] at h9;simp at h9
   unfold sP
   rw [if_neg this]
   exact g3.le (dg.trans (dE.trans (dO.trans (dv.trans dM))))
 ·have hg1:g=1:=kd.1 (by simpa using h0)
  have hwn:w.num=z:=by rw [sR,hg1];simp
  have hwd:w.den=d:=by rw [hden,hg1];simp
  rintro r zW gI ⟨p12,n12,c12,rfl,g4⟩
  refine ⟨_,_,_,rfl,fun w_ fS=>(iu (hy.le (dF.trans (gI.trans fS))) (g4.le fS) (by omega) (by decide)).mono ?_⟩
  rintro r t_ jc rfl
  refine ⟨_,rfl,fun h9 nH c_=>nS hwn hwd (hx.le (dF.trans (gI.trans (fS.trans (jc.trans c_))))) ?_ rfl,fun h9 qm dM=>nS hwn hwd (hx.le (dF.trans (gI.trans (fS.trans (jc.trans dM))))) ?_ rfl⟩
  ·have:d=1:=kd.1 (by simpa using h9)
   unfold sP
   rw [if_pos this];exact RD.nil
  ·have:d≠1:=fun e=>by rw [kd.2 e] at h9;simp at h9
   unfold sP
   rw [if_neg this]
   exact hy.le (dF.trans (gI.trans (fS.trans (jc.trans dM))))
theorem ka {V:View}(n:Int)(h0:-9223372036854775808<=n)(h1:n<=9223372036854775807) :
  ab prog 63 #[.int .i64 n] V fun r V'=>RQ V' r (n:Rat):=by
 refine HP n V _ fun V1 l1=>(zf n h0 h1).mono ?_
 rintro r V2 l2 ⟨p,m,c,rfl,g⟩
 exact ⟨_,_,_,_,rfl,fun V3 l3=>nS (z:=n) (d:=1) rfl rfl (g.le l3) RD.nil rfl⟩
theorem tL {V:View}(q:Rat){p p':OA}{n c n' c':Nat}(h1:RD V p n c (ag q.num.natAbs)) :
  ab prog 42 #[.agg #[.bool (decide (q.num<0)),.slice p n c,.slice p' n' c']] V fun r V'=>r=.int .i64 q.num.sign:=by
 refine Kj _ p n c p' n' c' V _ fun V1 l1=>(uA q.num (h1.le l1)).mono ?_
 rintro r V2 l2 rfl
 exact ⟨_,rfl,fun V3 l3=>rfl⟩
theorem mU {V:View}(q:Rat){p p':OA}{n c n' c':Nat}(h1:RD V p n c (ag q.num.natAbs))(h2:RD V p' n' c' (sP q.den)) :
  ab prog 57 #[.agg #[.bool (decide (q.num<0)),.slice p n c,.slice p' n' c']] V fun r V'=>RQ V' r (-q):=by
 refine Fv _ p n c p' n' c' V _ fun V1 l1=>(gK q.num (h1.le l1)).mono ?_
 rintro r V2 l2 ⟨p1,n1,c1,rfl,g⟩
 exact ⟨_,_,_,_,rfl,fun V3 l3=>nS (q:=-q) (z:=-q.num) (d:=q.den) (by rfl) (by rfl) (g.le l3) ((h2.le l1).le (l2.trans l3)) rfl⟩
end Go.Proofs.Tryz
namespace Go.bJ
open Go.fo
theorem RI.inv {V:View}{b:Bool}{p:OA}{n c:Nat}{z:Int}(h:RI V (.agg #[.bool b,.slice p n c]) z):b=decide (z<0)/\RD V p n c (ag z.natAbs):=by
 obtain ⟨p1,n1,c1,e,hn⟩:=h
 simp at e
 obtain ⟨rfl,rfl,rfl,rfl⟩:=e
 exact ⟨rfl,hn⟩
end Go.bJ
namespace Go.Proofs.Tryz
open Go.bJ Go.fo
theorem fg {V:View}{v:Value}{q:Rat}(h:RR V v q){k:Nat}(hs:Sz k q)(hk:k<=1099511627776) :
  ab prog 140 #[v] V fun r V'=>RI V' r q.num:=by
 rcases h with ⟨rfl,hw⟩|⟨a,b,p,n,c,p',n',c',rfl,h1,h2,h3,h4,h5,hw⟩
 ·have:=hw.1
  refine nX _ _ _ V _ ⟨(fun h0=>nomatch h0),fun _ V1 l1=>(jn _ (by omega) (by omega)).mono ?_⟩
  rintro r V2 l2 ⟨p,n,c,rfl,g⟩
  exact ⟨_,_,_,_,rfl,fun V3 l3=>⟨_,_,_,rfl,g.le l3⟩⟩
 ·obtain ⟨rfl,hn⟩:=h4.inv
  refine nX _ _ _ V _ ⟨fun _=>⟨rfl,rfl,decide (q.num<0),p,n,c,a.add 0,rfl,?_,?_,fun V1 l1=>(iE _ (hn.le l1) (Nat.le_trans (af hs.1) hk)).mono ?_⟩,fun h0=>nomatch h0⟩
  ·exact h1
  ·simpa [Addr.add] using h2
  ·rintro r V2 l2 ⟨p,n,c,rfl,g⟩
   rw [aF] at g ⊢
   exact ⟨_,_,_,_,rfl,fun V3 l3=>⟨_,_,_,rfl,g.le l3⟩⟩
theorem eC {V:View}{v:Value}{q:Rat}(h:RR V v q){k:Nat}(hs:Sz k q)(hk:k<=1099511627776) :
  ab prog 141 #[v] V fun r V'=>∃p n c,r=.slice p n c/\RN V' p n c q.den:=by
 rcases h with ⟨rfl,hw⟩|⟨a,b,p,n,c,p',n',c',rfl,h1,h2,h3,h4,h5,hw⟩
 ·have:=hw.2
  have hd:=q.den_nz
  refine nU _ _ _ V _ ⟨(fun h0=>nomatch h0),fun _ V1 l1=>?_⟩
  rw [ay (by omega),aM (by omega)]
  refine (dV _ (by omega) (by omega)).mono ?_
  rintro r V2 l2 ⟨p,n,c,rfl,g⟩
  rw [show ((q.den:Int)-1+1).toNat=q.den from by omega] at g
  exact ⟨_,_,_,rfl,fun V3 l3=>⟨_,_,_,rfl,g.le l3⟩⟩
 ·refine nU _ _ _ V _ ⟨fun _=>⟨rfl,rfl,_,_,_,⟨_,rfl,h3⟩,fun V1 l1=>(iG (h5.le l1) (Nat.le_trans (af hs.2) hk)).mono ?_⟩,fun h0=>nomatch h0⟩
  rintro r V2 l2 ⟨p,n,c,rfl,g⟩
  rw [ae] at g
  exact ⟨_,_,_,rfl,fun V3 l3=>⟨_,_,_,rfl,g.le l3⟩⟩
theorem iD {V:View}(n:Int)(h0:-9223372036854775808<n)(h1:n<=9223372036854775807) :
  ab prog 208 #[.int .i64 n] V fun r V'=>r=.int .u64 (n.natAbs:Int):=by
 refine Dy n V _ ⟨fun h2 V1 l1=>?_,fun h2 V1 l1=>?_⟩
 ·have h2:n<0:=by simpa using h2
  rw [ay (by omega),aM (by omega)];congr 1;omega
 ·have h2:0<=n:=by simpa using h2
  rw [aM (by omega)];congr 1;omega
theorem uw {V:View}(x y:Nat)(hx:x<18446744073709551616)(hy:y<18446744073709551616) :
  ab prog 207 #[.int .u64 (x:Int),.int .u64 (y:Int)] V fun r V'=>r=.int .u64 (Nat.gcd x y:Int):=by
 refine Dz _ _ V _ ⟨fun z V'=>∃a b:Nat,z=((a:Int),(b:Int))/\Nat.gcd a b=Nat.gcd x y,fun z=>z.2.toNat,
  ⟨((x:Int),(y:Int)),by (try dsimp only);and_intros<;>trivial,x,y,rfl,rfl⟩,?_⟩
 rintro _ lR dv ⟨a,b,rfl,xG⟩
 dsimp only
 refine ⟨by trivial,fun h3=>?_,fun h3 nH c_=>?_⟩
 ·have h3:b≠0:=by rw [bne_iff_ne] at h3;omega
  have hlt:a%b<b:=Nat.mod_lt _ (by omega)
  have e4:(a:Int).tmod (b:Int)=((a%b:Nat):Int):=by rw [Int.tmod_eq_emod_of_nonneg (by omega),←Int.natCast_emod]
  rw [e4]
  exact ⟨by omega,((b:Int),((a%b:Nat):Int)),by (try dsimp only);rw [Int.toNat_natCast,Int.toNat_natCast];exact hlt,by (try dsimp only);and_intros<;>trivial,b,a%b,rfl,by rw [uZ,xG]⟩
 ·have h3:b=0:=by rw [bne_eq_false_iff_eq] at h3;omega
  subst h3
  rw [Nat.gcd_zero_right] at xG
  rw [xG]
theorem fI {V:View}(a b:Int)(ha:a.natAbs<4611686018427387904)(hb:b.natAbs<4611686018427387904) :
  ab prog 211 #[.int .i64 a,.int .i64 b] V fun r V'=>∃z:Int,r=.tuple #[.int .i64 z,.bool (decide ((a*b).natAbs<4611686018427387904))]/\((a*b).natAbs<4611686018427387904->z=a*b):=by
 refine xT a b V _ fun V1 l1=>(iD a (by omega) (by omega)).mono ?_
 rintro r V2 l2 rfl
 refine ⟨_,rfl,fun V3 l3=>(iD b (by omega) (by omega)).mono ?_⟩
 rintro r V4 l4 rfl
 refine ⟨_,rfl,fun V5 l5=>(KN _ _ (by omega) (by omega)).mono ?_⟩
 rintro r V6 l6 rfl
 have xG:(a*b).natAbs=a.natAbs*b.natAbs:=Int.natAbs_mul a b
 have hsg:a*b=if (decide (a<0)==decide (b<0)) then ((a.natAbs*b.natAbs:Nat):Int) else -((a.natAbs*b.natAbs:Nat):Int):=by
  rw [Int.natCast_mul]
  by_cases h1:a<0<;>by_cases h2:b<0
  ·rw [decide_eq_true h1,decide_eq_true h2,show (a.natAbs:Int)=-a from by omega,show (b.natAbs:Int)=-b from by omega];simp [Int.neg_mul,Int.mul_neg]
  ·rw [decide_eq_true h1,decide_eq_false h2,if_neg (by decide),show (a.natAbs:Int)=-a from by omega,show (b.natAbs:Int)=b from by omega];simp [Int.neg_mul]
  ·rw [decide_eq_false h1,decide_eq_true h2,if_neg (by decide),show (a.natAbs:Int)=a from by omega,show (b.natAbs:Int)=-b from by omega];simp [Int.mul_neg]
  ·rw [decide_eq_false h1,decide_eq_false h2,show (a.natAbs:Int)=a from by omega,show (b.natAbs:Int)=b from by omega];simp
 rw [xG]
 generalize a.natAbs*b.natAbs=p at *
 refine ⟨_,_,rfl,fun h0 V7 l7=>?_,fun h0=>⟨fun h1 V7 l7=>?_,fun h1=>⟨fun h2 V7 l7=>?_,fun h2 V7 l7=>?_⟩⟩⟩
 ·have h0:18446744073709551616<=p:=by rw [bne_iff_ne] at h0;omega
  rw [decide_eq_false (by omega)]
  exact ⟨_,rfl,fun h=>by omega⟩
 ·have h1:4611686018427387904<=p:=by
   rw [decide_eq_true_eq] at h1;omega
  rw [decide_eq_false (by omega)]
  exact ⟨_,rfl,fun h=>by omega⟩
 ·have h0:p / 18446744073709551616=0:=by rw [bne_eq_false_iff_eq] at h0;omega
  have h1:p<4611686018427387904:=by rw [decide_eq_false_iff_not] at h1;omega
  rw [decide_eq_true h1,ay (x:=((p%18446744073709551616:Nat):Int)) (by omega),ay (by omega)]
  refine ⟨_,rfl,fun _=>?_⟩
  have h2:(decide (a<0)==decide (b<0))=false:=by simpa using h2
  rw [hsg,h2,if_neg (by decide)];omega
 ·have h0:p / 18446744073709551616=0:=by rw [bne_eq_false_iff_eq] at h0;omega
  have h1:p<4611686018427387904:=by rw [decide_eq_false_iff_not] at h1;omega
  rw [decide_eq_true h1,ay (x:=((p%18446744073709551616:Nat):Int)) (by omega)]
  refine ⟨_,rfl,fun _=>?_⟩
  have h2:(decide (a<0)==decide (b<0))=true:=by simpa using h2
  rw [hsg,h2,if_pos rfl];omega
theorem nI {V:View}(n:Int)(d:Nat)(hn:n.natAbs<4611686018427387904)(hd:d<4611686018427387904)(hd0:d≠0) :
  ab prog 212 #[.int .i64 n,.int .i64 (d:Int)] V fun r V'=>RR V' r (mkRat n d):=by
 refine wi n _ V _ fun V1 l1=>(iD n (by omega) (by omega)).mono ?_
 rintro r V2 l2 rfl
 rw [aM (x:=(d:Int)) (by omega)]
 refine ⟨_,rfl,fun V3 l3=>(uw _ _ (by omega) (by omega)).mono ?_⟩
 rintro r V4 l4 rfl
 have hgl:Nat.gcd n.natAbs d<=d:=Nat.le_of_dvd (by omega) (Nat.gcd_dvd_right _ _)
 have Mz:0<Nat.gcd n.natAbs d:=Nat.gcd_pos_of_pos_right _ (by omega)
 have sR:=Rat.num_mkRat n d
 have hden:=Rat.den_mkRat n d
 rw [if_neg hd0,Nat.gcd_comm] at sR hden
 have hdvd:(Nat.gcd n.natAbs d:Int)∣n:=Int.ofNat_dvd_left.2 (Nat.gcd_dvd_left _ _)
 have hdl:d / Nat.gcd n.natAbs d<=d:=Nat.div_le_self _ _
 have hnl:(n / (Nat.gcd n.natAbs d:Int)).natAbs<=n.natAbs:=by
  rw [Int.natAbs_ediv_of_dvd hdvd,Int.natAbs_natCast];exact Nat.div_le_self _ _
 have hW:Wd (mkRat n d):=by unfold Wd;rw [sR,hden];omega
 refine ⟨_,rfl,?_⟩
 rw [ay (x:=((Nat.gcd n.natAbs d:Nat):Int)) (by omega)]
 refine ⟨fun h0=>⟨by omega,by omega,fun V5 l5=>.inl ⟨?_,hW⟩⟩,fun h0 V5 l5=>.inl ⟨?_,hW⟩⟩
 ·rw [sR,hden]
  have e1:n.tdiv (Nat.gcd n.natAbs d:Int)=n / (Nat.gcd n.natAbs d:Int):=Int.tdiv_eq_ediv_of_dvd hdvd
  have e2:(d:Int).tdiv (Nat.gcd n.natAbs d:Int)=((d / Nat.gcd n.natAbs d:Nat):Int):=by rw [Int.tdiv_eq_ediv_of_nonneg (by omega),←Int.natCast_ediv]
  rw [e1,e2]
  generalize n / (Nat.gcd n.natAbs d:Int)=nn at *
  generalize d / Nat.gcd n.natAbs d=dd at *
  rw [ay (by omega),ay (x:=(dd:Int)) (by omega),ay (by omega)]
 ·have h0:Nat.gcd n.natAbs d=1:=by rw [decide_eq_false_iff_not] at h0;omega
  rw [sR,hden,h0,ay (by omega)]
  simp
end Go.Proofs.Tryz
