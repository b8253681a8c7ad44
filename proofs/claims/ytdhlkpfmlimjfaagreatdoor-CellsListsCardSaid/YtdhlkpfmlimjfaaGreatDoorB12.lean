import Derived.Test.YtdhlkpfmlimjfaaGreatDoorB11
import Derived.Test.YtdhlkpfmlimjfaaGreatDoorB7
import Derived.Test.YtdhlkpfmlimjfaaGreatDoorB8
set_option linter.unusedVariables false
open Go.IntKind (i64 u64 u32)
namespace Go.Proofs.Tryz
open Go.Eng Go.Big
theorem Bk {V:View}{p:OA}{n c:Nat}{ds:List Nat}(h:RD V p n c ds){K:Int->Prop}(hn:0<ds.length)
  (hK:K ((ds[0]:Nat):Int)):(p.isSome=true)/\(0<=(0:Int)/\(0:Int)<(n:Int))/\∃x:Int,(∃a,addrAdd p 0=some a/\V.at a (.int .u32 x))/\K x:=by
 have:=h.rd (i:=0) (K:=K) 0 rfl hn hK
 simpa using this
theorem Jv {V:View}{p:OA}{n c:Nat}{ds:List Nat}(h:RD V p n c ds){K:Int->Prop}(j:Nat)(hn:j<ds.length)
  (hK:K ((ds[j]:Nat):Int)):(p.isSome=true)/\(0<=(j:Int)/\(j:Int)<(n:Int))/\∃x:Int,(∃a,addrAdd p j=some a/\V.at a (.int .u32 x))/\K x:=by
 have:=h.rd (i:=j) (K:=K) j rfl hn hK
 simpa using this
theorem kh {ds:List Nat}(h:ds.length=1):∃a,ds=[a]:=by
 match ds,h with
 | [a],_=>exact ⟨a,rfl⟩
theorem Di {ds:List Nat}(h:ds.length=2):∃a b,ds=[a,b]:=by
 match ds,h with
 | [a,b],_=>exact ⟨a,b,rfl⟩
theorem bY {V:View}{p q:OA}{n c m e:Nat}{xs ys:List Nat}(hx:RD V p n c xs)(hy:RD V q m e ys)(hm:xs.length+ys.length<=1099511627776) :
  Acts prog 67 #[.slice p n c,.slice q m e] V fun r V'=>∃p' n' c',r=.slice p' n' c'/\RN V' p' n' c' (val xs*val ys):=by
 have hlx:=hx.len
 have xr:=hy.len
 have hnm':((n:Int)+m).toNat=n+m:=by omega
 have w:i64.wrap ((n:Int)+m)=(n:Int)+m:=i64w (by omega)
 have vc:=uM p n c q m e V
 simp only [w,hnm',cu] at vc
 refine (fun tail=>vc _ ⟨fun h0=>⟨fun h1=>?_,fun _=>tail⟩,fun _=>tail⟩) ?_
 ·have h0:n=1:=by simp at h0;omega
  have h1:m=1:=by simp at h1;omega
  clear tail vc
  obtain ⟨a,rfl⟩:=kh (ds:=xs) (by omega)
  obtain ⟨b,rfl⟩:=kh (ds:=ys) (by omega)
  have xl:=hx.eM.get (i:=0) (by simp)
  have hdy:=hy.eM.get (i:=0) (by simp)
  refine Bk hx (by simp) (Bk hy (by simp) fun V1 l1=>?_)
  simp only [List.getElem_cons_zero] at xl hdy ⊢
  have hab:a*b<=4294967295*4294967295:=Nat.mul_le_mul (by omega) (by omega)
  have e1:u64.wrap (a:Int)=a:=aJ (by omega)
  have e2:u64.wrap (b:Int)=b:=aJ (by omega)
  have e3:(a:Int)*(b:Int)=((a*b:Nat):Int):=by simp
  have e4:u64.wrap ((a*b:Nat):Int)=((a*b:Nat):Int):=aJ (by omega)
  rw [e1,e2,e3,e4]
  refine (du (a*b) (by omega)).mono ?_
  rintro r V2 l2 ⟨p',n',c',rfl,h⟩
  refine ⟨_,_,_,rfl,fun V3 l3=>⟨_,_,_,rfl,?_⟩⟩
  simp only [aX,dM,Nat.mul_zero,Nat.add_zero]
  exact h.le l3
 refine ⟨by omega,by omega,by omega,fun z V'=>0<=z.1/\z.1<=n/\∃es:List Nat,z.2=ay es/\es.length=n+m/\bK es /\
  val (es.take (z.1.toNat+m))=val (xs.take z.1.toNat)*val ys,fun z=>n-z.1.toNat,⟨(0,ay (List.replicate (n+m) 0)),by (try dsimp only);and_intros<;>first|exact True.intro|rfl,by (try dsimp only);omega,by (try dsimp only);omega,_,rfl,by simp,bK.rep _,by simp [rU,List.take_replicate]⟩,?_⟩
 rintro ⟨i,vs⟩ V5 l5 ⟨hi0,hi1,es,rfl,hes,hde,hv⟩
 dsimp only at hi0 hi1 hv ⊢
 obtain ⟨i,rfl⟩:=Int.eq_ofNat_of_zero_le hi0
 simp only [Int.toNat_natCast] at hv
 refine ⟨by trivial,fun h3=>?_,fun h3=>?_⟩
 ·have h3:i<n:=by simpa using h3
  refine (hx.le l5).rd i rfl (by omega) ?_
  have xl:=hx.eM.get (i:=i) (by omega)
  refine ⟨fun z V'=>0<=z.1/\z.1<=4294967295/\0<=z.2.1/\z.2.1<=m/\∃fs:List Nat,z.2.2=ay fs/\fs.length=n+m/\bK fs/\fs.drop (i+z.2.1.toNat)=es.drop (i+z.2.1.toNat) /\
   val (fs.take (i+z.2.1.toNat))+4294967296^(i+z.2.1.toNat)*z.1.toNat=val (es.take (i+z.2.1.toNat))+4294967296^i*xs[i]*val (ys.take z.2.1.toNat),fun z=>m-z.2.1.toNat,
   ⟨(0,0,ay es),by (try dsimp only);and_intros<;>first|exact True.intro|rfl,by (try dsimp only);omega,by (try dsimp only);omega,by (try dsimp only);omega,by (try dsimp only);omega,es,rfl,hes,hde,rfl,by simp⟩,?_⟩
  rintro ⟨cy,k,vs⟩ V6 l6 ⟨hc0,hc1,hk0,hk1,fs,rfl,hfs,hdf,hdr,hw⟩
  dsimp only at hc0 hc1 hk0 hk1 hdr hw ⊢
  obtain ⟨k,rfl⟩:=Int.eq_ofNat_of_zero_le hk0
  obtain ⟨cy,rfl⟩:=Int.eq_ofNat_of_zero_le hc0
  simp only [Int.toNat_natCast] at hdr hw
  refine ⟨by trivial,fun h4=>?_,fun h4=>?_⟩
  ·have h4:k<m:=by simpa using h4
   refine (hy.le (l5.trans l6)).rd k rfl (by omega) ?_
   have hdy:=hy.eM.get (i:=k) (by omega)
   have Q2:=hdf.get (i:=i+k) (by omega)
   have hef:fs[i+k]'(by omega)=es[i+k]'(by omega):=by
    have h1:fs[i+k]?=es[i+k]?:=by
     have:=congrArg (fun l=>l[0]?) hdr
     simpa [List.getElem?_drop] using this
    rw [List.getElem?_eq_getElem (by omega),List.getElem?_eq_getElem (by omega)] at h1
    exact Option.some.inj h1
   simp (disch:=omega) only [i64w]
   have hik:((i:Int)+k).toNat=i+k:=by omega
   rw [hik]
   refine ⟨⟨by omega,by omega⟩,((fs[i+k]'(by omega):Nat):Int),by rw [Nat.zero_add,Nat.mul_one];exact fr (by omega),⟨by omega,by omega⟩,by simp;omega,by omega,?_⟩
   have hxy:xs[i]*ys[k]<=4294967295*4294967295:=Nat.mul_le_mul (by omega) (by omega)
   have LA:(xs[i]:Int)*(ys[k]:Int)=((xs[i]*ys[k]:Nat):Int):=by simp
   obtain ⟨t,ht⟩:∃t:Nat,t=cy+xs[i]*ys[k]+fs[i+k]'(by omega):=⟨_,rfl⟩
   rw [Nat.pow_add] at hw
   have hstep:=AY hw ht
   have e1:u64.wrap (u64.wrap (u64.wrap (u64.wrap (xs[i]:Int)*u64.wrap (ys[k]:Int))+u64.wrap ((fs[i+k]'(by omega):Nat):Int))+(cy:Int))=(t:Int):=by
    clear hstep
    generalize xs[i]*ys[k]=pq at *
    rw [aJ (x:=(xs[i]:Int)) (by omega),aJ (x:=(ys[k]:Int)) (by omega),LA,aJ (x:=((pq:Nat):Int)) (by omega)]
    simp (disch:=omega) only [aJ]
    omega
   rw [e1,gD,kx]
   refine ⟨(_,_,_),?_,by (try dsimp only);and_intros<;>first|exact True.intro|rfl,?_⟩
   ·(try dsimp only);omega
   ·(try dsimp only)
    have hk2:((k:Int)+1).toNat=k+1:=by omega
    refine ⟨by omega,by omega,by omega,by omega,fs.set (i+k) (t%4294967296),?_,by simpa using hfs,hdf.set _ _ (by omega),?_,?_⟩
    ·rw [←bg];simp
    ·rw [hk2,List.drop_set_of_lt (by omega)]
     have:=congrArg (List.drop 1) hdr
     simpa [List.drop_drop,Nat.add_comm,Nat.add_assoc,Nat.add_left_comm] using this
    ·rw [hk2,show i+(k+1)=i+k+1 from by omega,aF _ _ _ (by omega),aq es (i+k) (by omega),aq ys k (by omega),←hef,Nat.pow_succ]
     have e2:((t:Int) / 4294967296).toNat=t / 4294967296:=by omega
     rw [e2,Nat.pow_add,hstep]
  ·have h4:k=m:=by simp at h4;omega
   subst h4
   simp (disch:=omega) only [i64w]
   have hik:((i:Int)+k).toNat=i+k:=by omega
   rw [hik]
   refine ⟨⟨by omega,by omega⟩,by simp;omega,(_,_),?_,by (try dsimp only);and_intros<;>first|exact True.intro|rfl,?_⟩
   ·(try dsimp only);omega
   ·(try dsimp only)
    have hi2:((i:Int)+1).toNat=i+1:=by omega
    refine ⟨by omega,by omega,fs.set (i+k) cy,?_,by simpa using hfs,hdf.set _ _ (by omega),?_⟩
    ·rw [←bg,oF (by omega)];simp
    ·rw [hi2,show i+1+k=i+k+1 from by omega,aF _ _ _ (by omega),hw,hv,aq xs i (by omega),ai (ds:=ys) (by omega)]
     grind
 ·have h3:i=n:=by simp at h3;omega
  subst h3
  intro V6 l6 bk hb'
  refine (cO (RD.aZ hb' hde (n:=i+m) (c:=i+m) (by omega) (Nat.le_refl _)) (by omega)).mono ?_
  rintro r V7 l7 ⟨k,rfl,h4⟩
  refine ⟨_,_,_,rfl,fun _ V8 l8=>⟨_,_,_,rfl,?_⟩⟩
  rw [aL hde] at h4
  rw [ai (by omega),ai (by omega)] at hv
  rw [hv] at h4
  exact h4.le l8
theorem j_ {V:View}{p:OA}{n c:Nat}{ds:List Nat}(h:RD V p n c ds)(hm:ds.length<=1099511627776) :
  Acts prog 153 #[.slice p n c] V fun r V'=>r=.tuple #[.int .u64 ((if n<=2 then val ds else 0:Nat):Int),.bool (decide (n<=2))]:=by
 have hl:=h.len
 refine B7 p n c V _ ⟨fun h0 V1 l1=>?_,fun h0=>⟨fun h1=>?_,fun h1=>⟨fun h2=>?_,fun h2 V1 l1=>?_⟩⟩⟩
 ·have h0:n=0:=by simp at h0;omega
  subst h0
  have:ds=[]:=List.length_eq_zero_iff.1 (by omega)
  subst this
  rfl
 ·have h1:n=1:=by simp at h1;omega
  subst h1
  obtain ⟨a,rfl⟩:=kh (ds:=ds) (by omega)
  have hd:=h.eM.get (i:=0) (by simp)
  refine Bk h (by simp) fun V1 l1=>?_
  simp only [List.getElem_cons_zero] at hd ⊢
  have e1:u64.wrap (a:Int)=a:=aJ (by omega)
  rw [e1,if_pos (by omega),decide_eq_true (by omega)]
  simp
 ·have h2:n=2:=by simp at h2;omega
  subst h2
  obtain ⟨a,b,rfl⟩:=Di (ds:=ds) (by omega)
  have hd0:=h.eM.get (i:=0) (by simp)
  have hd1:=h.eM.get (i:=1) (by simp)
  refine Jv h 1 (by simp) ⟨by omega,Bk h (by simp) fun V1 l1=>?_⟩
  simp only [List.getElem_cons_zero,List.getElem_cons_succ] at hd0 hd1 ⊢
  have e1:u64.wrap (a:Int)=a:=aJ (by omega)
  have e2:u64.wrap (b:Int)=b:=aJ (by omega)
  have e3:((2:Int)^32)=4294967296:=by decide
  have e4:u64.wrap ((b:Int)*4294967296)=(b:Int)*4294967296:=aJ (by omega)
  rw [e1,e2,e3,e4,Ba _ _ hd1 hd0,if_pos (by omega),decide_eq_true (by omega)]
  simp only [aX,dM]
  congr 4
  omega
 ·have h2:¬n<=2:=by simp at h0 h1 h2;omega
  rw [if_neg h2,decide_eq_false h2]
  rfl
theorem Fc (b:Nat):0 ||| b=b:=Nat.zero_or b
theorem j8 {V:View}{p:OA}{n c:Nat}{ds:List Nat}(hx:RD V p n c ds)(hm:ds.length<=1099511627776)(k:Nat)(hk:k<=35184372088832) :
  Acts prog 195 #[.slice p n c,.int .i64 (k:Int)] V fun r V'=>∃p' n' c',r=.slice p' n' c'/\RN V' p' n' c' (val ds*2^k):=by
 have hl:=hx.len
 have e2:(k:Int).tdiv 32=((k / 32:Nat):Int):=by rw [Int.tdiv_eq_ediv_of_nonneg (by omega)];omega
 have e3:(k:Int).tmod 32=((k%32:Nat):Int):=by rw [Int.tmod_eq_emod_of_nonneg (by omega)];omega
 have vc:=BT p n c k V
 have hk2:val ds*2^k=4294967296^(k / 32)*val ds*2^(k%32):=by
  have:2^k=4294967296^(k / 32)*2^(k%32):=by
   rw [show (4294967296:Nat)=2^32 from rfl,←Nat.pow_mul,←Nat.pow_add,Nat.div_add_mod]
  rw [this];grind
 rw [hk2]
 have hwl:k / 32<=1099511627776:=by omega
 have hrl:k%32<32:=Nat.mod_lt _ (by omega)
 rw [e2,e3] at vc
 generalize k / 32=w at *
 generalize k%32=r at *
 clear e2 e3 hk2
 have w1:i64.wrap (w:Int)=(w:Int):=i64w (by omega)
 have w2:i64.wrap ((w:Int)+n)=((w+n:Nat):Int):=by rw [i64w (by omega)];omega
 have w3:i64.wrap (((w+n:Nat):Int)+1)=((w+n+1:Nat):Int):=by rw [i64w (by omega)];omega
 have w4:u64.wrap (r:Int)=(r:Int):=aJ (by omega)
 have hmin:(min r IntKind.u64.bits)=r:=by
  show min _ 64=r
  omega
 have hp:((2:Int)^r)=((2^r:Nat):Int):=by simp
 simp only [w1,w2,w3,w4,Int.toNat_natCast,hmin,hp,cu] at vc
 refine vc _ ⟨by omega,by omega,by omega,by omega,by omega,fun z V'=>0<=z.1/\z.1<=n/\∃es:List Nat,z.2=ay es/\es.length=w+n+1/\bK es/\(∀c,es[z.1.toNat+w]?=some c->c<2^r)/\(∀j c,z.1.toNat+w<j->es[j]?=some c->c=0) /\
   val (es.take (z.1.toNat+w+1))=4294967296^w*val (ds.take z.1.toNat)*2^r,fun z=>n-z.1.toNat,
   ⟨(0,ay (List.replicate (w+n+1) 0)),by (try dsimp only);and_intros<;>first|exact True.intro|rfl,by (try dsimp only);omega,by (try dsimp only);omega,_,rfl,by simp,bK.rep _,?_,?_,?_⟩,?_⟩
 ·intro c hc
  rw [List.getElem?_replicate] at hc
  split at hc
  ·cases hc;exact Nat.two_pow_pos r
  ·cases hc
 ·intro j c _ hc
  rw [List.getElem?_replicate] at hc
  split at hc
  ·cases hc;rfl
  ·cases hc
 ·simp [List.take_replicate,rU]
 rintro ⟨i,vs⟩ V4 l4 ⟨hi0,hi1,es,rfl,hes,hde,hc,hz,hv⟩
 dsimp only at hi0 hi1 hc hz hv ⊢
 obtain ⟨i,rfl⟩:=Int.eq_ofNat_of_zero_le hi0
 simp only [Int.toNat_natCast] at hc hz hv
 refine ⟨by trivial,fun h3=>?_,fun h3=>?_⟩
 ·have h3:i<n:=by simpa using h3
  have x1:i64.wrap ((w:Int)+i)=((i+w:Nat):Int):=by rw [i64w (by omega)];omega
  have x2:i64.wrap (((i+w:Nat):Int)+1)=((i+w+1:Nat):Int):=by rw [i64w (by omega)];omega
  have x3:i64.wrap ((i:Int)+1)=((i+1:Nat):Int):=by rw [i64w (by omega)];omega
  simp only [x1,x2,x3,Int.toNat_natCast,Nat.mul_one,Nat.zero_add]
  refine Jv (hx.le l4) i (by omega) ?_
  have xl:=hx.eM.get (i:=i) (by omega)
  have hce:=hc (es[i+w]'(by omega)) (List.getElem?_eq_getElem _)
  have W0:=hz (i+w+1) (es[i+w+1]'(by omega)) (by omega) (List.getElem?_eq_getElem _)
  obtain ⟨g1,g2,g3,g4⟩:=Bu xl hrl hce
  have hmul:((ds[i]:Nat):Int)*((2^r:Nat):Int)=((ds[i]*2^r:Nat):Int):=by simp
  have x4:u64.wrap ((ds[i]:Nat):Int)=((ds[i]:Nat):Int):=aJ (by omega)
  have x5:u64.wrap ((ds[i]*2^r:Nat):Int)=((ds[i]*2^r:Nat):Int):=aJ (by omega)
  have ec:u32.wrap ((ds[i]*2^r:Nat):Int)=((ds[i]*2^r%4294967296:Nat):Int):=by rw [gD];omega
  have ed:u32.wrap (((ds[i]*2^r:Nat):Int).fdiv (2^32))=((ds[i]*2^r / 4294967296:Nat):Int):=by rw [kx,gD];omega
  simp only [x4,hmul,x5,ec,ed]
  have hd2:ds[i]*2^r / 4294967296<4294967296:=by omega
  have CI:=Nat.mod_add_div (ds[i]*2^r) 4294967296
  have hdr:val (List.take (i+1) ds)=val (List.take i ds)+4294967296^i*ds[i]:=aq _ _ (by omega)
  have Lk:val (es.take (i+w+1))=val (es.take (i+w))+4294967296^(i+w)*es[i+w]'(by omega):=aq _ _ (by omega)
  have hlo:ds[i]*2^r%4294967296<4294967296:=Nat.mod_lt _ (by omega)
  generalize ds[i]*2^r%4294967296=lo at *
  generalize ds[i]*2^r / 4294967296=hi at *
  refine ⟨by omega,by omega,⟨by omega,by omega⟩,((es[i+w]'(by omega):Nat):Int),fr (by omega),⟨by omega,by omega⟩,by simp;omega,by omega,⟨by omega,by omega⟩,((es[i+w+1]'(by omega):Nat):Int),?_,by omega,⟨by omega,by omega⟩,by simp;omega,?_⟩
  ·rw [List.getElem?_set_ne (by omega)];exact fr (by omega)
  have NC:es[i+w]'(by omega)<4294967296:=hde.get (by omega)
  rw [C4 _ _ NC hlo,g1,W0,C4 _ _ (by omega) hd2,Fc]
  refine ⟨(((i+1:Nat):Int),ay ((es.set (i+w) (es[i+w]'(by omega)+lo)).set (i+w+1) hi)),?_,?_,?_⟩
  ·(try dsimp only);omega
  ·(try dsimp only);and_intros<;>first|exact True.intro|rfl|rw [←bg,←bg]
  ·(try dsimp only)
   refine ⟨by omega,by omega,_,rfl,by simpa using hes,(hde.set _ _ (by omega)).set _ _ (by omega),?_,?_,?_⟩
   ·intro c hc'
    simp only [Int.toNat_natCast] at hc'
    rw [show i+1+w=i+w+1 from by omega,List.getElem?_set_self (by simp;omega)] at hc'
    cases hc';exact g3
   ·intro j c hj hc'
    simp only [Int.toNat_natCast] at hj
    rw [List.getElem?_set_ne (by omega),List.getElem?_set_ne (by omega)] at hc'
    exact hz j c (by omega) hc'
   ·simp only [Int.toNat_natCast]
    rw [show i+1+w+1=i+w+1+1 from by omega,aF _ _ _ (by simp;omega),aF _ _ _ (by omega),hdr]
    rw [Lk] at hv
    have hA:4294967296^(i+w+1)*hi=4294967296^(i+w)*(4294967296*hi):=by rw [Nat.pow_succ];grind
    rw [hA,Nat.mul_add,←Nat.add_assoc,hv,Nat.add_assoc,←Nat.mul_add,CI,Nat.pow_add]
    grind
 ·have h3:i=n:=by simp at h3;omega
  subst h3
  intro V5 l5 bk hb
  refine (cO (RD.aZ hb hde (n:=w+i+1) (c:=w+i+1) (by omega) (Nat.le_refl _)) (by omega)).mono ?_
  rintro r' V6 l6 ⟨k',rfl,h4⟩
  refine ⟨_,_,_,rfl,fun _ V7 l7=>⟨_,_,_,rfl,?_⟩⟩
  rw [ai (by omega),ai (by omega)] at hv
  rw [aL hde,hv] at h4
  exact h4.le l7
theorem gu (a:Addr)(m n:Nat):(a.add m).add n=a.add (m+n):=by
 unfold Addr.add
 by_cases h1:m=0
 ·subst h1;simp
 ·by_cases h2:n=0
  ·subst h2;simp [h1]
  ·rw [if_neg h1,if_neg h2,if_neg (by omega)]
   simp only [Nat.add_assoc]
theorem KS {V:View}{p:OA}{n c:Nat}{ds:List Nat}(h:RD V p n c ds){k:Nat}(hk:k<n):RD V (pN p c k 1) (n-k) (c-k) (ds.drop k):=by
 have hl:=h.len
 have hc:=h.cap
 have e:pN p c k 1=addrAdd p k:=by unfold pN;rw [if_neg (by omega),Nat.mul_one]
 rw [e]
 refine ⟨by simp;omega,by omega,fun i v hv=>?_,h.eM.drop k,fun hp=>?_⟩
 ·rw [Fz,List.getElem?_drop] at hv
  obtain ⟨ad,e1,hat⟩:=h.sl _ _ hv
  refine ⟨ad.add k,by rw [e1];rfl,?_⟩
  rw [gu];exact hat
 ·have:p.isNone=true:=by cases p<;>simp_all [addrAdd]
  have:=h.Fb this
  omega
theorem Af {V:View}{p:OA}{n c:Nat}{ds:List Nat}(hd:RD V p n c ds)(hm:ds.length<=1099511627776)(k:Nat)(hk:k<=35184372088832) :
  Acts prog 196 #[.slice p n c,.int .i64 (k:Int)] V fun r V'=>∃p' n' c',r=.slice p' n' c'/\RN V' p' n' c' (val ds / 2^k):=by
 have hl:=hd.len
 have e2:(k:Int).tdiv 32=((k / 32:Nat):Int):=by rw [Int.tdiv_eq_ediv_of_nonneg (by omega)];omega
 have e3:(k:Int).tmod 32=((k%32:Nat):Int):=by rw [Int.tmod_eq_emod_of_nonneg (by omega)];omega
 have vc:=zw p n c k V
 have hk2:val ds / 2^k=val ds / 4294967296^(k / 32) / 2^(k%32):=by
  rw [Nat.div_div_eq_div_mul,show (4294967296:Nat)=2^32 from rfl,←Nat.pow_mul,←Nat.pow_add,Nat.div_add_mod]
 rw [hk2]
 have hwl:k / 32<=1099511627776:=by omega
 have hrl:k%32<32:=Nat.mod_lt _ (by omega)
 rw [e2,e3] at vc
 generalize k / 32=w at *
 generalize k%32=r at *
 clear e2 e3 hk2
 have w1:i64.wrap (w:Int)=(w:Int):=i64w (by omega)
 have w4:u64.wrap (r:Int)=(r:Int):=aJ (by omega)
 have hmin:(min r IntKind.u64.bits)=r:=by
  show min _ 64=r
  omega
 simp only [w1,w4,Int.toNat_natCast,hmin,cu] at vc
 refine vc _ ⟨by omega,fun h0 V1 l1=>?_,fun h0=>?_⟩
 ·have h0:n<=w:=by simp at h0;omega
  have hlt:=fw hd.eM
  have:4294967296^ds.length<=4294967296^w:=Nat.pow_le_pow_right (by omega) (by omega)
  rw [Nat.div_eq_of_lt (Nat.lt_of_lt_of_le hlt this),Nat.zero_div]
  exact ⟨_,_,_,rfl,RD.nil⟩
 ·have h0:w<n:=by simp at h0;omega
  clear vc
  have hxw:val ds / 4294967296^w=val (ds.drop w):=by
   have e:val ds=val (ds.take w++ds.drop w):=by rw [List.take_append_drop]
   have hlt:=fw (hd.eM.take w)
   rw [cR] at e
   rw [List.length_take,Nat.min_eq_left (by omega)] at e hlt
   rw [e,Nat.add_mul_div_left _ _ (Nat.pow_pos (by omega)),Nat.div_eq_of_lt hlt,Nat.zero_add]
  rw [hxw]
  have hx:=KS hd h0
  have hlx:=hx.len
  clear hxw
  generalize pN p c w 1=sp at *
  generalize ds.drop w=xs at *
  generalize hN:n-w=N at *
  refine ⟨by omega,by omega,⟨by omega,by omega⟩,by omega,by omega,by omega,fun z V'=>0<=z.1/\z.1<=N/\∃es:List Nat,z.2=ay es/\es.length=N/\bK es /\
   val (es.take z.1.toNat)+4294967296^z.1.toNat*(val (xs.drop z.1.toNat) / 2^r)=val xs / 2^r,fun z=>N-z.1.toNat,
   ⟨(0,ay (List.replicate N 0)),by (try dsimp only);and_intros<;>first|exact True.intro|rfl,by (try dsimp only);omega,by (try dsimp only);omega,_,rfl,by simp,bK.rep _,by simp⟩,?_⟩
  rintro ⟨i,vs⟩ V4 l4 ⟨hi0,hi1,es,rfl,hes,hde,hv⟩
  dsimp only at hi0 hi1 hv ⊢
  obtain ⟨i,rfl⟩:=Int.eq_ofNat_of_zero_le hi0
  simp only [Int.toNat_natCast] at hv
  refine ⟨by trivial,fun h3=>?_,fun h3=>?_⟩
  ·have h3:i<N:=by simpa using h3
   have x3:i64.wrap ((i:Int)+1)=((i+1:Nat):Int):=by rw [i64w (by omega)];omega
   simp only [x3,Int.toNat_natCast,Nat.mul_one,Nat.zero_add]
   refine Jv (hx.le l4) i (by omega) ?_
   have xl:=hx.eM.get (i:=i) (by omega)
   refine ⟨fun z V'=>z=((xs[i]+4294967296*(xs[i+1]?).getD 0:Nat):Int),⟨fun h4=>?_,fun h4=>?_⟩,?_⟩
   ·have h4:i+1<N:=by simp at h4;omega
    have hdy:=hx.eM.get (i:=i+1) (by omega)
    have e4:a_ .or .u64 (u64.wrap ((xs[i]:Nat):Int)) (u64.wrap (u64.wrap ((xs[i+1]:Nat):Int)*2^32))=((xs[i]+4294967296*(xs[i+1]?).getD 0:Nat):Int):=by
     have e3:((2:Int)^32)=4294967296:=by decide
     rw [e3,aJ (by omega),aJ (x:=((xs[i+1]:Nat):Int)) (by omega),aJ (by omega),Hn _ _ hdy xl,List.getElem?_eq_getElem (by omega),Option.getD_some]
     omega
    refine Jv (hx.le l4) (i+1) (by omega) ⟨by omega,((xs[i]+4294967296*(xs[i+1]?).getD 0:Nat):Int),?_,rfl⟩
    (try dsimp only);and_intros<;>first|exact True.intro|exact e4|rfl
   ·have h4:N<=i+1:=by simp at h4;omega
    have e4:u64.wrap ((xs[i]:Nat):Int)=((xs[i]+4294967296*(xs[i+1]?).getD 0:Nat):Int):=by
     rw [aJ (by omega),List.getElem?_eq_none (by omega)];simp
    refine ⟨((xs[i]+4294967296*(xs[i+1]?).getD 0:Nat):Int),?_,rfl⟩
    (try dsimp only);and_intros<;>first|exact True.intro|exact e4|rfl
   rintro _ V5 l5 rfl
   have hst:=Bv (Y:=val (xs.drop (i+1))) xl hrl
   rw [oG hx.eM] at hst
   have hdrop:val (xs.drop i)=xs[i]+4294967296*val (xs.drop (i+1)):=by
    rw [List.drop_eq_getElem_cons (by omega),aX]
   rw [hdrop,hst] at hv
   rw [fj,gD]
   obtain ⟨D,hD⟩:∃D,D=(xs[i]+4294967296*(xs[i+1]?).getD 0) / 2^r%4294967296:=⟨_,rfl⟩
   have eD:(((xs[i]+4294967296*(xs[i+1]?).getD 0) / 2^r:Nat):Int)%4294967296=(D:Int):=by rw [hD];omega
   rw [eD]
   rw [←hD] at hv
   refine ⟨by trivial,by omega,⟨by omega,by omega⟩,by simp;omega,(((i+1:Nat):Int),ay (es.set i D)),?_,?_,?_⟩
   ·(try dsimp only);omega
   ·(try dsimp only);and_intros<;>first|exact True.intro|rfl|rw [←bg]
   ·(try dsimp only)
    refine ⟨by omega,by omega,_,rfl,by simpa using hes,hde.set _ _ (by omega),?_⟩
    simp only [Int.toNat_natCast]
    rw [aF _ _ _ (by omega),←hv,Nat.pow_succ,Nat.mul_add,Nat.add_assoc,Nat.mul_assoc]
  ·have h3:i=N:=by simp at h3;omega
   subst h3
   intro V5 l5 bk hb
   refine (cO (RD.aZ hb hde (n:=i) (c:=i) (by omega) (Nat.le_refl _)) (by omega)).mono ?_
   rintro r' V6 l6 ⟨k',rfl,h4⟩
   refine ⟨_,_,_,rfl,fun _ V7 l7=>⟨_,_,_,rfl,?_⟩⟩
   rw [ai (by omega),List.drop_of_length_le (l:=xs) (i:=i) (by omega)] at hv
   have hv:val es=val xs / 2^r:=by
    rw [←hv,dM,Nat.zero_div,Nat.mul_zero,Nat.add_zero]
   rw [aL hde,hv] at h4
   exact h4.le l7
end Go.Proofs.Tryz
namespace Go.Big
theorem qG {ds:List Nat}(hd:bK ds)(w:Nat)(hw:w<=ds.length):val ds / 4294967296^w=val (ds.drop w):=by
 have e:val ds=val (ds.take w++ds.drop w):=by rw [List.take_append_drop]
 have hlt:=fw (hd.take w)
 rw [cR] at e
 rw [List.length_take,Nat.min_eq_left (by omega)] at e hlt
 rw [e,Nat.add_mul_div_left _ _ (Nat.pow_pos (by omega)),Nat.div_eq_of_lt hlt,Nat.zero_add]
theorem Oo {R n:Nat}(h:(af R).length=n+2):R / 4294967296^n=(af R)[n+1]'(by omega)*4294967296+(af R)[n]'(by omega):=by
 have:=qG (ax R) n (by omega)
 rw [ab] at this
 rw [this,List.drop_eq_getElem_cons (by omega),List.drop_eq_getElem_cons (i:=n+1) (by omega),List.drop_of_length_le (by omega)]
 simp only [aX,dM]
 omega
theorem KA {R n:Nat}(h:(af R).length=n+1):R / 4294967296^n=(af R)[n]'(by omega):=by
 have:=qG (ax R) n (by omega)
 rw [ab] at this
 rw [this,List.drop_eq_getElem_cons (by omega),List.drop_of_length_le (by omega)]
 simp only [aX,dM]
 omega
theorem On {R n:Nat}(h:(af R).length<=n):R / 4294967296^n=0:=Nat.div_eq_of_lt (az.1 h)
theorem Dh {V n:Nat}(h:(af V).length=n+1):(af V)[n]'(by omega)*4294967296^n<=V:=by
 have:=KA h
 rw [←this]
 exact Nat.div_mul_le_self _ _
theorem GA {R V top P W:Nat}(hV:top*P<=V)(ht:0<top)(hP:0<P)(hW:0<W):R / (V*W)<=R / (P*W) / top:=by
 rw [Nat.le_div_iff_mul_le ht,Nat.le_div_iff_mul_le (Nat.mul_pos hP hW)]
 have h1:R / (V*W)*(V*W)<=R:=Nat.div_mul_le_self _ _
 have h2:R / (V*W)*(top*P*W)<=R / (V*W)*(V*W):=Nat.mul_le_mul_left _ (Nat.mul_le_mul_right _ hV)
 have h3:R / (V*W)*top*(P*W)=R / (V*W)*(top*P*W):=by
  generalize R / (V*W)=q
  rw [Nat.mul_assoc q top,←Nat.mul_assoc top P W]
 omega
theorem E8 {A V W D R q R':Nat}(h:A=V*(W*4294967296*D)+R)(hq:R=V*q*W+R'):A=V*(W*(q+4294967296*D))+R':=by
 subst hq;rw [h];grind
theorem G0 {x y s Q R:Nat}(h:x*2^s=y*2^s*Q+R)(hR:R<y*2^s):Q=x / y/\R / 2^s=x%y:=by
 have hp:=Nat.two_pow_pos s
 have hy:0<y:=by
  rcases Nat.eq_zero_or_pos y with e|e
  ·subst e;simp at hR
  ·exact e
 have h1:y*2^s*Q=(y*Q)*2^s:=by grind
 rw [h1] at h
 have h2:y*Q<=x:=by
  rcases Nat.lt_or_ge x (y*Q) with hl|hl
  ·have:(x+1)*2^s<=y*Q*2^s:=Nat.mul_le_mul_right _ hl
   rw [Nat.add_mul] at this
   omega
  ·exact hl
 obtain ⟨d,rfl⟩:=Nat.exists_eq_add_of_le h2
 rw [Nat.add_mul] at h
 have h3:R=d*2^s:=by omega
 subst h3
 have h4:d<y:=Nat.lt_of_mul_lt_mul_right hR
 rw [Nat.mul_div_cancel _ hp]
 constructor
 ·rw [Nat.mul_add_div hy,Nat.div_eq_of_lt h4,Nat.add_zero]
 ·rw [Nat.mul_add_mod,Nat.mod_eq_of_lt h4]
theorem KC (j:Nat):2^(32*j)=4294967296^j:=by rw [Nat.pow_mul]
theorem CH {R V W g:Nat}(MF:0<V*W)(h:V*g*W<=R)(hq:R / (V*W)<=g):g=R / (V*W):=by
 have:g<=R / (V*W):=by
  rw [Nat.le_div_iff_mul_le MF]
  have:g*(V*W)=V*g*W:=by grind
  omega
 omega
theorem GC {R V W g:Nat}(MF:0<V*W)(h:R<V*g*W):R / (V*W)<g:=by
 rw [Nat.div_lt_iff_lt_mul MF]
 have:g*(V*W)=V*g*W:=by grind
 omega
theorem De {R V W:Nat}:R=V*(R / (V*W))*W+R%(V*W):=by
 have:=Nat.div_add_mod R (V*W)
 have e:V*(R / (V*W))*W=V*W*(R / (V*W)):=by
  generalize R / (V*W)=q
  grind
 omega
theorem gy {a b:Nat}:(af (a*b)).length<=(af a).length+(af b).length:=by
 rw [az,Nat.pow_add]
 have h1:a<4294967296^(af a).length:=az.1 (Nat.le_refl _)
 have h2:b<4294967296^(af b).length:=az.1 (Nat.le_refl _)
 exact Nat.mul_lt_mul'' h1 h2
theorem yC (j:Nat):(af (4294967296^j)).length<=j+1:=by
 rw [az]
 exact Nat.pow_lt_pow_right (by omega) (by omega)
end Go.Big
namespace Go.Proofs.Tryz
open Go.Eng Go.Big
theorem Xo {V:View}{p:OA}{n c:Nat}{ds:List Nat}(h:RD V p n c ds){i:Int}{K:Int->Prop}(j d:Nat)(hj:i=j)(hn:ds[j]?=some d)
  (hK:K (d:Int)):(p.isSome=true)/\(0<=i/\i<(n:Int))/\∃x:Int,(∃a,addrAdd p (i.toNat*1)=some a/\V.at a (.int .u32 x))/\K x:=by
 have hl:j<ds.length:=by
  rcases Nat.lt_or_ge j ds.length with h|h
  ·exact h
  ·rw [List.getElem?_eq_none h] at hn;cases hn
 refine h.rd j hj hl ?_
 rw [List.getElem?_eq_getElem hl] at hn
 cases hn;exact hK
theorem Fx {W n:Nat}(h:(af W).length=n+1):∃top,(af W)[n]?=some top/\top≠0/\top<4294967296/\top*4294967296^n<=W:=by
 refine ⟨(af W)[n]'(by omega),List.getElem?_eq_getElem _,?_,(ax W).get _,Dh h⟩
 have:=(hU W).last (by omega)
 simpa [h] using this
structure wD (A V L:Nat) (R:Nat) (j:Nat) (es:List Nat):Prop where
 len:es.length=L
 eM:bK es
 lt:R<V*4294967296^j
 eq:A=V*(4294967296^j*val (es.drop j))+R
theorem wD.step {A V L R j:Nat}{es:List Nat}(h:wD A V L R (j+1) es)(hj:j<L)(hV:0<V) :
  R / (V*4294967296^j)<4294967296/\wD A V L (R-V*(R / (V*4294967296^j))*4294967296^j) j (es.set j (R / (V*4294967296^j))):=by
 have hW:0<4294967296^j:=Nat.pow_pos (by omega)
 have MF:0<V*4294967296^j:=Nat.mul_pos hV hW
 have hq:R / (V*4294967296^j)<4294967296:=by
  rw [Nat.div_lt_iff_lt_mul MF]
  have:=h.lt
  rw [Nat.pow_succ] at this
  have e:4294967296*(V*4294967296^j)=V*(4294967296^j*4294967296):=by
   generalize 4294967296^j=w
   grind
  omega
 have hs:=De (R:=R) (V:=V) (W:=4294967296^j)
 have hm:=Nat.mod_lt R MF
 have he:R-V*(R / (V*4294967296^j))*4294967296^j=R%(V*4294967296^j):=by omega
 refine ⟨hq,⟨by simpa using h.len,h.eM.set _ _ hq,by rw [he];exact hm,?_⟩⟩
 have hl:=h.len
 rw [List.drop_eq_getElem_cons (by simp;omega),List.getElem_set_self,List.drop_set_of_lt (by omega),aX,he]
 exact E8 (by have:=h.eq;rwa [Nat.pow_succ] at this) hs
theorem HL {R V j:Nat}(h:R<V*4294967296^(j+1)):(af R).length<=(af V).length+j+1:=by
 have h1:V*4294967296^(j+1)<=4294967296^(af V).length*4294967296^(j+1):=Nat.mul_le_mul_right _ (Nat.le_of_lt (az.1 (Nat.le_refl _)))
 rw [←Nat.pow_add] at h1
 have:=az.2 (Nat.lt_of_lt_of_le h h1)
 omega
theorem Je {R n:Nat}(h:(af R).length<=n+2):R / 4294967296^n<18446744073709551616:=by
 rw [Nat.div_lt_iff_lt_mul (Nat.pow_pos (by omega))]
 have:=az.1 h
 rw [Nat.pow_succ,Nat.pow_succ] at this
 have e:4294967296^n*4294967296*4294967296=18446744073709551616*4294967296^n:=by
  generalize 4294967296^n=w
  omega
 omega
theorem Ct {V:View}{p q:OA}{n c m e:Nat}{x y:Nat}(hx:RN V p n c x)(hy:RN V q m e y)(hm:(af x).length<=274877906944)(hy0:0<y)(hle:(af y).length<=(af x).length) :
  Acts prog 155 #[.slice p n c,.slice q m e] V fun r V'=>∃p1 n1 c1 p2 n2 c2,r=.tuple #[.slice p1 n1 c1,.slice p2 n2 c2]/\RN V' p1 n1 c1 (x / y)/\RN V' p2 n2 c2 (x%y):=by
 have hlx:=hx.len
 have xr:=hy.len
 have hm0:0<m:=by
  rcases Nat.eq_zero_or_pos m with h|h
  ·have:=bo.1 (List.length_eq_zero_iff.1 (xr▸h));omega
  ·exact h
 have vc:=B5 p n c q m e V
 have w1:i64.wrap ((m:Int)-1)=((m-1:Nat):Int):=by rw [i64w (by omega)];omega
 have w2:i64.wrap ((n:Int)-m)=((n-m:Nat):Int):=by rw [i64w (by omega)];omega
 have w3:i64.wrap (((n-m:Nat):Int)+1)=((n-m+1:Nat):Int):=by rw [i64w (by omega)];omega
 have w4:i64.wrap (((n-m+1:Nat):Int)-1)=((n-m:Nat):Int):=by rw [i64w (by omega)];omega
 simp only [w1,w2,w3,Int.toNat_natCast,w4,cu] at vc
 obtain ⟨L,hL⟩:∃L,L=n-m+1:=⟨_,rfl⟩
 rw [←hL] at vc
 refine vc _ ?_
 clear vc
 refine hy.rd (m-1) rfl (by omega) fun V1 l1=>(fC _ ((ax y).get (by omega))).mono ?_
 rintro r V2 l2 rfl
 have hbl:bE ((af y)[m-1]'(by omega))<=32:=iy.2 (by have:=(ax y).get (i:=m-1) (by omega);omega)
 obtain ⟨s,hs⟩:∃s:Nat,(32:Int)-(bE ((af y)[m-1]'(by omega)):Int)=s:=⟨32-bE ((af y)[m-1]'(by omega)),by omega⟩
 have I5:s<=32:=by omega
 rw [hs]
 clear hs hbl
 refine ⟨_,rfl,fun V3 l3=>(j8 (hy.le (l1.trans (l2.trans l3))) (by omega) s (by omega)).mono ?_⟩
 rintro r V4 l4 ⟨vp,vn,vc,rfl,hv⟩
 rw [ab] at hv
 refine ⟨_,_,_,rfl,fun V5 l5=>(j8 (hx.le (l1.trans (l2.trans (l3.trans (l4.trans l5))))) (by omega) s (by omega)).mono ?_⟩
 rintro r V6 l6 ⟨rp,rn,rc,rfl,hr⟩
 rw [ab] at hr
 replace hv:=hv.le (l5.trans l6)
 have hlv:=hv.len
 have hsp:=Nat.two_pow_pos s
 have hs2:2^s<=4294967296:=Nat.pow_le_pow_right (n:=2) (by omega) I5
 have Uc:0<y*2^s:=Nat.mul_pos hy0 hsp
 have hsl:(af (2^s)).length<=2:=az.2 (by omega)
 have hvl:vn<=m+2:=by have:=gy (a:=y) (b:=2^s);omega
 have YG:0<vn:=by
  rcases Nat.eq_zero_or_pos vn with h|h
  ·have:=bo.1 (List.length_eq_zero_iff.1 (hlv▸h));omega
  ·exact h
 have hinit:wD (x*2^s) (y*2^s) L (x*2^s) L (List.replicate L 0):=by
  refine ⟨by simp,bK.rep _,?_,by simp⟩
  have h1:x<4294967296^n:=by rw [hlx];exact az.1 (Nat.le_refl _)
  have h2:4294967296^(m-1)<=y:=by rw [←qk];omega
  have h3:4294967296^(m-1)*4294967296^L<=y*4294967296^L:=Nat.mul_le_mul_right _ h2
  rw [←Nat.pow_add,show m-1+L=n from by omega] at h3
  have h4:x*2^s<y*4294967296^L*2^s:=Nat.mul_lt_mul_of_pos_right (by omega) hsp
  have h5:y*4294967296^L*2^s=y*2^s*4294967296^L:=by
   generalize 4294967296^L=w
   grind
  omega
 have hend:∀{Q R:Nat},x*2^s=y*2^s*Q+R->R<y*2^s->Q=x / y/\R / 2^s=x%y:=fun h1 h2=>G0 h1 h2
 generalize x*2^s=A at *
 generalize y*2^s=W at *
 have w5:i64.wrap ((vn:Int)-1)=((vn-1:Nat):Int):=by rw [i64w (by omega)];omega
 simp only [w5,Int.toNat_natCast]
 refine ⟨_,_,_,rfl,?_⟩
 obtain ⟨top,WT,Um,Un,NP⟩:=Fx (W:=W) (n:=vn-1) (by omega)
 refine Xo hv (vn-1) top rfl WT ?_
 have w6:u64.wrap (top:Int)=top:=aJ (by omega)
 simp only [w6]
 refine ⟨by omega,by omega,by omega,fun z V'=>∃R:Nat,RN V' z.1 z.2.1 z.2.2.1 R/\-1<=z.2.2.2.1/\z.2.2.2.1<L/\∃es:List Nat,z.2.2.2.2=ay es/\wD A W L R (z.2.2.2.1+1).toNat es,fun z=>(z.2.2.2.1+1).toNat,
  ⟨(rp,rn,rc,((n-m:Nat):Int),ay (List.replicate L 0)),by (try dsimp only);and_intros<;>first|exact True.intro|rfl,A,hr,by (try dsimp only);omega,by (try dsimp only);omega,_,rfl,?_⟩,?_⟩
 ·(try dsimp only)
  rw [show (((n-m:Nat):Int)+1).toNat=L from by omega]
  exact hinit
 rintro ⟨rp,rn,rc,j,vs⟩ V7 l7 ⟨R,hR,hj0,hj1,es,rfl,hI⟩
 dsimp only at hR hj0 hj1 hI ⊢
 have hlr:=hR.len
 refine ⟨by trivial,fun h3=>?_,fun h3=>?_⟩
 ·have h3:0<=j:=by simpa using h3
  obtain ⟨j,rfl⟩:=Int.eq_ofNat_of_zero_le h3
  have hI:wD A W L R (j+1) es:=hI
  have WD:j<L:=by omega
  have hrl:=HL hI.lt
  obtain ⟨hq,hI'⟩:=hI.step WD Uc
  have w7:i64.wrap ((vn:Int)+j)=((vn-1+j+1:Nat):Int):=by rw [i64w (by omega)];omega
  have w8:i64.wrap (((vn-1+j+1:Nat):Int)-1)=((vn-1+j:Nat):Int):=by rw [i64w (by omega)];omega
  have w9:i64.wrap ((32:Int)*j)=((32*j:Nat):Int):=by rw [i64w (by omega)];omega
  have SQ:i64.wrap ((j:Int)-1)=(j:Int)-1:=i64w (by omega)
  simp only [w7,w8,w9,SQ,Int.toNat_natCast]
  have hrl:(af R).length<=vn-1+j+2:=by omega
  have hld:=Je hrl
  have hP:0<4294967296^(vn-1):=Nat.pow_pos (by omega)
  have hW:0<4294967296^j:=Nat.pow_pos (by omega)
  have hg:=GA (R:=R) NP (by omega) hP hW
  rw [←Nat.pow_add] at hg
  have l2:=@Oo R (vn-1+j)
  have l1:=@KA R (vn-1+j)
  have l0:=@On R (vn-1+j)
  have hlast:∀i (hi:i<(af R).length),(af R)[i]<4294967296:=fun i hi=>(ax R).get hi
  generalize R / 4294967296^(vn-1+j)=lead at *
  refine ⟨fun z V'=>z=(lead:Int),⟨fun h4=>?_,fun h4=>?_⟩,?_⟩
  ·have h4:vn-1+j+1<rn:=by simp at h4;omega
   refine (hR.rd (vn-1+j+1) rfl (by omega) ⟨by omega,hR.rd (vn-1+j) rfl (by omega) ⟨(lead:Int),?_,rfl⟩⟩)
   have e4:a_ .or .u64 (u64.wrap (u64.wrap (((af R)[vn-1+j+1]'(by omega):Nat):Int)*2^32)) (u64.wrap (((af R)[vn-1+j]'(by omega):Nat):Int))=(lead:Int):=by
    have e3:((2:Int)^32)=4294967296:=by decide
    have g1:=hlast (vn-1+j+1) (by omega)
    have g2:=hlast (vn-1+j) (by omega)
    have:=l2 (by omega)
    rw [e3,aJ (x:=(((af R)[vn-1+j+1]'(by omega):Nat):Int)) (by omega),aJ (x:=(((af R)[vn-1+j]'(by omega):Nat):Int)) (by omega),aJ (by omega),Ba _ _ g1 g2,this]
    omega
   (try dsimp only);and_intros<;>first|exact True.intro|exact e4|rfl
  ·have h4:rn<=vn-1+j+1:=by simp at h4;omega
   refine ⟨fun z V'=>z=(lead:Int),⟨fun h5=>?_,fun h5=>?_⟩,?_⟩
   ·have h5:vn-1+j<rn:=by simp at h5;omega
    refine hR.rd (vn-1+j) rfl (by omega) ⟨(lead:Int),?_,rfl⟩
    have e4:u64.wrap (((af R)[vn-1+j]'(by omega):Nat):Int)=(lead:Int):=by
     have g2:=hlast (vn-1+j) (by omega)
     rw [aJ (by omega),l1 (by omega)]
    (try dsimp only);and_intros<;>first|exact True.intro|exact e4|rfl
   ·have h5:rn<=vn-1+j:=by simp at h5;omega
    have e4:(0:Int)=(lead:Int):=by rw [l0 (by omega)];rfl
    refine ⟨(lead:Int),?_,rfl⟩
    (try dsimp only);and_intros<;>first|exact True.intro|exact e4|rfl
   ·rintro _ V8 l8 rfl
    refine ⟨by trivial,(lead:Int),?_,rfl⟩
    (try dsimp only);and_intros<;>first|exact True.intro|rfl
  rintro _ V9 l9 rfl
  clear l2 l1 l0 hlast
  have Nq:(lead:Int).tdiv (top:Int)=((lead / top:Nat):Int):=by rw [Int.tdiv_eq_ediv_of_nonneg (by omega)];omega
  have hlt:lead / top<=lead:=Nat.div_le_self _ _
  rw [Nq]
  generalize lead / top=lt at *
  obtain ⟨g0,hg0,Lm,Q7⟩:∃g0:Nat,bH (u64.wrap (lt:Int)) 4294967295=(g0:Int)/\g0<4294967296/\R / (W*4294967296^j)<=g0:=by
   rw [aJ (by omega)]
   unfold bH
   split
   ·exact ⟨4294967295,rfl,by omega,by omega⟩
   ·exact ⟨lt,rfl,by omega,hg⟩
  rw [hg0]
  clear hg0 Nq hlt hg hld
  have Ud:0<W*4294967296^j:=Nat.mul_pos Uc hW
  have hsz:∀g:Nat,g<4294967296->(af g).length<=1:=fun g hg=>az.2 (by omega)
  refine ⟨by trivial,by omega,fun V10 l10=>(du g0 (by omega)).mono ?_⟩
  rintro r V11 l11 ⟨gp,gn,gc,rfl,h11⟩
  refine ⟨_,_,_,rfl,fun V12 l12=>(bY (hv.le (l7.trans (l9.trans (l10.trans (l11.trans l12))))) (h11.le l12) (by have:=hsz g0 Lm;omega)).mono ?_⟩
  rintro r V13 l13 ⟨pp,pn,pc,rfl,Ki⟩
  rw [ab,ab] at Ki
  have hpl:=fun g=>gy (a:=W) (b:=g)
  refine ⟨_,_,_,rfl,fun V14 dA=>(j8 (Ki.le dA) (by have:=hsz g0 Lm;have:=hpl g0;omega) (32*j) (by omega)).mono ?_⟩
  rintro r V15 dS ⟨tp,tn,tc,rfl,Kj⟩
  rw [ab,KC] at Kj
  have Nx:=hR.le (l9.trans (l10.trans (l11.trans (l12.trans (l13.trans (dA.trans dS))))))
  have Rk:=hv.le (l7.trans (l9.trans (l10.trans (l11.trans (l12.trans (l13.trans (dA.trans dS)))))))
  refine ⟨_,_,_,rfl,fun z V'=>∃g:Nat,z.1=g/\g<4294967296/\R / (W*4294967296^j)<=g/\RN V' z.2.1 z.2.2.1 z.2.2.2 (W*g*4294967296^j),fun z=>z.1.toNat,
   ⟨((g0:Int),tp,tn,tc),by (try dsimp only);and_intros<;>first|exact True.intro|rfl,g0,rfl,Lm,Q7,Kj⟩,?_⟩
  rintro ⟨_,tp,tn,tc⟩ kG dB ⟨g,rfl,hgb,WC,ht⟩
  dsimp only at ht ⊢
  have htl:(af (W*g*4294967296^j)).length<=1099511627776:=by
   have h1:=gy (a:=W*g) (b:=4294967296^j)
   have h2:=yC j
   have h3:=hpl g
   have h4:=hsz g hgb
   omega
  refine ⟨by trivial,fun nD cU=>(gI (ht.le cU) (Nx.le (dB.trans cU)) htl (by omega)).mono ?_⟩
  rintro r qN dW rfl
  refine ⟨_,rfl,fun h6=>?_,fun h6=>?_⟩
  ·have h6:R<W*g*4294967296^j:=by
    have h6:0<ju (W*g*4294967296^j) R:=by simpa using h6
    unfold ju at h6
    split at h6
    ·omega
    ·split at h6
     ·assumption
     ·omega
   have hgo:=GC Ud h6
   have hg1:0<g:=Nat.lt_of_le_of_lt (Nat.zero_le _) hgo
   have e1:u64.wrap ((g:Int)-1)=((g-1:Nat):Int):=by rw [aJ (by omega)];omega
   simp only [e1]
   refine fun rG dX=>(du (g-1) (by omega)).mono ?_
   rintro r Cg iI ⟨gp,gn,gc,rfl,h20⟩
   refine ⟨_,_,_,rfl,fun rX fA=>(bY (Rk.le (dB.trans (cU.trans (dW.trans (dX.trans (iI.trans fA)))))) (h20.le fA) (by have:=hsz (g-1) (by omega);omega)).mono ?_⟩
   rintro r wE jA ⟨pp,pn,pc,rfl,h22⟩
   rw [ab,ab] at h22
   refine ⟨_,_,_,rfl,fun wF iq=>(j8 (h22.le iq) (by have:=hsz (g-1) (by omega);have:=hpl (g-1);omega) (32*j) (by omega)).mono ?_⟩
   rintro r FR tH ⟨tp,tn,tc,rfl,T7⟩
   rw [ab,KC] at T7
   refine ⟨_,_,_,rfl,(((g-1:Nat):Int),tp,tn,tc),?_,by (try dsimp only);and_intros<;>first|exact True.intro|rfl,g-1,rfl,by omega,by omega,T7⟩
   (try dsimp only);omega
  ·have h6:W*g*4294967296^j<=R:=by
    have h6:¬0<ju (W*g*4294967296^j) R:=by simpa using h6
    unfold ju at h6
    split at h6
    ·omega
    ·split at h6
     ·omega
     ·omega
   have hstop:=CH Ud h6 WC
   rw [←hstop] at hI'
   have hes:=hI.len
   refine ⟨⟨by omega,by omega⟩,by simp;omega,fun FE l25=>(mI (Nx.le (dB.trans (cU.trans (dW.trans l25)))) (ht.le (cU.trans (dW.trans l25))) (by omega) (aB h6) (by rw [ab,ab];exact h6)).mono ?_⟩
   rintro r Ka l26 ⟨np,nn,nc,rfl,T8⟩
   rw [ab,ab] at T8
   have e1:u32.wrap (g:Int)=(g:Int):=oF (by omega)
   have e2:(ay es).set (0+j*1) (.int .u32 (g:Int))=ay (es.set j g):=by rw [←bg];simp
   simp only [e1]
   refine ⟨_,_,_,rfl,(np,nn,nc,(j:Int)-1,ay (es.set j g)),?_,by (try dsimp only);and_intros<;>first|exact True.intro|rfl|exact e2|(rw [←bg];simp),R-W*g*4294967296^j,T8,by (try dsimp only);omega,by (try dsimp only);omega,_,rfl,?_⟩
   ·(try dsimp only);omega
   ·(try dsimp only)
    rw [show ((j:Int)-1+1).toNat=j from by omega]
    exact hI'
 ·have h3:j=-1:=by simp at h3;omega
  subst h3
  have Rg:(af R).length<=1099511627776:=by
   have h6:=hI.lt
   have h6:R<W:=by simpa using h6
   have:=aB (Nat.le_of_lt h6)
   omega
  intro V8 l8 bk hb
  refine (cO (RD.aZ hb hI.eM (n:=L) (c:=L) hI.len.symm (Nat.le_refl _)) (by have:=hI.len;omega)).mono ?_
  rintro r V9 l9 ⟨k,rfl,h4⟩
  refine ⟨_,_,_,rfl,fun _ V10 l10=>(Af (hR.le (l8.trans (l9.trans l10))) Rg s (by omega)).mono ?_⟩
  rintro r V11 l11 ⟨p2,n2,c2,rfl,h5⟩
  rw [ab] at h5
  refine ⟨_,_,_,rfl,fun V12 l12=>⟨_,_,_,_,_,_,rfl,?_,?_⟩⟩
  ·have h6:=hI.lt
   have h7:=hI.eq
   have h6:R<W:=by simpa using h6
   have h7:A=W*val es+R:=by simpa using h7
   obtain ⟨g1,g2⟩:=hend h7 h6
   rw [aL hI.eM,g1] at h4
   exact h4.le (l10.trans (l11.trans l12))
  ·have h6:=hI.lt
   have h7:=hI.eq
   have h6:R<W:=by simpa using h6
   have h7:A=W*val es+R:=by simpa using h7
   obtain ⟨g1,g2⟩:=hend h7 h6
   rw [g2] at h5
   exact h5.le l12
theorem oO {x:Nat}(h:(af x).length<=2):x<18446744073709551616:=by
 have:=az.1 h
 omega
theorem copied {V:View}{b n c:Nat}{ds:List Nat}{sp:List Value}{ty:TypeId}(hd:bK ds)(hn:n=ds.length)(hc:n<=c)(hb:V.aZ b (.cells (ay ds++sp).toArray ty (0,0))):RD V (some ⟨b,0,none⟩) n c ds:=by
 refine ⟨hn,hc,fun i v hv=>⟨_,rfl,?_⟩,hd,fun e=>nomatch e⟩
 rw [add_zero']
 refine blk_at hb ?_
 rw [List.getElem?_append_left]
 ·exact hv
 ·rcases Nat.lt_or_ge i (ay ds).length with e|e
  ·exact e
  ·rw [List.getElem?_eq_none e] at hv;cases hv
theorem dH {V:View}{p q:OA}{n c m e:Nat}{x y:Nat}(hx:RN V p n c x)(hy:RN V q m e y)(hm:(af x).length<=274877906944)(hm':(af y).length<=274877906944)(hy0:0<y) :
  Acts prog 119 #[.slice p n c,.slice q m e] V fun r V'=>∃p1 n1 c1 p2 n2 c2,r=.tuple #[.slice p1 n1 c1,.slice p2 n2 c2]/\RN V' p1 n1 c1 (x / y)/\RN V' p2 n2 c2 (x%y):=by
 have hlx:=hx.len
 have xr:=hy.len
 have hm0:0<m:=by
  rcases Nat.eq_zero_or_pos m with h|h
  ·have:=bo.1 (List.length_eq_zero_iff.1 (xr▸h));omega
  ·exact h
 refine wb p n c q m e V _ fun V1 l1=>(j_ (hx.le l1) (by omega)).mono ?_
 rintro r V2 l2 rfl
 rw [ab]
 refine ⟨_,_,rfl,fun z V'=>True,⟨fun h0=>?_,fun h0=>⟨(),by (try dsimp only);and_intros<;>first|exact True.intro|rfl,trivial⟩⟩,?_⟩
 ·have h0:n<=2:=by simpa using h0
  refine fun V3 l3=>(j_ (hy.le (l1.trans (l2.trans l3))) (by omega)).mono ?_
  rintro r V4 l4 rfl
  rw [ab]
  refine ⟨_,_,rfl,fun h1=>?_,fun h1=>⟨(),by (try dsimp only);and_intros<;>first|exact True.intro|rfl,trivial⟩⟩
  have h1:m<=2:=by simpa using h1
  have hxw:=oO (x:=x) (by omega)
  have Ur:=oO (x:=y) (by omega)
  rw [if_pos h0,if_pos h1]
  have hq:x / y<=x:=Nat.div_le_self _ _
  have hr:x%y<y:=Nat.mod_lt _ hy0
  have e1:((x:Nat):Int).tdiv (y:Int)=((x / y:Nat):Int):=by rw [Int.tdiv_eq_ediv_of_nonneg (by omega)];omega
  have e2:((x:Nat):Int).tmod (y:Int)=((x%y:Nat):Int):=by rw [Int.tmod_eq_emod_of_nonneg (by omega)];omega
  rw [e1,e2]
  generalize x / y=qq at *
  generalize x%y=rr at *
  have e3:u64.wrap (qq:Int)=qq:=aJ (by omega)
  rw [e3]
  refine ⟨by omega,by omega,fun V5 l5=>(du qq (by omega)).mono ?_⟩
  rintro r V6 l6 ⟨p1,n1,c1,rfl,g1⟩
  refine ⟨_,_,_,rfl,fun V7 l7=>(du rr (by omega)).mono ?_⟩
  rintro r V8 l8 ⟨p2,n2,c2,rfl,g2⟩
  exact ⟨_,_,_,rfl,fun V9 l9=>⟨_,_,_,_,_,_,rfl,g1.le (l7.trans (l8.trans l9)),g2.le l9⟩⟩
 rintro _ V10 l10 _
 replace hx:=hx.le (l1.trans (l2.trans l10))
 replace hy:=hy.le (l1.trans (l2.trans l10))
 refine ⟨by trivial,fun V11 l11=>(gI (hx.le l11) (hy.le l11) (by omega) (by omega)).mono ?_⟩
 rintro r V12 l12 rfl
 replace hx:=hx.le (l11.trans l12)
 replace hy:=hy.le (l11.trans l12)
 refine ⟨_,rfl,fun h0=>⟨ay (af x),hx.sl,by simp [hlx],by omega,by omega,by simp,by simp [hlx],?_,?_⟩,fun h0=>⟨fun h1=>?_,fun h1=>?_⟩⟩
 ·intro v hv
  simp only [ay,List.mem_map] at hv
  obtain ⟨d,-,rfl⟩:=hv
  rfl
 ·have h0:x<y:=by simpa [fh] using h0
  intro bk J sp c' h1 h2 V1 l1 b hb
  rw [Nat.div_eq_of_lt h0,Nat.mod_eq_of_lt h0]
  refine ⟨_,_,_,_,_,_,rfl,RD.nil,?_⟩
  simp only [Nat.zero_add,Nat.zero_mul,List.take_zero,List.nil_append] at hb h1 ⊢
  exact copied (ax x) hlx h1 hb
 ·have h0:y<=x:=by simpa [←Int.not_lt,fh] using h0
  have h1:m=1:=by simp at h1;omega
  subst h1
  obtain ⟨d,hd⟩:=kh (ds:=af y) (by omega)
  have hdy:d=y:=by have:=ab y;rw [hd] at this;simpa using this
  subst hdy
  have hdl:d<4294967296:=by have:=ax d;rw [hd] at this;exact (bK.cons.1 this).1
  try unfold RN at hy
  rw [hd] at hy
  have hn0:0<n:=by have:=aB h0;omega
  have w1:i64.wrap ((n:Int)-1)=(n:Int)-1:=i64w (by omega)
  simp only [w1,Int.toNat_natCast,cu]
  have xl:=ax x
  have NW:=ab x
  try unfold RN at hx
  clear hd
  rw [←NW]
  clear NW h0
  generalize af x=xs at *
  refine ⟨by omega,by omega,by omega,fun z V'=>0<=z.1/\z.1<d/\-1<=z.2.1/\z.2.1<n/\∃es:List Nat,z.2.2=ay es/\es.length=n/\bK es /\
   val (xs.drop (z.2.1+1).toNat)=d*val (es.drop (z.2.1+1).toNat)+z.1.toNat,fun z=>(z.2.1+1).toNat,
   ⟨(0,(n:Int)-1,ay (List.replicate n 0)),by (try dsimp only);and_intros<;>first|exact True.intro|rfl,by (try dsimp only);omega,by (try dsimp only);omega,by (try dsimp only);omega,by (try dsimp only);omega,_,rfl,by simp,bK.rep _,?_⟩,?_⟩
  ·(try dsimp only)
   rw [List.drop_of_length_le (by omega),List.drop_of_length_le (by simp)];rfl
  rintro ⟨rest,i,vs⟩ V14 dA ⟨hr0,hr1,hi0,hi1,es,rfl,hes,hde,hv⟩
  dsimp only at hr0 hr1 hi0 hi1 hv ⊢
  obtain ⟨rest,rfl⟩:=Int.eq_ofNat_of_zero_le hr0
  refine ⟨by trivial,fun h3=>?_,fun h3=>?_⟩
  ·have h3:0<=i:=by simpa using h3
   obtain ⟨i,rfl⟩:=Int.eq_ofNat_of_zero_le h3
   have hi2:((i:Int)+1).toNat=i+1:=by omega
   rw [hi2] at hv
   simp only [Int.toNat_natCast] at hv ⊢
   have Q5:=xl.get (i:=i) (by omega)
   refine (hx.le dA).rd i rfl (by omega) (Bk (hy.le dA) (by simp) fun V15 dS=>(IA rest xs[i] d (by omega) Q5 hdl).mono ?_)
   rintro r kG dB rfl
   have hq:(rest*4294967296+xs[i]) / d<4294967296:=by
    rw [Nat.div_lt_iff_lt_mul (by omega)]
    have:rest+1<=d:=by omega
    have:=Nat.mul_le_mul_right 4294967296 this
    rw [Nat.mul_comm 4294967296 d]
    omega
   have hr:(rest*4294967296+xs[i])%d<d:=Nat.mod_lt _ (by omega)
   have CI:=Nat.div_add_mod (rest*4294967296+xs[i]) d
   generalize (rest*4294967296+xs[i]) / d=q at *
   generalize (rest*4294967296+xs[i])%d=r at *
   have w2:i64.wrap ((i:Int)-1)=(i:Int)-1:=i64w (by omega)
   simp only [w2]
   refine ⟨_,_,rfl,⟨by omega,by omega⟩,by simp;omega,((r:Int),(i:Int)-1,ay (es.set i q)),?_,?_,?_⟩
   ·(try dsimp only);omega
   ·(try dsimp only);and_intros<;>first|exact True.intro|rfl|(rw [←bg];simp)
   ·(try dsimp only)
    refine ⟨by omega,by omega,by omega,by omega,_,rfl,by simpa using hes,hde.set _ _ (by omega),?_⟩
    have hi3:((i:Int)-1+1).toNat=i:=by omega
    rw [hi3,List.drop_eq_getElem_cons (by omega),List.drop_eq_getElem_cons (l:=es.set i q) (by simp;omega),List.getElem_set_self,List.drop_set_of_lt (by omega)]
    have h9:xs[i]+4294967296*val (List.drop (i+1) xs)=d*(q+4294967296*val (List.drop (i+1) es))+r:=uj hv CI
    rw [aX,aX,Int.toNat_natCast]
    exact h9
  ·have h3:i=-1:=by simp at h3;omega
   subst h3
   simp only [Int.toNat_natCast] at hv
   have hv:val xs=d*val es+rest:=by simpa using hv
   intro nD cU bk hb
   refine (cO (RD.aZ hb hde (n:=n) (c:=n) (by omega) (Nat.le_refl _)) (by omega)).mono ?_
   rintro r qN dW ⟨k,rfl,h4⟩
   refine ⟨_,_,_,rfl,fun _ rG dX bk2 hb2=>?_⟩
   have hb2:rG.aZ bk2 (.cells (ay [rest]).toArray 225 (0,0)):=by
    simpa [ay] using hb2
   refine (cO (RD.aZ hb2 (n:=1) (c:=1) (by simp [bK];omega) rfl (Nat.le_refl _)) (by simp)).mono ?_
   rintro r Cg iI ⟨k2,rfl,h5⟩
   refine ⟨_,_,_,rfl,fun _ rX fA=>⟨_,_,_,_,_,_,rfl,?_,?_⟩⟩
   ·have e1:val xs / d=val es:=by rw [hv,Nat.mul_add_div (by omega),Nat.div_eq_of_lt (by omega),Nat.add_zero]
    rw [aL hde] at h4
    rw [e1]
    exact h4.le (dX.trans (iI.trans fA))
   ·have e2:val xs%d=rest:=by rw [hv,Nat.mul_add_mod,Nat.mod_eq_of_lt (by omega)]
    rw [aL (by simp [bK];omega)] at h5
    have e3:val [rest]=rest:=by simp
    rw [e3] at h5
    rw [e2]
    exact h5.le fA
 ·have h0:y<=x:=by simpa [←Int.not_lt,fh] using h0
  refine fun V13 l13=>(Ct (hx.le l13) (hy.le l13) hm hy0 (aB h0)).mono ?_
  rintro r V14 dA ⟨p1,n1,c1,p2,n2,c2,rfl,g1,g2⟩
  exact ⟨_,_,_,_,_,_,rfl,fun V15 dS=>⟨_,_,_,_,_,_,rfl,g1.le dS,g2.le dS⟩⟩
theorem j7 {V:View}{p q:OA}{n c m e:Nat}{x y:Nat}(hx:RN V p n c x)(hy:RN V q m e y)(hm:(af x).length<=274877906944)(hm':(af y).length<=274877906944) :
  Acts prog 118 #[.slice p n c,.slice q m e] V fun r V'=>∃p1 n1 c1,r=.slice p1 n1 c1/\RN V' p1 n1 c1 (Nat.gcd x y):=by
 have hlx:=hx.len
 have xr:=hy.len
 refine wa p n c q m e V _ fun V1 l1=>(j_ (hx.le l1) (by omega)).mono ?_
 rintro r V2 l2 rfl
 rw [ab]
 refine ⟨_,_,rfl,fun z V'=>True,⟨fun h0=>?_,fun h0=>⟨(),by (try dsimp only);and_intros<;>first|exact True.intro|rfl,trivial⟩⟩,?_⟩
 ·have h0:n<=2:=by simpa using h0
  refine fun V3 l3=>(j_ (hy.le (l1.trans (l2.trans l3))) (by omega)).mono ?_
  rintro r V4 l4 rfl
  rw [ab]
  refine ⟨_,_,rfl,fun h1=>?_,fun h1=>⟨(),by (try dsimp only);and_intros<;>first|exact True.intro|rfl,trivial⟩⟩
  have h1:m<=2:=by simpa using h1
  have hxw:=oO (x:=x) (by omega)
  have Ur:=oO (x:=y) (by omega)
  rw [if_pos h0,if_pos h1]
  refine ⟨fun z V'=>∃a b:Nat,z=((a:Int),(b:Int))/\a<18446744073709551616/\b<18446744073709551616/\Nat.gcd a b=Nat.gcd x y,fun z=>z.2.toNat,
   ⟨((x:Int),(y:Int)),by (try dsimp only);and_intros<;>first|exact True.intro|rfl,x,y,rfl,hxw,Ur,rfl⟩,?_⟩
  rintro _ V5 l5 ⟨a,b,rfl,ha,hb,hg⟩
  dsimp only
  refine ⟨by trivial,fun h3=>?_,fun h3=>?_⟩
  ·have h3:0<b:=by simpa using h3
   have e2:(a:Int).tmod (b:Int)=((a%b:Nat):Int):=by rw [Int.tmod_eq_emod_of_nonneg (by omega)];omega
   have hr:a%b<b:=Nat.mod_lt _ h3
   refine ⟨by omega,((b:Int),((a%b:Nat):Int)),?_,by (try dsimp only);and_intros<;>first|exact True.intro|rfl|exact e2,b,a%b,rfl,hb,by omega,?_⟩
   ·(try dsimp only);simp only [Int.toNat_natCast];exact hr
   ·rw [←hg,Nat.gcd_comm a b,Nat.gcd_rec b a,Nat.gcd_comm]
  ·have h3:b=0:=by simp at h3;omega
   subst h3
   rw [Nat.gcd_zero_right] at hg
   refine fun V6 l6=>(du a ha).mono ?_
   rintro r V7 l7 ⟨p1,n1,c1,rfl,g1⟩
   rw [hg] at g1
   exact ⟨_,_,_,rfl,fun V8 l8=>⟨_,_,_,rfl,g1.le l8⟩⟩
 rintro _ V9 l9 _
 replace hx:=hx.le (l1.trans (l2.trans l9))
 replace hy:=hy.le (l1.trans (l2.trans l9))
 refine ⟨by trivial,fun z k V'=>∃a b:Nat,RN V' z.1 z.2.1 z.2.2.1 a/\RN V' z.2.2.2.1 z.2.2.2.2.1 z.2.2.2.2.2 b/\b=k/\(af a).length<=274877906944/\(af b).length<=274877906944/\Nat.gcd a b=Nat.gcd x y,
  ⟨(p,n,c,q,m,e),y,by (try dsimp only);and_intros<;>first|exact True.intro|rfl,x,y,hx,hy,rfl,hm,hm',rfl⟩,?_⟩
 rintro ⟨ap,an,ac,bp,bn,bc⟩ _ V10 l10 ⟨a,b,ha,hb,rfl,hal,hbl,hg⟩
 dsimp only at ha hb ⊢
 have hla:=ha.len
 have hlb:=hb.len
 refine ⟨by trivial,fun h3=>?_,fun h3=>?_⟩
 ·have h3:0<bn:=by simpa using h3
  have hb0:0<b:=by
   rcases Nat.eq_zero_or_pos b with h|h
   ·subst h;simp at hlb;omega
   ·exact h
  refine fun V11 l11=>(dH (ha.le l11) (hb.le l11) hal hbl hb0).mono ?_
  rintro r V12 l12 ⟨p1,n1,c1,p2,n2,c2,rfl,g1,g2⟩
  have hr:a%b<b:=Nat.mod_lt _ hb0
  have hrl:=aB (Nat.le_of_lt hr)
  refine ⟨_,_,_,_,_,_,rfl,(bp,bn,bc,p2,n2,c2),a%b,hr,by (try dsimp only);and_intros<;>first|exact True.intro|rfl,b,a%b,hb.le (l11.trans l12),g2,rfl,hbl,by omega,?_⟩
  rw [←hg,Nat.gcd_comm a b,Nat.gcd_rec b a,Nat.gcd_comm]
 ·have h3:bn=0:=by simp at h3;omega
  have hb0:b=0:=bo.1 (List.length_eq_zero_iff.1 (by omega))
  subst hb0
  rw [Nat.gcd_zero_right] at hg
  rw [←hg]
  refine ⟨ay (af a),ha.sl,by simp [hla],by omega,by omega,by simp,by simp [hla],?_,?_⟩
  ·intro v hv
   simp only [ay,List.mem_map] at hv
   obtain ⟨d,-,rfl⟩:=hv
   rfl
  ·intro bk J sp c' h1 h2 V1 l1 b hb
   refine ⟨_,_,_,rfl,?_⟩
   simp only [Nat.zero_add,Nat.zero_mul,List.take_zero,List.nil_append] at hb h1 ⊢
   exact copied (ax a) hla h1 hb
end Go.Proofs.Tryz
namespace Go.Big
def aQ (b:Bool)(ds:List Nat):Int:=if b then -(val ds:Int) else val ds
end Go.Big
namespace Go.Eng
open Go.Big
def RI (V:View)(v:Value)(z:Int):Prop:=∃p n c,v=.agg #[.bool (decide (z<0)),.slice p n c]/\RD V p n c (af z.natAbs)
theorem RI.le {V V':View}{v:Value}{z:Int}(h:RI V v z)(l:V.Le V'):RI V' v z:=by
 obtain ⟨p,n,c,e,h⟩:=h;exact ⟨p,n,c,e,h.le l⟩
theorem RI.mk {V:View}{b:Bool}{p:OA}{n c:Nat}{z:Int}(hb:b=decide (z<0))(h:RD V p n c (af z.natAbs)):RI V (.agg #[.bool b,.slice p n c]) z:=⟨p,n,c,by rw [hb],h⟩
theorem RI.zero {V:View}:RI V (.agg #[.bool false,.slice none 0 0]) 0:=⟨_,_,_,rfl,RD.nil⟩
end Go.Eng
namespace Go.Proofs.Tryz
open Go.Eng Go.Big
theorem jo {n:Nat}:bE n=0↔n=0:=by
 unfold bE;split<;>simp_all
theorem eQ (b:Bool)(ds:List Nat):(aQ b ds).natAbs=val ds:=by unfold aQ;cases b<;>simp
theorem AJ (b:Bool)(ds:List Nat):aQ b ds<0↔b=true/\val ds≠0:=by
 unfold aQ;cases b
 ·simp
 ·simp;omega
theorem aA (z:Int):aQ (decide (z<0)) (af z.natAbs)=z:=by
 unfold aQ;rw [ab]
 by_cases h:z<0
 ·rw [decide_eq_true h,if_pos rfl];omega
 ·rw [decide_eq_false h,if_neg (by decide)];omega
theorem GP (b:Bool)(ds:List Nat):aQ (!b) ds=-aQ b ds:=by unfold aQ;cases b<;>simp
theorem mQ (ds:List Nat):aQ false ds=val ds:=rfl
theorem fm {x n:Nat}(h:n=(af x).length):0<n↔x≠0:=by
 rw [h]
 constructor
 ·intro h1 h2;subst h2;simp at h1
 ·intro h1
  rcases Nat.eq_zero_or_pos (af x).length with e|e
  ·exact absurd (bo.1 (List.length_eq_zero_iff.1 e)) h1
  ·exact e
theorem jr {V:View}(b:Bool){p:OA}{n c x:Nat}(h:RN V p n c x) :
  Acts prog 242 #[.bool b,.slice p n c] V fun r V'=>RI V' r (if b then -(x:Int) else x):=by
 have hp:=fm h.len
 refine oN b p n c V _ ⟨fun h0 V1 l1=>?_,fun h0 V1 l1=>?_⟩
 ·rw [if_pos h0]
  refine RI.mk ?_ ?_
  ·rw [Bool.eq_iff_iff,decide_eq_true_eq,decide_eq_true_eq]
   omega
  ·rw [Int.natAbs_neg,Int.natAbs_natCast];exact h.le l1
 ·rw [h0,if_neg (by decide)]
  refine RI.mk ?_ ?_
  ·symm;rw [decide_eq_false_iff_not];omega
  ·rw [Int.natAbs_natCast];exact h.le l1
theorem gR {V:View}(b:Bool){p:OA}{n c:Nat}{ds:List Nat}(h:RD V p n c ds)(hm:ds.length<=1099511627776) :
  Acts prog 178 #[.agg #[.bool b,.slice p n c]] V fun r V'=>RI V' r (aQ b ds):=by
 refine rk b p n c V _ fun V1 l1=>(gT (h.le l1) hm).mono ?_
 rintro r V2 l2 ⟨p1,n1,c1,rfl,h1⟩
 have hp:=fm h1.len
 have hn:=AJ b ds
 refine ⟨_,_,_,rfl,fun h0 V3 l3=>RI.mk ?_ ?_,fun h0 V3 l3=>RI.mk ?_ ?_⟩
 ·rw [Bool.eq_iff_iff,decide_eq_true_eq,decide_eq_true_eq,hn]
  simp [h0];omega
 ·rw [eQ];exact h1.le l3
 ·symm;rw [decide_eq_false_iff_not,hn];simp [h0]
 ·rw [eQ];exact h1.le l3
def kz (b:Bool)(ds:List Nat):Bool:=decide (af (val ds)=ds)&&(!b||decide (ds≠[]))
theorem fE {V:View}(b:Bool){p:OA}{n c:Nat}{ds:List Nat}(h:RD V p n c ds)(hm:ds.length<=1099511627776) :
  Acts prog 159 #[.agg #[.bool b,.slice p n c]] V fun r V'=>r=.bool (kz b ds):=by
 refine oM b p n c V _ fun V1 l1=>(yk (h.le l1) hm).mono ?_
 rintro r V2 l2 rfl
 refine ⟨_,rfl,fun h0=>⟨fun h1 V3 l3=>?_,fun h1 V3 l3=>?_⟩,fun h0 V3 l3=>?_⟩
 ·simp [kz,h0];simp at h1;simp [h1]
 ·have hl:=h.len
  simp [kz,h0];simp at h1;simp [h1]
  rw [Bool.eq_iff_iff,decide_eq_true_eq]
  simp
  constructor
  ·intro h2 h3;subst h3;simp at hl;omega
  ·intro h2
   rcases Nat.eq_zero_or_pos ds.length with e|e
   ·exact absurd (List.length_eq_zero_iff.1 e) h2
   ·omega
 ·simp [kz,h0]
theorem iB {V:View}(n:Int)(h0:-9223372036854775808<=n)(h1:n<=9223372036854775807) :
  Acts prog 179 #[.int .i64 n] V fun r V'=>RI V' r n:=by
 refine nh n V _ ⟨fun h2 V1 l1=>?_,fun h2 V1 l1=>?_⟩
 ·have h2:n<0:=by simpa using h2
  have e:u64.wrap (0-u64.wrap n)=-n:=by rw [pP,pP];omega
  rw [e]
  refine (dq _ (by omega) (by omega)).mono ?_
  rintro r V2 l2 ⟨p1,n1,c1,rfl,g1⟩
  refine ⟨_,_,_,rfl,fun V3 l3=>⟨_,_,_,rfl,?_⟩⟩
  rw [show n.natAbs=(-n).toNat from by omega];exact g1.le l3
 ·have h2:0<=n:=by simpa using h2
  rw [aJ (by omega)]
  refine (dq _ (by omega) (by omega)).mono ?_
  rintro r V2 l2 ⟨p1,n1,c1,rfl,g1⟩
  refine ⟨_,_,_,rfl,fun V3 l3=>⟨_,_,_,rfl,?_⟩⟩
  rw [show n.natAbs=n.toNat from by omega];exact g1.le l3
theorem kL {V:View}(b:Bool){p:OA}{n c:Nat}{ds:List Nat}(h:RD V p n c ds)(hm:ds.length<=1099511627776) :
  Acts prog 182 #[.agg #[.bool b,.slice p n c]] V fun r V'=>r=.int .i64 (aQ b ds).sign:=by
 refine rm b p n c V _ fun V1 l1=>(gS (h.le l1) hm).mono ?_
 rintro r V2 l2 rfl
 have hz:(aQ b ds)=0↔val ds=0:=by rw [←eQ b ds];omega
 have hn:=AJ b ds
 refine ⟨_,rfl,fun h0 V3 l3=>?_,fun h0=>⟨fun h1 V3 l3=>?_,fun h1 V3 l3=>?_⟩⟩
 ·have:val ds=0:=jo.1 (by simp at h0;omega)
  rw [hz.2 this];rfl
 ·have:val ds≠0:=fun e=>by simp [jo.2 e] at h0
  rw [Int.sign_eq_neg_one_of_neg (hn.2 ⟨h1,this⟩)]
 ·have:val ds≠0:=fun e=>by simp [jo.2 e] at h0
  have:0<aQ b ds:=by
   have:=hz
   have:¬aQ b ds<0:=by rw [hn];simp [h1]
   omega
  rw [Int.sign_eq_one_of_pos this]
theorem vo {V:View}(b:Bool){p:OA}{n c:Nat}{ds:List Nat}(h:RD V p n c ds)(hm:ds.length<=1099511627776) :
  Acts prog 237 #[.agg #[.bool b,.slice p n c]] V fun r V'=>RI V' r (-aQ b ds):=by
 refine uJ b p n c V _ fun V1 l1=>(gR (!b) (h.le l1) hm).mono ?_
 rintro r V2 l2 ⟨p1,n1,c1,rfl,h1⟩
 rw [GP] at h1 ⊢
 exact ⟨_,_,_,_,rfl,fun V3 l3=>⟨_,_,_,rfl,h1.le l3⟩⟩
theorem fL {V:View}(b1 b2:Bool){p q:OA}{n c m e:Nat}{xa xb:List Nat}(ha:RD V p n c xa)(hb:RD V q m e xb)(hm:xa.length+xb.length<=1099511627776) :
  Acts prog 229 #[.agg #[.bool b1,.slice p n c],.agg #[.bool b2,.slice q m e]] V fun r V'=>RI V' r (aQ b1 xa*aQ b2 xb):=by
 refine uH b1 p n c b2 q m e V _ fun V1 l1=>(fF (ha.le l1) (hb.le l1) hm).mono ?_
 rintro r V2 l2 ⟨p1,n1,c1,rfl,h1⟩
 refine ⟨_,_,_,rfl,fun V3 l3=>(jr _ (h1.le l3)).mono ?_⟩
 rintro r V4 l4 ⟨p2,n2,c2,rfl,h2⟩
 have e1:(if (!(b1==b2))=true then -((val xa*val xb:Nat):Int) else ((val xa*val xb:Nat):Int))=aQ b1 xa*aQ b2 xb:=by
  unfold aQ;cases b1<;>cases b2<;>simp [Int.neg_mul,Int.mul_neg]
 rw [e1] at h2 ⊢
 exact ⟨_,_,_,_,rfl,fun V5 l5=>⟨_,_,_,rfl,h2.le l5⟩⟩
theorem vl {V:View}(b1 b2:Bool){p q:OA}{n c m e:Nat}{xa xb:List Nat}(ha:RD V p n c xa)(hb:RD V q m e xb)(hm:xa.length<=1099511627776)(hn:xb.length<=1099511627776) :
  Acts prog 228 #[.agg #[.bool b1,.slice p n c],.agg #[.bool b2,.slice q m e]] V fun r V'=>RI V' r (aQ b1 xa+aQ b2 xb):=by
 have fin:∀{b:Bool} {x:Nat} {V1:View} {p1:OA} {n1 c1:Nat},RN V1 p1 n1 c1 x->(if b then -(x:Int) else x)=aQ b1 xa+aQ b2 xb ->
   Acts prog 242 #[.bool b,.slice p1 n1 c1] V1 fun r V'=>∃(FY:Bool)(Ho:OA)(G_ F5:Nat),r=.agg #[.bool FY,.slice Ho G_ F5]/\∀V3:View,V'.Le V3->RI V3 (.agg #[.bool FY,.slice Ho G_ F5]) (aQ b1 xa+aQ b2 xb):=by
  intro b x V1 p1 n1 c1 h he
  refine (jr b h).mono ?_
  rintro r V4 l4 ⟨p2,n2,c2,rfl,h2⟩
  rw [he] at h2 ⊢
  exact ⟨_,_,_,_,rfl,fun V5 l5=>⟨_,_,_,rfl,h2.le l5⟩⟩
 refine uG b1 p n c b2 q m e V _ ⟨fun h0 V1 l1=>(EK (ha.le l1) (hb.le l1) hm hn).mono ?_,fun h0 V1 l1=>(wX (ha.le l1) (hb.le l1) hm hn).mono ?_⟩
 ·rintro r V2 l2 ⟨p1,n1,c1,rfl,h1⟩
  have h0:b1=b2:=by simpa using h0
  subst h0
  exact ⟨_,_,_,rfl,fun V3 l3=>fin (h1.le l3) (by unfold aQ;cases b1<;>simp;omega)⟩
 ·rintro r V2 l2 ⟨p1,n1,c1,rfl,h1⟩
  have h0:b2=!b1:=by cases b1<;>cases b2<;>simp_all
  subst h0
  refine ⟨_,_,_,_,rfl,fun h2 V3 l3=>fin (h1.le l3) ?_,fun h2 V3 l3=>(wX (hb.le (l1.trans (l2.trans l3))) (ha.le (l1.trans (l2.trans l3))) hn hm).mono ?_⟩
  ·have h2:val xb<=val xa:=by simpa using h2
   unfold aQ;cases b1<;>simp<;>omega
  ·rintro r V4 l4 ⟨p2,n2,c2,rfl,h3⟩
   have h2:val xa<val xb:=by simpa using h2
   exact ⟨_,_,_,_,rfl,fun V5 l5=>fin (h3.le l5) (by unfold aQ;cases b1<;>simp<;>omega)⟩
theorem qP {V:View}(b:Bool){p:OA}{n c:Nat}{ds:List Nat}(h:RD V p n c ds)(hm:ds.length<=1099511627776)(hs:val ds<4611686018427387904) :
  Acts prog 185 #[.agg #[.bool b,.slice p n c]] V fun r V'=>r=.tuple #[.int .i64 (aQ b ds),.bool true]:=by
 refine pU b p n c V _ fun V1 l1=>(jZ (h.le l1) hm).mono ?_
 rintro r V2 l2 rfl
 rw [if_pos (by omega),decide_eq_true (show val ds<18446744073709551616 by omega)]
 refine ⟨_,_,rfl,fun _=>⟨fun h1=>⟨fun h2 V3 l3=>?_,fun h2=>?_⟩,fun h1=>⟨fun _=>⟨fun h2=>⟨fun h3 V4 l4=>?_,fun h3=>?_⟩,fun h2=>?_⟩,fun h2=>nomatch h2⟩⟩,fun h1=>nomatch h1⟩
 ·subst h1
  have e:i64.wrap (u64.wrap (0-(val ds:Int)))=-(val ds:Int):=by
   rw [pP,IntKind.wrap_i64];omega
  rw [e];rfl
 ·simp at h2;omega
 ·subst h1
  rw [i64w (by omega)];rfl
 ·simp at h3;omega
 ·simp [h1] at h2
end Go.Proofs.Tryz
namespace Go.Eng
open Go.Big
def Wd (q:Rat):Prop:=q.num.natAbs<4611686018427387904/\q.den<4611686018427387904
def RR (V:View)(v:Value)(q:Rat):Prop:=
 (v=.agg #[.int .i64 q.num,.int .i64 ((q.den:Int)-1),.pointer none]/\Wd q) \/
 (∃a b p n c p' n' c',v=.agg #[.int .i64 0,.int .i64 0,.pointer (some a)]/\V.at (a.add 0) (.bool b)/\V.at (a.add 1) (.slice p n c)/\V.at (a.add 2) (.slice p' n' c') /\
  RI V (.agg #[.bool b,.slice p n c]) q.num/\RD V p' n' c' (af q.den)/\¬Wd q)
theorem RR.le {V V':View}{v:Value}{q:Rat}(h:RR V v q)(l:V.Le V'):RR V' v q:=by
 rcases h with h|⟨a,b,p,n,c,p',n',c',e,h1,h2,h3,h4,h5,h6⟩
 ·exact .inl h
 ·exact .inr ⟨a,b,p,n,c,p',n',c',e,l.at h1,l.at h2,l.at h3,h4.le l,h5.le l,h6⟩
def Sz (k:Nat)(q:Rat):Prop:=q.num.natAbs<2^k/\q.den<2^k
theorem Sz.mono {k m:Nat}{q:Rat}(h:Sz k q)(hm:k<=m):Sz m q:=
 ⟨Nat.lt_of_lt_of_le h.1 (Nat.pow_le_pow_right (by omega) hm),Nat.lt_of_lt_of_le h.2 (Nat.pow_le_pow_right (by omega) hm)⟩
theorem ae {n k:Nat}(h:n<2^k):(af n).length<=k:=by
 rw [az]
 exact Nat.lt_of_lt_of_le h (Nat.pow_le_pow_left (by omega) k)
theorem Wd.sz {q:Rat}(h:Wd q):Sz 62 q:=h
theorem RR.shape {V:View}{v:Value}{q:Rat}(h:RR V v q):∃(n d:Int)(p:OA),v=.agg #[.int .i64 n,.int .i64 d,.pointer p]:=by
 rcases h with ⟨e,-⟩|⟨a,b,p,n,c,p',n',c',e,-⟩
 ·exact ⟨_,_,_,e⟩
 ·exact ⟨_,_,_,e⟩
end Go.Eng
namespace Go.Proofs.Tryz
open Go.Eng Go.Big
theorem xZ (n:Nat):decide ((bE n:Int)<=62)=decide (n<4611686018427387904):=by
 have:=@iy n 62
 rw [Bool.eq_iff_iff,decide_eq_true_eq,decide_eq_true_eq]
 omega
theorem E_ {z:Int}{d:Nat}(hd:d≠0)(hg:Nat.gcd z.natAbs d=1):(mkRat z d).num=z/\(mkRat z d).den=d:=by
 have:Nat.gcd d z.natAbs=1:=by rw [Nat.gcd_comm];exact hg
 rw [Rat.num_mkRat,Rat.den_mkRat,if_neg hd,if_neg hd,this]
 simp
theorem bX {V:View}(b:Bool){p q:OA}{n c m e:Nat}{xs ys:List Nat}(hx:RD V p n c xs)(hy:RD V q m e ys)(hm:xs.length<=1099511627776)(hn:ys.length<=1099511627776) :
  Acts prog 144 #[.agg #[.bool b,.slice p n c],.slice q m e] V fun r V'=>RR V' r (mkRat (aQ b xs) (val ys)):=by
 have zero:∀V':View,RR V' (.agg #[.int .i64 0,.int .i64 0,.pointer none]) 0:=fun V'=>.inl ⟨rfl,by unfold Wd;decide⟩
 refine uB b p n c q m e V _ fun V1 l1=>(gS (hy.le l1) hn).mono ?_
 rintro r V2 l2 rfl
 refine ⟨_,rfl,fun h0 V3 l3=>?_,fun h0 V4 l4=>(kL b (hx.le (l1.trans (l2.trans l4))) hm).mono ?_⟩
 ·have:val ys=0:=jo.1 (by simp at h0;omega)
  rw [this,Rat.mkRat_zero];exact zero _
 rintro r V5 l5 rfl
 have hy0:val ys≠0:=fun e=>by simp [jo.2 e] at h0
 refine ⟨_,rfl,fun h1 V6 l6=>?_,fun h1 V7 l7=>?_⟩
 ·have:aQ b xs=0:=Int.sign_eq_zero_iff_zero.1 (by simpa using h1)
  rw [this,Rat.zero_mkRat];exact zero _
 have hx0:aQ b xs≠0:=fun e=>by simp [e] at h1
 have hx0':val xs≠0:=by rw [←eQ b xs];omega
 replace hx:=hx.le (l1.trans (l2.trans (l4.trans (l5.trans l7))))
 replace hy:=hy.le (l1.trans (l2.trans (l4.trans (l5.trans l7))))
 refine (wV hx hy hm hn).mono ?_
 rintro r V8 l8 ⟨p3,n3,c3,rfl,hg⟩
 replace hx:=hx.le l8
 replace hy:=hy.le l8
 have hgl:Nat.gcd (val xs) (val ys)<=val ys:=Nat.le_of_dvd (by omega) (Nat.gcd_dvd_right _ _)
 have hgd:(af (Nat.gcd (val xs) (val ys))).length<=1099511627776:=Nat.le_trans (aB hgl) (by have:=bh hy.eM;omega)
 have Kl:Nat.gcd (val xs) (val ys)≠0:=by
  intro e0;exact hx0' (Nat.eq_zero_of_gcd_eq_zero_left e0)
 refine ⟨_,_,_,rfl,fun V9 l9=>(gS (hg.le l9) hgd).mono ?_⟩
 rintro r V10 l10 rfl
 rw [ab]
 replace hx:=hx.le (l9.trans l10)
 replace hy:=hy.le (l9.trans l10)
 replace hg:=hg.le (l9.trans l10)
 refine ⟨_,rfl,fun z V'=>∃(us vs:List Nat),z.2.2.2.1=b/\RD V' z.2.2.2.2.1 z.2.2.2.2.2.1 z.2.2.2.2.2.2 us/\RD V' z.1 z.2.1 z.2.2.1 vs/\us.length<=1099511627776/\vs.length<=1099511627776/\val vs≠0 /\
  Nat.gcd (val us) (val vs)=1/\mkRat (aQ b xs) (val ys)=mkRat (aQ b us) (val vs),⟨fun h2 V11 l11=>?_,fun h2=>?_⟩,?_⟩
 ·refine (jY (hx.le l11) (hg.le l11) hm hgd (by rw [ab];exact Kl)).mono ?_
  rintro r V12 l12 ⟨p4,n4,c4,p5,n5,c5,rfl,g1,g2⟩
  refine ⟨_,_,_,_,_,_,_,rfl,fun V13 l13=>(jY (hy.le (l11.trans (l12.trans l13))) (hg.le (l11.trans (l12.trans l13))) hn hgd (by rw [ab];exact Kl)).mono ?_⟩
  rintro r V14 dA ⟨p6,n6,c6,p7,n7,c7,rfl,g3,g4⟩
  rw [ab] at g1 g3
  have e1:val (af (val xs / Nat.gcd (val xs) (val ys)))=val xs / Nat.gcd (val xs) (val ys):=ab _
  have e2:val (af (val ys / Nat.gcd (val xs) (val ys)))=val ys / Nat.gcd (val xs) (val ys):=ab _
  have d1:=Nat.gcd_dvd_left (val xs) (val ys)
  have d2:=Nat.gcd_dvd_right (val xs) (val ys)
  have hdy:val ys / Nat.gcd (val xs) (val ys)≠0:=by
   intro e0
   have:=Nat.div_mul_cancel d2
   rw [e0,Nat.zero_mul] at this
   exact hy0 this.symm
  refine ⟨_,_,_,_,_,_,_,rfl,(p6,n6,c6,b,p4,n4,c4),by (try dsimp only);and_intros<;>trivial,_,_,rfl,g1.le (l13.trans dA),g3,?_,?_,?_,?_,?_⟩
  ·exact Nat.le_trans (aB (Nat.div_le_self _ _)) (by have:=bh hx.eM;omega)
  ·exact Nat.le_trans (aB (Nat.div_le_self _ _)) (by have:=bh hy.eM;omega)
  ·rw [e2];exact hdy
  ·rw [e1,e2];exact Nat.gcd_div_gcd_div_gcd_of_pos_left (by omega)
  ·rw [e2]
   have k1:val ys=val ys / Nat.gcd (val xs) (val ys)*Nat.gcd (val xs) (val ys):=(Nat.div_mul_cancel d2).symm
   have k2:aQ b xs=aQ b (af (val xs / Nat.gcd (val xs) (val ys)))*(Nat.gcd (val xs) (val ys):Nat):=by
    have k3:(val xs:Int)=((val xs / Nat.gcd (val xs) (val ys):Nat):Int)*(Nat.gcd (val xs) (val ys):Nat):=by
     rw [←Int.natCast_mul,Nat.div_mul_cancel d1]
    unfold aQ
    rw [e1]
    cases b
    ·simpa using k3
    ·simp only [if_true];rw [Int.neg_mul,←k3]
   conv=>lhs;rw [k1,k2]
   exact Rat.mkRat_mul_right Kl
 ·have hg1:Nat.gcd (val xs) (val ys)=1:=by
   have h3:¬(1<bE (Nat.gcd (val xs) (val ys))):=by simp at h2;omega
   have:=@iy (Nat.gcd (val xs) (val ys)) 1
   omega
  exact ⟨(q,m,e,b,p,n,c),by (try dsimp only);and_intros<;>trivial,xs,ys,rfl,hx,hy,hm,hn,hy0,hg1,rfl⟩
 ·rintro ⟨q,m,e,b',p,n,c⟩ V15 dS ⟨us,vs,hbb,hu,hv,NQ,hvl,hv0,hgc,hq⟩
  dsimp only at hbb hu hv ⊢
  subst hbb
  rw [hq]
  obtain ⟨qU,hden⟩:=E_ (z:=aQ b' us) hv0 (by rw [eQ];exact hgc)
  generalize mkRat (aQ b' us) (val vs)=w at *
  have hW:Wd w↔val us<4611686018427387904/\val vs<4611686018427387904:=by
   unfold Wd;rw [qU,hden,eQ]
  have Ke:∀V1:View,V15.Le V1->¬Wd w->Acts prog 178 #[.agg #[.bool b',.slice p n c]] V1 fun r V2=>∃(FY:Bool)(Ho:OA)(G_ F5:Nat),r=.agg #[.bool FY,.slice Ho G_ F5] /\
    (∀V3:View,V2.Le V3->Acts prog 187 #[.slice q m e] V3 fun r V4=>∃(UK:OA)(UD Tz:Nat),r=.slice UK UD Tz /\
    (∀V5:View,V4.Le V5->∀bk:Nat,V5.aZ bk (.cells #[.bool FY,.slice Ho G_ F5,.slice UK UD Tz] 289 (0,0))->RR V5 (.agg #[.int .i64 0,.int .i64 0,.pointer (some ⟨bk,0,none⟩)]) w)):=by
   intro V1 l1 hw
   refine (gR b' (hu.le l1) NQ).mono ?_
   rintro r V2 l2 FJ
   obtain ⟨p2,n2,c2,rfl,h2⟩:=FJ
   have FJ:RI V2 (.agg #[.bool (decide (aQ b' us<0)),.slice p2 n2 c2]) (aQ b' us):=⟨_,_,_,rfl,h2⟩
   refine ⟨_,_,_,_,rfl,fun V3 l3=>(gT (hv.le (l1.trans (l2.trans l3))) hvl).mono ?_⟩
   rintro r V4 l4 ⟨p3,n3,c3,rfl,h3⟩
   refine ⟨_,_,_,rfl,fun V5 l5 bk hb=>.inr ⟨⟨bk,0,none⟩,decide (aQ b' us<0),p2,n2,c2,p3,n3,c3,rfl,?_,?_,?_,?_,?_,hw⟩⟩
   ·rw [add_zero'];exact blk_at (xs:=[_,_,_]) hb rfl
   ·rw [add_zero'];exact blk_at (xs:=[_,_,_]) hb rfl
   ·rw [add_zero'];exact blk_at (xs:=[_,_,_]) hb rfl
   ·rw [qU];exact FJ.le (l3.trans (l4.trans l5))
   ·rw [hden];exact h3.le l5
  refine ⟨by trivial,fun kG dB=>(gS (hu.le dB) NQ).mono ?_⟩
  rintro r nD cU rfl
  refine ⟨_,rfl,fun h3 qN dW=>(gS (hv.le (dB.trans (cU.trans dW))) hvl).mono ?_,fun h3 KV Cd=>Ke KV (dB.trans (cU.trans Cd)) ?_⟩
  ·rintro r rG dX rfl
   rw [xZ,decide_eq_true_eq] at h3
   refine ⟨_,rfl,fun h4 Cg iI=>?_,fun h4 FE l25=>Ke FE (dB.trans (cU.trans (dW.trans (dX.trans l25)))) ?_⟩
   ·rw [xZ,decide_eq_true_eq] at h4
    refine (qP b' (hu.le (dB.trans (cU.trans (dW.trans (dX.trans iI))))) NQ h3).mono ?_
    rintro r rX fA rfl
    refine ⟨_,_,rfl,fun wE jA=>(jZ (hv.le (dB.trans (cU.trans (dW.trans (dX.trans (iI.trans (fA.trans jA))))))) hvl).mono ?_⟩
    rintro r wF iq rfl
    rw [if_pos (by omega)]
    refine ⟨_,_,rfl,fun FR tH=>.inl ⟨?_,hW.2 ⟨h3,h4⟩⟩⟩
    rw [i64w (x:=((val vs:Nat):Int)) (by omega),i64w (by omega),qU,hden]
   ·rw [xZ,decide_eq_false_iff_not] at h4
    rw [hW];omega
  ·rw [xZ,decide_eq_false_iff_not] at h3
   rw [hW];omega
theorem eE {V:View}(b:Bool){p:OA}{n c x:Nat}(h:RN V p n c x) :
  Acts prog 69 #[.bool b,.slice p n c] V fun r V'=>RI V' r (if b then -(x:Int) else x):=by
 have hp:=fm h.len
 refine BV b p n c V _ ⟨fun h0 V1 l1=>?_,fun h0 V1 l1=>?_⟩
 ·rw [if_pos h0]
  refine RI.mk ?_ ?_
  ·rw [Bool.eq_iff_iff,decide_eq_true_eq,decide_eq_true_eq]
   omega
  ·rw [Int.natAbs_neg,Int.natAbs_natCast];exact h.le l1
 ·rw [h0,if_neg (by decide)]
  refine RI.mk ?_ ?_
  ·symm;rw [decide_eq_false_iff_not];omega
  ·rw [Int.natAbs_natCast];exact h.le l1
theorem g_ {V:View}{b:Bool}{p:OA}{n c x:Nat}{z:Int}(h:RN V p n c x)(hz:(if b then -(x:Int) else x)=z) :
  Acts prog 69 #[.bool b,.slice p n c] V fun r V'=>∃(FY:Bool)(Ho:OA)(G_ F5:Nat),r=.agg #[.bool FY,.slice Ho G_ F5]/\∀V3:View,V'.Le V3->RI V3 (.agg #[.bool FY,.slice Ho G_ F5]) z:=by
 refine (eE b h).mono ?_
 rintro r V2 l2 ⟨p1,n1,c1,rfl,g⟩
 rw [hz] at g ⊢
 exact ⟨_,_,_,_,rfl,fun V3 l3=>⟨_,_,_,rfl,g.le l3⟩⟩
theorem EM {V:View}(n:Int)(h0:-9223372036854775808<=n)(h1:n<=9223372036854775807) :
  Acts prog 120 #[.int .i64 n] V fun r V'=>RI V' r n:=by
 refine Dy n V _ ⟨fun h2 V1 l1=>?_,fun h2 V1 l1=>?_⟩
 ·have h2:n<0:=by simpa using h2
  have e:u64.wrap (0-u64.wrap n)=((-n).toNat:Int):=by rw [pP,pP];omega
  rw [e]
  refine (du _ (by omega)).mono ?_
  rintro r V2 l2 ⟨p1,n1,c1,rfl,g1⟩
  exact ⟨_,_,_,rfl,fun V3 l3=>g_ (g1.le l3) (by simp;omega)⟩
 ·have h2:0<=n:=by simpa using h2
  have e:u64.wrap n=(n.toNat:Int):=by rw [aJ (by omega)];omega
  rw [e]
  refine (du _ (by omega)).mono ?_
  rintro r V2 l2 ⟨p1,n1,c1,rfl,g1⟩
  exact ⟨_,_,_,rfl,fun V3 l3=>g_ (g1.le l3) (by simp;omega)⟩
theorem sK {V:View}(z:Int){p:OA}{n c:Nat}(h:RN V p n c z.natAbs) :
  Acts prog 79 #[.agg #[.bool (decide (z<0)),.slice p n c]] V fun r V'=>r=.int .i64 z.sign:=by
 have hp:=fm h.len
 refine BZ _ p n c V _ ⟨fun h0 V1 l1=>?_,fun h0=>⟨fun h1 V1 l1=>?_,fun h1 V1 l1=>?_⟩⟩
 ·have:z=0:=by simp at h0;omega
  rw [this];rfl
 ·rw [decide_eq_true_eq] at h1
  rw [Int.sign_eq_neg_one_of_neg h1]
 ·rw [decide_eq_false_iff_not] at h1
  have:0<z:=by simp at h0;omega
  rw [Int.sign_eq_one_of_pos this]
theorem fP {V:View}(z:Int){p:OA}{n c:Nat}(h:RN V p n c z.natAbs) :
  Acts prog 100 #[.agg #[.bool (decide (z<0)),.slice p n c]] V fun r V'=>RI V' r (-z):=by
 refine zv _ p n c V _ fun V1 l1=>g_ (h.le l1) ?_
 by_cases hz:z<0<;>simp [hz]<;>omega
theorem js {V:View}(z w:Int){p q:OA}{n c m e:Nat}(ha:RN V p n c z.natAbs)(hb:RN V q m e w.natAbs)(hm:(af z.natAbs).length+(af w.natAbs).length<=1099511627776) :
  Acts prog 114 #[.agg #[.bool (decide (z<0)),.slice p n c],.agg #[.bool (decide (w<0)),.slice q m e]] V fun r V'=>RI V' r (z*w):=by
 refine Dz _ p n c _ q m e V _ fun V1 l1=>(bY (ha.le l1) (hb.le l1) hm).mono ?_
 rintro r V2 l2 ⟨p1,n1,c1,rfl,g1⟩
 rw [ab,ab] at g1
 refine ⟨_,_,_,rfl,fun V3 l3=>g_ (g1.le l3) ?_⟩
 have e1:z=aQ (decide (z<0)) (af z.natAbs):=(aA z).symm
 have e2:w=aQ (decide (w<0)) (af w.natAbs):=(aA w).symm
 conv=>rhs;rw [e1,e2]
 unfold aQ
 rw [ab,ab]
 cases decide (z<0)<;>cases decide (w<0)<;>simp [Int.neg_mul,Int.mul_neg]
theorem oY {V:View}(z w:Int){p q:OA}{n c m e:Nat}(ha:RN V p n c z.natAbs)(hb:RN V q m e w.natAbs)(hm:(af z.natAbs).length<=1099511627776)(hn:(af w.natAbs).length<=1099511627776) :
  Acts prog 112 #[.agg #[.bool (decide (z<0)),.slice p n c],.agg #[.bool (decide (w<0)),.slice q m e]] V fun r V'=>RI V' r (z+w):=by
 refine Dv _ p n c _ q m e V _ ⟨fun h0 V1 l1=>(EN (ha.le l1) (hb.le l1) hm hn).mono ?_,fun h0 V1 l1=>(gI (ha.le l1) (hb.le l1) hm hn).mono ?_⟩
 ·rintro r V2 l2 ⟨p1,n1,c1,rfl,g1⟩
  rw [ab,ab] at g1
  refine ⟨_,_,_,rfl,fun V3 l3=>g_ (g1.le l3) ?_⟩
  by_cases hz:z<0<;>by_cases hw:w<0<;>simp [hz,hw] at h0⊢<;> omega
 ·rintro r V2 l2 rfl
  refine ⟨_,rfl,fun h2 V3 l3=>?_,fun h2 V3 l3=>?_⟩
  ·have h2:z.natAbs<w.natAbs:=by simpa [fh] using h2
   refine (mI (hb.le (l1.trans (l2.trans l3))) (ha.le (l1.trans (l2.trans l3))) hn (aB (Nat.le_of_lt h2)) (by rw [ab,ab];omega)).mono ?_
   rintro r V4 l4 ⟨p1,n1,c1,rfl,g1⟩
   rw [ab,ab] at g1
   refine ⟨_,_,_,rfl,fun V5 l5=>g_ (g1.le l5) ?_⟩
   by_cases hz:z<0<;>by_cases hw:w<0<;>simp [hz,hw] at h0⊢<;> omega
  ·have h2:w.natAbs<=z.natAbs:=by simpa [←Int.not_lt,fh] using h2
   refine (mI (ha.le (l1.trans (l2.trans l3))) (hb.le (l1.trans (l2.trans l3))) hm (aB h2) (by rw [ab,ab];omega)).mono ?_
   rintro r V4 l4 ⟨p1,n1,c1,rfl,g1⟩
   rw [ab,ab] at g1
   refine ⟨_,_,_,rfl,fun V5 l5=>g_ (g1.le l5) ?_⟩
   by_cases hz:z<0<;>by_cases hw:w<0<;>simp [hz,hw] at h0⊢<;> omega
end Go.Proofs.Tryz
namespace Go.Eng
open Go.Big
def qR (d:Nat):List Nat:=if d=1 then [] else af d
def RQ (V:View)(v:Value)(q:Rat):Prop:=∃p n c p' n' c',v=.agg #[.bool (decide (q.num<0)),.slice p n c,.slice p' n' c'] /\
 RD V p n c (af q.num.natAbs)/\RD V p' n' c' (qR q.den)
theorem RQ.le {V V':View}{v:Value}{q:Rat}(h:RQ V v q)(l:V.Le V'):RQ V' v q:=by
 obtain ⟨p,n,c,p',n',c',e,h1,h2⟩:=h
 exact ⟨p,n,c,p',n',c',e,h1.le l,h2.le l⟩
theorem Ap {q:Rat}:qR q.den=[]↔q.den=1:=by
 unfold qR
 split
 ·rename_i h;simp [h]
 ·rename_i h
  rw [bo]
  have:=q.den_nz
  omega
end Go.Eng
namespace Go.Proofs.Tryz
open Go.Eng Go.Big
theorem kP {V:View}{q:Rat}{p:OA}{n c:Nat}(h:RD V p n c (qR q.den)):n=0↔q.den=1:=by
 rw [←Ap,h.len,List.length_eq_zero_iff]
theorem cH {V:View}(q:Rat){p p':OA}{n c n' c':Nat}(b:Bool)(h2:RD V p' n' c' (qR q.den)) :
  Acts prog 68 #[.agg #[.bool b,.slice p n c,.slice p' n' c']] V fun r V'=>∃p1 n1 c1,r=.slice p1 n1 c1/\RN V' p1 n1 c1 q.den:=by
 have hl:=kP h2
 refine Dx b p n c p' n' c' V _ ⟨fun h0 V1 l1=>lK.mono ?_,fun h0 V1 l1=>⟨_,_,_,rfl,?_⟩⟩
 ·rintro r V2 l2 ⟨p1,n1,c1,rfl,g⟩
  have:q.den=1:=hl.1 (by simp at h0;omega)
  rw [this]
  exact ⟨_,_,_,rfl,fun V3 l3=>⟨_,_,_,rfl,g.le l3⟩⟩
 ·have:q.den≠1:=fun e=>by have:=hl.2 e;simp at h0;omega
  unfold qR at h2
  rw [if_neg this] at h2
  exact h2.le l1
theorem ml {V:View}{q:Rat}{z:Int}{d:Nat}{p p':OA}{n c n' c':Nat}(hn:q.num=z)(hd:q.den=d)(h1:RD V p n c (af z.natAbs))(h2:RD V p' n' c' (qR d)){b:Bool}(hb:b=decide (z<0)) :
  RQ V (.agg #[.bool b,.slice p n c,.slice p' n' c']) q:=by
 subst hn hd hb
 exact ⟨_,_,_,_,_,_,rfl,h1,h2⟩
theorem mH {V:View}(z:Int){d:Nat}{p q:OA}{n c m e:Nat}(hx:RN V p n c z.natAbs)(hy:RN V q m e d)(hm:(af z.natAbs).length<=274877906944)(hn:(af d).length<=274877906944)(hd:d≠0) :
  Acts prog 113 #[.agg #[.bool (decide (z<0)),.slice p n c],.slice q m e] V fun r V'=>RQ V' r (mkRat z d):=by
 refine BS _ p n c q m e V _ fun V1 l1=>(j7 (hx.le l1) (hy.le l1) hm hn).mono ?_
 rintro r V2 l2 ⟨p1,n1,c1,rfl,hg⟩
 have hgd:=Nat.gcd_dvd_right z.natAbs d
 have hgx:=Nat.gcd_dvd_left z.natAbs d
 have Kl:0<Nat.gcd z.natAbs d:=Nat.gcd_pos_of_pos_right _ (by omega)
 have hgl:(af (Nat.gcd z.natAbs d)).length<=274877906944:=Nat.le_trans (aB (Nat.le_of_dvd (by omega) hgd)) hn
 have qU:(mkRat z d).num=z / (Nat.gcd d z.natAbs:Nat):=by rw [Rat.num_mkRat,if_neg hd]
 have hden:(mkRat z d).den=d / Nat.gcd d z.natAbs:=by rw [Rat.den_mkRat,if_neg hd]
 rw [Nat.gcd_comm d] at qU hden
 generalize hG:Nat.gcd z.natAbs d=g at *
 generalize mkRat z d=w at *
 refine ⟨_,_,_,rfl,fun V3 l3=>lK.mono ?_⟩
 rintro r V4 l4 ⟨p2,n2,c2,rfl,h1⟩
 refine ⟨_,_,_,rfl,fun V5 l5=>(gI (hg.le (l3.trans (l4.trans l5))) (h1.le l5) (by omega) (by decide)).mono ?_⟩
 rintro r V6 l6 rfl
 replace hx:=hx.le (l1.trans (l2.trans (l3.trans (l4.trans (l5.trans l6)))))
 replace hy:=hy.le (l1.trans (l2.trans (l3.trans (l4.trans (l5.trans l6)))))
 replace hg:=hg.le (l3.trans (l4.trans (l5.trans l6)))
 refine ⟨_,rfl,fun h0 V7 l7=>(dH (hx.le l7) (hg.le l7) hm hgl Kl).mono ?_,fun h0 rG dX=>lK.mono ?_⟩
 ·rintro r V8 l8 ⟨p4,n4,c4,p5,n5,c5,rfl,g1,-⟩
  have hnd:(mkRat z d).num.natAbs=(mkRat z d).num.natAbs:=rfl
  obtain ⟨k,hk⟩:=hgx
  have hk1:z.natAbs / g=k:=by rw [hk,Nat.mul_div_cancel_left _ Kl]
  rw [hk1] at g1
  have hz:z=(g:Int)*(if z<0 then -(k:Int) else k):=by
   split
   ·rw [Int.mul_neg,←Int.natCast_mul,←hk];omega
   ·rw [←Int.natCast_mul,←hk];omega
  have hwn:w.num=(if z<0 then -(k:Int) else k):=by
   rw [qU]
   generalize (if z<0 then -(k:Int) else k)=t at *
   rw [hz,Int.mul_ediv_cancel_left _ (by omega)]
  refine ⟨_,_,_,_,_,_,rfl,fun V9 l9=>(eE _ (g1.le l9)).mono ?_⟩
  have Q9:(if decide (z<0)=true then -(k:Int) else k)=w.num:=by
   rw [hwn];simp
  rw [Q9]
  rintro r V10 l10 ⟨p7,n7,c7,rfl,g2⟩
  refine ⟨_,_,_,_,rfl,fun V11 l11=>(dH (hy.le (l7.trans (l8.trans (l9.trans (l10.trans l11))))) (hg.le (l7.trans (l8.trans (l9.trans (l10.trans l11))))) hn hgl Kl).mono ?_⟩
  rintro r V12 l12 ⟨p8,n8,c8,p9,n9,c9,rfl,g3,-⟩
  rw [←hden] at g3
  refine ⟨_,_,_,_,_,_,rfl,fun V13 l13=>lK.mono ?_⟩
  rintro r V14 dA ⟨FM,n10,c10,rfl,g4⟩
  have hdl:(af w.den).length<=274877906944:=by rw [hden];exact Nat.le_trans (aB (Nat.div_le_self _ _)) hn
  refine ⟨_,_,_,rfl,fun V15 dS=>(gI (g3.le (l13.trans (dA.trans dS))) (g4.le dS) (by omega) (by decide)).mono ?_⟩
  rintro r kG dB rfl
  refine ⟨_,rfl,fun h9 nD cU=>ml rfl rfl (g2.le (l11.trans (l12.trans (l13.trans (dA.trans (dS.trans (dB.trans cU))))))) ?_ rfl,fun h9 qN dW=>ml rfl rfl (g2.le (l11.trans (l12.trans (l13.trans (dA.trans (dS.trans (dB.trans dW))))))) ?_ rfl⟩
  ·have:w.den=1:=jv.1 (by simpa using h9)
   rw [Ap.2 this];exact RD.nil
  ·have:w.den≠1:=fun e=>by rw [jv.2 e] at h9;simp at h9
   unfold qR
   rw [if_neg this]
   exact g3.le (l13.trans (dA.trans (dS.trans (dB.trans dW))))
 ·have hg1:g=1:=jv.1 (by simpa using h0)
  have hwn:w.num=z:=by rw [qU,hg1];simp
  have hwd:w.den=d:=by rw [hden,hg1];simp
  rintro r Cg iI ⟨YN,n12,c12,rfl,g4⟩
  refine ⟨_,_,_,rfl,fun rX fA=>(gI (hy.le (dX.trans (iI.trans fA))) (g4.le fA) (by omega) (by decide)).mono ?_⟩
  rintro r wE jA rfl
  refine ⟨_,rfl,fun h9 nD cU=>ml hwn hwd (hx.le (dX.trans (iI.trans (fA.trans (jA.trans cU))))) ?_ rfl,fun h9 qN dW=>ml hwn hwd (hx.le (dX.trans (iI.trans (fA.trans (jA.trans dW))))) ?_ rfl⟩
  ·have:d=1:=jv.1 (by simpa using h9)
   unfold qR
   rw [if_pos this];exact RD.nil
  ·have:d≠1:=fun e=>by rw [jv.2 e] at h9;simp at h9
   unfold qR
   rw [if_neg this]
   exact hy.le (dX.trans (iI.trans (fA.trans (jA.trans dW))))
theorem nH {V:View}(n:Int)(h0:-9223372036854775808<=n)(h1:n<=9223372036854775807) :
  Acts prog 71 #[.int .i64 n] V fun r V'=>RQ V' r (n:Rat):=by
 refine FD n V _ fun V1 l1=>(EM n h0 h1).mono ?_
 rintro r V2 l2 ⟨p,m,c,rfl,g⟩
 exact ⟨_,_,_,_,rfl,fun V3 l3=>ml (z:=n) (d:=1) rfl rfl (g.le l3) RD.nil rfl⟩
theorem rI {V:View}(q:Rat){p p':OA}{n c n' c':Nat}(h1:RD V p n c (af q.num.natAbs)) :
  Acts prog 103 #[.agg #[.bool (decide (q.num<0)),.slice p n c,.slice p' n' c']] V fun r V'=>r=.int .i64 q.num.sign:=by
 refine H8 _ p n c p' n' c' V _ fun V1 l1=>(sK q.num (h1.le l1)).mono ?_
 rintro r V2 l2 rfl
 exact ⟨_,rfl,fun V3 l3=>rfl⟩
theorem lL {V:View}(q:Rat){p p':OA}{n c n' c':Nat}(h1:RD V p n c (af q.num.natAbs))(h2:RD V p' n' c' (qR q.den)) :
  Acts prog 64 #[.agg #[.bool (decide (q.num<0)),.slice p n c,.slice p' n' c']] V fun r V'=>RQ V' r (-q):=by
 refine DB _ p n c p' n' c' V _ fun V1 l1=>(fP q.num (h1.le l1)).mono ?_
 rintro r V2 l2 ⟨p1,n1,c1,rfl,g⟩
 exact ⟨_,_,_,_,rfl,fun V3 l3=>ml (q:=-q) (z:=-q.num) (d:=q.den) (by rfl) (by rfl) (g.le l3) ((h2.le l1).le (l2.trans l3)) rfl⟩
end Go.Proofs.Tryz
namespace Go.Eng
open Go.Big
theorem RI.inv {V:View}{b:Bool}{p:OA}{n c:Nat}{z:Int}(h:RI V (.agg #[.bool b,.slice p n c]) z):b=decide (z<0)/\RD V p n c (af z.natAbs):=by
 obtain ⟨p1,n1,c1,e,hn⟩:=h
 simp at e
 obtain ⟨rfl,rfl,rfl,rfl⟩:=e
 exact ⟨rfl,hn⟩
end Go.Eng
namespace Go.Proofs.Tryz
open Go.Eng Go.Big
theorem e_ {V:View}{v:Value}{q:Rat}(h:RR V v q){k:Nat}(hs:Sz k q)(hk:k<=1099511627776) :
  Acts prog 139 #[v] V fun r V'=>RI V' r q.num:=by
 rcases h with ⟨rfl,hw⟩|⟨a,b,p,n,c,p',n',c',rfl,h1,h2,h3,h4,h5,hw⟩
 ·have:=hw.1
  refine mw _ _ _ V _ ⟨(fun h0=>nomatch h0),fun _ V1 l1=>(iB _ (by omega) (by omega)).mono ?_⟩
  rintro r V2 l2 ⟨p,n,c,rfl,g⟩
  exact ⟨_,_,_,_,rfl,fun V3 l3=>⟨_,_,_,rfl,g.le l3⟩⟩
 ·obtain ⟨rfl,hn⟩:=h4.inv
  refine mw _ _ _ V _ ⟨fun _=>⟨rfl,rfl,decide (q.num<0),p,n,c,a.add 0,rfl,?_,?_,fun V1 l1=>(gR _ (hn.le l1) (Nat.le_trans (ae hs.1) hk)).mono ?_⟩,fun h0=>nomatch h0⟩
  ·exact h1
  ·simpa [Addr.add] using h2
  ·rintro r V2 l2 ⟨p,n,c,rfl,g⟩
   rw [aA] at g ⊢
   exact ⟨_,_,_,_,rfl,fun V3 l3=>⟨_,_,_,rfl,g.le l3⟩⟩
theorem eo {V:View}{v:Value}{q:Rat}(h:RR V v q){k:Nat}(hs:Sz k q)(hk:k<=1099511627776) :
  Acts prog 207 #[v] V fun r V'=>∃p n c,r=.slice p n c/\RN V' p n c q.den:=by
 rcases h with ⟨rfl,hw⟩|⟨a,b,p,n,c,p',n',c',rfl,h1,h2,h3,h4,h5,hw⟩
 ·have:=hw.2
  have hd:=q.den_nz
  refine mq _ _ _ V _ ⟨(fun h0=>nomatch h0),fun _ V1 l1=>?_⟩
  rw [i64w (by omega),aJ (by omega)]
  refine (dq _ (by omega) (by omega)).mono ?_
  rintro r V2 l2 ⟨p,n,c,rfl,g⟩
  rw [show ((q.den:Int)-1+1).toNat=q.den from by omega] at g
  exact ⟨_,_,_,rfl,fun V3 l3=>⟨_,_,_,rfl,g.le l3⟩⟩
 ·refine mq _ _ _ V _ ⟨fun _=>⟨rfl,rfl,_,_,_,⟨_,rfl,h3⟩,fun V1 l1=>(gT (h5.le l1) (Nat.le_trans (ae hs.2) hk)).mono ?_⟩,fun h0=>nomatch h0⟩
  rintro r V2 l2 ⟨p,n,c,rfl,g⟩
  rw [ab] at g
  exact ⟨_,_,_,rfl,fun V3 l3=>⟨_,_,_,rfl,g.le l3⟩⟩
theorem gQ {V:View}(n:Int)(h0:-9223372036854775808<n)(h1:n<=9223372036854775807) :
  Acts prog 205 #[.int .i64 n] V fun r V'=>r=.int .u64 (n.natAbs:Int):=by
 refine BJ n V _ ⟨fun h2 V1 l1=>?_,fun h2 V1 l1=>?_⟩
 ·have h2:n<0:=by simpa using h2
  rw [i64w (by omega),aJ (by omega)];congr 1;omega
 ·have h2:0<=n:=by simpa using h2
  rw [aJ (by omega)];congr 1;omega
theorem sG {V:View}(x y:Nat)(hx:x<18446744073709551616)(hy:y<18446744073709551616) :
  Acts prog 204 #[.int .u64 (x:Int),.int .u64 (y:Int)] V fun r V'=>r=.int .u64 (Nat.gcd x y:Int):=by
 refine BK _ _ V _ ⟨fun z V'=>∃a b:Nat,z=((a:Int),(b:Int))/\Nat.gcd a b=Nat.gcd x y,fun z=>z.2.toNat,
  ⟨((x:Int),(y:Int)),by (try dsimp only);and_intros<;>trivial,x,y,rfl,rfl⟩,?_⟩
 rintro _ kG dB ⟨a,b,rfl,hab⟩
 dsimp only
 refine ⟨by trivial,fun h3=>?_,fun h3 nD cU=>?_⟩
 ·have h3:b≠0:=by rw [bne_iff_ne] at h3;omega
  have hlt:a%b<b:=Nat.mod_lt _ (by omega)
  have e4:(a:Int).tmod (b:Int)=((a%b:Nat):Int):=by rw [Int.tmod_eq_emod_of_nonneg (by omega),←Int.natCast_emod]
  rw [e4]
  exact ⟨by omega,((b:Int),((a%b:Nat):Int)),by (try dsimp only);rw [Int.toNat_natCast,Int.toNat_natCast];exact hlt,by (try dsimp only);and_intros<;>trivial,b,a%b,rfl,by rw [tB,hab]⟩
 ·have h3:b=0:=by rw [bne_eq_false_iff_eq] at h3;omega
  subst h3
  rw [Nat.gcd_zero_right] at hab
  rw [hab]
theorem fg {V:View}(a b:Int)(ha:a.natAbs<4611686018427387904)(hb:b.natAbs<4611686018427387904) :
  Acts prog 226 #[.int .i64 a,.int .i64 b] V fun r V'=>∃z:Int,r=.tuple #[.int .i64 z,.bool (decide ((a*b).natAbs<4611686018427387904))]/\((a*b).natAbs<4611686018427387904->z=a*b):=by
 refine vQ a b V _ fun V1 l1=>(gQ a (by omega) (by omega)).mono ?_
 rintro r V2 l2 rfl
 refine ⟨_,rfl,fun V3 l3=>(gQ b (by omega) (by omega)).mono ?_⟩
 rintro r V4 l4 rfl
 refine ⟨_,rfl,fun V5 l5=>(IC _ _ (by omega) (by omega)).mono ?_⟩
 rintro r V6 l6 rfl
 have hab:(a*b).natAbs=a.natAbs*b.natAbs:=Int.natAbs_mul a b
 have hsg:a*b=if (decide (a<0)==decide (b<0)) then ((a.natAbs*b.natAbs:Nat):Int) else -((a.natAbs*b.natAbs:Nat):Int):=by
  rw [Int.natCast_mul]
  by_cases h1:a<0<;>by_cases h2:b<0
  ·rw [decide_eq_true h1,decide_eq_true h2,show (a.natAbs:Int)=-a from by omega,show (b.natAbs:Int)=-b from by omega];simp [Int.neg_mul,Int.mul_neg]
  ·rw [decide_eq_true h1,decide_eq_false h2,if_neg (by decide),show (a.natAbs:Int)=-a from by omega,show (b.natAbs:Int)=b from by omega];simp [Int.neg_mul]
  ·rw [decide_eq_false h1,decide_eq_true h2,if_neg (by decide),show (a.natAbs:Int)=a from by omega,show (b.natAbs:Int)=-b from by omega];simp [Int.mul_neg]
  ·rw [decide_eq_false h1,decide_eq_false h2,show (a.natAbs:Int)=a from by omega,show (b.natAbs:Int)=b from by omega];simp
 rw [hab]
 generalize a.natAbs*b.natAbs=p at *
 refine ⟨_,_,rfl,fun h0 V7 l7=>?_,fun h0=>⟨fun h1 V7 l7=>?_,fun h1=>⟨fun h2 V7 l7=>?_,fun h2 V7 l7=>?_⟩⟩⟩
 ·have h0:18446744073709551616<=p:=by rw [bne_iff_ne] at h0;omega
  rw [decide_eq_false (by omega)]
  exact ⟨_,rfl,fun h=>by omega⟩
 ·have h1:4611686018427387904<=p:=by
   rw [decide_eq_true_eq] at h1;omega
  rw [decide_eq_false (by omega)]
  exact ⟨_,rfl,fun h=>by omega⟩
 ·have h0:p / 18446744073709551616=0:=by rw [bne_eq_false_iff_eq] at h0;omega
  have h1:p<4611686018427387904:=by rw [decide_eq_false_iff_not] at h1;omega
  rw [decide_eq_true h1,i64w (x:=((p%18446744073709551616:Nat):Int)) (by omega),i64w (by omega)]
  refine ⟨_,rfl,fun _=>?_⟩
  have h2:(decide (a<0)==decide (b<0))=false:=by simpa using h2
  rw [hsg,h2,if_neg (by decide)];omega
 ·have h0:p / 18446744073709551616=0:=by rw [bne_eq_false_iff_eq] at h0;omega
  have h1:p<4611686018427387904:=by rw [decide_eq_false_iff_not] at h1;omega
  rw [decide_eq_true h1,i64w (x:=((p%18446744073709551616:Nat):Int)) (by omega)]
  refine ⟨_,rfl,fun _=>?_⟩
  have h2:(decide (a<0)==decide (b<0))=true:=by simpa using h2
  rw [hsg,h2,if_pos rfl];omega
theorem mc {V:View}(n:Int)(d:Nat)(hn:n.natAbs<4611686018427387904)(hd:d<4611686018427387904)(hd0:d≠0) :
  Acts prog 227 #[.int .i64 n,.int .i64 (d:Int)] V fun r V'=>RR V' r (mkRat n d):=by
 refine uA n _ V _ fun V1 l1=>(gQ n (by omega) (by omega)).mono ?_
 rintro r V2 l2 rfl
 rw [aJ (x:=(d:Int)) (by omega)]
 refine ⟨_,rfl,fun V3 l3=>(sG _ _ (by omega) (by omega)).mono ?_⟩
 rintro r V4 l4 rfl
 have hgl:Nat.gcd n.natAbs d<=d:=Nat.le_of_dvd (by omega) (Nat.gcd_dvd_right _ _)
 have Kl:0<Nat.gcd n.natAbs d:=Nat.gcd_pos_of_pos_right _ (by omega)
 have qU:=Rat.num_mkRat n d
 have hden:=Rat.den_mkRat n d
 rw [if_neg hd0,Nat.gcd_comm] at qU hden
 have hdvd:(Nat.gcd n.natAbs d:Int)∣n:=Int.ofNat_dvd_left.2 (Nat.gcd_dvd_left _ _)
 have hdl:d / Nat.gcd n.natAbs d<=d:=Nat.div_le_self _ _
 have hnl:(n / (Nat.gcd n.natAbs d:Int)).natAbs<=n.natAbs:=by
  rw [Int.natAbs_ediv_of_dvd hdvd,Int.natAbs_natCast];exact Nat.div_le_self _ _
 have hW:Wd (mkRat n d):=by unfold Wd;rw [qU,hden];omega
 refine ⟨_,rfl,?_⟩
 rw [i64w (x:=((Nat.gcd n.natAbs d:Nat):Int)) (by omega)]
 refine ⟨fun h0=>⟨by omega,by omega,fun V5 l5=>.inl ⟨?_,hW⟩⟩,fun h0 V5 l5=>.inl ⟨?_,hW⟩⟩
 ·rw [qU,hden]
  have e1:n.tdiv (Nat.gcd n.natAbs d:Int)=n / (Nat.gcd n.natAbs d:Int):=Int.tdiv_eq_ediv_of_dvd hdvd
  have e2:(d:Int).tdiv (Nat.gcd n.natAbs d:Int)=((d / Nat.gcd n.natAbs d:Nat):Int):=by rw [Int.tdiv_eq_ediv_of_nonneg (by omega),←Int.natCast_ediv]
  rw [e1,e2]
  generalize n / (Nat.gcd n.natAbs d:Int)=nn at *
  generalize d / Nat.gcd n.natAbs d=dd at *
  rw [i64w (by omega),i64w (x:=(dd:Int)) (by omega),i64w (by omega)]
 ·have h0:Nat.gcd n.natAbs d=1:=by rw [decide_eq_false_iff_not] at h0;omega
  rw [qU,hden,h0,i64w (by omega)]
  simp
end Go.Proofs.Tryz
