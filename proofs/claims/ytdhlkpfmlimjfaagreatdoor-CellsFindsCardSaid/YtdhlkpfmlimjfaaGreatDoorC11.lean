import Derived.Test.YtdhlkpfmlimjfaaGreatDoorC10
import Derived.Test.YtdhlkpfmlimjfaaGreatDoorC7
set_option linter.unusedVariables false
open Go.IntKind (i64 u64 u32)
namespace Go.Proofs.Tryz
open Go.Eng Go.Big
theorem Jb (a b:Nat)(ha:a<4294967296)(hb:b<4294967296):bh .or .u64 (b:Int) ((a:Int)*4294967296)=(b:Int)+(a:Int)*4294967296:=by
 have h:bh .or .u64 (b:Int) ((a:Int)*4294967296)=bh .or .u64 ((a:Int)*4294967296) (b:Int):=by
  simp only [bh,BitVec.or_comm]
 rw [h,CA a b ha hb];omega
theorem Qy (b:Nat)(hb:b<4294967296):bh .or .u64 0 (b:Int)=b:=by
 have:=CA 0 b (by omega) hb;simpa using this
theorem km {V:View}{p:OA}{n c:Nat}{ds:List Nat}(h:RD V p n c ds)(hm:ds.length<=1099511627776) :
  Acts prog 186 #[.slice p n c] V fun r V'=>r=.tuple #[.int .u64 ((if val ds<18446744073709551616 then val ds else 0:Nat):Int),.bool (decide (val ds<18446744073709551616))]:=by
 refine Df p n c V _ fun y q=>(aO (h.le q) (by omega)).mono ?_;rintro r V2 A ⟨n,rfl,e⟩;rw [aK h.fh] at e;generalize val ds=x at *;have B:=e.len;have C:(af x).length<=2↔x<18446744073709551616:=az (k:=2);refine ⟨_,_,_,rfl,fun a D E=>?_,fun a=>?_⟩
 ·have a:¬x<18446744073709551616:=by simp at a;omega
  rw [if_neg a,decide_eq_false a];rfl
 ·have m:x<18446744073709551616:=by simp at a;omega
  rw [if_pos m,decide_eq_true m];have F:n<=2:=by omega
  refine ⟨fun z V'=>0<=z.2/\z.2<=n/\z.1=(val ((af x).take z.2.toNat):Int),fun z=>n-z.2.toNat,⟨(0,0),by (try dsimp only);and_intros<;>trivial,by (try dsimp only);omega,by (try dsimp only);omega,by simp⟩,?_⟩;rintro ⟨u,i⟩ G s ⟨d,f,hu⟩;dsimp only at d f hu ⊢;subst hu;obtain ⟨i,rfl⟩:=Int.eq_ofNat_of_zero_le d;simp only [Int.toNat_natCast];refine ⟨by trivial,fun b=>?_,fun b H I=>?_⟩
  ·have b:i<n:=by simpa using b
   refine (e.le s).rd i rfl (by omega) ?_;have o:=(ax x).get (i:=i) (by omega);simp (disch:=omega) only [i64w];refine ⟨by omega,(_,_),?_,by (try dsimp only);and_intros<;>trivial,?_⟩
   ·(try dsimp only);omega
   ·(try dsimp only)
    refine ⟨by omega,by omega,?_⟩;have g:((i:Int)+1).toNat=i+1:=by omega
    rw [g,aq _ _ (by omega)];have t:i=0\/i=1:=by omega
    rcases t with rfl|rfl
    ·simp (disch:=omega) only [aG];have j:(min ((32:Int)*((0:Nat):Int)).toNat IntKind.u64.bits)=0:=by decide
     rw [j];simp (disch:=omega) only [aG,Int.pow_zero,Int.mul_one,List.take_zero,dR,Nat.pow_zero,Nat.one_mul,Nat.zero_add];exact Qy _ o
    ·have j:(min ((32:Int)*((1:Nat):Int)).toNat IntKind.u64.bits)=32:=by decide
     have a:0<(af x).length:=by omega
     have l:=(ax x).get (i:=0) a;have v:(af x).take 1=[(af x)[0]]:=by rw [List.take_succ_eq_append_getElem a];rfl
     have w:((2:Int)^32)=4294967296:=by decide
     rw [j,v,w];simp (disch:=omega) only [aG];simp only [aZ,dR,Nat.mul_zero,Nat.add_zero];rw [Jb _ _ o l];omega
  ·have b:i=n:=by simp at b;omega
   subst b;rw [aj (by omega),ab]
theorem il {V:View}{p:OA}{n c:Nat}{ds:List Nat}(h:RD V p n c ds)(hm:ds.length<=1099511627776) :
  Acts prog 181 #[.slice p n c] V fun r V'=>r=.int .i64 (bF (val ds):Int):=by
 have k:=bq h.fh;refine Dd p n c V _ fun t l=>(aO (h.le l) (by omega)).mono ?_;rintro r V2 u ⟨n,rfl,g⟩;rw [aK h.fh] at g;generalize val ds=x at *;have m:=g.len;refine ⟨_,_,_,rfl,fun f v w=>?_,fun f=>?_⟩
 ·have:af x=[]:=List.length_eq_zero_iff.1 (by simp at f;omega);have:=bw.1 this;subst this;rfl
 ·have f:0<n:=by simp at f;omega
  simp (disch:=omega) only [i64w];refine g.rd (n-1) (by omega) (by omega) fun y z=>(fO _ ((ax x).get (by omega))).mono ?_;rintro r A B rfl;refine ⟨_,rfl,fun C D=>?_⟩;have E:=(ax x).get (i:=n-1) (by omega)
  have a:(af x)[n-1]≠0:=by
   have:=(iC x).last (by omega);simpa [m] using this
  have F:bF (af x)[n-1]<=32:=iO.2 (by omega);simp (disch:=omega) only [i64w]
  have key:bF x=32*(n-1)+bF (af x)[n-1]:=by
   have e:=fZ (af x) (n-1) (by omega);rw [ab,List.drop_of_length_le (by omega)] at e;simp only [dR,Nat.mul_zero,Nat.add_zero] at e;have b:=fM ((ax x).take (n-1));rw [List.length_take,Nat.min_eq_left (by omega)] at b;have j:(4294967296:Nat)^(n-1)=2^(32*(n-1)):=by rw [Nat.pow_mul]
   rw [j] at e b;generalize (af x)[n-1]=d at *;have o:=oT d;have q:=oS a;have s:0<bF d:=by unfold bF;rw [if_neg a];omega
   refine rj ?_ (.inr ?_)
   ·rw [Nat.pow_add];have:2^(32*(n-1))*(d+1)<=2^(32*(n-1))*2^bF d:=Nat.mul_le_mul_left _ o;rw [Nat.mul_add,Nat.mul_one] at this;omega
   ·rw [show 32*(n-1)+bF d-1=32*(n-1)+(bF d-1) from by omega,Nat.pow_add];have:2^(32*(n-1))*2^(bF d-1)<=2^(32*(n-1))*d:=Nat.mul_le_mul_left _ q;omega
  rw [key];congr 1;omega
theorem Cu {E S c t x y e Y B D:Nat}(h:E+B*D*c=S+B*x*Y)(ht:t=c+x*y+e) :
  E+B*D*(t%4294967296)+B*D*4294967296*(t / 4294967296)=S+B*D*e+B*x*(Y+D*y):=by
 have a:B*D*(t%4294967296)+B*D*4294967296*(t / 4294967296)=B*D*t:=by
  rw [Nat.mul_assoc (B*D),←Nat.mul_add,Nat.mod_add_div]
 rw [Nat.add_assoc,a,ht];grind
theorem fR {V:View}{p q:OA}{n c m e:Nat}{xa xb:List Nat}(ha:RD V p n c xa)(hb:RD V q m e xb)(hm:xa.length+xb.length<=1099511627776) :
  Acts prog 206 #[.slice p n c,.slice q m e] V fun r V'=>∃p' n' c',r=.slice p' n' c'/\RN V' p' n' c' (val xa*val xb):=by
 have la:=bq ha.fh;have lb:=bq hb.fh;refine E0 p n c q m e V _ fun V1 M=>(aO (ha.le M) (by omega)).mono ?_;rintro r V2 T ⟨n,rfl,o⟩;rw [aK ha.fh] at o;refine ⟨_,_,_,rfl,fun V3 N=>(aO (hb.le (M.trans (T.trans N))) (by omega)).mono ?_⟩;rintro r V4 U ⟨m,rfl,C⟩;rw [aK hb.fh] at C
 replace o:=o.le (N.trans U)
 have W:=o.len;have Bi:=C.len;have O:val xa=val (af (val xa)):=(ab _).symm;have P:val xb=val (af (val xb)):=(ab _).symm;rw [O,P];clear O P;generalize af (val xa)=xs at *;generalize af (val xb)=ys at *;refine ⟨_,_,_,rfl,?_⟩;simp (disch:=omega) only [i64w,cw];have E:((n:Int)+m).toNat=n+m:=by omega
 rw [E]
 refine ⟨by omega,by omega,by omega,fun z V'=>0<=z.1/\z.1<=n/\∃es:List Nat,z.2=ay es/\es.length=n+m/\bM es /\
  val (es.take (z.1.toNat+m))=val (xs.take z.1.toNat)*val ys,fun z=>n-z.1.toNat,⟨(0,ay (List.replicate (n+m) 0)),by (try dsimp only);and_intros<;>trivial,by (try dsimp only);omega,by (try dsimp only);omega,_,rfl,by simp,bM.rep _,by simp [tB,List.take_replicate]⟩,?_⟩
 rintro ⟨i,X⟩ V5 Q ⟨u,F,es,rfl,G,g,v⟩;dsimp only at u F v ⊢;obtain ⟨i,rfl⟩:=Int.eq_ofNat_of_zero_le u;simp only [Int.toNat_natCast] at v;refine ⟨by trivial,fun s=>?_,fun s=>?_⟩
 ·have s:i<n:=by simpa using s
  refine (o.le Q).rd i rfl (by omega) ?_;have wC:=o.fh.get (i:=i) (by omega)
  refine ⟨fun z V'=>0<=z.1/\z.1<=4294967295/\0<=z.2.1/\z.2.1<=m/\∃a:List Nat,z.2.2=ay a/\a.length=n+m/\bM a/\a.drop (i+z.2.1.toNat)=es.drop (i+z.2.1.toNat) /\
   val (a.take (i+z.2.1.toNat))+4294967296^(i+z.2.1.toNat)*z.1.toNat=val (es.take (i+z.2.1.toNat))+4294967296^i*xs[i]*val (ys.take z.2.1.toNat),fun z=>m-z.2.1.toNat,
   ⟨(0,0,ay es),by (try dsimp only);and_intros<;>trivial,by (try dsimp only);omega,by (try dsimp only);omega,by (try dsimp only);omega,by (try dsimp only);omega,es,rfl,G,g,rfl,by simp⟩,?_⟩
  rintro ⟨D,k,X⟩ Y R ⟨w,H,y,I,a,rfl,A,h,f,hw⟩;dsimp only at w H y I f hw ⊢;obtain ⟨k,rfl⟩:=Int.eq_ofNat_of_zero_le y;obtain ⟨D,rfl⟩:=Int.eq_ofNat_of_zero_le w;simp only [Int.toNat_natCast] at f hw;refine ⟨by trivial,fun d=>?_,fun d=>?_⟩
  ·have d:k<m:=by simpa using d
   refine (C.le (Q.trans R)).rd k rfl (by omega) ?_;have Z:=C.fh.get (i:=k) (by omega);have S8:=h.get (i:=i+k) (by omega)
   have J:a[i+k]'(by omega)=es[i+k]'(by omega):=by
    have S:a[i+k]?=es[i+k]?:=by
     have:=congrArg (fun l=>l[0]?) f;simpa [List.getElem?_drop] using this
    rw [List.getElem?_eq_getElem (by omega),List.getElem?_eq_getElem (by omega)] at S;exact Option.some.inj S
   simp (disch:=omega) only [i64w];have j:((i:Int)+k).toNat=i+k:=by omega
   rw [j];refine ⟨⟨by omega,by omega⟩,((a[i+k]'(by omega):Nat):Int),by rw [Nat.zero_add,Nat.mul_one];exact fK (by omega),⟨by omega,by omega⟩,by simp;omega,by omega,?_⟩;have a0:xs[i]*ys[k]<=4294967295*4294967295:=Nat.mul_le_mul (by omega) (by omega);have Nu:(xs[i]:Int)*(ys[k]:Int)=((xs[i]*ys[k]:Nat):Int):=by simp
   obtain ⟨t,ht⟩:∃t:Nat,t=D+xs[i]*ys[k]+a[i+k]'(by omega):=⟨_,rfl⟩;rw [Nat.pow_add] at hw;have b:=Cu hw ht
   have e1:u64.wrap ((D:Int)+u64.wrap (u64.wrap (u64.wrap (xs[i]:Int)*u64.wrap (ys[k]:Int))+u64.wrap ((a[i+k]'(by omega):Nat):Int)))=(t:Int):=by
    clear b;generalize xs[i]*ys[k]=pq at *;rw [aG (x:=(xs[i]:Int)) (by omega),aG (x:=(ys[k]:Int)) (by omega),Nu,aG (x:=((pq:Nat):Int)) (by omega)];simp (disch:=omega) only [aG];omega
   rw [e1,gZ,kU];refine ⟨(_,_,_),?_,by (try dsimp only);and_intros<;>trivial,?_⟩
   ·(try dsimp only);omega
   ·(try dsimp only)
    have B:((k:Int)+1).toNat=k+1:=by omega
    refine ⟨by omega,by omega,by omega,by omega,a.set (i+k) (t%4294967296),?_,by simpa using A,h.set _ _ (by omega),?_,?_⟩
    ·rw [←bo];simp
    ·rw [B,List.drop_set_of_lt (by omega)];have:=congrArg (List.drop 1) f;simpa [List.drop_drop,Nat.add_comm,Nat.add_assoc,Nat.add_left_comm] using this
    ·rw [B,show i+(k+1)=i+k+1 from by omega,aE _ _ _ (by omega),aq es (i+k) (by omega),aq ys k (by omega),←J,Nat.pow_succ];have e2:((t:Int) / 4294967296).toNat=t / 4294967296:=by omega
     rw [e2,Nat.pow_add,b]
  ·have d:k=m:=by simp at d;omega
   subst d;simp (disch:=omega) only [i64w];have j:((i:Int)+k).toNat=i+k:=by omega
   rw [j];refine ⟨⟨by omega,by omega⟩,by simp;omega,(_,_),?_,by (try dsimp only);and_intros<;>trivial,?_⟩
   ·(try dsimp only);omega
   ·(try dsimp only)
    have K:((i:Int)+1).toNat=i+1:=by omega
    refine ⟨by omega,by omega,a.set (i+k) D,?_,by simpa using A,h.set _ _ (by omega),?_⟩
    ·rw [←bo,pM (by omega)];simp
    ·rw [K,show i+1+k=i+k+1 from by omega,aE _ _ _ (by omega),hw,v,aq xs i (by omega),aj (ds:=ys) (by omega)];grind
 ·have s:i=n:=by simp at s;omega
  subst s;intro Y R bk L;refine (aO (RD.bg L g (n:=i+m) (c:=i+m) (by omega) (Nat.le_refl _)) (by omega)).mono ?_;rintro r V7 l7 ⟨k,rfl,d⟩;refine ⟨_,_,_,rfl,fun _ V8 l8=>⟨_,_,_,rfl,?_⟩⟩;rw [aK g] at d;rw [aj (by omega),aj (by omega)] at v;rw [v] at d;exact d.le l8
theorem vr {x A d q r rest B W:Nat}(hA:A=d*B+rest)(h:d*q+r=rest*W+x):x+W*A=d*(q+W*B)+r:=by
 subst hA;grind
theorem BC {V:View}{p:OA}{n c:Nat}{xs:List Nat}(hx:RD V p n c xs)(hm:xs.length<=1099511627776)(d:Nat)(hd0:d≠0)(hd:d<4294967296) :
  Acts prog 224 #[.slice p n c,.int .u32 (d:Int)] V fun r V'=>∃p' n' c',r=.tuple #[.slice p' n' c',.int .u32 ((val xs%d:Nat):Int)]/\RN V' p' n' c' (val xs / d):=by
 have w:=hx.len;refine AV p n c d V _ ⟨by omega,by omega,by omega,?_⟩;simp (disch:=omega) only [i64w,aG,Int.toNat_natCast,cw]
 refine ⟨fun z V'=>0<=z.1/\z.1<d/\-1<=z.2.1/\z.2.1<n/\∃es:List Nat,z.2.2=ay es/\es.length=n/\bM es /\
   val (xs.drop (z.2.1+1).toNat)=d*val (es.drop (z.2.1+1).toNat)+z.1.toNat,fun z=>(z.2.1+1).toNat,
   ⟨(0,(n:Int)-1,ay (List.replicate n 0)),by (try dsimp only);and_intros<;>trivial,by (try dsimp only);omega,by (try dsimp only);omega,by (try dsimp only);omega,by (try dsimp only);omega,_,rfl,by simp,bM.rep _,?_⟩,?_⟩
 ·(try dsimp only)
  rw [List.drop_of_length_le (by omega),List.drop_of_length_le (by simp)];rfl
 rintro ⟨rest,i,G⟩ V2 x ⟨f,g,h,j,es,rfl,m,b,a⟩;dsimp only at f g h j a ⊢;obtain ⟨rest,rfl⟩:=Int.eq_ofNat_of_zero_le f;refine ⟨by trivial,fun e=>?_,fun e=>?_⟩
 ·have e:0<=i:=by simpa using e
  obtain ⟨i,rfl⟩:=Int.eq_ofNat_of_zero_le e;have o:((i:Int)+1).toNat=i+1:=by omega
  rw [o] at a;simp only [Int.toNat_natCast] at a;refine ⟨by omega,(hx.le x).rd i rfl (by omega) ?_⟩;have y:=hx.fh.get (i:=i) (by omega)
  have s:bh .or .u64 (u64.wrap ((rest:Int)*2^32)) (u64.wrap ((xs[i]:Nat):Int))=((rest*4294967296+xs[i]:Nat):Int):=by
   have A:((2:Int)^32)=4294967296:=by decide
   rw [A,aG (by omega),aG (by omega),CA _ _ (by omega) y];omega
  rw [s]
  have t:((rest*4294967296+xs[i]:Nat):Int).tdiv (d:Int)=(((rest*4294967296+xs[i]) / d:Nat):Int):=by
   rw [Int.tdiv_eq_ediv_of_nonneg (by omega)];omega
  have B:((rest*4294967296+xs[i]:Nat):Int).tmod (d:Int)=(((rest*4294967296+xs[i])%d:Nat):Int):=by
   rw [Int.tmod_eq_emod_of_nonneg (by omega)];omega
  rw [t,B]
  have H:(rest*4294967296+xs[i]) / d<4294967296:=by
   rw [Nat.div_lt_iff_lt_mul (by omega)];have:rest+1<=d:=by omega
   have:=Nat.mul_le_mul_right 4294967296 this;rw [Nat.mul_comm 4294967296 d];omega
  have I:(rest*4294967296+xs[i])%d<d:=Nat.mod_lt _ (by omega);have C:=Nat.div_add_mod (rest*4294967296+xs[i]) d;generalize (rest*4294967296+xs[i]) / d=q at *;generalize (rest*4294967296+xs[i])%d=r at *;simp (disch:=omega) only [aG,pM,i64w];refine ⟨by omega,⟨by omega,by omega⟩,by simp;omega,by omega,?_⟩;refine ⟨((r:Int),(i:Int)-1,ay (es.set i q)),?_,?_,?_⟩
  ·(try dsimp only);omega
  ·(try dsimp only);and_intros<;>first|trivial|(rw [←bo];simp)
  ·(try dsimp only)
   refine ⟨by omega,by omega,by omega,by omega,_,rfl,by simpa using m,b.set _ _ (by omega),?_⟩;have u:((i:Int)-1+1).toNat=i:=by omega
   rw [u,List.drop_eq_getElem_cons (by omega),List.drop_eq_getElem_cons (l:=es.set i q) (by simp;omega),List.getElem_set_self,List.drop_set_of_lt (by omega)];have D:xs[i]+4294967296*val (List.drop (i+1) xs)=d*(q+4294967296*val (List.drop (i+1) es))+r:=vr a C;rw [aZ,aZ,Int.toNat_natCast];exact D
 ·have e:i=-1:=by simp at e;omega
  subst e;simp only [Int.toNat_natCast] at a;have a:val xs=d*val es+rest:=by simpa using a
  intro J K L E;refine (aO (RD.bg E b (n:=n) (c:=n) (by omega) (Nat.le_refl _)) (by omega)).mono ?_;rintro r M N ⟨k,rfl,v⟩;refine ⟨_,_,_,rfl,fun _ O F=>?_⟩;have s:val xs / d=val es:=by rw [a,Nat.mul_add_div (by omega),Nat.div_eq_of_lt (by omega),Nat.add_zero]
  have t:val xs%d=rest:=by rw [a,Nat.mul_add_mod,Nat.mod_eq_of_lt (by omega)]
  rw [pM (by omega),s,t];rw [aK b] at v;exact ⟨_,_,_,rfl,v.le F⟩
theorem Ey (a b:Nat)(ha:a<4294967296)(hb:b<4294967296):bh .or .u32 (a:Int) (b:Int)=((a ||| b:Nat):Int):=by
 rw [bh,gZ]
 have c:(BitVec.ofInt IntKind.u32.bits ((a:Nat):Int) ||| BitVec.ofInt IntKind.u32.bits (b:Int)).toNat=a ||| b:=by
  show (BitVec.ofInt 32 ((a:Nat):Int) ||| BitVec.ofInt 32 (b:Int)).toNat=_;rw [BitVec.ofInt_natCast,BitVec.ofInt_natCast,BitVec.toNat_or,BitVec.toNat_ofNat,BitVec.toNat_ofNat,Nat.mod_eq_of_lt (by omega),Nat.mod_eq_of_lt (by omega)]
 have d:a ||| b<2^32:=Nat.or_lt_two_pow (by omega) (by omega);rw [c];omega
theorem NQ {c m r:Nat}(h:c<2^r):c ||| m*2^r=c+m*2^r:=by
 rw [Nat.or_comm,←Nat.shiftLeft_eq,←Nat.shiftLeft_add_eq_or_of_lt h,Nat.add_comm]
theorem CU {d r c:Nat}(hd:d<4294967296)(hr:r<32)(hc:c<2^r) :
  c ||| (d*2^r%4294967296)=c+d*2^r%4294967296/\c+d*2^r%4294967296<4294967296/\d*2^r / 4294967296<2^r/\d*2^r<18446744073709551616:=by
 have e:4294967296=2^(32-r)*2^r:=by rw [←Nat.pow_add,Nat.sub_add_cancel (by omega)]
 have a:d*2^r%4294967296=(d%2^(32-r))*2^r:=by
  rw [e,Nat.mul_mod_mul_right]
 have f:d%2^(32-r)+1<=2^(32-r):=Nat.mod_lt _ (Nat.two_pow_pos _);have b:=Nat.mul_le_mul_right (2^r) f;have h:2^r<=2^31:=Nat.pow_le_pow_right (by omega) (by omega);have g:d*2^r<4294967296*2^r:=Nat.mul_lt_mul_of_pos_right hd (Nat.two_pow_pos _);refine ⟨by rw [a,NQ hc],?_,?_,by omega⟩
 ·rw [a];rw [Nat.add_mul,Nat.one_mul] at b;rw [←e] at b;omega
 ·rw [Nat.div_lt_iff_lt_mul (by omega),Nat.mul_comm (2^r)];exact g
theorem yu {V:View}{p:OA}{n c:Nat}{ds:List Nat}(h:RD V p n c ds)(hm:ds.length<=1099511627776)(k:Nat)(hk:k<=1048576) :
  Acts prog 239 #[.slice p n c,.int .u64 (k:Int)] V fun r V'=>∃p' n' c',r=.slice p' n' c'/\RN V' p' n' c' (val ds*2^k)/\(val ds=0\/c'=(af (val ds)).length+k / 32+1):=by
 have G:=bq h.fh;refine E1 p n c k V _ fun Y H=>(aO (h.le H) (by omega)).mono ?_;rintro r V2 Z ⟨n,rfl,o⟩;rw [aK h.fh] at o;generalize hxv:val ds=x at *;have hl:=o.len;refine ⟨_,_,_,rfl,fun m V3 l3=>?_,fun m=>?_⟩
 ·have:af x=[]:=List.length_eq_zero_iff.1 (by simp at m;omega);have:=bw.1 this;subst this;rw [Nat.zero_mul];exact ⟨_,_,_,rfl,RD.nil,.inl rfl⟩
 ·have m:0<n:=by simp at m;omega
  have C:bJ (k:Int) 1048576=k:=by unfold bJ;rw [if_neg (by omega)]
  have D:(k:Int).tdiv 32=((k / 32:Nat):Int):=by rw [Int.tdiv_eq_ediv_of_nonneg (by omega)];omega
  have E:(k:Int).tmod 32=((k%32:Nat):Int):=by rw [Int.tmod_eq_emod_of_nonneg (by omega)];omega
  rw [C,D,E]
  have q:x*2^k=4294967296^(k / 32)*x*2^(k%32):=by
   have:2^k=4294967296^(k / 32)*2^(k%32):=by
    rw [show (4294967296:Nat)=2^32 from rfl,←Nat.pow_mul,←Nat.pow_add,Nat.div_add_mod]
   rw [this];grind
  rw [q];generalize hw:k / 32=w at *;have s:k%32<32:=Nat.mod_lt _ (by omega);have I:w<=32768:=by omega
  generalize k%32=r at *;clear C D E;simp (disch:=omega) only [i64w,aG,cw];have t:((n:Int)+w+1).toNat=n+w+1:=by omega
  rw [t]
  refine ⟨by omega,by omega,by omega,by omega,by omega,fun z V'=>0<=z.1/\z.1<=n/\∃es:List Nat,z.2=ay es/\es.length=n+w+1/\bM es/\(∀c,es[z.1.toNat+w]?=some c->c<2^r) /\
   val (es.take (z.1.toNat+w+1))=4294967296^w*val ((af x).take z.1.toNat)*2^r,fun z=>n-z.1.toNat,
   ⟨(0,ay (List.replicate (n+w+1) 0)),by (try dsimp only);and_intros<;>trivial,by (try dsimp only);omega,by (try dsimp only);omega,_,rfl,by simp,bM.rep _,?_,?_⟩,?_⟩
  ·intro c a;rw [List.getElem?_replicate] at a;split at a
   ·cases a;exact Nat.two_pow_pos r
   ·cases a
  ·simp [List.take_replicate,tB]
  rintro ⟨i,vs⟩ V4 J ⟨f,u,es,rfl,v,b,a,d⟩;dsimp only at f u a d ⊢;obtain ⟨i,rfl⟩:=Int.eq_ofNat_of_zero_le f;simp only [Int.toNat_natCast] at a d;refine ⟨by trivial,fun e=>?_,fun e=>?_⟩
  ·have e:i<n:=by simpa using e
   refine (o.le J).rd i rfl (by omega) ?_;have K:=(ax x).get (i:=i) (by omega);have y:=a (es[i+w]'(by omega)) (List.getElem?_eq_getElem _);obtain ⟨L,g2,M,g4⟩:=CU K s y
   have g:(min ((r:Nat):Int).toNat IntKind.u64.bits)=r:=by
    show min _ 64=r;omega
   have N:((2:Int)^r)=((2^r:Nat):Int):=by simp
   rw [g,N];have hmul:(((af x)[i]:Nat):Int)*((2^r:Nat):Int)=(((af x)[i]*2^r:Nat):Int):=by simp
   simp (disch:=omega) only [i64w];rw [aG (x:=(((af x)[i]:Nat):Int)) (by omega),hmul,aG (by omega),gZ,kU];have A:((i:Int)+w).toNat=i+w:=by omega
   have O:((i:Int)+w+1).toNat=i+w+1:=by omega
   rw [A,O];refine ⟨by omega,⟨by omega,by omega⟩,((es[i+w]'(by omega):Nat):Int),by rw [Nat.zero_add,Nat.mul_one];exact fK (by omega),⟨by omega,by omega⟩,by simp;omega,by omega,⟨by omega,by omega⟩,by simp;omega,?_⟩;have P:(((af x)[i]*2^r:Nat):Int)%4294967296=(((af x)[i]*2^r%4294967296:Nat):Int):=by omega
   have Q:(((af x)[i]*2^r:Nat):Int) / 4294967296=(((af x)[i]*2^r / 4294967296:Nat):Int):=by omega
   rw [P,Q,Ey _ _ (by omega) (by omega),L];have R:=Nat.mod_add_div ((af x)[i]*2^r) 4294967296;have S:(af x)[i]*2^r / 4294967296<4294967296:=by omega
   have B:val (List.take (i+1) (af x))=val (List.take i (af x))+4294967296^i*(af x)[i]:=aq _ _ (by omega);have T:val (es.take (i+w+1))=val (es.take (i+w))+4294967296^(i+w)*es[i+w]'(by omega):=aq _ _ (by omega);generalize (af x)[i]*2^r%4294967296=lo at *;generalize hhi:(af x)[i]*2^r / 4294967296=hi at *;rw [pM (by omega)];refine ⟨((i:Int)+1,ay ((es.set (i+w) (es[i+w]'(by omega)+lo)).set (i+w+1) hi)),?_,?_,?_⟩
   ·(try dsimp only);omega
   ·(try dsimp only);and_intros<;>first|trivial|(rw [←bo,←bo];simp)
   ·(try dsimp only)
    have j:((i:Int)+1).toNat=i+1:=by omega
    refine ⟨by omega,by omega,_,rfl,by simpa using v,(b.set _ _ (by omega)).set _ _ (by omega),?_,?_⟩
    ·intro c l;rw [j,show i+1+w=i+w+1 from by omega,List.getElem?_set_self (by simp;omega)] at l;cases l;exact M
    ·rw [j,show i+1+w+1=i+w+1+1 from by omega,aE _ _ _ (by simp;omega),aE _ _ _ (by omega),B];rw [T] at d;have U:4294967296^(i+w+1)*hi=4294967296^(i+w)*(4294967296*hi):=by rw [Nat.pow_succ];grind
     rw [U,Nat.mul_add,←Nat.add_assoc,d,Nat.add_assoc,←Nat.mul_add,R,Nat.pow_add];grind
  ·have e:i=n:=by simp at e;omega
   subst e;intro V5 l5 bk W;refine (aO (RD.bg W b (n:=i+w+1) (c:=i+w+1) (by omega) (Nat.le_refl _)) (by omega)).mono ?_;rintro r' V6 l6 ⟨k',rfl,F⟩;refine ⟨_,_,_,rfl,fun _ V7 X=>⟨_,_,_,rfl,?_,.inr (by omega)⟩⟩;rw [aj (by omega),aj (by omega),ab] at d;rw [aK b,d] at F;exact F.le X
theorem CV {d Y r:Nat}(hd:d<4294967296)(hr:r<32) :
  (d+4294967296*Y) / 2^r=(d+4294967296*(Y%4294967296)) / 2^r%4294967296+4294967296*(Y / 2^r):=by
 have e:4294967296=2^r*2^(32-r):=by rw [←Nat.pow_add,Nat.add_sub_cancel' (by omega)]
 have c:=Nat.two_pow_pos r;have l:=Nat.two_pow_pos (32-r);generalize ha:2^r=a at *;generalize hb:2^(32-r)=b at *
 have f:∀Z,(d+4294967296*Z) / a=d / a+b*Z:=by
  intro Z;rw [e,Nat.mul_assoc,Nat.add_mul_div_left _ _ c]
 rw [f,f]
 have g:d / a<b:=by
  rw [Nat.div_lt_iff_lt_mul c,Nat.mul_comm,←e];exact hd
 have h:b*(Y%4294967296)%4294967296=b*(Y%a):=by
  rw [e,Nat.mul_comm a b,Nat.mul_mod_mul_left,Nat.mod_mul_left_mod]
 have m:b*(Y%a)+b<=4294967296:=by
  have:Y%a+1<=a:=Nat.mod_lt _ c;have:=Nat.mul_le_mul_left b this;rw [Nat.mul_add,Nat.mul_one,Nat.mul_comm b a,←e] at this;exact this
 have i:(d / a+b*(Y%4294967296))%4294967296=d / a+b*(Y%a):=by
  rw [Nat.add_mod,h,Nat.mod_eq_of_lt (a:=d / a) (by omega),Nat.mod_eq_of_lt (by omega)]
 rw [i];have j:=Nat.mod_add_div Y a
 have k:b*Y=b*(Y%a)+4294967296*(Y / a):=by
  conv=>lhs;rw [←j]
  rw [Nat.mul_add,←Nat.mul_assoc,Nat.mul_comm b a,←e]
 rw [k];omega
theorem pN {xs:List Nat}(h:bM xs)(i:Nat):val (xs.drop i)%4294967296=(xs[i]?).getD 0:=by
 rcases Nat.lt_or_ge i xs.length with a|a
 ·rw [List.drop_eq_getElem_cons a,aZ,List.getElem?_eq_getElem a,Option.getD_some,Nat.add_mul_mod_self_left,Nat.mod_eq_of_lt (h.get a)]
 ·rw [List.drop_of_length_le a,List.getElem?_eq_none a];rfl
theorem Gr {V:View}{p:OA}{n c:Nat}{ds:List Nat}(h:RD V p n c ds)(hm:ds.length<=1099511627776)(k:Nat)(hk:k<18446744073709551616) :
  Acts prog 240 #[.slice p n c,.int .u64 (k:Int)] V fun r V'=>∃p' n' c',r=.slice p' n' c'/\RN V' p' n' c' (val ds / 2^k):=by
 have T:=bq h.fh;refine E2 p n c k V _ fun V1 U=>(aO (h.le U) (by omega)).mono ?_;rintro r V2 l2 ⟨n,rfl,B⟩;rw [aK h.fh] at B;generalize val ds=x at *;have hl:=B.len;have P:(k:Int).tdiv 32=((k / 32:Nat):Int):=by rw [Int.tdiv_eq_ediv_of_nonneg (by omega)];omega
 have C:(k:Int).tmod 32=((k%32:Nat):Int):=by rw [Int.tmod_eq_emod_of_nonneg (by omega)];omega
 refine ⟨_,_,_,rfl,?_⟩;rw [P,C]
 have q:x / 2^k=x / 4294967296^(k / 32) / 2^(k%32):=by
  rw [Nat.div_div_eq_div_mul,show (4294967296:Nat)=2^32 from rfl,←Nat.pow_mul,←Nat.pow_add,Nat.div_add_mod]
 rw [q];have W:k / 32<576460752303423488:=by omega
 generalize k / 32=w at *;have E:k%32<32:=Nat.mod_lt _ (by omega);generalize k%32=r at *;clear P C q;refine ⟨by omega,fun j V3 l3=>?_,fun j=>?_⟩
 ·have j:n<=w:=by
   rw [aG (by omega),aG (by omega)] at j;simp at j;omega
  have:x / 4294967296^w=0:=Nat.div_eq_of_lt (Nat.lt_of_lt_of_le (az.1 (Nat.le_refl _)) (Nat.pow_le_pow_right (by omega) (by omega)));rw [this,Nat.zero_div];exact ⟨_,_,_,rfl,RD.nil⟩
 ·have j:w<n:=by
   rw [aG (by omega),aG (by omega)] at j;simp at j;omega
  simp (disch:=omega) only [i64w,aG,cw];have F:((n:Int)-w).toNat=n-w:=by omega
  rw [F]
  have G:x / 4294967296^w=val ((af x).drop w):=by
   have e:val (af x)=val ((af x).take w++(af x).drop w):=by rw [List.take_append_drop]
   have s:=fM ((ax x).take w);rw [cW,ab] at e;rw [List.length_take,Nat.min_eq_left (by omega)] at e s
   have g:∀y,y=val ((af x).take w)+4294967296^w*val ((af x).drop w)->y / 4294967296^w=val ((af x).drop w):=by
    intro y X;rw [X,Nat.add_mul_div_left _ _ (Nat.pow_pos (by omega)),Nat.div_eq_of_lt s,Nat.zero_add]
   exact g x e
  rw [G]
  refine ⟨by omega,by omega,by omega,by omega,by omega,fun z V'=>0<=z.1/\z.1<=(n-w:Nat)/\∃es:List Nat,z.2=ay es/\es.length=n-w/\bM es /\
   val (es.take z.1.toNat)+4294967296^z.1.toNat*(val ((af x).drop (w+z.1.toNat)) / 2^r)=val ((af x).drop w) / 2^r,fun z=>(n-w)-z.1.toNat,
   ⟨(0,ay (List.replicate (n-w) 0)),by (try dsimp only);and_intros<;>trivial,by (try dsimp only);omega,by (try dsimp only);omega,_,rfl,by simp,bM.rep _,by simp⟩,?_⟩
  rintro ⟨i,vs⟩ V4 Q ⟨t,H,es,rfl,I,m,b⟩;dsimp only at t H b ⊢;obtain ⟨i,rfl⟩:=Int.eq_ofNat_of_zero_le t;simp only [Int.toNat_natCast] at b;refine ⟨by trivial,fun u=>?_,fun u=>?_⟩
  ·have u:i<n-w:=by simpa using u
   simp (disch:=omega) only [i64w];refine (B.le Q).rd (w+i) (by omega) (by omega) ?_;have R:=(ax x).get (i:=w+i) (by omega);have v:=CV (Y:=val ((af x).drop (w+i+1))) R E;rw [pN (ax x)] at v
   have d:(min ((r:Nat):Int).toNat IntKind.u64.bits)=r:=by
    show min _ 64=r;omega
   have o:val ((af x).drop (w+i))=(af x)[w+i]+4294967296*val ((af x).drop (w+i+1)):=by
    rw [List.drop_eq_getElem_cons (by omega),aZ]
   rw [o] at b;rw [v] at b
   have S:∀D:Nat,D=((af x)[w+i]+4294967296*((af x)[w+i+1]?).getD 0) / 2^r%4294967296 ->
     ∃a:List Nat,(ay es).set (0+i*1) (.int .u32 (D:Int))=ay a/\a.length=n-w/\bM a /\
     val (a.take (i+1))+4294967296^(i+1)*(val ((af x).drop (w+(i+1))) / 2^r)=val ((af x).drop w) / 2^r:=by
    intro D Z;refine ⟨es.set i D,by rw [←bo];simp,by simpa using I,m.set _ _ (by omega),?_⟩;rw [aE _ _ _ (by omega),←b,Z,Nat.pow_succ,Nat.mul_add,Nat.add_assoc,Nat.mul_assoc,Nat.add_assoc w i 1]
   have A:((i:Int)+1).toNat=i+1:=by omega
   refine ⟨fun f=>?_,fun f=>?_⟩
   ·have f:w+i+1<n:=by simp at f;omega
    refine (B.le Q).rd (w+i+1) (by omega) (by omega) ?_;have J:=(ax x).get (i:=w+i+1) (by omega)
    have K:bh .or .u64 (u64.wrap (((af x)[w+i]:Nat):Int)) (u64.wrap (u64.wrap (((af x)[w+i+1]:Nat):Int)*2^32))=(((af x)[w+i]+4294967296*((af x)[w+i+1]?).getD 0:Nat):Int):=by
     have C:((2:Int)^32)=4294967296:=by decide
     rw [C,aG (by omega),aG (x:=(((af x)[w+i+1]:Nat):Int)) (by omega),aG (by omega),Jb _ _ J R,List.getElem?_eq_getElem (by omega),Option.getD_some];omega
    rw [K,d,fG,gZ];refine ⟨by omega,by omega,⟨by omega,by omega⟩,by simp;omega,?_⟩;obtain ⟨a,L,M,N,O⟩:=S _ rfl;refine ⟨((i:Int)+1,ay a),?_,?_,?_⟩
    ·(try dsimp only);omega
    ·(try dsimp only);and_intros<;>first|trivial|(rw [←L];simp)
    ·(try dsimp only)
     exact ⟨by omega,by omega,a,rfl,M,N,by rw [A];exact O⟩
   ·have f:n<=w+i+1:=by simp at f;omega
    have K:u64.wrap (((af x)[w+i]:Nat):Int)=(((af x)[w+i]+4294967296*((af x)[w+i+1]?).getD 0:Nat):Int):=by
     rw [aG (by omega),List.getElem?_eq_none (by omega)];simp
    rw [K,d,fG,gZ];refine ⟨by omega,⟨by omega,by omega⟩,by simp;omega,?_⟩;obtain ⟨a,L,M,N,O⟩:=S _ rfl;refine ⟨((i:Int)+1,ay a),?_,?_,?_⟩
    ·(try dsimp only);omega
    ·(try dsimp only);and_intros<;>first|trivial|(rw [←L];simp)
    ·(try dsimp only)
     exact ⟨by omega,by omega,a,rfl,M,N,by rw [A];exact O⟩
  ·have u:i=n-w:=by simp at u;omega
   intro V5 l5 bk hb;refine (aO (RD.bg hb m (n:=n-w) (c:=n-w) (by omega) (Nat.le_refl _)) (by omega)).mono ?_;rintro r' V6 l6 ⟨k',rfl,f⟩;refine ⟨_,_,_,rfl,fun _ V7 l7=>⟨_,_,_,rfl,?_⟩⟩;rw [aj (by omega),List.drop_of_length_le (l:=af x) (i:=w+i) (by omega)] at b
   have b:val es=val ((af x).drop w) / 2^r:=by
    rw [←b,dR,Nat.zero_div,Nat.mul_zero,Nat.add_zero]
   rw [aK m,b] at f;exact f.le l7
end Go.Proofs.Tryz
namespace Go.Big
theorem GJ {v1 v2 v' u0 u1 u2 t' B W G ρ T Y:Nat}(hY:Y=(v1*W+v2)*B+v')(hT:T=((u0*W+u1)*W+u2)*B+t')(ht:t'<B)
  (hg:G*v1+ρ=u0*W+u1)(hd:ρ*W+u2<G*v2):T<G*Y:=by
 have a:(u0*W+u1)*W+u2+1<=G*(v1*W+v2):=by
  rw [←hg,Nat.mul_add,Nat.add_mul,←Nat.mul_assoc];omega
 have b:=Nat.mul_le_mul_right B a;have c:G*(v1*W+v2)*B<=G*Y:=by rw [hY,Nat.mul_assoc];exact Nat.mul_le_mul_left _ (Nat.le_add_right _ _)
 rw [Nat.add_mul,Nat.one_mul] at b;omega
theorem yJ {v1 v2 v' u0 u1 u2 t' B W G ρ T Y:Nat}(hY:Y=(v1*W+v2)*B+v')(hT:T=((u0*W+u1)*W+u2)*B+t')(hv:v'<B)(hv1:1<=v1)(hW:0<W)
  (hg:G*v1+ρ=u0*W+u1)(hd:G*v2<=ρ*W+u2)(hG:G<=W):G*Y<T+Y:=by
 have a:G*(v1*W+v2)<=(u0*W+u1)*W+u2:=by
  rw [←hg,Nat.mul_add,Nat.add_mul,←Nat.mul_assoc];omega
 have d:=Nat.mul_le_mul_right B a;have e:G*v'<=W*v':=Nat.mul_le_mul_right _ hG;have f:W*v'<W*B:=Nat.mul_lt_mul_of_pos_left hv hW
 have g:W*B<=v1*W*B:=by
  have:=Nat.mul_le_mul_right (W*B) hv1;rw [Nat.one_mul,←Nat.mul_assoc] at this;exact this
 have b:(v1*W+v2)*B=v1*W*B+v2*B:=Nat.add_mul _ _ _;have c:G*Y=G*(v1*W+v2)*B+G*v':=by rw [hY,Nat.mul_add,Nat.mul_assoc]
 rw [c,hY,b];omega
theorem yK {v1 v2 v' u0 u1 u2 t' B W T Y:Nat}(hY:Y=(v1*W+v2)*B+v')(hT:T=((u0*W+u1)*W+u2)*B+t')(hv:v'<B)(h:T<W*Y):u0*W+u1<=v1*W+v2:=by
 rcases Nat.lt_or_ge (v1*W+v2) (u0*W+u1) with a|a
 ·exfalso;have b:(v1*W+v2+1)*W<=(u0*W+u1)*W:=Nat.mul_le_mul_right _ a;have c:=Nat.mul_le_mul_right B b
  have d:W*Y<=W*((v1*W+v2+1)*B):=by
   rw [hY,Nat.add_mul (v1*W+v2) 1 B,Nat.one_mul];exact Nat.mul_le_mul_left _ (by omega)
  have e:W*((v1*W+v2+1)*B)=(v1*W+v2+1)*W*B:=by grind
  have f:(u0*W+u1)*W*B<=T:=by rw [hT,Nat.add_mul ((u0*W+u1)*W) u2 B];omega
  omega
 ·exact a
theorem Ir {v1 v2 v' u0 u1 u2 t' B W G ρ T Y:Nat}(hY:Y=(v1*W+v2)*B+v')(hT:T=((u0*W+u1)*W+u2)*B+t')(ht:t'<B)(hu:u2<W)
  (hg:G*v1+ρ=u0*W+u1)(hr:ρ<v1):T<(G+1)*Y:=by
 have a:u0*W+u1+1<=(G+1)*v1:=by rw [Nat.add_mul,Nat.one_mul];omega
 have d:=Nat.mul_le_mul_right (W*B) a
 have e:(G+1)*v1*(W*B)<=(G+1)*Y:=by
  rw [hY,Nat.mul_assoc];refine Nat.mul_le_mul_left _ ?_;rw [←Nat.mul_assoc,Nat.add_mul];omega
 have f:((u0*W+u1)*W+u2)*B+t'<(u0*W+u1+1)*(W*B):=by
  have b:(u2+1)*B<=W*B:=Nat.mul_le_mul_right _ hu;rw [Nat.add_mul,Nat.one_mul] at b;have c:(u0*W+u1+1)*(W*B)=(u0*W+u1)*W*B+W*B:=by grind
  rw [c,Nat.add_mul ((u0*W+u1)*W) u2 B];omega
 omega
theorem zj {F U c b g d u Y W S:Nat}{x:Int}(h:F+W*(g*Y)=U+W*S*(c+b))(hc:c<4294967296)(hb:b<=1)(hu:u<4294967296)
  (hx:x=((u:Int)-((c+g*d)%4294967296:Nat)-b)%18446744073709551616) :
  0<=x/\0<=x / 9223372036854775808/\x / 9223372036854775808<=1 /\
  F+W*S*(x%4294967296).toNat+W*(g*(Y+S*d))=U+W*S*u+W*(S*4294967296)*((c+g*d) / 4294967296+(x / 9223372036854775808).toNat):=by
 have n:=Nat.mod_add_div (c+g*d) 4294967296;have hm:(c+g*d)%4294967296<4294967296:=Nat.mod_lt _ (by omega);generalize (c+g*d) / 4294967296=q at *;generalize (c+g*d)%4294967296=m at *
 have key:∃o B:Nat,(x%4294967296).toNat=o/\(x / 9223372036854775808).toNat=B/\u+4294967296*B=o+m+b/\0<=x/\0<=x / 9223372036854775808/\x / 9223372036854775808<=1:=by
  refine ⟨_,_,rfl,rfl,?_,by omega,by omega,by omega⟩;omega
 obtain ⟨o,B,a,e,p,f,i,j⟩:=key;refine ⟨f,i,j,?_⟩;rw [a,e];have k:u+4294967296*(B+q)=o+b+(c+g*d):=by omega
 have l:W*S*u+W*(S*4294967296)*(q+B)=W*S*(u+4294967296*(B+q)):=by grind
 rw [Nat.add_assoc U,l,k];grind
theorem xV {F U c d u Y W S t:Nat}(h:F+W*S*c=U+W*Y)(ht:t=c+u+d) :
  F+W*S*(t%4294967296)+W*(S*4294967296)*(t / 4294967296)=U+W*S*u+W*(Y+S*d):=by
 have a:W*S*(t%4294967296)+W*(S*4294967296)*(t / 4294967296)=W*S*t:=by
  have:=Nat.mod_add_div t 4294967296;have e:W*(S*4294967296)*(t / 4294967296)=W*S*(4294967296*(t / 4294967296)):=by grind
  rw [e,←Nat.mul_add,this]
 rw [Nat.add_assoc,a,ht];grind
end Go.Big
namespace Go.Proofs.Tryz
open Go.Eng Go.Big
theorem _root_.Go.Eng.RD.Zw {V:View}{p:OA}{n c:Nat}{ds:List Nat}(h:RD V p n c ds){i:Int}{K:Int->Prop}(j:Nat)(hj:i=j)(hn:j<ds.length)
  (hK:K ((ds[j]:Nat):Int)):(p.isSome=true)/\(0<=i/\i<(n:Int))/\∃x:Int,(∃a,addrAdd p j=some a/\V.at a (.int .u32 x))/\K x:=by
 have:=h.rd (K:=K) j hj hn hK;subst hj;simpa only [Int.toNat_natCast,Nat.mul_one] using this
theorem Lq {us:List Nat}{rest:List Value}{k:Nat}(h:k<us.length):(ay us++rest)[0+k*1]?=some (.int .u32 (us[k]:Int)):=by
 rw [Nat.zero_add,Nat.mul_one,List.getElem?_append_left (by simpa using h)];exact fK h
theorem tw {us:List Nat}{rest:List Value}{k x:Nat}(h:k<us.length):(ay us++rest).set (0+k*1) (.int .u32 (x:Int))=ay (us.set k x)++rest:=by
 rw [Nat.zero_add,Nat.mul_one,List.set_append_left _ _ (by simpa using h),bo]
theorem CT {y m t s:Nat}(hm:(af y).length=m)(h0:0<m)(ht:t=(af y)[m-1]'(by omega))(hs:s=32-bF t) :
  s<32/\(af (y*2^s)).length=m/\2147483648*4294967296^(m-1)<=y*2^s:=by
 have d:t<4294967296:=by rw [ht];exact (ax y).get _
 have a:t≠0:=by rw [ht];have:=(iC y).last (by omega);simpa [hm] using this
 have f:=oT t;have g:=oS a;have b:bF t<=32:=iO.2 (by omega);have h:0<bF t:=by unfold bF;rw [if_neg a];omega
 have e:=fZ (af y) (m-1) (by omega);rw [ab,List.drop_of_length_le (by omega),←ht] at e;simp only [dR,Nat.mul_zero,Nat.add_zero] at e;have c:=fM ((ax y).take (m-1));rw [List.length_take,Nat.min_eq_left (by omega)] at c;have i:2^bF t*2^s=4294967296:=by rw [←Nat.pow_add,hs,Nat.add_sub_cancel' b]
 have j:2^(bF t-1)*2^s=2147483648:=by rw [←Nat.pow_add,show bF t-1+s=31 from by omega]
 have k:2147483648*4294967296^(m-1)<=y*2^s:=by
  have:2^(bF t-1)*2^s*4294967296^(m-1)<=t*2^s*4294967296^(m-1):=Nat.mul_le_mul_right _ (Nat.mul_le_mul_right _ g);rw [j] at this;have o:t*2^s*4294967296^(m-1)=4294967296^(m-1)*t*2^s:=by grind
  have p:4294967296^(m-1)*t*2^s<=y*2^s:=Nat.mul_le_mul_right _ (by omega);omega
 refine ⟨by omega,?_,k⟩
 have l:y*2^s<4294967296^m:=by
  have n:y<4294967296^(m-1)*(t+1):=by rw [Nat.mul_add,Nat.mul_one];omega
  have q:4294967296^(m-1)*(t+1)*2^s<=4294967296^(m-1)*2^bF t*2^s:=Nat.mul_le_mul_right _ (Nat.mul_le_mul_left _ f)
  have r:4294967296^(m-1)*2^bF t*2^s=4294967296^m:=by
   rw [Nat.mul_assoc,i,←Nat.pow_succ,Nat.succ_eq_add_one,Nat.sub_add_cancel h0]
  have u:y*2^s<4294967296^(m-1)*(t+1)*2^s:=Nat.mul_lt_mul_of_pos_right n (Nat.two_pow_pos s);omega
 have b1:=az.2 l
 have b2:m-1<(af (y*2^s)).length:=by
  rw [rE];have:1*4294967296^(m-1)<=2147483648*4294967296^(m-1):=Nat.mul_le_mul_right _ (by omega);omega
 omega
theorem UI {us:List Nat}{k:Nat}(h:k+2<us.length)(hz:val (us.drop (k+3))=0) :
  val us=((us[k+2]*4294967296+us[k+1])*4294967296+us[k])*4294967296^k+val (us.take k):=by
 have a:=fZ us k (by omega);rw [List.drop_eq_getElem_cons (i:=k+1) (by omega),List.drop_eq_getElem_cons (i:=k+1+1) (by omega),aZ,aZ] at a;rw [show k+1+1+1=k+3 from rfl,hz] at a;rw [a];grind
theorem UH {us:List Nat}{k:Nat}(h:us.length=k+2):val us=(us[k+1]*4294967296+us[k])*4294967296^k+val (us.take k):=by
 have a:=fZ us k (by omega);rw [List.drop_eq_getElem_cons (i:=k+1) (by omega),aZ,List.drop_of_length_le (by omega),dR] at a;rw [a];grind
theorem a_ (us:List Nat)(k:Nat)(h:k<=us.length):val us=val (us.take k)+4294967296^k*val (us.drop k):=by
 conv=>lhs;rw [←List.take_append_drop k us]
 rw [cW,List.length_take,Nat.min_eq_left h]
theorem gM {us:List Nat}{k:Nat}(h:val us<4294967296^k)(hk:k<=us.length):val (us.drop k)=0:=by
 have:=a_ us k hk;rcases Nat.eq_zero_or_pos (val (us.drop k)) with e|e
 ·exact e
 ·have:4294967296^k*1<=4294967296^k*val (us.drop k):=Nat.mul_le_mul_left _ e;omega
theorem _root_.Go.Eng.RD.Ru {V:View}{p:OA}{n c:Nat}{ds:List Nat}(h:RD V p n c ds){i:Int}{K:Int->Prop}(j:Nat)(hj:i=j){d:Nat}(hn:ds[j]?=some d)
  (hK:K (d:Int)):(p.isSome=true)/\(0<=i/\i<(n:Int))/\∃x:Int,(∃a,addrAdd p (i.toNat*1)=some a/\V.at a (.int .u32 x))/\K x:=by
 obtain ⟨b,e⟩:=List.getElem?_eq_some_iff.1 hn;exact h.rd j hj b (by rw [e];exact hK)
theorem iE {us:List Nat}{rest:List Value}{k d:Nat}(h:us[k]?=some d):(ay us++rest)[0+k*1]?=some (.int .u32 (d:Int)):=by
 obtain ⟨a,b⟩:=List.getElem?_eq_some_iff.1 h;rw [Lq a,b]
structure Bl (us vs:List Nat) (j G i b c:Nat) (fs:List Nat):Prop where
 b1:b<=1
 c1:c<4294967296
 hi:i<=vs.length
 len:fs.length=us.length
 fh:bM fs
 dr:fs.drop (j+i)=us.drop (j+i)
 tk:fs.take j=us.take j
 eq:val (fs.take (j+i))+4294967296^j*(G*val (vs.take i))=val (us.take (j+i))+4294967296^j*4294967296^i*(c+b)
theorem Bl.read {us vs:List Nat}{j G i b c:Nat}{fs:List Nat}(h:Bl us vs j G i b c fs)(hj:j+i<us.length):∃u,fs[j+i]?=some u/\us[j+i]?=some u:=by
 have:=congrArg (fun l=>l[0]?) h.dr;simp only [List.getElem?_drop,Nat.add_zero] at this;exact ⟨us[j+i],by rw [this,List.getElem?_eq_getElem hj],List.getElem?_eq_getElem hj⟩
theorem Bl.step {us vs:List Nat}{j G i b c:Nat}{fs:List Nat}(h:Bl us vs j G i b c fs)(hG:G<4294967296)(hdv:bM vs)(GO:bM us)(hi:i<vs.length)(hj:j+i<us.length) :
  ∃u d ob od cn cb:Nat,vs[i]?=some d/\fs[j+i]?=some u/\u64.wrap ((c:Int)+u64.wrap ((G:Int)*u64.wrap (d:Int)))=(cn:Int)/\(cn:Int).fdiv (2^32)=(cb:Int) /\
   (u64.wrap (u64.wrap (u64.wrap (u:Int)-bh .and .u64 (cn:Int) 4294967295)-(b:Int))).fdiv (2^63)=(ob:Int) /\
   u32.wrap (u64.wrap (u64.wrap (u64.wrap (u:Int)-bh .and .u64 (cn:Int) 4294967295)-(b:Int)))=(od:Int)/\od<4294967296 /\
   Bl us vs j G (i+1) ob cb (fs.set (j+i) od):=by
 obtain ⟨u,g,a⟩:=h.read hj;obtain ⟨k,l,-,m,n,z,o,p⟩:=h;have A:=hdv.get (i:=i) hi;have B:u<4294967296:=GO u (List.mem_of_getElem? a);have C:G*vs[i]<=4294967295*4294967295:=Nat.mul_le_mul (by omega) (by omega);refine ⟨u,vs[i],?_⟩
 have q:u64.wrap ((c:Int)+u64.wrap ((G:Int)*u64.wrap ((vs[i]:Nat):Int)))=((c+G*vs[i]:Nat):Int):=by
  rw [aG (x:=((vs[i]:Nat):Int)) (by omega),←Int.natCast_mul];generalize G*vs[i]=gd at *;rw [aG (x:=((gd:Nat):Int)) (by omega),aG (by omega)];omega
 have r:=zj (x:=((u:Int)-((c+G*vs[i])%4294967296:Nat)-b)%18446744073709551616) p l k B rfl;have hand:bh .and .u64 ((c+G*vs[i]:Nat):Int) 4294967295=(((c+G*vs[i])%4294967296:Nat):Int):=Fi _ (by omega)
 have e:u64.wrap (u64.wrap (u64.wrap (u:Int)-(((c+G*vs[i])%4294967296:Nat):Int))-(b:Int))=((u:Int)-((c+G*vs[i])%4294967296:Nat)-b)%18446744073709551616:=by
  rw [aG (x:=(u:Int)) (by omega),qS,qS];omega
 have s:(c+G*vs[i]) / 4294967296<4294967296:=by
  generalize G*vs[i]=gd at *;omega
 generalize ((u:Int)-((c+G*vs[i])%4294967296:Nat)-b)%18446744073709551616=xx at *;obtain ⟨E,F,H,t⟩:=r;obtain ⟨ob,w⟩:∃ob:Nat,xx / 9223372036854775808=ob:=⟨(xx / 9223372036854775808).toNat,by omega⟩;obtain ⟨od,f⟩:∃od:Nat,xx%4294967296=od:=⟨(xx%4294967296).toNat,by omega⟩;rw [w,f] at t;simp only [Int.toNat_natCast] at t;have y:od<4294967296:=by omega
 have D:ob<=1:=by omega
 refine ⟨ob,od,c+G*vs[i],(c+G*vs[i]) / 4294967296,List.getElem?_eq_getElem hi,g,q,?_,?_,?_,y,D,s,hi,by simpa using m,n.set _ _ y,?_,?_,?_⟩
 ·rw [fG]
 ·rw [hand,e,JE,w]
 ·rw [hand,e,gZ,f]
 ·rw [List.drop_set_of_lt (by omega)];have:=congrArg (List.drop 1) z;simpa [List.drop_drop,Nat.add_comm,Nat.add_assoc,Nat.add_left_comm] using this
 ·rw [List.take_set,List.set_eq_of_length_le (by simp;omega)];exact o
 ·have v:us[j+i]=u:=by rw [List.getElem?_eq_getElem hj] at a;exact Option.some.inj a
  rw [show j+(i+1)=j+i+1 from by omega,aE _ _ _ (by omega),aq us (j+i) (by omega),aq vs i hi,Nat.pow_succ,Nat.pow_add,v];exact t
theorem H8 {ks us:List Nat}{j t a:Nat}(h1:ks.take j=us.take j)(hk:j<=ks.length)(hu:j<=us.length)(h:val ks+4294967296^j*a=val us+4294967296^j*t):val (ks.drop j)+a=val (us.drop j)+t:=by
 have b:=a_ ks j hk;have c:=a_ us j hu;rw [h1] at b;have:4294967296^j*(val (ks.drop j)+a)=4294967296^j*(val (us.drop j)+t):=by rw [Nat.mul_add,Nat.mul_add];omega
 exact Nat.eq_of_mul_eq_mul_left (Nat.pow_pos (by omega)) this
theorem Bl.fin {us vs:List Nat}{j G b c:Nat}{fs:List Nat}(h:Bl us vs j G vs.length b c fs)(GO:bM us)(hj:j+vs.length<us.length)(hz:val (us.drop (j+vs.length+1))=0) :
  ∃u ob od:Nat,fs[j+vs.length]?=some u /\
   (u64.wrap (u64.wrap (u64.wrap (u:Int)-(c:Int))-(b:Int))).fdiv (2^63)=(ob:Int) /\
   u32.wrap (u64.wrap (u64.wrap (u64.wrap (u:Int)-(c:Int))-(b:Int)))=(od:Int)/\od<4294967296/\ob<=1 /\
   bM (fs.set (j+vs.length) od)/\(fs.set (j+vs.length) od).length=us.length/\(fs.set (j+vs.length) od).take j=us.take j/\val ((fs.set (j+vs.length) od).drop (j+vs.length+1))=0 /\
   val ((fs.set (j+vs.length) od).drop j)+G*val vs=val (us.drop j)+4294967296^(vs.length+1)*ob:=by
 obtain ⟨u,q,f⟩:=h.read hj;obtain ⟨r,i,-,s,t,D,v,l⟩:=h;have E:u<4294967296:=GO u (List.mem_of_getElem? f);have w:us[j+vs.length]=u:=by rw [List.getElem?_eq_getElem hj] at f;exact Option.some.inj f
 rw [List.take_length] at l;have k:=zj (g:=G) (d:=0) (Y:=val vs) (x:=((u:Int)-((c+G*0)%4294967296:Nat)-b)%18446744073709551616) l i r E rfl;simp only [Nat.mul_zero,Nat.add_zero] at k;rw [Nat.mod_eq_of_lt i,Nat.div_eq_of_lt i,Nat.zero_add] at k
 have m:u64.wrap (u64.wrap (u64.wrap (u:Int)-(c:Int))-(b:Int))=((u:Int)-(c:Int)-b)%18446744073709551616:=by
  rw [aG (x:=(u:Int)) (by omega),qS,qS];omega
 generalize ((u:Int)-(c:Int)-b)%18446744073709551616=xx at *;obtain ⟨K,L,M,y⟩:=k;obtain ⟨ob,B⟩:∃ob:Nat,xx / 9223372036854775808=ob:=⟨(xx / 9223372036854775808).toNat,by omega⟩;obtain ⟨od,n⟩:∃od:Nat,xx%4294967296=od:=⟨(xx%4294967296).toNat,by omega⟩;rw [B,n] at y;simp only [Int.toNat_natCast] at y;have C:od<4294967296:=by omega
 have F:ob<=1:=by omega
 obtain ⟨e,a⟩:∃e,e=fs.set (j+vs.length) od:=⟨_,rfl⟩;refine ⟨u,ob,od,q,by rw [m,JE,B],by rw [m,gZ,n],C,F,?_⟩;rw [←a];have z:e.length=us.length:=by rw [a];simpa using s
 have A:bM e:=by rw [a];exact t.set _ _ C
 have o:e.take j=us.take j:=by rw [a,List.take_set,List.set_eq_of_length_le (by simp;omega)];exact v
 have p:e.drop (j+vs.length+1)=us.drop (j+vs.length+1):=by
  rw [a,List.drop_set_of_lt (by omega)];have:=congrArg (List.drop 1) D;simpa [List.drop_drop,Nat.add_comm,Nat.add_assoc,Nat.add_left_comm] using this
 refine ⟨A,z,o,by rw [p];exact hz,H8 o (by omega) (by omega) ?_⟩;have H:=a_ e (j+vs.length+1) (by omega);have I:=a_ us (j+vs.length+1) (by omega);have N:val (e.take (j+vs.length+1))=val (fs.take (j+vs.length))+4294967296^j*4294967296^vs.length*od:=by rw [a,aE _ _ _ (by omega),Nat.pow_add]
 have O:val (us.take (j+vs.length+1))=val (us.take (j+vs.length))+4294967296^j*4294967296^vs.length*u:=by rw [aq us (j+vs.length) (by omega),Nat.pow_add,w]
 rw [p,hz,Nat.mul_zero,Nat.add_zero] at H;rw [hz,Nat.mul_zero,Nat.add_zero] at I;have J:4294967296^j*(4294967296^vs.length*4294967296)*ob=4294967296^j*(4294967296^(vs.length+1)*ob):=by rw [Nat.pow_succ];grind
 rw [J] at y;omega
structure Bj (ks vs:List Nat) (j i c:Nat) (gs:List Nat):Prop where
 c1:c<=1
 hi:i<=vs.length
 len:gs.length=ks.length
 fh:bM gs
 dr:gs.drop (j+i)=ks.drop (j+i)
 tk:gs.take j=ks.take j
 eq:val (gs.take (j+i))+4294967296^j*4294967296^i*c=val (ks.take (j+i))+4294967296^j*val (vs.take i)
theorem Bj.read {ks vs:List Nat}{j i c:Nat}{gs:List Nat}(h:Bj ks vs j i c gs)(hj:j+i<ks.length):∃u,gs[j+i]?=some u/\ks[j+i]?=some u:=by
 have:=congrArg (fun l=>l[0]?) h.dr;simp only [List.getElem?_drop,Nat.add_zero] at this;exact ⟨ks[j+i],by rw [this,List.getElem?_eq_getElem hj],List.getElem?_eq_getElem hj⟩
theorem Bj.step {ks vs:List Nat}{j i c:Nat}{gs:List Nat}(h:Bj ks vs j i c gs)(hdv:bM vs)(hdk:bM ks)(hi:i<vs.length)(hj:j+i<ks.length) :
  ∃u d od cn cb:Nat,vs[i]?=some d/\gs[j+i]?=some u/\u64.wrap ((c:Int)+u64.wrap (u64.wrap (u:Int)+u64.wrap (d:Int)))=(cn:Int)/\(cn:Int).fdiv (2^32)=(cb:Int) /\
   u32.wrap (cn:Int)=(od:Int)/\Bj ks vs j (i+1) cb (gs.set (j+i) od):=by
 obtain ⟨u,b,a⟩:=h.read hj;obtain ⟨o,-,e,f,p,g,k⟩:=h;have q:=hdv.get (i:=i) hi;have s:u<4294967296:=hdk u (List.mem_of_getElem? a);have l:ks[j+i]=u:=by rw [List.getElem?_eq_getElem hj] at a;exact Option.some.inj a
 obtain ⟨t5,r⟩:∃t5,t5=c+u+vs[i]:=⟨_,rfl⟩;have m:=xV k r
 have n:u64.wrap ((c:Int)+u64.wrap (u64.wrap (u:Int)+u64.wrap ((vs[i]:Nat):Int)))=(t5:Int):=by
  rw [aG (x:=((vs[i]:Nat):Int)) (by omega),aG (x:=(u:Int)) (by omega),aG (x:=(u:Int)+_) (by omega),aG (by omega)];omega
 refine ⟨u,vs[i],t5%4294967296,t5,t5 / 4294967296,List.getElem?_eq_getElem hi,b,n,by rw [fG],by rw [gZ];omega,by omega,hi,by simpa using e,f.set _ _ (by omega),?_,?_,?_⟩
 ·rw [List.drop_set_of_lt (by omega)];have:=congrArg (List.drop 1) p;simpa [List.drop_drop,Nat.add_comm,Nat.add_assoc,Nat.add_left_comm] using this
 ·rw [List.take_set,List.set_eq_of_length_le (by simp;omega)];exact g
 ·rw [show j+(i+1)=j+i+1 from by omega,aE _ _ _ (by omega),aq ks (j+i) (by omega),aq vs i hi,Nat.pow_succ,Nat.pow_add,l];exact m
theorem Bj.fin {ks vs:List Nat}{j c:Nat}{gs:List Nat}(h:Bj ks vs j vs.length c gs)(hdk:bM ks)(hj:j+vs.length<ks.length)(hz:val (ks.drop (j+vs.length+1))=0) :
  ∃u od kp:Nat,gs[j+vs.length]?=some u/\u32.wrap ((u:Int)+u32.wrap (c:Int))=(od:Int)/\kp<=1 /\
   bM (gs.set (j+vs.length) od)/\(gs.set (j+vs.length) od).length=ks.length/\(gs.set (j+vs.length) od).take j=ks.take j/\val ((gs.set (j+vs.length) od).drop (j+vs.length+1))=0 /\
   val ((gs.set (j+vs.length) od).drop j)+4294967296^(vs.length+1)*kp=val (ks.drop j)+val vs:=by
 obtain ⟨u,l,b⟩:=h.read hj;obtain ⟨v,-,m,n,w,o,f⟩:=h;have C:u<4294967296:=hdk u (List.mem_of_getElem? b);have p:ks[j+vs.length]=u:=by rw [List.getElem?_eq_getElem hj] at b;exact Option.some.inj b
 rw [List.take_length] at f;have g:=xV (d:=0) (u:=u) (Y:=val vs) (t:=c+u) f (by omega);simp only [Nat.mul_zero,Nat.add_zero] at g;have y:(c+u)%4294967296<4294967296:=by omega
 have q:(c+u) / 4294967296<=1:=by omega
 have hw:u32.wrap ((u:Int)+u32.wrap (c:Int))=(((c+u)%4294967296:Nat):Int):=by
  rw [pM (x:=(c:Int)) (by omega),gZ];omega
 generalize (c+u)%4294967296=od at *;generalize (c+u) / 4294967296=kp at *;obtain ⟨a,e⟩:∃a,a=gs.set (j+vs.length) od:=⟨_,rfl⟩;refine ⟨u,od,kp,l,hw,q,?_⟩;rw [←e];have r:a.length=ks.length:=by rw [e];simpa using m
 have s:bM a:=by rw [e];exact n.set _ _ y
 have i:a.take j=ks.take j:=by rw [e,List.take_set,List.set_eq_of_length_le (by simp;omega)];exact o
 have k:a.drop (j+vs.length+1)=ks.drop (j+vs.length+1):=by
  rw [e,List.drop_set_of_lt (by omega)];have:=congrArg (List.drop 1) w;simpa [List.drop_drop,Nat.add_comm,Nat.add_assoc,Nat.add_left_comm] using this
 refine ⟨s,r,i,by rw [k];exact hz,H8 i (by omega) (by omega) ?_⟩;have z:=a_ a (j+vs.length+1) (by omega);have A:=a_ ks (j+vs.length+1) (by omega);have D:val (a.take (j+vs.length+1))=val (gs.take (j+vs.length))+4294967296^j*4294967296^vs.length*od:=by rw [e,aE _ _ _ (by omega),Nat.pow_add]
 have E:val (ks.take (j+vs.length+1))=val (ks.take (j+vs.length))+4294967296^j*4294967296^vs.length*u:=by rw [aq ks (j+vs.length) (by omega),Nat.pow_add,p]
 rw [k,hz,Nat.mul_zero,Nat.add_zero] at z;rw [hz,Nat.mul_zero,Nat.add_zero] at A;have B:4294967296^j*(4294967296^vs.length*4294967296)*kp=4294967296^j*(4294967296^(vs.length+1)*kp):=by rw [Nat.pow_succ];grind
 rw [B] at g;omega
structure GK (v1 v2 v' u0 u1 u2 t' B T Y:Nat):Prop where
 hY:Y=(v1*4294967296+v2)*B+v'
 hT:T=((u0*4294967296+u1)*4294967296+u2)*B+t'
 qG:v'<B
 B9:t'<B
 UK:2147483648<=v1
 Xa:v1<4294967296
 UL:v2<4294967296
 ZA:u0<4294967296
 ZB:u1<4294967296
 W_:u2<4294967296
 lt:T<4294967296*Y
structure GI (v1 f T Y G ρ:Nat):Prop where
 r:ρ<4294967296
 g:G<=4294967297
 eq:G*v1+ρ=f
 lt:T<(G+1)*Y
structure GF (T Y G:Nat):Prop where
 g:G<4294967296
 lt:T<(G+1)*Y
 gt:G*Y<T+Y
section
variable {v1 v2 v' u0 u1 u2 t' B T Y G ρ:Nat}
theorem GK.start (h:GK v1 v2 v' u0 u1 u2 t' B T Y):GI v1 (u0*4294967296+u1) T Y ((u0*4294967296+u1) / v1) ((u0*4294967296+u1)%v1):=by
 have c:=yK h.hY h.hT h.qG h.lt;have d:=h.UK;have e:=h.Xa;have f:=h.UL;have a:=Nat.div_add_mod (u0*4294967296+u1) v1;have b:=Nat.mod_lt (u0*4294967296+u1) (show 0<v1 by omega);refine ⟨by omega,?_,by rw [Nat.mul_comm];exact a,?_⟩
 ·have:(u0*4294967296+u1) / v1<4294967298:=by
   rw [Nat.div_lt_iff_lt_mul (by omega)];omega
  omega
 ·rw [Nat.mul_comm] at a;exact Ir h.hY h.hT h.B9 h.W_ a b
theorem GK.LX (h:GK v1 v2 v' u0 u1 u2 t' B T Y)(hG:4294967296<=G):T<G*Y:=Nat.lt_of_lt_of_le h.lt (Nat.mul_le_mul_right _ hG)
theorem GK.dec (h:GK v1 v2 v' u0 u1 u2 t' B T Y)(hi:GI v1 (u0*4294967296+u1) T Y G ρ)(hd:ρ*4294967296+u2<G*v2):T<G*Y:=GJ h.hY h.hT h.B9 hi.eq hd
theorem GK.last (h:GK v1 v2 v' u0 u1 u2 t' B T Y)(hi:GI v1 (u0*4294967296+u1) T Y G ρ)(hG:G<4294967296)(hd:G*v2<=ρ*4294967296+u2):GF T Y G:=
 ⟨hG,hi.lt,yJ h.hY h.hT h.qG (by have:=h.UK;omega) (by omega) hi.eq hd (by omega)⟩
theorem GK.down (h:GK v1 v2 v' u0 u1 u2 t' B T Y)(hi:GI v1 (u0*4294967296+u1) T Y G ρ)(h1:T<G*Y):1<=G/\(G-1)*v1+(ρ+v1)=u0*4294967296+u1/\T<(G-1+1)*Y:=by
 have a:1<=G:=by
  rcases Nat.eq_zero_or_pos G with b|b
  ·subst b;omega
  ·exact b
 have:=hi.eq;refine ⟨a,?_,by rw [Nat.sub_add_cancel a];exact h1⟩;have:G*v1=(G-1)*v1+v1:=by conv=>lhs;rw [←Nat.sub_add_cancel a,Nat.add_mul,Nat.one_mul]
 omega
theorem GK.LZ (h:GK v1 v2 v' u0 u1 u2 t' B T Y)(hi:GI v1 (u0*4294967296+u1) T Y G ρ)(h1:T<G*Y)(h2:4294967296<=ρ+v1):1<=G/\GF T Y (G-1):=by
 obtain ⟨a,e,b⟩:=h.down hi h1;have d:=yK h.hY h.hT h.qG h.lt;have i:=h.UL;have j:=h.UK;have k:=hi.g
 have f:G-1<4294967296:=by
  rcases Nat.lt_or_ge (G-1) 4294967296 with c|c
  ·exact c
  ·have:=Nat.mul_le_mul_right v1 c;omega
 refine ⟨a,f,b,yJ h.hY h.hT h.qG (by omega) (by omega) e ?_ (by omega)⟩;have l:(G-1)*v2<=4294967295*4294967295:=Nat.mul_le_mul (by omega) (by omega);omega
theorem GK.L8 (h:GK v1 v2 v' u0 u1 u2 t' B T Y)(hi:GI v1 (u0*4294967296+u1) T Y G ρ)(h1:T<G*Y)(h2:ρ+v1<4294967296):1<=G/\GI v1 (u0*4294967296+u1) T Y (G-1) (ρ+v1):=by
 obtain ⟨a,c,b⟩:=h.down hi h1;have d:=hi.g;exact ⟨a,h2,by omega,c,b⟩
theorem GK.words (h:GK v1 v2 v' u0 u1 u2 t' B T Y) :
  bh .or .u64 (u64.wrap (u64.wrap (u0:Int)*2^32)) (u64.wrap (u1:Int))=((u0*4294967296+u1:Nat):Int) /\
  u64.wrap (((u0*4294967296+u1:Nat):Int).tdiv (v1:Int))=(((u0*4294967296+u1) / v1:Nat):Int) /\
  ((u0*4294967296+u1:Nat):Int).tmod (v1:Int)=(((u0*4294967296+u1)%v1:Nat):Int):=by
 have a:=h.ZA;have b:=h.ZB;have c:((2:Int)^32)=4294967296:=by decide
 refine ⟨?_,?_,?_⟩
 ·rw [c,aG (x:=(u0:Int)) (by omega),aG (x:=(u1:Int)) (by omega),aG (by omega),CA _ _ a b];omega
 ·rw [Int.tdiv_eq_ediv_of_nonneg (by omega),←Int.natCast_ediv];have d:(u0*4294967296+u1) / v1<=u0*4294967296+u1:=Nat.div_le_self _ _;generalize (u0*4294967296+u1) / v1=qq at *;rw [aG (by omega)]
 ·rw [Int.tmod_eq_emod_of_nonneg (by omega),←Int.natCast_emod]
theorem GK.Oa (h:GK v1 v2 v' u0 u1 u2 t' B T Y)(hi:GI v1 (u0*4294967296+u1) T Y G ρ) :
  u64.wrap ((G:Int)*(v2:Int))=((G*v2:Nat):Int)/\bh .or .u64 (u64.wrap ((ρ:Int)*2^32)) (u64.wrap (u2:Int))=((ρ*4294967296+u2:Nat):Int) /\
  u64.wrap ((ρ:Int)+v1)=((ρ+v1:Nat):Int)/\(1<=G->u64.wrap ((G:Int)-1)=((G-1:Nat):Int)):=by
 have a:=h.W_;have b:=hi.r;have c:=hi.g;have f:=h.UL;have d:=h.Xa;have e:((2:Int)^32)=4294967296:=by decide
 refine ⟨?_,?_,?_,?_⟩
 ·have d:G*v2<=4294967297*4294967295:=Nat.mul_le_mul c (by omega);rw [←Int.natCast_mul,aG (by omega)]
 ·rw [e,aG (x:=(ρ:Int)*4294967296) (by omega),aG (by omega),CA _ _ b a];omega
 ·rw [aG (by omega)];omega
 ·intro h;rw [aG (by omega)];omega
end
end Go.Proofs.Tryz
namespace Go.Proofs.Tryz
open Go.Eng Go.Big
structure OI (X Y n n8:Nat) (j:Int) (us qs:List Nat):Prop where
 j0:-1<=j
 j1:j<(n+1-n8:Nat)
 ul:us.length=n+1
 ud:bM us
 ql:qs.length=n+1-n8
 qd:bM qs
 eq:X=val us+Y*(4294967296^(j+1).toNat*val (qs.drop (j+1).toNat))
 lt:val (us.drop (j+1).toNat)<Y
structure DK (Y n8 k v1 v2:Nat):Prop where
 Tj:n8=k+2
 len:(af Y).length=n8
 g1:(af Y)[k+1]?=some v1
 g2:(af Y)[k]?=some v2
 l1:2147483648<=v1
 u1:v1<4294967296
 u2:v2<4294967296
 eq:Y=(v1*4294967296+v2)*4294967296^k+val ((af Y).take k)
 lt:val ((af Y).take k)<4294967296^k
 top:Y<4294967296^n8
theorem DK.of {Y n8:Nat}(hl:(af Y).length=n8)(h2:2<=n8)(ht:2147483648*4294967296^(n8-1)<=Y):∃k v1 v2,DK Y n8 k v1 v2:=by
 obtain ⟨k,e⟩:∃k,n8=k+2:=⟨n8-2,by omega⟩;have a:=UH (us:=af Y) (k:=k) (by omega);rw [ab] at a;have c:=fM ((ax Y).take k);rw [List.length_take,Nat.min_eq_left (by omega)] at c;have f:=(ax Y).get (i:=k+1) (by omega);have g:=(ax Y).get (i:=k) (by omega)
 have b:2147483648<=(af Y)[k+1]:=by
  rcases Nat.lt_or_ge (af Y)[k+1] 2147483648 with d|d
  ·exfalso;have h:((af Y)[k+1]*4294967296+(af Y)[k])+1<=2147483648*4294967296:=by omega
   have j:=Nat.mul_le_mul_right (4294967296^k) h;rw [Nat.add_mul,Nat.one_mul] at j;have l:2147483648*4294967296^(k+1)=2147483648*4294967296*4294967296^k:=by rw [Nat.pow_succ];grind
   rw [show n8-1=k+1 from by omega,l] at ht;omega
  ·exact d
 exact ⟨k,_,_,e,hl,List.getElem?_eq_getElem _,List.getElem?_eq_getElem _,b,f,g,a,c,by rw [←hl,←az];exact Nat.le_refl _⟩
theorem OI.start {x X Y n n8 s:Nat}(hX:X=x*2^s)(hx:(af x).length=n)(hs:s<32)(Tj:2<=n8)(hn:n8<=n)(hY:2147483648*4294967296^(n8-1)<=Y)(hXl:(af X).length<=n+1) :
  OI X Y n n8 (((n+1-n8:Nat):Int)-1) ((af X++[0,0]).take (n+1)) (List.replicate (n+1-n8) 0):=by
 have h:n<=(af X).length:=by rw [←hx,hX];exact aB (Nat.le_mul_of_pos_right _ (Nat.two_pow_pos s))
 have g:((af X++[0,0]).take (n+1)).length=n+1:=by simp;omega
 have a:val ((af X++[0,0]).take (n+1))=X:=by
  have b:val (af X++[0,0])=X:=by rw [cW,ab];simp
  have c:=a_ (af X++[0,0]) (n+1) (by simp;omega)
  have d:val ((af X++[0,0]).drop (n+1))=0:=by
   refine gM ?_ (by simp;omega);rw [b];exact az.1 (by omega)
  rw [d,Nat.mul_zero,Nat.add_zero,b] at c;exact c.symm
 have e:(((n+1-n8:Nat):Int)-1+1).toNat=n+1-n8:=by omega
 refine ⟨by omega,by omega,g,(bM.append.2 ⟨ax X,by simp [bM]⟩).take _,by simp,bM.rep _,?_,?_⟩
 ·rw [e,List.drop_of_length_le (by simp),dR,Nat.mul_zero,Nat.mul_zero,Nat.add_zero,a]
 ·rw [e];have b:=a_ ((af X++[0,0]).take (n+1)) (n+1-n8) (by omega);rw [a] at b;have f:X<4294967296^n*2^s:=by rw [hX];exact Nat.mul_lt_mul_of_pos_right (by rw [←hx];exact az.1 (Nat.le_refl _)) (Nat.two_pow_pos s)
  have i:2^s<=2^31:=Nat.pow_le_pow_right (by omega) (by omega)
  have c:4294967296^n*2^s<=4294967296^(n+1-n8)*Y:=by
   have b1:4294967296^n=4294967296^(n+1-n8)*4294967296^(n8-1):=by rw [←Nat.pow_add];congr 1;omega
   rw [b1,Nat.mul_assoc];refine Nat.mul_le_mul_left _ ?_;have b2:2^s*4294967296^(n8-1)<=2147483648*4294967296^(n8-1):=Nat.mul_le_mul_right _ (by omega);rw [Nat.mul_comm];omega
  have d:4294967296^(n+1-n8)*val (((af X++[0,0]).take (n+1)).drop (n+1-n8))<4294967296^(n+1-n8)*Y:=by omega
  exact Nat.lt_of_mul_lt_mul_left d
theorem OI.body {X Y n n8 k v1 v2 j:Nat}{us qs:List Nat}(h:OI X Y n n8 (j:Int) us qs)(hd:DK Y n8 k v1 v2)(hjn:j+n8<=n) :
  val (us.drop (j+n8+1))=0/\∃u0 u1 u2 t',us[j+n8]?=some u0/\us[j+n8-1]?=some u1/\us[j+n8-2]?=some u2/\GK v1 v2 (val ((af Y).take k)) u0 u1 u2 t' (4294967296^k) (val (us.drop j)) Y:=by
 obtain ⟨-,-,m,a,o,p,e,f⟩:=h;have b:((j:Int)+1).toNat=j+1:=by omega
 rw [b] at e f;have q:=hd.Tj;have r:=hd.top;have g:val (us.drop j)=us[j]+4294967296*val (us.drop (j+1)):=by rw [List.drop_eq_getElem_cons (by omega),aZ]
 have l:=a.get (i:=j) (by omega)
 have c:val (us.drop (j+n8+1))=0:=by
  have:=gM (us:=us.drop (j+1)) (k:=n8) (by omega) (by simp;omega);rw [List.drop_drop] at this;rw [show j+n8+1=j+1+n8 from by omega];exact this
 have d:=fM ((a.drop j).take k);rw [List.length_take,List.length_drop,Nat.min_eq_left (by omega)] at d
 refine ⟨c,us[j+n8],us[j+n8-1],us[j+n8-2],val ((us.drop j).take k),List.getElem?_eq_getElem _,List.getElem?_eq_getElem _,List.getElem?_eq_getElem _,
  hd.eq,?_,hd.lt,d,hd.l1,hd.u1,hd.u2,a.get _,a.get _,a.get _,by omega⟩
 have:=UI (us:=us.drop j) (k:=k) (by simp;omega) (by rw [List.drop_drop,show j+(k+3)=j+n8+1 from by omega];exact c);simp only [List.getElem_drop] at this;rw [this];congr<;>omega
theorem OI.next {X Y n n8 j H:Nat}{us qs hs:List Nat}(h:OI X Y n n8 (j:Int) us qs)(hjn:j+n8<=n)(h1:hs.length=us.length)(YQ:bM hs)(h2:hs.take j=us.take j)(h3:val (hs.drop j)+H*Y=val (us.drop j))(h4:val (hs.drop j)<Y)(hH:H<4294967296) :
  OI X Y n n8 ((j:Int)-1) hs (qs.set j H):=by
 obtain ⟨-,f,k,m,g,i,b,o⟩:=h;have a:((j:Int)+1).toNat=j+1:=by omega
 have c:((j:Int)-1+1).toNat=j:=by omega
 rw [a] at b;refine ⟨by omega,by omega,by omega,YQ,by simpa using g,i.set _ _ hH,?_,by rw [c];exact h4⟩;have d:=a_ hs j (by omega);have e:=a_ us j (by omega);rw [h2] at d;rw [←h3] at e;rw [c,List.drop_eq_getElem_cons (l:=qs.set j H) (by simp;omega),List.getElem_set_self,List.drop_set_of_lt (by omega),aZ,b,d,e,Nat.pow_succ];grind
theorem OI.done {x y X Y n n8 s:Nat}{us qs:List Nat}(h:OI X Y n n8 (-1) us qs)(hX:X=x*2^s)(hY:Y=y*2^s)(hn:n8<=n+1)(hYl:Y<4294967296^n8):val qs=x / y/\val (us.take n8) / 2^s=x%y:=by
 obtain ⟨-,-,f,g,i,j,a,b⟩:=h;have a:X=val us+Y*val qs:=by simpa using a
 have b:val us<Y:=by simpa using b
 have e:0<Y:=by omega
 have c:=gM (us:=us) (k:=n8) (by omega) (by omega)
 have d:val (us.take n8)=val us:=by
  have:=a_ us n8 (by omega);rw [c,Nat.mul_zero,Nat.add_zero] at this;exact this.symm
 constructor
 ·rw [←Nat.mul_div_mul_right x y (Nat.two_pow_pos s),←hX,←hY,a,Nat.add_mul_div_left _ _ e,Nat.div_eq_of_lt b,Nat.zero_add]
 ·have:x*2^s%(y*2^s)=val us:=by
   rw [←hX,←hY,a,Nat.add_mul_mod_self_left,Nat.mod_eq_of_lt b]
  rw [Nat.mul_mod_mul_right] at this;rw [d,←this,Nat.mul_div_cancel _ (Nat.two_pow_pos s)]
set_option maxHeartbeats 8000000 in
theorem DU {V:View}{p q:OA}{n c m e:Nat}{x y:Nat}(ha:RN V p n c x)(hb:RN V q m e y)(hn:n<=1099511627776)(hm2:2<=m)(hle:y<=x) :
  Acts prog 225 #[.slice p n c,.slice q m e] V fun r V'=>∃p1 n1 c1 p2 n2 c2,r=.tuple #[.slice p1 n1 c1,.slice p2 n2 c2]/\RN V' p1 n1 c1 (x / y)/\RN V' p2 n2 c2 (x%y):=by
 have l:=ha.len;have a0:=hb.len;have b6:m<=n:=by rw [l,a0];exact aB hle
 refine Dh p n c q m e V _ ?_;simp (disch:=omega) only [i64w];refine hb.rd (m-1) (by omega) (by omega) fun V1 l1=>(fO _ ((ax y).get (by omega))).mono ?_;rintro r V2 l2 rfl;refine ⟨_,rfl,?_⟩;obtain ⟨t,E⟩:∃t,t=(af y)[m-1]'(by omega):=⟨_,rfl⟩;rw [←E];have b7:bF t<=32:=iO.2 (by rw [E];exact (ax y).get _);obtain ⟨s,hs⟩:∃s,s=32-bF t:=⟨_,rfl⟩;have es:(32-(bF t:Int))=(s:Int):=by omega
 obtain ⟨KO,o,Tu⟩:=CT a0.symm (by omega) E hs;rw [es,aG (by omega)];clear es b7;intro V3 l3;refine (yu (ha.le (l1.trans (l2.trans l3))) (by omega) s (by omega)).mono ?_;rintro r V4 l4 ⟨p4,n4,c4,rfl,h4,F⟩;rw [ab] at h4 F
 have b8:x≠0:=by
  intro w;subst w;rw [yy] at l;simp at l;omega
 have F:c4=n+1:=by
  rcases F with w|w
  ·exact absurd w b8
  ·rw [w,←l,Nat.div_eq_of_lt KO]
 have a3:=h4.len;have a4:x*2^s<4294967296^n*2^s:=Nat.mul_lt_mul_of_pos_right (by rw [l];exact az.1 (Nat.le_refl _)) (Nat.two_pow_pos s);have Wr:2^s<=2^31:=Nat.pow_le_pow_right (by omega) (by omega)
 have Y0:n<=n4/\n4<=n+1:=by
  constructor
  ·rw [a3,l];exact aB (Nat.le_mul_of_pos_right _ (Nat.two_pow_pos s))
  ·rw [a3,az,Nat.pow_succ];have:4294967296^n*2^s<=4294967296^n*4294967296:=Nat.mul_le_mul_left _ (by omega);omega
 refine ⟨_,_,_,rfl,ay (af (x*2^s)),h4.sl,by simp;omega,h4.cap,h4.G3,by omega,by omega,rfl,by simp [Value.oneCell'],?_⟩;intro sp c7 YO YP;refine ⟨⟨by omega,by omega⟩,fun V5 l5=>(yu (hb.le (l1.trans (l2.trans (l3.trans (l4.trans l5))))) (by omega) s (by omega)).mono ?_⟩;rintro r V6 l6 ⟨p8,f,c8,rfl,Z,-⟩;rw [ab] at Z;have WC:=Z.len;rw [o] at WC;subst WC;refine ⟨_,_,_,rfl,?_⟩;obtain ⟨k,v1,v2,I⟩:=DK.of o hm2 Tu;have hk:=I.Tj;have d6:=I.l1;have Y9:=I.u1;have Y_:=I.u2;have YI:=OI.start (Y:=y*2^s) rfl l.symm KO hm2 b6 Tu (by omega);have w6:i64.wrap ((f:Int)-1)=(f:Int)-1:=i64w (by omega);have w7:i64.wrap ((f:Int)-2)=(f:Int)-2:=i64w (by omega);simp only [w6,w7];refine Z.Ru (k+1) (by omega) I.g1 (Z.Ru k (by omega) I.g2 ?_);have b9:((n:Int)+1).toNat=n+1:=by omega
 have c0:(((n+1:Nat):Int)-(f:Int)).toNat=n+1-f:=by omega
 have w1:i64.wrap ((n:Int)+1)=(n:Int)+1:=i64w (by omega);have w2:u64.wrap (v1:Int)=v1:=aG (by omega);have w3:u64.wrap (v2:Int)=v2:=aG (by omega);have w4:i64.wrap (((n+1:Nat):Int)-(f:Int))=((n+1:Nat):Int)-(f:Int):=i64w (by omega);have w5:i64.wrap (((n+1-f:Nat):Int)-1)=((n+1-f:Nat):Int)-1:=i64w (by omega);simp only [b9,w2,w3,w4,c0,w5,cw];obtain ⟨B,a5⟩:∃B,B=ay ((af (x*2^s)++[0,0]).drop (n+1))++sp:=⟨_,rfl⟩
 have N:ay (af (x*2^s))++([.int .u32 0,.int .u32 0]:List Value)++sp=ay ((af (x*2^s)++[0,0]).take (n+1))++B:=by
  rw [a5,←List.append_assoc,←rT,List.take_append_drop,rT];rfl
 rw [N];clear a5 N Tu a4 Wr F hs E;generalize hX:x*2^s=X at *;generalize hY:y*2^s=Y at *
 refine ⟨by omega,by omega,by omega,fun z V'=>∃us D:List Nat,z.2.1=ay us++B/\z.2.2=ay D/\OI X Y n f z.1 us D,fun z=>(z.1+1).toNat,
  ⟨(((n+1-f:Nat):Int)-1,ay ((af X++[0,0]).take (n+1))++B,ay (List.replicate (n+1-f) 0)),?_,_,_,rfl,rfl,YI⟩,?_⟩
 ·(try dsimp only);and_intros<;>first|exact True.intro|rfl
 rintro ⟨j,row,Zt⟩ V7 l7 ⟨us,D,rfl,rfl,A⟩;dsimp only at A ⊢;have d7:=A.j0;have d8:=A.j1;have PF:=A.ul;have Nn:=A.ql;refine ⟨by trivial,fun K=>?_,fun K=>?_⟩
 ·have K:0<=j:=by simpa using K
  obtain ⟨j,rfl⟩:=Int.eq_ofNat_of_zero_le K;have Q:j+f<=n:=by omega
  obtain ⟨hz,u0,u1,u2,t',a6,a7,a8,C⟩:=A.body I Q;obtain ⟨eb,VJ,VK⟩:=C.words;have w8:i64.wrap ((j:Int)+f)=((j+f:Nat):Int):=by rw [i64w (by omega)];omega
  have w9:i64.wrap (((j+f:Nat):Int)-1)=((j+f-1:Nat):Int):=by rw [i64w (by omega)];omega
  have UN:i64.wrap (((j+f:Nat):Int)-2)=((j+f-2:Nat):Int):=by rw [i64w (by omega)];omega
  have WB:i64.wrap ((j:Int)-1)=(j:Int)-1:=i64w (by omega);simp only [w8,w9,UN,WB,Int.toNat_natCast];refine ⟨⟨by omega,by omega⟩,_,iE a6,by omega,⟨by omega,by omega⟩,_,iE a7,by omega,by omega,?_⟩;rw [eb,VJ,VK];clear eb VJ VK
  refine ⟨fun g V'=>∃G:Nat,g=(G:Int)/\GF (val (us.drop j)) Y G,
   ⟨fun z V'=>∃G ρ:Nat,z=((G:Int),(ρ:Int))/\GI v1 (u0*4294967296+u1) (val (us.drop j)) Y G ρ,fun z=>z.1.toNat,
    ⟨((((u0*4294967296+u1) / v1:Nat):Int),(((u0*4294967296+u1)%v1:Nat):Int)),by (try dsimp only);and_intros<;>first|exact True.intro|rfl,_,_,rfl,C.start⟩,?_⟩,?_⟩
  ·rintro _ V8 l8 ⟨G,ρ,rfl,O⟩;obtain ⟨Iu,R,ZC,RC⟩:=C.Oa O;dsimp only
   have t1:∀a:Nat,((((a / 2^32:Nat):Int) != 0)=true↔4294967296<=a)/\((((a / 2^32:Nat):Int) != 0)=false↔a<4294967296):=by
    intro a;constructor
    ·rw [bne_iff_ne];omega
    ·rw [bne_eq_false_iff_eq];omega
   simp only [ZC,fG,(t1 _).1,(t1 _).2];refine ⟨by trivial,by omega,fun h=>⟨by omega,fun S=>?_,fun S=>?_⟩,fun h=>⟨by omega,⟨by omega,by omega⟩,_,iE a8,fun E=>⟨by omega,fun S=>?_,fun S=>?_⟩,fun E=>?_⟩⟩
   ·obtain ⟨g1,g2⟩:=C.LZ O (C.LX h) S;exact ⟨((G-1:Nat):Int),by rw [RC g1];(try dsimp only);and_intros<;>first|exact True.intro|rfl,G-1,rfl,g2⟩
   ·obtain ⟨g1,g2⟩:=C.L8 O (C.LX h) S;exact ⟨(((G-1:Nat):Int),((ρ+v1:Nat):Int)),by (try dsimp only);omega,by rw [RC g1];(try dsimp only);and_intros<;>first|exact True.intro|rfl,G-1,ρ+v1,rfl,g2⟩
   ·have h1:=C.dec O (by rw [Iu,R,decide_eq_true_eq] at E;omega);obtain ⟨g1,g2⟩:=C.LZ O h1 S;exact ⟨((G-1:Nat):Int),by rw [RC g1];(try dsimp only);and_intros<;>first|exact True.intro|rfl,G-1,rfl,g2⟩
   ·have h1:=C.dec O (by rw [Iu,R,decide_eq_true_eq] at E;omega);obtain ⟨g1,g2⟩:=C.L8 O h1 S;exact ⟨(((G-1:Nat):Int),((ρ+v1:Nat):Int)),by (try dsimp only);omega,by rw [RC g1];(try dsimp only);and_intros<;>first|exact True.intro|rfl,G-1,ρ+v1,rfl,g2⟩
   ·have h1:G*v2<=ρ*4294967296+u2:=by rw [Iu,R,decide_eq_false_iff_not] at E;omega
    exact ⟨(G:Int),by (try dsimp only);and_intros<;>first|exact True.intro|rfl,G,rfl,C.last O h h1⟩
  ·rintro _ V9 l9 ⟨G,rfl,T⟩;have Oq:=T.g;clear C a6 a7 a8;have o:=I.len;have a9:=ab Y
   refine ⟨by trivial,fun z V'=>∃(b c i:Nat)(fs:List Nat),z=((b:Int),(c:Int),(i:Int),ay fs++B)/\Bl us (af Y) j G i b c fs,fun z=>f-z.2.2.1.toNat,
     ⟨(0,0,0,ay us++B),by (try dsimp only);and_intros<;>first|exact True.intro|rfl,0,0,0,us,rfl,by omega,by omega,by omega,rfl,A.ud,rfl,rfl,by simp⟩,?_⟩
   rintro _ c3 L ⟨b,c,i,fs,rfl,hS⟩;dsimp only;simp only [Int.toNat_natCast];have hi:=hS.hi;have d9:=hS.len;refine ⟨by trivial,fun h=>?_,fun h=>?_⟩
   ·have h:i<f:=by simpa using h
    obtain ⟨u,d,ob,U,cn,cb,q1,q2,q3,q4,q5,P,q7,c5⟩:=hS.step Oq (ax Y) A.ud (by omega) (by omega);refine (Z.le (l7.trans (l9.trans L))).Ru i rfl q1 ?_;have ZD:i64.wrap ((j:Int)+i)=((j+i:Nat):Int):=by rw [i64w (by omega)];omega
    have ZE:i64.wrap ((i:Int)+1)=((i+1:Nat):Int):=by rw [i64w (by omega)];omega
    rw [q3,ZD,ZE,Int.toNat_natCast];refine ⟨⟨by omega,by omega⟩,_,iE q2,⟨by omega,by omega⟩,by simp;omega,by omega,by omega,?_⟩;rw [q4,q5,P];refine ⟨((ob:Int),(cb:Int),((i+1:Nat):Int),ay (fs.set (j+i) U)++B),by (try dsimp only);omega,?_,_,_,_,_,rfl,c5⟩
    (try dsimp only);and_intros<;>first|exact True.intro|rfl|exact tw (by omega)
   ·have h:i=(af Y).length:=by simp at h;omega
    subst h;obtain ⟨u,ob,U,q1,q2,q3,q4,q5,P,q7,q8,q9,NU⟩:=hS.fin A.ud (by omega) (by rw [o];exact hz);rw [o] at q1 P q7 q8 q9 NU;rw [a9] at NU;refine ⟨⟨by omega,by omega⟩,_,iE q1,⟨by omega,by omega⟩,by simp;omega,⟨by omega,by omega⟩,by simp;omega,by omega,?_⟩;rw [q2,q3,tw (by omega),pM (x:=(G:Int)) (by omega)];generalize fs.set (j+f) U=ks at *;have Pz:∀H:Nat,(ay D).set (0+j*1) (.int .u32 (H:Int))=ay (D.set j H):=by intro H;rw [Nat.zero_add,Nat.mul_one,bo]
    rw [Pz];refine ⟨fun W=>?_,fun W=>?_⟩
    ·have W:ob=0:=by simpa using W
     rw [W,Nat.mul_zero,Nat.add_zero] at NU;have b0:=T.lt;rw [Nat.add_mul,Nat.one_mul] at b0;refine ⟨((j:Int)-1,ay ks++B,ay (D.set j G)),by (try dsimp only);omega,by (try dsimp only);and_intros<;>first|exact True.intro|rfl,ks,D.set j G,rfl,rfl,?_⟩;exact A.next Q q7 P q8 NU (by omega) Oq
    ·have W:ob=1:=by
      have:ob≠0:=by simpa using W
      omega
     rw [W,Nat.mul_one] at NU
     have Pr:∀ls:List Nat,ls.length=n+1->bM ls->val (ls.drop (j+f+1))=0->val (ls.drop j)<4294967296^(f+1):=by
      intro ls h1 h2 K;have a1:=a_ (ls.drop j) (f+1) (by simp;omega);rw [List.drop_drop,show j+(f+1)=j+f+1 from by omega,K,Nat.mul_zero,Nat.add_zero] at a1;have a2:=fM ((h2.drop j).take (f+1));rw [List.length_take,List.length_drop,Nat.min_eq_left (by omega)] at a2;omega
     have e1:=Pr ks (by omega) P q9
     have c6:1<=G:=by
      rcases Nat.eq_zero_or_pos G with w|w
      ·subst w;omega
      ·exact w
     have e2:G*Y=(G-1)*Y+Y:=by conv=>lhs;rw [←Nat.sub_add_cancel c6,Nat.add_mul,Nat.one_mul]
     have e3:=T.gt;have Tw:u32.wrap ((G:Int)-1)=((G-1:Nat):Int):=by rw [pM (by omega)];omega
     refine ⟨⟨by omega,by omega⟩,(G:Int),by rw [Nat.zero_add,Nat.mul_one,fK (by simp;omega),List.getElem_set_self],⟨by omega,by omega⟩,by simp;omega,?_⟩;have Np:(ay (D.set j G)).set (0+j*1) (.int .u32 ((G-1:Nat):Int))=ay (D.set j (G-1)):=by rw [Nat.zero_add,Nat.mul_one,bo,List.set_set]
     rw [Tw,Np]
     refine ⟨fun z V'=>∃(c' i2:Nat)(gs:List Nat),z=((c':Int),(i2:Int),ay gs++B)/\Bj ks (af Y) j i2 c' gs,fun z=>f-z.2.1.toNat,
      ⟨(0,0,ay ks++B),by (try dsimp only);and_intros<;>first|exact True.intro|rfl,0,0,ks,rfl,by omega,by omega,rfl,P,rfl,rfl,by simp⟩,?_⟩
     rintro _ c9 M ⟨c',i2,gs,rfl,hA⟩;dsimp only;simp only [Int.toNat_natCast];have e4:=hA.hi;have e5:=hA.len;refine ⟨by trivial,fun h=>?_,fun h=>?_⟩
     ·have h:i2<f:=by simpa using h
      obtain ⟨u,d,U,cn,cb,r1,r2,r3,r4,r5,d0⟩:=hA.step (ax Y) P (by omega) (by omega);refine (Z.le (l7.trans (l9.trans (L.trans M)))).Ru i2 rfl r1 ?_;have ZF:i64.wrap ((j:Int)+i2)=((j+i2:Nat):Int):=by rw [i64w (by omega)];omega
      have d1:i64.wrap ((i2:Int)+1)=((i2+1:Nat):Int):=by rw [i64w (by omega)];omega
      rw [ZF,d1,Int.toNat_natCast];refine ⟨⟨by omega,by omega⟩,_,iE r2,⟨by omega,by omega⟩,by simp;omega,by omega,?_⟩;rw [r3,r4,r5];refine ⟨((cb:Int),((i2+1:Nat):Int),ay (gs.set (j+i2) U)++B),by (try dsimp only);omega,?_,_,_,_,rfl,d0⟩
      (try dsimp only);and_intros<;>first|exact True.intro|rfl|exact tw (by omega)
     ·have h:i2=(af Y).length:=by simp at h;omega
      subst h;obtain ⟨u,U,kp,r1,r2,r3,r4,r5,r6,r7,r8⟩:=hA.fin P (by omega) (by rw [o];exact q9);rw [o] at r1 r4 r5 r6 r7 r8;rw [a9] at r8;refine ⟨⟨by omega,by omega⟩,_,iE r1,⟨by omega,by omega⟩,by simp;omega,?_⟩;rw [r2,tw (by omega)];have e6:=Pr _ (by omega) r4 r7;generalize gs.set (j+f) U=hs at *
      have Tg:kp=1:=by
       rcases Nat.eq_zero_or_pos kp with w|w
       ·rw [w,Nat.mul_zero] at r8;omega
       ·omega
      rw [Tg,Nat.mul_one] at r8;refine ⟨((j:Int)-1,ay hs++B,ay (D.set j (G-1))),by (try dsimp only);omega,by (try dsimp only);and_intros<;>first|exact True.intro|rfl,hs,D.set j (G-1),rfl,rfl,?_⟩;exact A.next Q (by omega) r4 (by rw [r6,q8]) (by omega) (by omega) (by omega)
 ·have K:j=-1:=by simp at K;omega
  subst K;obtain ⟨hq,hr⟩:=A.done hX.symm hY.symm (by omega) I.top;have Ou:=A.qd;have GO:=A.ud;intro V8 l8 e7 d2 d3 d4 J
  have Y3:RD V8 (some ⟨d2,0,none⟩) f c7 (us.take f):=by
   refine ⟨by simp;omega,by omega,fun i v hv=>⟨_,rfl,?_⟩,GO.take f,fun w=>nomatch w⟩;rw [add_zero'];refine blk_at d4 ?_;rw [zk,List.getElem?_take] at hv;split at hv
   ·rename_i b0;rw [List.getElem?_append_left (by simp;omega)];exact hv
   ·cases hv
  refine ⟨⟨by omega,by omega⟩,fun V9 l9=>?_⟩;refine (aO (RD.bg (ds:=D) d3 Ou (n:=n+1-f) (c:=n+1-f) (by omega) (Nat.le_refl _) |>.le l9) (by omega)).mono ?_;rintro r c3 L ⟨k1,rfl,g1⟩;refine ⟨_,_,_,rfl,fun c9 M=>?_⟩;rw [Int.toNat_natCast];refine (Gr (Y3.le (l9.trans (L.trans M))) (by simp;omega) s (by omega)).mono ?_;rintro r e8 d5 ⟨p2,n2,c2,rfl,g2⟩;refine ⟨_,_,_,rfl,fun e9 b5=>⟨_,_,_,_,_,_,rfl,?_,?_⟩⟩
  ·rw [aK Ou] at g1;unfold RN;rw [←hq];exact g1.le (M.trans (d5.trans b5))
  ·rw [hr] at g2;exact g2.le b5
theorem kl {V:View}{p q:OA}{n c m e:Nat}{xa xb:List Nat}(ha:RD V p n c xa)(hb:RD V q m e xb)(hm:xa.length<=1099511627776)(hn:xb.length<=1099511627776)(h0:val xb≠0) :
  Acts prog 184 #[.slice p n c,.slice q m e] V fun r V'=>∃p1 n1 c1 p2 n2 c2,r=.tuple #[.slice p1 n1 c1,.slice p2 n2 c2,.bool true]/\RN V' p1 n1 c1 (val xa / val xb)/\RN V' p2 n2 c2 (val xa%val xb):=by
 have la:=bq ha.fh;have lb:=bq hb.fh;refine xD p n c q m e V _ fun S v=>(aO (ha.le v) (by omega)).mono ?_;rintro r V2 J ⟨n,rfl,b⟩;rw [aK ha.fh] at b;refine ⟨_,_,_,rfl,fun T w=>(aO (hb.le (v.trans (J.trans w))) (by omega)).mono ?_⟩;rintro r U K ⟨m,rfl,f⟩;rw [aK hb.fh] at f
 replace b:=b.le (w.trans K)
 generalize val xa=x at *;generalize val xb=y at *;have L:=b.len;have W:=f.len;refine ⟨_,_,_,rfl,fun z=>?_,fun z X o=>(yo (b.le o) (f.le o) (by omega) (by omega)).mono ?_⟩
 ·exfalso;have:af y=[]:=List.length_eq_zero_iff.1 (by simp at z;omega);exact h0 (bw.1 this)
 rintro r Y A rfl;rw [ab,ab]
 replace b:=b.le (o.trans A)
 replace f:=f.le (o.trans A)
 refine ⟨_,rfl,fun d B g=>(lC (b.le g) (by omega)).mono ?_,fun d=>⟨fun j=>?_,fun j B g=>?_⟩⟩
 ·rintro r C D ⟨E,F,G,rfl,h⟩;have d:x<y:=by simpa [fF] using d
  refine ⟨_,_,_,rfl,fun k a=>⟨_,_,_,_,_,_,rfl,?_,?_⟩⟩
  ·rw [Nat.div_eq_of_lt d];exact RD.nil
  ·rw [Nat.mod_eq_of_lt d];exact h.le a
 ·have j:m=1:=by simp at j;omega
  subst j;refine f.Zw 0 rfl (by omega) fun B g=>?_;have H:=(ax y).get (i:=0) (by omega)
  have M:y=(af y)[0]'(by omega):=by
   have e:=fZ (af y) 0 (by omega);rw [ab,List.drop_of_length_le (by omega)] at e;simpa using e
  rw [←M] at H ⊢;refine (BC (b.le g) (by omega) y h0 H).mono ?_;rintro r C D ⟨E,F,G,rfl,h⟩;rw [ab] at h ⊢;have I:x%y<y:=Nat.mod_lt _ (by omega);refine ⟨_,_,_,_,rfl,fun k a=>?_⟩;rw [aG (by omega)];refine (dz _ (by omega) (by omega)).mono ?_;rintro r N s ⟨O,P,Q,rfl,t⟩;exact ⟨_,_,_,rfl,fun R l=>⟨_,_,_,_,_,_,rfl,h.le (a.trans (s.trans l)),t.le l⟩⟩
 ·have d:y<=x:=by simpa [←Int.not_lt,fF] using d
  have u:2<=m:=by
   have:¬(m:Int)=1:=by simpa using j
   have:af y≠[]:=fun e=>h0 (bw.1 e);have:(af y).length≠0:=fun e=>this (List.length_eq_zero_iff.1 e);omega
  refine (DU (b.le g) (f.le g) (by omega) u d).mono ?_;rintro r C D ⟨E,F,G,O,P,Q,rfl,h,t⟩;exact ⟨_,_,_,_,_,_,rfl,fun k a=>⟨_,_,_,_,_,_,rfl,h.le a,t.le a⟩⟩
theorem uz (x y:Nat):Nat.gcd y (x%y)=Nat.gcd x y:=by
 rw [Nat.gcd_comm x y,Nat.gcd_rec y x,Nat.gcd_comm]
theorem yr {V:View}{p q:OA}{n c m e:Nat}{xa xb:List Nat}(ha:RD V p n c xa)(hb:RD V q m e xb)(hm:xa.length<=1099511627776)(hn:xb.length<=1099511627776) :
  Acts prog 183 #[.slice p n c,.slice q m e] V fun r V'=>∃p1 n1 c1,r=.slice p1 n1 c1/\RN V' p1 n1 c1 (Nat.gcd (val xa) (val xb)):=by
 have la:=bq ha.fh;have lb:=bq hb.fh;refine EZ p n c q m e V _ fun V1 T=>(im (ha.le T) hm).mono ?_;rintro r V2 Z ⟨p1,n1,c1,rfl,f⟩;refine ⟨_,_,_,rfl,fun V3 U=>(im (hb.le (T.trans (Z.trans U))) hn).mono ?_⟩;rintro r V4 l4 ⟨q1,m1,e1,rfl,i⟩
 replace f:=f.le (U.trans l4)
 refine ⟨_,_,_,rfl,fun z k V'=>∃x y:Nat,RN V' z.1 z.2.1 z.2.2.1 x/\RN V' z.2.2.2.1 z.2.2.2.2.1 z.2.2.2.2.2 y/\Nat.gcd x y=Nat.gcd (val xa) (val xb)/\k=y/\(af x).length<=1099511627776/\(af y).length<=1099511627776,
  ⟨(p1,n1,c1,q1,m1,e1),val xb,by (try dsimp only);and_intros<;>trivial,val xa,val xb,f,i,rfl,rfl,by omega,by omega⟩,?_⟩
 rintro ⟨p,n,c,q,m,e⟩ k V5 l5 ⟨x,y,f,i,A,hk,K,g⟩;dsimp only at f i ⊢;have a0:=f.len;have W:=i.len;rw [←A];have stop:m=0->y=0:=fun h=>bw.1 (List.length_eq_zero_iff.1 (by omega))
 have more:∀j:View,V5.Le j->m≠0->Acts prog 184 #[.slice p n c,.slice q m e] j fun r B=>∃p1 n1 c1 p2 n2 c2,r=.tuple #[.slice p1 n1 c1,.slice p2 n2 c2,.bool true]/\RN B p2 n2 c2 (x%y)/\x%y<y/\Nat.gcd y (x%y)=Nat.gcd (val xa) (val xb)/\(af (x%y)).length<=1099511627776/\j.Le B:=by
  intro j l h
  have L:y≠0:=by
   intro e0;subst e0;rw [yy] at W;simp at W;omega
  have d:x%y<y:=Nat.mod_lt _ (by omega);refine (kl (f.le l) (i.le l) K g (by rw [ab];exact L)).mono ?_;rintro r B M ⟨N,O,P,H,I,J,rfl,X,v⟩;rw [ab,ab] at v;exact ⟨_,_,_,_,_,_,rfl,v,d,by rw [uz,A],Nat.le_trans (aB (by omega)) g,M⟩
 refine ⟨by trivial,fun Y=>⟨fun o V6 Q=>?_,fun o j l=>(more j l ?_).mono ?_⟩,fun Y=>⟨fun C=>⟨fun o V6 Q=>?_,fun o j l=>(more j l ?_).mono ?_⟩,fun C a1 D=>?_⟩⟩
 ·rw [stop (by simp at o;omega),Nat.gcd_zero_right];rw [stop (by simp at o;omega)] at A;exact ⟨_,_,_,rfl,f.le Q⟩
 ·simp at o;omega
 ·rintro r B M ⟨N,O,P,H,I,J,rfl,v,d,s,t,R⟩;exact ⟨_,_,_,_,_,_,_,rfl,(q,m,e,H,I,J),x%y,(by omega),by (try dsimp only);and_intros<;>trivial,y,x%y,i.le (l.trans R),v,s.trans A.symm,rfl,g,t⟩
 ·rw [stop (by simp at o;omega),Nat.gcd_zero_right];exact ⟨_,_,_,rfl,f.le Q⟩
 ·simp at o;omega
 ·rintro r B M ⟨N,O,P,H,I,J,rfl,v,d,s,t,R⟩;exact ⟨_,_,_,_,_,_,_,rfl,(q,m,e,H,I,J),x%y,(by omega),by (try dsimp only);and_intros<;>trivial,y,x%y,i.le (l.trans R),v,s.trans A.symm,rfl,g,t⟩
 ·have a2:n<=2:=by simp at Y;omega
  have a3:m<=2:=by simp at C;omega
  have E:x<18446744073709551616:=(az (k:=2)).1 (by omega);have F:y<18446744073709551616:=(az (k:=2)).1 (by omega);refine (km (f.le D) (by omega)).mono ?_;rintro r a4 S rfl;rw [ab,if_pos E];refine ⟨_,_,rfl,fun a5 cO=>(km (i.le (D.trans (S.trans cO))) (by omega)).mono ?_⟩;rintro r a6 dh rfl;rw [ab,if_pos F]
  refine ⟨_,_,rfl,fun z V'=>∃a b:Nat,z=((a:Int),(b:Int))/\Nat.gcd a b=Nat.gcd x y/\a<18446744073709551616/\b<18446744073709551616,fun z=>z.2.toNat,
   ⟨((x:Int),(y:Int)),by (try dsimp only);and_intros<;>trivial,x,y,rfl,rfl,E,F⟩,?_⟩
  rintro _ j9 cQ ⟨a,b,rfl,u,a7,G⟩;dsimp only;refine ⟨by trivial,fun w=>?_,fun w ng ck=>?_⟩
  ·have w:b≠0:=by rw [bne_iff_ne] at w;omega
   have d:a%b<b:=Nat.mod_lt _ (by omega);have e4:(a:Int).tmod (b:Int)=((a%b:Nat):Int):=by rw [Int.tmod_eq_emod_of_nonneg (by omega),←Int.natCast_emod]
   rw [e4];exact ⟨by omega,((b:Int),((a%b:Nat):Int)),by (try dsimp only);rw [Int.toNat_natCast,Int.toNat_natCast];exact d,by (try dsimp only);and_intros<;>trivial,b,a%b,rfl,by rw [uz,u],G,Nat.lt_trans d G⟩
  ·have w:b=0:=by rw [bne_eq_false_iff_eq] at w;omega
   subst w;rw [Nat.gcd_zero_right] at u;refine (dz _ (by omega) (by omega)).mono ?_;rintro r oo dk ⟨N,O,P,rfl,X⟩;refine ⟨_,_,_,rfl,fun se d_=>⟨_,_,_,rfl,?_⟩⟩;rw [←u];exact X.le d_
end Go.Proofs.Tryz
