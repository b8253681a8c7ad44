import Derived.Test.YtdhlkpfmlimjfaaGreatDoorN11
import Derived.Test.YtdhlkpfmlimjfaaGreatDoorN7
set_option linter.unusedVariables false
open Go.IntKind (i64 u64 u32)
namespace Go.Proofs.Tryz
open Go.Eng Go.Big
theorem _root_.Go.Eng.RD.Zk {V:View}{p:OA}{n c:Nat}{ds:List Nat}(h:RD V p n c ds){i:Int}{K:Int->Prop}(j:Nat)(hj:i=j)(hn:j<ds.length)
  (hK:K ((ds[j]:Nat):Int)):(p.isSome=true)/\(0<=i/\i<(n:Int))/\∃x:Int,(∃a,addrAdd p j=some a/\V.at a (.int .u32 x))/\K x:=by
 have:=h.rd (K:=K) j hj hn hK;subst hj;simpa only [Int.toNat_natCast,Nat.mul_one] using this
theorem Lt {us:List Nat}{rest:List Value}{k:Nat}(h:k<us.length):(ay us++rest)[0+k*1]?=some (.int .u32 (us[k]:Int)):=by
 rw [Nat.zero_add,Nat.mul_one,List.getElem?_append_left (by simpa using h)];exact fU h
theorem tF {us:List Nat}{rest:List Value}{k x:Nat}(h:k<us.length):(ay us++rest).set (0+k*1) (.int .u32 (x:Int))=ay (us.set k x)++rest:=by
 rw [Nat.zero_add,Nat.mul_one,List.set_append_left _ _ (by simpa using h),bj]
theorem CS {y m t s:Nat}(hm:(af y).length=m)(h0:0<m)(ht:t=(af y)[m-1]'(by omega))(hs:s=32-bD t) :
  s<32/\(af (y*2^s)).length=m/\2147483648*4294967296^(m-1)<=y*2^s:=by
 have d:t<4294967296:=by rw [ht];exact (ax y).get _
 have a:t≠0:=by rw [ht];have:=(iV y).last (by omega);simpa [hm] using this
 have f:=pf t;have g:=oZ a;have b:bD t<=32:=jh.2 (by omega);have h:0<bD t:=by unfold bD;rw [if_neg a];omega
 have e:=gu (af y) (m-1) (by omega);rw [ab,List.drop_of_length_le (by omega),←ht] at e;simp only [eh,Nat.mul_zero,Nat.add_zero] at e;have c:=fW ((ax y).take (m-1));rw [List.length_take,Nat.min_eq_left (by omega)] at c;have i:2^bD t*2^s=4294967296:=by rw [←Nat.pow_add,hs,Nat.add_sub_cancel' b]
 have j:2^(bD t-1)*2^s=2147483648:=by rw [←Nat.pow_add,show bD t-1+s=31 from by omega]
 have k:2147483648*4294967296^(m-1)<=y*2^s:=by
  have:2^(bD t-1)*2^s*4294967296^(m-1)<=t*2^s*4294967296^(m-1):=Nat.mul_le_mul_right _ (Nat.mul_le_mul_right _ g);rw [j] at this;have o:t*2^s*4294967296^(m-1)=4294967296^(m-1)*t*2^s:=by grind
  have p:4294967296^(m-1)*t*2^s<=y*2^s:=Nat.mul_le_mul_right _ (by omega);omega
 refine ⟨by omega,?_,k⟩
 have l:y*2^s<4294967296^m:=by
  have n:y<4294967296^(m-1)*(t+1):=by rw [Nat.mul_add,Nat.mul_one];omega
  have q:4294967296^(m-1)*(t+1)*2^s<=4294967296^(m-1)*2^bD t*2^s:=Nat.mul_le_mul_right _ (Nat.mul_le_mul_left _ f)
  have r:4294967296^(m-1)*2^bD t*2^s=4294967296^m:=by
   rw [Nat.mul_assoc,i,←Nat.pow_succ,Nat.succ_eq_add_one,Nat.sub_add_cancel h0]
  have u:y*2^s<4294967296^(m-1)*(t+1)*2^s:=Nat.mul_lt_mul_of_pos_right n (Nat.two_pow_pos s);omega
 have v:=az.2 l
 have w:m-1<(af (y*2^s)).length:=by
  rw [rG];have:1*4294967296^(m-1)<=2147483648*4294967296^(m-1):=Nat.mul_le_mul_right _ (by omega);omega
 omega
theorem Uh {us:List Nat}{k:Nat}(h:k+2<us.length)(hz:val (us.drop (k+3))=0) :
  val us=((us[k+2]*4294967296+us[k+1])*4294967296+us[k])*4294967296^k+val (us.take k):=by
 have a:=gu us k (by omega);rw [List.drop_eq_getElem_cons (i:=k+1) (by omega),List.drop_eq_getElem_cons (i:=k+1+1) (by omega),aY,aY] at a;rw [show k+1+1+1=k+3 from rfl,hz] at a;rw [a];grind
theorem Ug {us:List Nat}{k:Nat}(h:us.length=k+2):val us=(us[k+1]*4294967296+us[k])*4294967296^k+val (us.take k):=by
 have a:=gu us k (by omega);rw [List.drop_eq_getElem_cons (i:=k+1) (by omega),aY,List.drop_of_length_le (by omega),eh] at a;rw [a];grind
theorem a_ (us:List Nat)(k:Nat)(h:k<=us.length):val us=val (us.take k)+4294967296^k*val (us.drop k):=by
 conv=>lhs;rw [←List.take_append_drop k us]
 rw [cY,List.length_take,Nat.min_eq_left h]
theorem gV {us:List Nat}{k:Nat}(h:val us<4294967296^k)(hk:k<=us.length):val (us.drop k)=0:=by
 have:=a_ us k hk;rcases Nat.eq_zero_or_pos (val (us.drop k)) with e|e
 ·exact e
 ·have:4294967296^k*1<=4294967296^k*val (us.drop k):=Nat.mul_le_mul_left _ e;omega
theorem _root_.Go.Eng.RD.Q_ {V:View}{p:OA}{n c:Nat}{ds:List Nat}(h:RD V p n c ds){i:Int}{K:Int->Prop}(j:Nat)(hj:i=j){d:Nat}(hn:ds[j]?=some d)
  (hK:K (d:Int)):(p.isSome=true)/\(0<=i/\i<(n:Int))/\∃x:Int,(∃a,addrAdd p (i.toNat*1)=some a/\V.at a (.int .u32 x))/\K x:=by
 obtain ⟨b,e⟩:=List.getElem?_eq_some_iff.1 hn;exact h.rd j hj b (by rw [e];exact hK)
theorem iX {us:List Nat}{rest:List Value}{k d:Nat}(h:us[k]?=some d):(ay us++rest)[0+k*1]?=some (.int .u32 (d:Int)):=by
 obtain ⟨a,b⟩:=List.getElem?_eq_some_iff.1 h;rw [Lt a,b]
structure Bj (us vs:List Nat) (j G i b c:Nat) (fs:List Nat):Prop where
 b1:b<=1
 c1:c<4294967296
 hi:i<=vs.length
 len:fs.length=us.length
 fu:bM fs
 dr:fs.drop (j+i)=us.drop (j+i)
 tk:fs.take j=us.take j
 eq:val (fs.take (j+i))+4294967296^j*(G*val (vs.take i))=val (us.take (j+i))+4294967296^j*4294967296^i*(c+b)
theorem Bj.read {us vs:List Nat}{j G i b c:Nat}{fs:List Nat}(h:Bj us vs j G i b c fs)(hj:j+i<us.length):∃u,fs[j+i]?=some u/\us[j+i]?=some u:=by
 have:=congrArg (fun l=>l[0]?) h.dr;simp only [List.getElem?_drop,Nat.add_zero] at this;exact ⟨us[j+i],by rw [this,List.getElem?_eq_getElem hj],List.getElem?_eq_getElem hj⟩
theorem Bj.step {us vs:List Nat}{j G i b c:Nat}{fs:List Nat}(h:Bj us vs j G i b c fs)(hG:G<4294967296)(hdv:bM vs)(GH:bM us)(hi:i<vs.length)(hj:j+i<us.length) :
  ∃u d ob od cn cb:Nat,vs[i]?=some d/\fs[j+i]?=some u/\u64.wrap ((c:Int)+u64.wrap ((G:Int)*u64.wrap (d:Int)))=(cn:Int)/\(cn:Int).fdiv (2^32)=(cb:Int) /\
   (u64.wrap (u64.wrap (u64.wrap (u:Int)-bg .and .u64 (cn:Int) 4294967295)-(b:Int))).fdiv (2^63)=(ob:Int) /\
   u32.wrap (u64.wrap (u64.wrap (u64.wrap (u:Int)-bg .and .u64 (cn:Int) 4294967295)-(b:Int)))=(od:Int)/\od<4294967296 /\
   Bj us vs j G (i+1) ob cb (fs.set (j+i) od):=by
 obtain ⟨u,g,a⟩:=h.read hj;obtain ⟨k,l,-,m,n,z,o,p⟩:=h;have A:=hdv.get (i:=i) hi;have B:u<4294967296:=GH u (List.mem_of_getElem? a);have C:G*vs[i]<=4294967295*4294967295:=Nat.mul_le_mul (by omega) (by omega);refine ⟨u,vs[i],?_⟩
 have q:u64.wrap ((c:Int)+u64.wrap ((G:Int)*u64.wrap ((vs[i]:Nat):Int)))=((c+G*vs[i]:Nat):Int):=by
  rw [aH (x:=((vs[i]:Nat):Int)) (by omega),←Int.natCast_mul];generalize G*vs[i]=gd at *;rw [aH (x:=((gd:Nat):Int)) (by omega),aH (by omega)];omega
 have r:=zt (x:=((u:Int)-((c+G*vs[i])%4294967296:Nat)-b)%18446744073709551616) p l k B rfl;have hand:bg .and .u64 ((c+G*vs[i]:Nat):Int) 4294967295=(((c+G*vs[i])%4294967296:Nat):Int):=E5 _ (by omega)
 have e:u64.wrap (u64.wrap (u64.wrap (u:Int)-(((c+G*vs[i])%4294967296:Nat):Int))-(b:Int))=((u:Int)-((c+G*vs[i])%4294967296:Nat)-b)%18446744073709551616:=by
  rw [aH (x:=(u:Int)) (by omega),qV,qV];omega
 have s:(c+G*vs[i]) / 4294967296<4294967296:=by
  generalize G*vs[i]=gd at *;omega
 generalize ((u:Int)-((c+G*vs[i])%4294967296:Nat)-b)%18446744073709551616=xx at *;obtain ⟨E,F,H,t⟩:=r;obtain ⟨ob,w⟩:∃ob:Nat,xx / 9223372036854775808=ob:=⟨(xx / 9223372036854775808).toNat,by omega⟩;obtain ⟨od,f⟩:∃od:Nat,xx%4294967296=od:=⟨(xx%4294967296).toNat,by omega⟩;rw [w,f] at t;simp only [Int.toNat_natCast] at t;have y:od<4294967296:=by omega
 have D:ob<=1:=by omega
 refine ⟨ob,od,c+G*vs[i],(c+G*vs[i]) / 4294967296,List.getElem?_eq_getElem hi,g,q,?_,?_,?_,y,D,s,hi,by simpa using m,n.set _ _ y,?_,?_,?_⟩
 ·rw [fP]
 ·rw [hand,e,JN,w]
 ·rw [hand,e,il,f]
 ·rw [List.drop_set_of_lt (by omega)];have:=congrArg (List.drop 1) z;simpa [List.drop_drop,Nat.add_comm,Nat.add_assoc,Nat.add_left_comm] using this
 ·rw [List.take_set,List.set_eq_of_length_le (by simp;omega)];exact o
 ·have v:us[j+i]=u:=by rw [List.getElem?_eq_getElem hj] at a;exact Option.some.inj a
  rw [show j+(i+1)=j+i+1 from by omega,aD _ _ _ (by omega),aq us (j+i) (by omega),aq vs i hi,Nat.pow_succ,Nat.pow_add,v];exact t
theorem H8 {ks us:List Nat}{j t a:Nat}(h1:ks.take j=us.take j)(hk:j<=ks.length)(hu:j<=us.length)(h:val ks+4294967296^j*a=val us+4294967296^j*t):val (ks.drop j)+a=val (us.drop j)+t:=by
 have b:=a_ ks j hk;have c:=a_ us j hu;rw [h1] at b;have:4294967296^j*(val (ks.drop j)+a)=4294967296^j*(val (us.drop j)+t):=by rw [Nat.mul_add,Nat.mul_add];omega
 exact Nat.eq_of_mul_eq_mul_left (Nat.pow_pos (by omega)) this
theorem Bj.fin {us vs:List Nat}{j G b c:Nat}{fs:List Nat}(h:Bj us vs j G vs.length b c fs)(GH:bM us)(hj:j+vs.length<us.length)(hz:val (us.drop (j+vs.length+1))=0) :
  ∃u ob od:Nat,fs[j+vs.length]?=some u /\
   (u64.wrap (u64.wrap (u64.wrap (u:Int)-(c:Int))-(b:Int))).fdiv (2^63)=(ob:Int) /\
   u32.wrap (u64.wrap (u64.wrap (u64.wrap (u:Int)-(c:Int))-(b:Int)))=(od:Int)/\od<4294967296/\ob<=1 /\
   bM (fs.set (j+vs.length) od)/\(fs.set (j+vs.length) od).length=us.length/\(fs.set (j+vs.length) od).take j=us.take j/\val ((fs.set (j+vs.length) od).drop (j+vs.length+1))=0 /\
   val ((fs.set (j+vs.length) od).drop j)+G*val vs=val (us.drop j)+4294967296^(vs.length+1)*ob:=by
 obtain ⟨u,q,f⟩:=h.read hj;obtain ⟨r,i,-,s,t,D,v,l⟩:=h;have E:u<4294967296:=GH u (List.mem_of_getElem? f);have w:us[j+vs.length]=u:=by rw [List.getElem?_eq_getElem hj] at f;exact Option.some.inj f
 rw [List.take_length] at l;have k:=zt (g:=G) (d:=0) (Y:=val vs) (x:=((u:Int)-((c+G*0)%4294967296:Nat)-b)%18446744073709551616) l i r E rfl;simp only [Nat.mul_zero,Nat.add_zero] at k;rw [Nat.mod_eq_of_lt i,Nat.div_eq_of_lt i,Nat.zero_add] at k
 have m:u64.wrap (u64.wrap (u64.wrap (u:Int)-(c:Int))-(b:Int))=((u:Int)-(c:Int)-b)%18446744073709551616:=by
  rw [aH (x:=(u:Int)) (by omega),qV,qV];omega
 generalize ((u:Int)-(c:Int)-b)%18446744073709551616=xx at *;obtain ⟨K,L,M,y⟩:=k;obtain ⟨ob,B⟩:∃ob:Nat,xx / 9223372036854775808=ob:=⟨(xx / 9223372036854775808).toNat,by omega⟩;obtain ⟨od,n⟩:∃od:Nat,xx%4294967296=od:=⟨(xx%4294967296).toNat,by omega⟩;rw [B,n] at y;simp only [Int.toNat_natCast] at y;have C:od<4294967296:=by omega
 have F:ob<=1:=by omega
 obtain ⟨e,a⟩:∃e,e=fs.set (j+vs.length) od:=⟨_,rfl⟩;refine ⟨u,ob,od,q,by rw [m,JN,B],by rw [m,il,n],C,F,?_⟩;rw [←a];have z:e.length=us.length:=by rw [a];simpa using s
 have A:bM e:=by rw [a];exact t.set _ _ C
 have o:e.take j=us.take j:=by rw [a,List.take_set,List.set_eq_of_length_le (by simp;omega)];exact v
 have p:e.drop (j+vs.length+1)=us.drop (j+vs.length+1):=by
  rw [a,List.drop_set_of_lt (by omega)];have:=congrArg (List.drop 1) D;simpa [List.drop_drop,Nat.add_comm,Nat.add_assoc,Nat.add_left_comm] using this
 refine ⟨A,z,o,by rw [p];exact hz,H8 o (by omega) (by omega) ?_⟩;have H:=a_ e (j+vs.length+1) (by omega);have I:=a_ us (j+vs.length+1) (by omega);have N:val (e.take (j+vs.length+1))=val (fs.take (j+vs.length))+4294967296^j*4294967296^vs.length*od:=by rw [a,aD _ _ _ (by omega),Nat.pow_add]
 have O:val (us.take (j+vs.length+1))=val (us.take (j+vs.length))+4294967296^j*4294967296^vs.length*u:=by rw [aq us (j+vs.length) (by omega),Nat.pow_add,w]
 rw [p,hz,Nat.mul_zero,Nat.add_zero] at H;rw [hz,Nat.mul_zero,Nat.add_zero] at I;have J:4294967296^j*(4294967296^vs.length*4294967296)*ob=4294967296^j*(4294967296^(vs.length+1)*ob):=by rw [Nat.pow_succ];grind
 rw [J] at y;omega
structure Bf (ks vs:List Nat) (j i c:Nat) (gs:List Nat):Prop where
 c1:c<=1
 hi:i<=vs.length
 len:gs.length=ks.length
 fu:bM gs
 dr:gs.drop (j+i)=ks.drop (j+i)
 tk:gs.take j=ks.take j
 eq:val (gs.take (j+i))+4294967296^j*4294967296^i*c=val (ks.take (j+i))+4294967296^j*val (vs.take i)
theorem Bf.read {ks vs:List Nat}{j i c:Nat}{gs:List Nat}(h:Bf ks vs j i c gs)(hj:j+i<ks.length):∃u,gs[j+i]?=some u/\ks[j+i]?=some u:=by
 have:=congrArg (fun l=>l[0]?) h.dr;simp only [List.getElem?_drop,Nat.add_zero] at this;exact ⟨ks[j+i],by rw [this,List.getElem?_eq_getElem hj],List.getElem?_eq_getElem hj⟩
theorem Bf.step {ks vs:List Nat}{j i c:Nat}{gs:List Nat}(h:Bf ks vs j i c gs)(hdv:bM vs)(hdk:bM ks)(hi:i<vs.length)(hj:j+i<ks.length) :
  ∃u d od cn cb:Nat,vs[i]?=some d/\gs[j+i]?=some u/\u64.wrap ((c:Int)+u64.wrap (u64.wrap (u:Int)+u64.wrap (d:Int)))=(cn:Int)/\(cn:Int).fdiv (2^32)=(cb:Int) /\
   u32.wrap (cn:Int)=(od:Int)/\Bf ks vs j (i+1) cb (gs.set (j+i) od):=by
 obtain ⟨u,b,a⟩:=h.read hj;obtain ⟨o,-,e,f,p,g,k⟩:=h;have q:=hdv.get (i:=i) hi;have s:u<4294967296:=hdk u (List.mem_of_getElem? a);have l:ks[j+i]=u:=by rw [List.getElem?_eq_getElem hj] at a;exact Option.some.inj a
 obtain ⟨t5,r⟩:∃t5,t5=c+u+vs[i]:=⟨_,rfl⟩;have m:=yd k r
 have n:u64.wrap ((c:Int)+u64.wrap (u64.wrap (u:Int)+u64.wrap ((vs[i]:Nat):Int)))=(t5:Int):=by
  rw [aH (x:=((vs[i]:Nat):Int)) (by omega),aH (x:=(u:Int)) (by omega),aH (x:=(u:Int)+_) (by omega),aH (by omega)];omega
 refine ⟨u,vs[i],t5%4294967296,t5,t5 / 4294967296,List.getElem?_eq_getElem hi,b,n,by rw [fP],by rw [il];omega,by omega,hi,by simpa using e,f.set _ _ (by omega),?_,?_,?_⟩
 ·rw [List.drop_set_of_lt (by omega)];have:=congrArg (List.drop 1) p;simpa [List.drop_drop,Nat.add_comm,Nat.add_assoc,Nat.add_left_comm] using this
 ·rw [List.take_set,List.set_eq_of_length_le (by simp;omega)];exact g
 ·rw [show j+(i+1)=j+i+1 from by omega,aD _ _ _ (by omega),aq ks (j+i) (by omega),aq vs i hi,Nat.pow_succ,Nat.pow_add,l];exact m
theorem Bf.fin {ks vs:List Nat}{j c:Nat}{gs:List Nat}(h:Bf ks vs j vs.length c gs)(hdk:bM ks)(hj:j+vs.length<ks.length)(hz:val (ks.drop (j+vs.length+1))=0) :
  ∃u od kp:Nat,gs[j+vs.length]?=some u/\u32.wrap ((u:Int)+u32.wrap (c:Int))=(od:Int)/\kp<=1 /\
   bM (gs.set (j+vs.length) od)/\(gs.set (j+vs.length) od).length=ks.length/\(gs.set (j+vs.length) od).take j=ks.take j/\val ((gs.set (j+vs.length) od).drop (j+vs.length+1))=0 /\
   val ((gs.set (j+vs.length) od).drop j)+4294967296^(vs.length+1)*kp=val (ks.drop j)+val vs:=by
 obtain ⟨u,l,b⟩:=h.read hj;obtain ⟨v,-,m,n,w,o,f⟩:=h;have C:u<4294967296:=hdk u (List.mem_of_getElem? b);have p:ks[j+vs.length]=u:=by rw [List.getElem?_eq_getElem hj] at b;exact Option.some.inj b
 rw [List.take_length] at f;have g:=yd (d:=0) (u:=u) (Y:=val vs) (t:=c+u) f (by omega);simp only [Nat.mul_zero,Nat.add_zero] at g;have y:(c+u)%4294967296<4294967296:=by omega
 have q:(c+u) / 4294967296<=1:=by omega
 have hw:u32.wrap ((u:Int)+u32.wrap (c:Int))=(((c+u)%4294967296:Nat):Int):=by
  rw [pN (x:=(c:Int)) (by omega),il];omega
 generalize (c+u)%4294967296=od at *;generalize (c+u) / 4294967296=kp at *;obtain ⟨a,e⟩:∃a,a=gs.set (j+vs.length) od:=⟨_,rfl⟩;refine ⟨u,od,kp,l,hw,q,?_⟩;rw [←e];have r:a.length=ks.length:=by rw [e];simpa using m
 have s:bM a:=by rw [e];exact n.set _ _ y
 have i:a.take j=ks.take j:=by rw [e,List.take_set,List.set_eq_of_length_le (by simp;omega)];exact o
 have k:a.drop (j+vs.length+1)=ks.drop (j+vs.length+1):=by
  rw [e,List.drop_set_of_lt (by omega)];have:=congrArg (List.drop 1) w;simpa [List.drop_drop,Nat.add_comm,Nat.add_assoc,Nat.add_left_comm] using this
 refine ⟨s,r,i,by rw [k];exact hz,H8 i (by omega) (by omega) ?_⟩;have z:=a_ a (j+vs.length+1) (by omega);have A:=a_ ks (j+vs.length+1) (by omega);have D:val (a.take (j+vs.length+1))=val (gs.take (j+vs.length))+4294967296^j*4294967296^vs.length*od:=by rw [e,aD _ _ _ (by omega),Nat.pow_add]
 have E:val (ks.take (j+vs.length+1))=val (ks.take (j+vs.length))+4294967296^j*4294967296^vs.length*u:=by rw [aq ks (j+vs.length) (by omega),Nat.pow_add,p]
 rw [k,hz,Nat.mul_zero,Nat.add_zero] at z;rw [hz,Nat.mul_zero,Nat.add_zero] at A;have B:4294967296^j*(4294967296^vs.length*4294967296)*kp=4294967296^j*(4294967296^(vs.length+1)*kp):=by rw [Nat.pow_succ];grind
 rw [B] at g;omega
structure GK (v1 v2 v' u0 u1 u2 t' B T Y:Nat):Prop where
 hY:Y=(v1*4294967296+v2)*B+v'
 hT:T=((u0*4294967296+u1)*4294967296+u2)*B+t'
 oA:v'<B
 tv:t'<B
 Uj:2147483648<=v1
 WD:v1<4294967296
 Uk:v2<4294967296
 Zq:u0<4294967296
 Zr:u1<4294967296
 WC:u2<4294967296
 lt:T<4294967296*Y
structure GI (v1 f T Y G ρ:Nat):Prop where
 r:ρ<4294967296
 g:G<=4294967297
 eq:G*v1+ρ=f
 lt:T<(G+1)*Y
structure GF (T Y G:Nat):Prop where
 g:G<4294967296
 lt:T<(G+1)*Y
 gt:G*Y<T+Y
section
variable {v1 v2 v' u0 u1 u2 t' B T Y G ρ:Nat}
theorem GK.start (h:GK v1 v2 v' u0 u1 u2 t' B T Y):GI v1 (u0*4294967296+u1) T Y ((u0*4294967296+u1) / v1) ((u0*4294967296+u1)%v1):=by
 have c:=yN h.hY h.hT h.oA h.lt;have d:=h.Uj;have e:=h.WD;have f:=h.Uk;have a:=Nat.div_add_mod (u0*4294967296+u1) v1;have b:=Nat.mod_lt (u0*4294967296+u1) (show 0<v1 by omega);refine ⟨by omega,?_,by rw [Nat.mul_comm];exact a,?_⟩
 ·have:(u0*4294967296+u1) / v1<4294967298:=by
   rw [Nat.div_lt_iff_lt_mul (by omega)];omega
  omega
 ·rw [Nat.mul_comm] at a;exact Iu h.hY h.hT h.tv h.WC a b
theorem GK.LK (h:GK v1 v2 v' u0 u1 u2 t' B T Y)(hG:4294967296<=G):T<G*Y:=Nat.lt_of_lt_of_le h.lt (Nat.mul_le_mul_right _ hG)
theorem GK.dec (h:GK v1 v2 v' u0 u1 u2 t' B T Y)(hi:GI v1 (u0*4294967296+u1) T Y G ρ)(hd:ρ*4294967296+u2<G*v2):T<G*Y:=GA h.hY h.hT h.tv hi.eq hd
theorem GK.last (h:GK v1 v2 v' u0 u1 u2 t' B T Y)(hi:GI v1 (u0*4294967296+u1) T Y G ρ)(hG:G<4294967296)(hd:G*v2<=ρ*4294967296+u2):GF T Y G:=
 ⟨hG,hi.lt,yM h.hY h.hT h.oA (by have:=h.Uj;omega) (by omega) hi.eq hd (by omega)⟩
theorem GK.down (h:GK v1 v2 v' u0 u1 u2 t' B T Y)(hi:GI v1 (u0*4294967296+u1) T Y G ρ)(h1:T<G*Y):1<=G/\(G-1)*v1+(ρ+v1)=u0*4294967296+u1/\T<(G-1+1)*Y:=by
 have a:1<=G:=by
  rcases Nat.eq_zero_or_pos G with b|b
  ·subst b;omega
  ·exact b
 have:=hi.eq;refine ⟨a,?_,by rw [Nat.sub_add_cancel a];exact h1⟩;have:G*v1=(G-1)*v1+v1:=by conv=>lhs;rw [←Nat.sub_add_cancel a,Nat.add_mul,Nat.one_mul]
 omega
theorem GK.LM (h:GK v1 v2 v' u0 u1 u2 t' B T Y)(hi:GI v1 (u0*4294967296+u1) T Y G ρ)(h1:T<G*Y)(h2:4294967296<=ρ+v1):1<=G/\GF T Y (G-1):=by
 obtain ⟨a,e,b⟩:=h.down hi h1;have d:=yN h.hY h.hT h.oA h.lt;have i:=h.Uk;have j:=h.Uj;have k:=hi.g
 have f:G-1<4294967296:=by
  rcases Nat.lt_or_ge (G-1) 4294967296 with c|c
  ·exact c
  ·have:=Nat.mul_le_mul_right v1 c;omega
 refine ⟨a,f,b,yM h.hY h.hT h.oA (by omega) (by omega) e ?_ (by omega)⟩;have l:(G-1)*v2<=4294967295*4294967295:=Nat.mul_le_mul (by omega) (by omega);omega
theorem GK.LN (h:GK v1 v2 v' u0 u1 u2 t' B T Y)(hi:GI v1 (u0*4294967296+u1) T Y G ρ)(h1:T<G*Y)(h2:ρ+v1<4294967296):1<=G/\GI v1 (u0*4294967296+u1) T Y (G-1) (ρ+v1):=by
 obtain ⟨a,c,b⟩:=h.down hi h1;have d:=hi.g;exact ⟨a,h2,by omega,c,b⟩
theorem GK.words (h:GK v1 v2 v' u0 u1 u2 t' B T Y) :
  bg .or .u64 (u64.wrap (u64.wrap (u0:Int)*2^32)) (u64.wrap (u1:Int))=((u0*4294967296+u1:Nat):Int) /\
  u64.wrap (((u0*4294967296+u1:Nat):Int).tdiv (v1:Int))=(((u0*4294967296+u1) / v1:Nat):Int) /\
  ((u0*4294967296+u1:Nat):Int).tmod (v1:Int)=(((u0*4294967296+u1)%v1:Nat):Int):=by
 have a:=h.Zq;have b:=h.Zr;have c:((2:Int)^32)=4294967296:=by decide
 refine ⟨?_,?_,?_⟩
 ·rw [c,aH (x:=(u0:Int)) (by omega),aH (x:=(u1:Int)) (by omega),aH (by omega),Cz _ _ a b];omega
 ·rw [Int.tdiv_eq_ediv_of_nonneg (by omega),←Int.natCast_ediv];have d:(u0*4294967296+u1) / v1<=u0*4294967296+u1:=Nat.div_le_self _ _;generalize (u0*4294967296+u1) / v1=qq at *;rw [aH (by omega)]
 ·rw [Int.tmod_eq_emod_of_nonneg (by omega),←Int.natCast_emod]
theorem GK.N8 (h:GK v1 v2 v' u0 u1 u2 t' B T Y)(hi:GI v1 (u0*4294967296+u1) T Y G ρ) :
  u64.wrap ((G:Int)*(v2:Int))=((G*v2:Nat):Int)/\bg .or .u64 (u64.wrap ((ρ:Int)*2^32)) (u64.wrap (u2:Int))=((ρ*4294967296+u2:Nat):Int) /\
  u64.wrap ((ρ:Int)+v1)=((ρ+v1:Nat):Int)/\(1<=G->u64.wrap ((G:Int)-1)=((G-1:Nat):Int)):=by
 have a:=h.WC;have b:=hi.r;have c:=hi.g;have f:=h.Uk;have d:=h.WD;have e:((2:Int)^32)=4294967296:=by decide
 refine ⟨?_,?_,?_,?_⟩
 ·have d:G*v2<=4294967297*4294967295:=Nat.mul_le_mul c (by omega);rw [←Int.natCast_mul,aH (by omega)]
 ·rw [e,aH (x:=(ρ:Int)*4294967296) (by omega),aH (by omega),Cz _ _ b a];omega
 ·rw [aH (by omega)];omega
 ·intro h;rw [aH (by omega)];omega
end
end Go.Proofs.Tryz
namespace Go.Proofs.Tryz
open Go.Eng Go.Big
structure OI (X Y n n8:Nat) (j:Int) (us qs:List Nat):Prop where
 j0:-1<=j
 j1:j<(n+1-n8:Nat)
 ul:us.length=n+1
 ud:bM us
 ql:qs.length=n+1-n8
 qd:bM qs
 eq:X=val us+Y*(4294967296^(j+1).toNat*val (qs.drop (j+1).toNat))
 lt:val (us.drop (j+1).toNat)<Y
structure DK (Y n8 k v1 v2:Nat):Prop where
 SX:n8=k+2
 len:(af Y).length=n8
 g1:(af Y)[k+1]?=some v1
 g2:(af Y)[k]?=some v2
 l1:2147483648<=v1
 u1:v1<4294967296
 u2:v2<4294967296
 eq:Y=(v1*4294967296+v2)*4294967296^k+val ((af Y).take k)
 lt:val ((af Y).take k)<4294967296^k
 top:Y<4294967296^n8
theorem DK.of {Y n8:Nat}(hl:(af Y).length=n8)(h2:2<=n8)(ht:2147483648*4294967296^(n8-1)<=Y):∃k v1 v2,DK Y n8 k v1 v2:=by
 obtain ⟨k,e⟩:∃k,n8=k+2:=⟨n8-2,by omega⟩;have a:=Ug (us:=af Y) (k:=k) (by omega);rw [ab] at a;have c:=fW ((ax Y).take k);rw [List.length_take,Nat.min_eq_left (by omega)] at c;have f:=(ax Y).get (i:=k+1) (by omega);have g:=(ax Y).get (i:=k) (by omega)
 have b:2147483648<=(af Y)[k+1]:=by
  rcases Nat.lt_or_ge (af Y)[k+1] 2147483648 with d|d
  ·exfalso;have h:((af Y)[k+1]*4294967296+(af Y)[k])+1<=2147483648*4294967296:=by omega
   have j:=Nat.mul_le_mul_right (4294967296^k) h;rw [Nat.add_mul,Nat.one_mul] at j;have l:2147483648*4294967296^(k+1)=2147483648*4294967296*4294967296^k:=by rw [Nat.pow_succ];grind
   rw [show n8-1=k+1 from by omega,l] at ht;omega
  ·exact d
 exact ⟨k,_,_,e,hl,List.getElem?_eq_getElem _,List.getElem?_eq_getElem _,b,f,g,a,c,by rw [←hl,←az];exact Nat.le_refl _⟩
theorem OI.start {x X Y n n8 s:Nat}(hX:X=x*2^s)(hx:(af x).length=n)(hs:s<32)(SX:2<=n8)(hn:n8<=n)(hY:2147483648*4294967296^(n8-1)<=Y)(hXl:(af X).length<=n+1) :
  OI X Y n n8 (((n+1-n8:Nat):Int)-1) ((af X++[0,0]).take (n+1)) (List.replicate (n+1-n8) 0):=by
 have i:n<=(af X).length:=by rw [←hx,hX];exact aA (Nat.le_mul_of_pos_right _ (Nat.two_pow_pos s))
 have g:((af X++[0,0]).take (n+1)).length=n+1:=by simp;omega
 have a:val ((af X++[0,0]).take (n+1))=X:=by
  have b:val (af X++[0,0])=X:=by rw [cY,ab];simp
  have c:=a_ (af X++[0,0]) (n+1) (by simp;omega)
  have d:val ((af X++[0,0]).drop (n+1))=0:=by
   refine gV ?_ (by simp;omega);rw [b];exact az.1 (by omega)
  rw [d,Nat.mul_zero,Nat.add_zero,b] at c;exact c.symm
 have e:(((n+1-n8:Nat):Int)-1+1).toNat=n+1-n8:=by omega
 refine ⟨by omega,by omega,g,(bM.append.2 ⟨ax X,by simp [bM]⟩).take _,by simp,bM.rep _,?_,?_⟩
 ·rw [e,List.drop_of_length_le (by simp),eh,Nat.mul_zero,Nat.mul_zero,Nat.add_zero,a]
 ·rw [e];have b:=a_ ((af X++[0,0]).take (n+1)) (n+1-n8) (by omega);rw [a] at b;have f:X<4294967296^n*2^s:=by rw [hX];exact Nat.mul_lt_mul_of_pos_right (by rw [←hx];exact az.1 (Nat.le_refl _)) (Nat.two_pow_pos s)
  have j:2^s<=2^31:=Nat.pow_le_pow_right (by omega) (by omega)
  have c:4294967296^n*2^s<=4294967296^(n+1-n8)*Y:=by
   have h:4294967296^n=4294967296^(n+1-n8)*4294967296^(n8-1):=by rw [←Nat.pow_add];congr 1;omega
   rw [h,Nat.mul_assoc];refine Nat.mul_le_mul_left _ ?_;have k:2^s*4294967296^(n8-1)<=2147483648*4294967296^(n8-1):=Nat.mul_le_mul_right _ (by omega);rw [Nat.mul_comm];omega
  have d:4294967296^(n+1-n8)*val (((af X++[0,0]).take (n+1)).drop (n+1-n8))<4294967296^(n+1-n8)*Y:=by omega
  exact Nat.lt_of_mul_lt_mul_left d
theorem OI.body {X Y n n8 k v1 v2 j:Nat}{us qs:List Nat}(h:OI X Y n n8 (j:Int) us qs)(hd:DK Y n8 k v1 v2)(hjn:j+n8<=n) :
  val (us.drop (j+n8+1))=0/\∃u0 u1 u2 t',us[j+n8]?=some u0/\us[j+n8-1]?=some u1/\us[j+n8-2]?=some u2/\GK v1 v2 (val ((af Y).take k)) u0 u1 u2 t' (4294967296^k) (val (us.drop j)) Y:=by
 obtain ⟨-,-,m,a,o,p,e,f⟩:=h;have b:((j:Int)+1).toNat=j+1:=by omega
 rw [b] at e f;have q:=hd.SX;have r:=hd.top;have g:val (us.drop j)=us[j]+4294967296*val (us.drop (j+1)):=by rw [List.drop_eq_getElem_cons (by omega),aY]
 have l:=a.get (i:=j) (by omega)
 have c:val (us.drop (j+n8+1))=0:=by
  have:=gV (us:=us.drop (j+1)) (k:=n8) (by omega) (by simp;omega);rw [List.drop_drop] at this;rw [show j+n8+1=j+1+n8 from by omega];exact this
 have d:=fW ((a.drop j).take k);rw [List.length_take,List.length_drop,Nat.min_eq_left (by omega)] at d
 refine ⟨c,us[j+n8],us[j+n8-1],us[j+n8-2],val ((us.drop j).take k),List.getElem?_eq_getElem _,List.getElem?_eq_getElem _,List.getElem?_eq_getElem _,
  hd.eq,?_,hd.lt,d,hd.l1,hd.u1,hd.u2,a.get _,a.get _,a.get _,by omega⟩
 have:=Uh (us:=us.drop j) (k:=k) (by simp;omega) (by rw [List.drop_drop,show j+(k+3)=j+n8+1 from by omega];exact c);simp only [List.getElem_drop] at this;rw [this];congr<;>omega
theorem OI.next {X Y n n8 j H:Nat}{us qs hs:List Nat}(h:OI X Y n n8 (j:Int) us qs)(hjn:j+n8<=n)(h1:hs.length=us.length)(Yt:bM hs)(h2:hs.take j=us.take j)(h3:val (hs.drop j)+H*Y=val (us.drop j))(h4:val (hs.drop j)<Y)(hH:H<4294967296) :
  OI X Y n n8 ((j:Int)-1) hs (qs.set j H):=by
 obtain ⟨-,f,k,m,g,i,b,o⟩:=h;have a:((j:Int)+1).toNat=j+1:=by omega
 have c:((j:Int)-1+1).toNat=j:=by omega
 rw [a] at b;refine ⟨by omega,by omega,by omega,Yt,by simpa using g,i.set _ _ hH,?_,by rw [c];exact h4⟩;have d:=a_ hs j (by omega);have e:=a_ us j (by omega);rw [h2] at d;rw [←h3] at e;rw [c,List.drop_eq_getElem_cons (l:=qs.set j H) (by simp;omega),List.getElem_set_self,List.drop_set_of_lt (by omega),aY,b,d,e,Nat.pow_succ];grind
theorem OI.done {x y X Y n n8 s:Nat}{us qs:List Nat}(h:OI X Y n n8 (-1) us qs)(hX:X=x*2^s)(hY:Y=y*2^s)(hn:n8<=n+1)(hYl:Y<4294967296^n8):val qs=x / y/\val (us.take n8) / 2^s=x%y:=by
 obtain ⟨-,-,f,g,i,j,a,b⟩:=h;have a:X=val us+Y*val qs:=by simpa using a
 have b:val us<Y:=by simpa using b
 have e:0<Y:=by omega
 have c:=gV (us:=us) (k:=n8) (by omega) (by omega)
 have d:val (us.take n8)=val us:=by
  have:=a_ us n8 (by omega);rw [c,Nat.mul_zero,Nat.add_zero] at this;exact this.symm
 constructor
 ·rw [←Nat.mul_div_mul_right x y (Nat.two_pow_pos s),←hX,←hY,a,Nat.add_mul_div_left _ _ e,Nat.div_eq_of_lt b,Nat.zero_add]
 ·have:x*2^s%(y*2^s)=val us:=by
   rw [←hX,←hY,a,Nat.add_mul_mod_self_left,Nat.mod_eq_of_lt b]
  rw [Nat.mul_mod_mul_right] at this;rw [d,←this,Nat.mul_div_cancel _ (Nat.two_pow_pos s)]
set_option maxHeartbeats 8000000 in
theorem DQ {V:View}{p q:OA}{n c m e:Nat}{x y:Nat}(ha:RN V p n c x)(hb:RN V q m e y)(hn:n<=1099511627776)(hm2:2<=m)(hle:y<=x) :
  Acts prog 225 #[.slice p n c,.slice q m e] V fun r V'=>∃p1 n1 c1 p2 n2 c2,r=.tuple #[.slice p1 n1 c1,.slice p2 n2 c2]/\RN V' p1 n1 c1 (x / y)/\RN V' p2 n2 c2 (x%y):=by
 have l:=ha.len;have a0:=hb.len;have b2:m<=n:=by rw [l,a0];exact aA hle
 refine Di p n c q m e V _ ?_;simp (disch:=omega) only [i64w];refine hb.rd (m-1) (by omega) (by omega) fun V1 l1=>(fY _ ((ax y).get (by omega))).mono ?_;rintro r V2 l2 rfl;refine ⟨_,rfl,?_⟩;obtain ⟨t,E⟩:∃t,t=(af y)[m-1]'(by omega):=⟨_,rfl⟩;rw [←E];have b3:bD t<=32:=jh.2 (by rw [E];exact (ax y).get _);obtain ⟨s,hs⟩:∃s,s=32-bD t:=⟨_,rfl⟩;have es:(32-(bD t:Int))=(s:Int):=by omega
 obtain ⟨KV,o,S6⟩:=CS a0.symm (by omega) E hs;rw [es,aH (by omega)];clear es b3;intro V3 l3;refine (yy (ha.le (l1.trans (l2.trans l3))) (by omega) s (by omega)).mono ?_;rintro r V4 l4 ⟨p4,n4,c4,rfl,h4,F⟩;rw [ab] at h4 F
 have b4:x≠0:=by
  intro w;subst w;rw [yB] at l;simp at l;omega
 have F:c4=n+1:=by
  rcases F with w|w
  ·exact absurd w b4
  ·rw [w,←l,Nat.div_eq_of_lt KV]
 have a3:=h4.len;have a4:x*2^s<4294967296^n*2^s:=Nat.mul_lt_mul_of_pos_right (by rw [l];exact az.1 (Nat.le_refl _)) (Nat.two_pow_pos s);have VO:2^s<=2^31:=Nat.pow_le_pow_right (by omega) (by omega)
 have Wb:n<=n4/\n4<=n+1:=by
  constructor
  ·rw [a3,l];exact aA (Nat.le_mul_of_pos_right _ (Nat.two_pow_pos s))
  ·rw [a3,az,Nat.pow_succ];have:4294967296^n*2^s<=4294967296^n*4294967296:=Nat.mul_le_mul_left _ (by omega);omega
 refine ⟨_,_,_,rfl,ay (af (x*2^s)),h4.sl,by simp;omega,h4.cap,h4.GW,by omega,by omega,rfl,by simp [Value.oneCell'],?_⟩;intro sp c7 Yr Ys;refine ⟨⟨by omega,by omega⟩,fun V5 l5=>(yy (hb.le (l1.trans (l2.trans (l3.trans (l4.trans l5))))) (by omega) s (by omega)).mono ?_⟩;rintro r V6 l6 ⟨p8,f,c8,rfl,Z,-⟩;rw [ab] at Z;have Wa:=Z.len;rw [o] at Wa;subst Wa;refine ⟨_,_,_,rfl,?_⟩;obtain ⟨k,v1,v2,I⟩:=DK.of o hm2 S6;have hk:=I.SX;have d2:=I.l1;have YO:=I.u1;have YP:=I.u2;have Yj:=OI.start (Y:=y*2^s) rfl l.symm KV hm2 b2 S6 (by omega);have w6:i64.wrap ((f:Int)-1)=(f:Int)-1:=i64w (by omega);have w7:i64.wrap ((f:Int)-2)=(f:Int)-2:=i64w (by omega);simp only [w6,w7];refine Z.Q_ (k+1) (by omega) I.g1 (Z.Q_ k (by omega) I.g2 ?_);have b5:((n:Int)+1).toNat=n+1:=by omega
 have b6:(((n+1:Nat):Int)-(f:Int)).toNat=n+1-f:=by omega
 have w1:i64.wrap ((n:Int)+1)=(n:Int)+1:=i64w (by omega);have w2:u64.wrap (v1:Int)=v1:=aH (by omega);have w3:u64.wrap (v2:Int)=v2:=aH (by omega);have w4:i64.wrap (((n+1:Nat):Int)-(f:Int))=((n+1:Nat):Int)-(f:Int):=i64w (by omega);have w5:i64.wrap (((n+1-f:Nat):Int)-1)=((n+1-f:Nat):Int)-1:=i64w (by omega);simp only [b5,w2,w3,w4,b6,w5,cD];obtain ⟨B,a5⟩:∃B,B=ay ((af (x*2^s)++[0,0]).drop (n+1))++sp:=⟨_,rfl⟩
 have N:ay (af (x*2^s))++([.int .u32 0,.int .u32 0]:List Value)++sp=ay ((af (x*2^s)++[0,0]).take (n+1))++B:=by
  rw [a5,←List.append_assoc,←rT,List.take_append_drop,rT];rfl
 rw [N];clear a5 N S6 a4 VO F hs E;generalize hX:x*2^s=X at *;generalize hY:y*2^s=Y at *
 refine ⟨by omega,by omega,by omega,fun z V'=>∃us D:List Nat,z.2.1=ay us++B/\z.2.2=ay D/\OI X Y n f z.1 us D,fun z=>(z.1+1).toNat,
  ⟨(((n+1-f:Nat):Int)-1,ay ((af X++[0,0]).take (n+1))++B,ay (List.replicate (n+1-f) 0)),?_,_,_,rfl,rfl,Yj⟩,?_⟩
 ·(try dsimp only);and_intros<;>first|exact True.intro|rfl
 rintro ⟨j,row,Zg⟩ V7 l7 ⟨us,D,rfl,rfl,A⟩;dsimp only at A ⊢;have d3:=A.j0;have d4:=A.j1;have Pt:=A.ul;have Ni:=A.ql;refine ⟨by trivial,fun K=>?_,fun K=>?_⟩
 ·have K:0<=j:=by simpa using K
  obtain ⟨j,rfl⟩:=Int.eq_ofNat_of_zero_le K;have Q:j+f<=n:=by omega
  obtain ⟨hz,u0,u1,u2,t',a6,a7,a8,C⟩:=A.body I Q;obtain ⟨eb,Vi,Vj⟩:=C.words;have w8:i64.wrap ((j:Int)+f)=((j+f:Nat):Int):=by rw [i64w (by omega)];omega
  have w9:i64.wrap (((j+f:Nat):Int)-1)=((j+f-1:Nat):Int):=by rw [i64w (by omega)];omega
  have Um:i64.wrap (((j+f:Nat):Int)-2)=((j+f-2:Nat):Int):=by rw [i64w (by omega)];omega
  have V_:i64.wrap ((j:Int)-1)=(j:Int)-1:=i64w (by omega);simp only [w8,w9,Um,V_,Int.toNat_natCast];refine ⟨⟨by omega,by omega⟩,_,iX a6,by omega,⟨by omega,by omega⟩,_,iX a7,by omega,by omega,?_⟩;rw [eb,Vi,Vj];clear eb Vi Vj
  refine ⟨fun g V'=>∃G:Nat,g=(G:Int)/\GF (val (us.drop j)) Y G,
   ⟨fun z V'=>∃G ρ:Nat,z=((G:Int),(ρ:Int))/\GI v1 (u0*4294967296+u1) (val (us.drop j)) Y G ρ,fun z=>z.1.toNat,
    ⟨((((u0*4294967296+u1) / v1:Nat):Int),(((u0*4294967296+u1)%v1:Nat):Int)),by (try dsimp only);and_intros<;>first|exact True.intro|rfl,_,_,rfl,C.start⟩,?_⟩,?_⟩
  ·rintro _ V8 l8 ⟨G,ρ,rfl,O⟩;obtain ⟨Iz,R,Zs,Rg⟩:=C.N8 O;dsimp only
   have t1:∀a:Nat,((((a / 2^32:Nat):Int) != 0)=true↔4294967296<=a)/\((((a / 2^32:Nat):Int) != 0)=false↔a<4294967296):=by
    intro a;constructor
    ·rw [bne_iff_ne];omega
    ·rw [bne_eq_false_iff_eq];omega
   simp only [Zs,fP,(t1 _).1,(t1 _).2];refine ⟨by trivial,by omega,fun h=>⟨by omega,fun S=>?_,fun S=>?_⟩,fun h=>⟨by omega,⟨by omega,by omega⟩,_,iX a8,fun E=>⟨by omega,fun S=>?_,fun S=>?_⟩,fun E=>?_⟩⟩
   ·obtain ⟨g1,g2⟩:=C.LM O (C.LK h) S;exact ⟨((G-1:Nat):Int),by rw [Rg g1];(try dsimp only);and_intros<;>first|exact True.intro|rfl,G-1,rfl,g2⟩
   ·obtain ⟨g1,g2⟩:=C.LN O (C.LK h) S;exact ⟨(((G-1:Nat):Int),((ρ+v1:Nat):Int)),by (try dsimp only);omega,by rw [Rg g1];(try dsimp only);and_intros<;>first|exact True.intro|rfl,G-1,ρ+v1,rfl,g2⟩
   ·have h1:=C.dec O (by rw [Iz,R,decide_eq_true_eq] at E;omega);obtain ⟨g1,g2⟩:=C.LM O h1 S;exact ⟨((G-1:Nat):Int),by rw [Rg g1];(try dsimp only);and_intros<;>first|exact True.intro|rfl,G-1,rfl,g2⟩
   ·have h1:=C.dec O (by rw [Iz,R,decide_eq_true_eq] at E;omega);obtain ⟨g1,g2⟩:=C.LN O h1 S;exact ⟨(((G-1:Nat):Int),((ρ+v1:Nat):Int)),by (try dsimp only);omega,by rw [Rg g1];(try dsimp only);and_intros<;>first|exact True.intro|rfl,G-1,ρ+v1,rfl,g2⟩
   ·have h1:G*v2<=ρ*4294967296+u2:=by rw [Iz,R,decide_eq_false_iff_not] at E;omega
    exact ⟨(G:Int),by (try dsimp only);and_intros<;>first|exact True.intro|rfl,G,rfl,C.last O h h1⟩
  ·rintro _ V9 l9 ⟨G,rfl,T⟩;have Og:=T.g;clear C a6 a7 a8;have o:=I.len;have a9:=ab Y
   refine ⟨by trivial,fun z V'=>∃(b c i:Nat)(fs:List Nat),z=((b:Int),(c:Int),(i:Int),ay fs++B)/\Bj us (af Y) j G i b c fs,fun z=>f-z.2.2.1.toNat,
     ⟨(0,0,0,ay us++B),by (try dsimp only);and_intros<;>first|exact True.intro|rfl,0,0,0,us,rfl,by omega,by omega,by omega,rfl,A.ud,rfl,rfl,by simp⟩,?_⟩
   rintro _ b7 L ⟨b,c,i,fs,rfl,hS⟩;dsimp only;simp only [Int.toNat_natCast];have hi:=hS.hi;have d5:=hS.len;refine ⟨by trivial,fun h=>?_,fun h=>?_⟩
   ·have h:i<f:=by simpa using h
    obtain ⟨u,d,ob,U,cn,cb,q1,q2,q3,q4,q5,P,q7,b8⟩:=hS.step Og (ax Y) A.ud (by omega) (by omega);refine (Z.le (l7.trans (l9.trans L))).Q_ i rfl q1 ?_;have Zt:i64.wrap ((j:Int)+i)=((j+i:Nat):Int):=by rw [i64w (by omega)];omega
    have Zu:i64.wrap ((i:Int)+1)=((i+1:Nat):Int):=by rw [i64w (by omega)];omega
    rw [q3,Zt,Zu,Int.toNat_natCast];refine ⟨⟨by omega,by omega⟩,_,iX q2,⟨by omega,by omega⟩,by simp;omega,by omega,by omega,?_⟩;rw [q4,q5,P];refine ⟨((ob:Int),(cb:Int),((i+1:Nat):Int),ay (fs.set (j+i) U)++B),by (try dsimp only);omega,?_,_,_,_,_,rfl,b8⟩
    (try dsimp only);and_intros<;>first|exact True.intro|rfl|exact tF (by omega)
   ·have h:i=(af Y).length:=by simp at h;omega
    subst h;obtain ⟨u,ob,U,q1,q2,q3,q4,q5,P,q7,q8,q9,Li⟩:=hS.fin A.ud (by omega) (by rw [o];exact hz);rw [o] at q1 P q7 q8 q9 Li;rw [a9] at Li;refine ⟨⟨by omega,by omega⟩,_,iX q1,⟨by omega,by omega⟩,by simp;omega,⟨by omega,by omega⟩,by simp;omega,by omega,?_⟩;rw [q2,q3,tF (by omega),pN (x:=(G:Int)) (by omega)];generalize fs.set (j+f) U=ks at *;have Pn:∀H:Nat,(ay D).set (0+j*1) (.int .u32 (H:Int))=ay (D.set j H):=by intro H;rw [Nat.zero_add,Nat.mul_one,bj]
    rw [Pn];refine ⟨fun W=>?_,fun W=>?_⟩
    ·have W:ob=0:=by simpa using W
     rw [W,Nat.mul_zero,Nat.add_zero] at Li;have b0:=T.lt;rw [Nat.add_mul,Nat.one_mul] at b0;refine ⟨((j:Int)-1,ay ks++B,ay (D.set j G)),by (try dsimp only);omega,by (try dsimp only);and_intros<;>first|exact True.intro|rfl,ks,D.set j G,rfl,rfl,?_⟩;exact A.next Q q7 P q8 Li (by omega) Og
    ·have W:ob=1:=by
      have:ob≠0:=by simpa using W
      omega
     rw [W,Nat.mul_one] at Li
     have Pc:∀ls:List Nat,ls.length=n+1->bM ls->val (ls.drop (j+f+1))=0->val (ls.drop j)<4294967296^(f+1):=by
      intro ls h1 h2 K;have a1:=a_ (ls.drop j) (f+1) (by simp;omega);rw [List.drop_drop,show j+(f+1)=j+f+1 from by omega,K,Nat.mul_zero,Nat.add_zero] at a1;have a2:=fW ((h2.drop j).take (f+1));rw [List.length_take,List.length_drop,Nat.min_eq_left (by omega)] at a2;omega
     have d6:=Pc ks (by omega) P q9
     have b9:1<=G:=by
      rcases Nat.eq_zero_or_pos G with w|w
      ·subst w;omega
      ·exact w
     have d7:G*Y=(G-1)*Y+Y:=by conv=>lhs;rw [←Nat.sub_add_cancel b9,Nat.add_mul,Nat.one_mul]
     have d8:=T.gt;have S8:u32.wrap ((G:Int)-1)=((G-1:Nat):Int):=by rw [pN (by omega)];omega
     refine ⟨⟨by omega,by omega⟩,(G:Int),by rw [Nat.zero_add,Nat.mul_one,fU (by simp;omega),List.getElem_set_self],⟨by omega,by omega⟩,by simp;omega,?_⟩;have Nj:(ay (D.set j G)).set (0+j*1) (.int .u32 ((G-1:Nat):Int))=ay (D.set j (G-1)):=by rw [Nat.zero_add,Nat.mul_one,bj,List.set_set]
     rw [S8,Nj]
     refine ⟨fun z V'=>∃(c' i2:Nat)(gs:List Nat),z=((c':Int),(i2:Int),ay gs++B)/\Bf ks (af Y) j i2 c' gs,fun z=>f-z.2.1.toNat,
      ⟨(0,0,ay ks++B),by (try dsimp only);and_intros<;>first|exact True.intro|rfl,0,0,ks,rfl,by omega,by omega,rfl,P,rfl,rfl,by simp⟩,?_⟩
     rintro _ c0 M ⟨c',i2,gs,rfl,hA⟩;dsimp only;simp only [Int.toNat_natCast];have d9:=hA.hi;have e1:=hA.len;refine ⟨by trivial,fun h=>?_,fun h=>?_⟩
     ·have h:i2<f:=by simpa using h
      obtain ⟨u,d,U,cn,cb,r1,r2,r3,r4,r5,c3⟩:=hA.step (ax Y) P (by omega) (by omega);refine (Z.le (l7.trans (l9.trans (L.trans M)))).Q_ i2 rfl r1 ?_;have Zv:i64.wrap ((j:Int)+i2)=((j+i2:Nat):Int):=by rw [i64w (by omega)];omega
      have c5:i64.wrap ((i2:Int)+1)=((i2+1:Nat):Int):=by rw [i64w (by omega)];omega
      rw [Zv,c5,Int.toNat_natCast];refine ⟨⟨by omega,by omega⟩,_,iX r2,⟨by omega,by omega⟩,by simp;omega,by omega,?_⟩;rw [r3,r4,r5];refine ⟨((cb:Int),((i2+1:Nat):Int),ay (gs.set (j+i2) U)++B),by (try dsimp only);omega,?_,_,_,_,rfl,c3⟩
      (try dsimp only);and_intros<;>first|exact True.intro|rfl|exact tF (by omega)
     ·have h:i2=(af Y).length:=by simp at h;omega
      subst h;obtain ⟨u,U,kp,r1,r2,r3,r4,r5,r6,r7,r8⟩:=hA.fin P (by omega) (by rw [o];exact q9);rw [o] at r1 r4 r5 r6 r7 r8;rw [a9] at r8;refine ⟨⟨by omega,by omega⟩,_,iX r1,⟨by omega,by omega⟩,by simp;omega,?_⟩;rw [r2,tF (by omega)];have e2:=Pc _ (by omega) r4 r7;generalize gs.set (j+f) U=hs at *
      have SQ:kp=1:=by
       rcases Nat.eq_zero_or_pos kp with w|w
       ·rw [w,Nat.mul_zero] at r8;omega
       ·omega
      rw [SQ,Nat.mul_one] at r8;refine ⟨((j:Int)-1,ay hs++B,ay (D.set j (G-1))),by (try dsimp only);omega,by (try dsimp only);and_intros<;>first|exact True.intro|rfl,hs,D.set j (G-1),rfl,rfl,?_⟩;exact A.next Q (by omega) r4 (by rw [r6,q8]) (by omega) (by omega) (by omega)
 ·have K:j=-1:=by simp at K;omega
  subst K;obtain ⟨hq,hr⟩:=A.done hX.symm hY.symm (by omega) I.top;have Oi:=A.qd;have GH:=A.ud;intro V8 l8 e3 c6 c9 d0 J
  have YI:RD V8 (some ⟨c6,0,none⟩) f c7 (us.take f):=by
   refine ⟨by simp;omega,by omega,fun i v hv=>⟨_,rfl,?_⟩,GH.take f,fun w=>nomatch w⟩;rw [add_zero'];refine blk_at d0 ?_;rw [zu,List.getElem?_take] at hv;split at hv
   ·rename_i b0;rw [List.getElem?_append_left (by simp;omega)];exact hv
   ·cases hv
  refine ⟨⟨by omega,by omega⟩,fun V9 l9=>?_⟩;refine (aO (RD.aS (ds:=D) c9 Oi (n:=n+1-f) (c:=n+1-f) (by omega) (Nat.le_refl _) |>.le l9) (by omega)).mono ?_;rintro r b7 L ⟨k1,rfl,g1⟩;refine ⟨_,_,_,rfl,fun c0 M=>?_⟩;rw [Int.toNat_natCast];refine (Gk (YI.le (l9.trans (L.trans M))) (by simp;omega) s (by omega)).mono ?_;rintro r e4 d1 ⟨p2,n2,c2,rfl,g2⟩;refine ⟨_,_,_,rfl,fun e5 b1=>⟨_,_,_,_,_,_,rfl,?_,?_⟩⟩
  ·rw [aK Oi] at g1;unfold RN;rw [←hq];exact g1.le (M.trans (d1.trans b1))
  ·rw [hr] at g2;exact g2.le b1
theorem kI {V:View}{p q:OA}{n c m e:Nat}{xa xb:List Nat}(ha:RD V p n c xa)(hb:RD V q m e xb)(hm:xa.length<=1099511627776)(hn:xb.length<=1099511627776)(h0:val xb≠0) :
  Acts prog 184 #[.slice p n c,.slice q m e] V fun r V'=>∃p1 n1 c1 p2 n2 c2,r=.tuple #[.slice p1 n1 c1,.slice p2 n2 c2,.bool true]/\RN V' p1 n1 c1 (val xa / val xb)/\RN V' p2 n2 c2 (val xa%val xb):=by
 have la:=bo ha.fu;have lb:=bo hb.fu;refine xF p n c q m e V _ fun S v=>(aO (ha.le v) (by omega)).mono ?_;rintro r V2 J ⟨n,rfl,b⟩;rw [aK ha.fu] at b;refine ⟨_,_,_,rfl,fun T w=>(aO (hb.le (v.trans (J.trans w))) (by omega)).mono ?_⟩;rintro r U K ⟨m,rfl,f⟩;rw [aK hb.fu] at f
 replace b:=b.le (w.trans K)
 generalize val xa=x at *;generalize val xb=y at *;have L:=b.len;have W:=f.len;refine ⟨_,_,_,rfl,fun z=>?_,fun z X o=>(yw (b.le o) (f.le o) (by omega) (by omega)).mono ?_⟩
 ·exfalso;have:af y=[]:=List.length_eq_zero_iff.1 (by simp at z;omega);exact h0 (bE.1 this)
 rintro r Y A rfl;rw [ab,ab]
 replace b:=b.le (o.trans A)
 replace f:=f.le (o.trans A)
 refine ⟨_,rfl,fun d B g=>(lK (b.le g) (by omega)).mono ?_,fun d=>⟨fun j=>?_,fun j B g=>?_⟩⟩
 ·rintro r C D ⟨E,F,G,rfl,h⟩;have d:x<y:=by simpa [fO] using d
  refine ⟨_,_,_,rfl,fun k a=>⟨_,_,_,_,_,_,rfl,?_,?_⟩⟩
  ·rw [Nat.div_eq_of_lt d];exact RD.nil
  ·rw [Nat.mod_eq_of_lt d];exact h.le a
 ·have j:m=1:=by simp at j;omega
  subst j;refine f.Zk 0 rfl (by omega) fun B g=>?_;have H:=(ax y).get (i:=0) (by omega)
  have M:y=(af y)[0]'(by omega):=by
   have e:=gu (af y) 0 (by omega);rw [ab,List.drop_of_length_le (by omega)] at e;simpa using e
  rw [←M] at H ⊢;refine (BB (b.le g) (by omega) y h0 H).mono ?_;rintro r C D ⟨E,F,G,rfl,h⟩;rw [ab] at h ⊢;have I:x%y<y:=Nat.mod_lt _ (by omega);refine ⟨_,_,_,_,rfl,fun k a=>?_⟩;rw [aH (by omega)];refine (dF _ (by omega) (by omega)).mono ?_;rintro r N s ⟨O,P,Q,rfl,t⟩;exact ⟨_,_,_,rfl,fun R l=>⟨_,_,_,_,_,_,rfl,h.le (a.trans (s.trans l)),t.le l⟩⟩
 ·have d:y<=x:=by simpa [←Int.not_lt,fO] using d
  have u:2<=m:=by
   have:¬(m:Int)=1:=by simpa using j
   have:af y≠[]:=fun e=>h0 (bE.1 e);have:(af y).length≠0:=fun e=>this (List.length_eq_zero_iff.1 e);omega
  refine (DQ (b.le g) (f.le g) (by omega) u d).mono ?_;rintro r C D ⟨E,F,G,O,P,Q,rfl,h,t⟩;exact ⟨_,_,_,_,_,_,rfl,fun k a=>⟨_,_,_,_,_,_,rfl,h.le a,t.le a⟩⟩
theorem uF (x y:Nat):Nat.gcd y (x%y)=Nat.gcd x y:=by
 rw [Nat.gcd_comm x y,Nat.gcd_rec y x,Nat.gcd_comm]
theorem yx {V:View}{p q:OA}{n c m e:Nat}{xa xb:List Nat}(ha:RD V p n c xa)(hb:RD V q m e xb)(hm:xa.length<=1099511627776)(hn:xb.length<=1099511627776) :
  Acts prog 183 #[.slice p n c,.slice q m e] V fun r V'=>∃p1 n1 c1,r=.slice p1 n1 c1/\RN V' p1 n1 c1 (Nat.gcd (val xa) (val xb)):=by
 have la:=bo ha.fu;have lb:=bo hb.fu;refine EN p n c q m e V _ fun V1 T=>(iH (ha.le T) hm).mono ?_;rintro r V2 Z ⟨p1,n1,c1,rfl,f⟩;refine ⟨_,_,_,rfl,fun V3 U=>(iH (hb.le (T.trans (Z.trans U))) hn).mono ?_⟩;rintro r V4 l4 ⟨q1,m1,e1,rfl,i⟩
 replace f:=f.le (U.trans l4)
 refine ⟨_,_,_,rfl,fun z k V'=>∃x y:Nat,RN V' z.1 z.2.1 z.2.2.1 x/\RN V' z.2.2.2.1 z.2.2.2.2.1 z.2.2.2.2.2 y/\Nat.gcd x y=Nat.gcd (val xa) (val xb)/\k=y/\(af x).length<=1099511627776/\(af y).length<=1099511627776,
  ⟨(p1,n1,c1,q1,m1,e1),val xb,by (try dsimp only);and_intros<;>trivial,val xa,val xb,f,i,rfl,rfl,by omega,by omega⟩,?_⟩
 rintro ⟨p,n,c,q,m,e⟩ k V5 l5 ⟨x,y,f,i,A,hk,K,g⟩;dsimp only at f i ⊢;have a0:=f.len;have W:=i.len;rw [←A];have stop:m=0->y=0:=fun h=>bE.1 (List.length_eq_zero_iff.1 (by omega))
 have more:∀j:View,V5.Le j->m≠0->Acts prog 184 #[.slice p n c,.slice q m e] j fun r B=>∃p1 n1 c1 p2 n2 c2,r=.tuple #[.slice p1 n1 c1,.slice p2 n2 c2,.bool true]/\RN B p2 n2 c2 (x%y)/\x%y<y/\Nat.gcd y (x%y)=Nat.gcd (val xa) (val xb)/\(af (x%y)).length<=1099511627776/\j.Le B:=by
  intro j l h
  have L:y≠0:=by
   intro e0;subst e0;rw [yB] at W;simp at W;omega
  have d:x%y<y:=Nat.mod_lt _ (by omega);refine (kI (f.le l) (i.le l) K g (by rw [ab];exact L)).mono ?_;rintro r B M ⟨N,O,P,H,I,J,rfl,X,v⟩;rw [ab,ab] at v;exact ⟨_,_,_,_,_,_,rfl,v,d,by rw [uF,A],Nat.le_trans (aA (by omega)) g,M⟩
 refine ⟨by trivial,fun Y=>⟨fun o V6 Q=>?_,fun o j l=>(more j l ?_).mono ?_⟩,fun Y=>⟨fun C=>⟨fun o V6 Q=>?_,fun o j l=>(more j l ?_).mono ?_⟩,fun C a1 D=>?_⟩⟩
 ·rw [stop (by simp at o;omega),Nat.gcd_zero_right];rw [stop (by simp at o;omega)] at A;exact ⟨_,_,_,rfl,f.le Q⟩
 ·simp at o;omega
 ·rintro r B M ⟨N,O,P,H,I,J,rfl,v,d,s,t,R⟩;exact ⟨_,_,_,_,_,_,_,rfl,(q,m,e,H,I,J),x%y,(by omega),by (try dsimp only);and_intros<;>trivial,y,x%y,i.le (l.trans R),v,s.trans A.symm,rfl,g,t⟩
 ·rw [stop (by simp at o;omega),Nat.gcd_zero_right];exact ⟨_,_,_,rfl,f.le Q⟩
 ·simp at o;omega
 ·rintro r B M ⟨N,O,P,H,I,J,rfl,v,d,s,t,R⟩;exact ⟨_,_,_,_,_,_,_,rfl,(q,m,e,H,I,J),x%y,(by omega),by (try dsimp only);and_intros<;>trivial,y,x%y,i.le (l.trans R),v,s.trans A.symm,rfl,g,t⟩
 ·have a2:n<=2:=by simp at Y;omega
  have a3:m<=2:=by simp at C;omega
  have E:x<18446744073709551616:=(az (k:=2)).1 (by omega);have F:y<18446744073709551616:=(az (k:=2)).1 (by omega);refine (kJ (f.le D) (by omega)).mono ?_;rintro r a4 S rfl;rw [ab,if_pos E];refine ⟨_,_,rfl,fun a5 c_=>(kJ (i.le (D.trans (S.trans c_))) (by omega)).mono ?_⟩;rintro r a6 dq rfl;rw [ab,if_pos F]
  refine ⟨_,_,rfl,fun z V'=>∃a b:Nat,z=((a:Int),(b:Int))/\Nat.gcd a b=Nat.gcd x y/\a<18446744073709551616/\b<18446744073709551616,fun z=>z.2.toNat,
   ⟨((x:Int),(y:Int)),by (try dsimp only);and_intros<;>trivial,x,y,rfl,rfl,E,F⟩,?_⟩
  rintro _ ll du ⟨a,b,rfl,u,a7,G⟩;dsimp only;refine ⟨by trivial,fun w=>?_,fun w ny cM=>?_⟩
  ·have w:b≠0:=by rw [bne_iff_ne] at w;omega
   have d:a%b<b:=Nat.mod_lt _ (by omega);have e4:(a:Int).tmod (b:Int)=((a%b:Nat):Int):=by rw [Int.tmod_eq_emod_of_nonneg (by omega),←Int.natCast_emod]
   rw [e4];exact ⟨by omega,((b:Int),((a%b:Nat):Int)),by (try dsimp only);rw [Int.toNat_natCast,Int.toNat_natCast];exact d,by (try dsimp only);and_intros<;>trivial,b,a%b,rfl,by rw [uF,u],G,Nat.lt_trans d G⟩
  ·have w:b=0:=by rw [bne_eq_false_iff_eq] at w;omega
   subst w;rw [Nat.gcd_zero_right] at u;refine (dF _ (by omega) (by omega)).mono ?_;rintro r oD dz ⟨N,O,P,rfl,X⟩;refine ⟨_,_,_,rfl,fun rZ dY=>⟨_,_,_,rfl,?_⟩⟩;rw [←u];exact X.le dY
theorem cV {V:View}{p:OA}{n c:Nat}{ds:List Nat}(h:RD V p n c ds)(hm:ds.length<=4611686018427387904) :
  Acts prog 116 #[.slice p n c] V fun r V'=>∃k,r=.slice p k c/\RD V' p k c (bW ds):=by
 have j:=h.len;have l:=h.cap;refine Dt p n c V _ ?_;refine ⟨fun z V'=>0<=z/\z<=n/\bW (ds.take z.toNat)=bW ds,fun z=>z.toNat,⟨n,by (try dsimp only);and_intros<;>first|exact True.intro|rfl,by (try dsimp only);omega,by (try dsimp only);omega,?_⟩,?_⟩
 ·simp [j]
 ·rintro k o e ⟨f,m,d⟩;obtain ⟨k,rfl⟩:=Int.eq_ofNat_of_zero_le f;dsimp only at m d ⊢;simp only [Int.toNat_natCast] at d;refine ⟨rfl,fun a=>?_,fun a=>?_⟩
  ·have a:0<k:=by simpa using a
   have w:i64.wrap ((k:Int)-1)=((k-1:Nat):Int):=by rw [i64w (by omega)];omega
   simp only [w];have g:ds.take k=ds.take (k-1)++[ds[k-1]]:=by rw [←List.take_succ_eq_append_getElem (by omega),Nat.sub_add_cancel a]
   refine (h.le e).rd (k-1) rfl (by omega) ⟨fun b=>?_,fun b=>?_⟩
   ·have b:ds[k-1]=0:=by simpa using b
    refine ⟨_,?_,by (try dsimp only);and_intros<;>first|exact True.intro|rfl,?_,?_,?_⟩
    ·(try dsimp only);omega
    ·(try dsimp only);omega
    ·(try dsimp only);omega
    ·(try dsimp only)
     rw [←d,g,b,gY];rfl
   ·have b:ds[k-1]≠0:=by simpa using b
    refine ⟨⟨by omega,by omega⟩,fun V2 i=>⟨k,rfl,?_⟩⟩;rw [←d,g,nX _ _ b,←g];exact ((h.le e).le i).take (by omega)
  ·have a:k=0:=by simpa using a
   subst a;refine ⟨⟨by omega,by omega⟩,fun V2 i=>⟨0,rfl,?_⟩⟩;rw [←d];exact ((h.le e).le i).take (by omega)
theorem dG {V:View}(u:Nat)(h1:u<18446744073709551616) :
  Acts prog 115 #[.int .u64 (u:Int)] V fun r V'=>∃q k c',r=.slice q k c'/\RN V' q k c' u:=by
 refine Du _ V _ ⟨by omega,fun e h f a=>?_⟩;rw [lj,il,pN (by omega)] at a
 have a:e.aS f (.cells (ay [u%4294967296,u / 4294967296]).toArray 225 (0,0)):=by
  simpa [ay] using a
 have d:bM [u%4294967296,u / 4294967296]:=by simp [bM];omega
 refine (cV (RD.aS a d (n:=2) (c:=2) rfl (Nat.le_refl _)) (by simp)).mono ?_;rintro r V2 i ⟨k,rfl,b⟩;refine ⟨_,_,_,rfl,fun _ j g=>⟨_,_,_,rfl,?_⟩⟩;rw [aK d] at b;have:val [u%4294967296,u / 4294967296]=u:=by simp;omega
 rw [this] at b;exact b.le g
theorem mE {V:View} :
  Acts prog 117 #[] V fun r V'=>∃q k c',r=.slice q k c'/\RN V' q k c' 1:=by
 refine EZ V _ fun b e c a=>⟨_,_,_,rfl,?_⟩;have d:af 1=[1]:=KE (by omega) (by omega);unfold RN;rw [d]
 have a:b.aS c (.cells (ay [1]).toArray 225 (0,0)):=by
  simpa [ay] using a
 exact RD.aS a (by simp [bM]) rfl (Nat.le_refl _)
def Hf (x:Int):Int:=if 0<x then 1 else if x<0 then -1 else 0
theorem DT {V:View}(x:Int) :
  Acts prog 191 #[.int .i64 x] V fun r V'=>r=.int .i64 (Hf x):=by
 refine Dw x V _ ⟨fun h b c=>?_,fun h=>⟨fun a b c=>?_,fun a b c=>?_⟩⟩
 ·have h:0<x:=by simpa using h
  rw [Hf,if_pos h]
 ·have h:x<0:=by simpa using a
  rw [Hf,if_neg (by omega),if_pos h]
 ·have h:¬0<x:=by simpa using h
  have a:¬x<0:=by simpa using a
  rw [Hf,if_neg h,if_neg a]
theorem iw {V:View}{p q:OA}{n c m e:Nat}{x y:Nat}(ha:RN V p n c x)(hb:RN V q m e y)(hm:(af x).length<=1099511627776)(hn:(af y).length<=1099511627776) :
  Acts prog 150 #[.slice p n c,.slice q m e] V fun r V'=>r=.int .i64 (jT x y):=by
 have v:=ha.len;have A:=hb.len;refine EU p n c q m e V _ ⟨fun g D E=>?_,fun g=>?_⟩
 ·have w:i64.wrap ((n:Int)-m)=(n:Int)-m:=i64w (by omega);simp only [w];refine (DT _).mono ?_;rintro r V2 F rfl;refine ⟨_,rfl,fun G H=>?_⟩;have g:n≠m:=by simp at g;omega
  congr 1;rcases Nat.lt_or_ge n m with h|h
  ·have:=jZ (a:=x) (b:=y) (by omega);rw [jT,if_pos this,Hf,if_neg (by omega),if_pos (by omega)]
  ·have:=jZ (a:=y) (b:=x) (by omega);rw [jT,if_neg (by omega),if_pos this,Hf,if_pos (by omega)]
 ·have g:n=m:=by simp at g;omega
  subst g;have w:i64.wrap ((n:Int)-1)=(n:Int)-1:=i64w (by omega);simp only [w];refine ⟨fun z V'=>-1<=z/\z<n/\(af x).drop (z+1).toNat=(af y).drop (z+1).toNat,fun z=>(z+1).toNat,⟨_,by (try dsimp only);and_intros<;>first|exact True.intro|rfl,by (try dsimp only);omega,by (try dsimp only);omega,?_⟩,?_⟩
  ·(try dsimp only)
   rw [List.drop_of_length_le (by omega),List.drop_of_length_le (by omega)]
  ·rintro i I j ⟨k,o,s⟩;dsimp only at k o s ⊢;refine ⟨by trivial,fun d=>?_,fun d J K=>?_⟩
   ·have d:0<=i:=by simpa using d
    obtain ⟨i,rfl⟩:=Int.eq_ofNat_of_zero_le d;have w:i64.wrap ((i:Int)-1)=(i:Int)-1:=i64w (by omega);simp only [w];have f:(af x).drop (i+1)=(af y).drop (i+1):=s;refine (ha.le j).rd i rfl (by omega) ((hb.le j).rd i rfl (by omega) ⟨fun t B C=>?_,fun t=>?_⟩)
    ·have:=jt (ax y) (by omega) (by omega) f.symm (by simpa using t);rw [ab,ab] at this;rw [jT,if_neg (by omega),if_pos this]
    ·refine (ha.le j).rd i rfl (by omega) ((hb.le j).rd i rfl (by omega) ⟨fun u B C=>?_,fun u=>?_⟩)
     ·have:=jt (ax x) (by omega) (by omega) f (by simpa using u);rw [ab,ab] at this;rw [jT,if_pos this]
     ·refine ⟨_,?_,by (try dsimp only);and_intros<;>first|exact True.intro|rfl,?_,?_,?_⟩
      ·(try dsimp only);omega
      ·(try dsimp only);omega
      ·(try dsimp only);omega
      ·(try dsimp only)
       have:((i:Int)-1+1).toNat=i:=by omega
       rw [this,List.drop_eq_getElem_cons (by omega),List.drop_eq_getElem_cons (l:=af y) (by omega),f];congr 1;simp at t u;omega
   ·have d:i=-1:=by simp at d;omega
    subst d;have:af x=af y:=by simpa using s
    have:=uu this;subst this;simp [jT]
theorem IV (a b:Nat):maxI (a:Int) (b:Int)=((max a b:Nat):Int):=by
 unfold maxI;split<;>omega
theorem Gn {V:View}{p q:OA}{n c m e:Nat}{xs ys:List Nat}(hx:RD V p n c xs)(hy:RD V q m e ys)(hm:xs.length<=1099511627776)(hn:ys.length<=1099511627776) :
  Acts prog 151 #[.slice p n c,.slice q m e] V fun r V'=>∃p' n' c',r=.slice p' n' c'/\RN V' p' n' c' (val xs+val ys):=by
 have H:=hx.len;have O:=hy.len;have vc:=E2 p n c q m e V;have w:i64.wrap (((max n m:Nat):Int)+1)=((max n m+1:Nat):Int):=by rw [i64w (by omega)];omega
 simp only [IV,w,Int.toNat_natCast] at vc;obtain ⟨k,I⟩:∃k,k=max n m:=⟨_,rfl⟩;rw [←I] at vc
 refine vc _ ⟨by omega,by omega,by omega,fun z V'=>0<=z.1/\z.1<=1/\0<=z.2.1/\z.2.1<=k/\∃es:List Nat,z.2.2=ay es/\es.length=k+1/\bM es /\
   val (es.take z.2.1.toNat)+4294967296^z.2.1.toNat*z.1.toNat=val (xs.take z.2.1.toNat)+val (ys.take z.2.1.toNat),fun z=>k-z.2.1.toNat,⟨(0,0,ay (List.replicate (k+1) 0)),by (try dsimp only);and_intros<;>first|exact True.intro|rfl|exact cD _,by (try dsimp only);omega,by (try dsimp only);omega,by (try dsimp only);omega,by (try dsimp only);omega,_,rfl,by simp,bM.rep _,by simp⟩,?_⟩
 rintro ⟨b,i,P⟩ V2 D ⟨f,o,g,s,es,rfl,t,h,l⟩;dsimp only at f o g s l ⊢;obtain ⟨i,rfl⟩:=Int.eq_ofNat_of_zero_le g;obtain ⟨b,rfl⟩:=Int.eq_ofNat_of_zero_le f;simp only [Int.toNat_natCast] at l;refine ⟨by trivial,fun d=>?_,fun d=>?_⟩
 ·have d:i<k:=by simpa using d
  refine ⟨fun z V'=>∃x:Nat,z=x/\x<4294967296/\val (xs.take (i+1))=val (xs.take i)+4294967296^i*x,⟨fun a=>?_,fun a=>?_⟩,?_⟩
  ·have a:i<n:=by simpa using a
   refine (hx.le D).rd i rfl (by omega) ?_;exact ⟨_,by (try dsimp only);and_intros<;>first|exact True.intro|rfl,xs[i],rfl,hx.fu.get (by omega),aq _ _ (by omega)⟩
  ·have a:n<=i:=by simpa using a
   exact ⟨_,by (try dsimp only);and_intros<;>first|exact True.intro|rfl,0,rfl,by omega,by rw [ai (by omega),ai (by omega)];simp⟩
  rintro _ J E ⟨x,rfl,u,v⟩;refine ⟨by trivial,fun z V'=>∃y:Nat,z=y/\y<4294967296/\val (ys.take (i+1))=val (ys.take i)+4294967296^i*y,⟨fun a=>?_,fun a=>?_⟩,?_⟩
  ·have a:i<m:=by simpa using a
   refine ((hy.le D).le E).rd i rfl (by omega) ?_;exact ⟨_,by (try dsimp only);and_intros<;>first|exact True.intro|rfl,ys[i],rfl,hy.fu.get (by omega),aq _ _ (by omega)⟩
  ·have a:m<=i:=by simpa using a
   exact ⟨_,by (try dsimp only);and_intros<;>first|exact True.intro|rfl,0,rfl,by omega,by rw [ai (by omega),ai (by omega)];simp⟩
  rintro _ K L ⟨y,rfl,A,B⟩;refine ⟨by trivial,fun M F=>(Kw x y b u A (by omega)).mono ?_⟩;rintro r Q R rfl;have w:i64.wrap ((i:Int)+1)=((i+1:Nat):Int):=by rw [i64w (by omega)];omega
  simp only [w,Int.toNat_natCast];refine ⟨_,_,rfl,⟨by omega,by omega⟩,by simp;omega,(((x+y+b) / 4294967296:Nat),((i+1:Nat):Int),ay (es.set i ((x+y+b)%4294967296))),?_,by (try dsimp only);and_intros<;>first|exact True.intro|rfl|(rw [←bj];simp),?_⟩
  ·(try dsimp only);omega
  ·(try dsimp only)
   refine ⟨by omega,by omega,by omega,by omega,_,rfl,by simpa using t,h.set _ _ (by omega),?_⟩;simp only [Int.toNat_natCast];rw [aD _ _ _ (by omega),Nat.pow_succ,v,B];exact tL l (by omega)
 ·have d:i=k:=by simp at d;omega
  subst d;refine ⟨⟨by omega,by omega⟩,by simp;omega,fun J E S C=>?_⟩;have G:(ay es).set (0+((i:Int).toNat)*1) (.int .u32 (b:Int))=ay (es.set i b):=by rw [←bj];simp
  simp only [Int.toNat_natCast] at G;try simp only [Int.toNat_natCast] at C
  rw [G] at C;have j:=h.set i b (by omega);refine (cV (RD.aS C j (n:=i+1) (c:=i+1) (by simp;omega) (Nat.le_refl _)) (by simp;omega)).mono ?_;rintro r K L ⟨k,rfl,a⟩;refine ⟨_,_,_,rfl,fun _ M F=>⟨_,_,_,rfl,?_⟩⟩;rw [aK j] at a
  have N:val (es.set i b)=val xs+val ys:=by
   have:=aD es i b (by omega);rw [ai (by simp;omega)] at this;rw [this,l,ai (by omega),ai (by omega)]
  rw [N] at a;exact a.le F
theorem EB {E A B c x y W d b:Nat}(h:E+B=A+W*c)(hv:d+(y+c)=x+4294967296*b) :
  E+W*d+(B+W*y)=A+W*x+W*4294967296*b:=by
 have:=congrArg (W*·) hv;simp only [Nat.mul_add,←Nat.mul_assoc] at this;omega
theorem nC {V:View}{p q:OA}{n c m e:Nat}{xs ys:List Nat}(hx:RD V p n c xs)(hy:RD V q m e ys)(hm:xs.length<=1099511627776)(hl:ys.length<=xs.length)(hle:val ys<=val xs) :
  Acts prog 152 #[.slice p n c,.slice q m e] V fun r V'=>∃p' n' c',r=.slice p' n' c'/\RN V' p' n' c' (val xs-val ys):=by
 have G:=hx.len;have N:=hy.len
 refine Dn p n c q m e V _ ⟨by omega,by omega,by omega,fun z V'=>0<=z.1/\z.1<=1/\0<=z.2.1/\z.2.1<=n/\∃es:List Nat,z.2.2=ay es/\es.length=n/\bM es /\
   val (es.take z.2.1.toNat)+val (ys.take z.2.1.toNat)=val (xs.take z.2.1.toNat)+4294967296^z.2.1.toNat*z.1.toNat,fun z=>n-z.2.1.toNat,
   ⟨(0,0,List.replicate n (.int .u32 0)),by (try dsimp only);and_intros<;>first|exact True.intro|rfl,by (try dsimp only);omega,by (try dsimp only);omega,by (try dsimp only);omega,by (try dsimp only);omega,List.replicate n 0,cD n,by simp,bM.rep _,by simp⟩,?_⟩
 rintro ⟨l,i,O⟩ V2 C ⟨o,u,s,v,es,rfl,g,a,t⟩;dsimp only at o u s v t ⊢;obtain ⟨i,rfl⟩:=Int.eq_ofNat_of_zero_le s;obtain ⟨l,rfl⟩:=Int.eq_ofNat_of_zero_le o;simp only [Int.toNat_natCast] at t;refine ⟨by trivial,fun j=>?_,fun j=>?_⟩
 ·have j:i<n:=by simpa using j
  refine ⟨fun z V'=>∃y:Nat,z=y/\y<4294967296/\val (ys.take (i+1))=val (ys.take i)+4294967296^i*y,⟨fun f=>?_,fun f=>?_⟩,?_⟩
  ·have f:i<m:=by simpa using f
   refine (hy.le C).rd i rfl (by omega) ?_;exact ⟨_,by (try dsimp only);and_intros<;>first|exact True.intro|rfl,ys[i],rfl,hy.fu.get (by omega),aq _ _ (by omega)⟩
  ·have f:m<=i:=by simpa using f
   exact ⟨_,by (try dsimp only);and_intros<;>first|exact True.intro|rfl,0,rfl,by omega,by rw [ai (by omega),ai (by omega)];simp⟩
  rintro _ H D ⟨y,rfl,x,A⟩;refine ⟨by trivial,?_⟩;refine ((hx.le C).le D).rd i rfl (by omega) fun I J=>(KB _ y l (hx.fu.get (by omega)) x (by omega)).mono ?_;rintro r K E ⟨d,b,rfl,P,F,B⟩;have w:i64.wrap ((i:Int)+1)=((i+1:Nat):Int):=by rw [i64w (by omega)];omega
  simp only [w,Int.toNat_natCast];refine ⟨_,_,rfl,⟨by omega,by omega⟩,by simp;omega,((b:Int),((i+1:Nat):Int),ay (es.set i d)),?_,by (try dsimp only);and_intros<;>first|exact True.intro|rfl|(rw [←bj];simp),?_⟩
  ·(try dsimp only);omega
  ·(try dsimp only)
   refine ⟨by omega,by omega,by omega,by omega,_,rfl,by simpa using g,a.set _ _ (by omega),?_⟩;simp only [Int.toNat_natCast];rw [aD _ _ _ (by omega),Nat.pow_succ,aq xs i (by omega),A];exact EB t B
 ·have j:i=n:=by simp at j;omega
  subst j;simp only [Int.toNat_natCast];intro H D Q F;refine (cV (RD.aS F a (n:=i) (c:=i) g.symm (Nat.le_refl _)) (by omega)).mono ?_;rintro r I J ⟨k,rfl,f⟩;refine ⟨_,_,_,rfl,fun _ K E=>⟨_,_,_,rfl,?_⟩⟩;rw [aK a] at f;rw [ai (by omega),ai (by omega),ai (by omega)] at t;have L:=fW a;rw [g] at L
  have M:l=0:=by
   rcases Nat.eq_zero_or_pos l with h|h
   ·exact h
   ·have:4294967296^i*1<=4294967296^i*l:=Nat.mul_le_mul_left _ h;omega
  subst M;rw [show val es=val xs-val ys from by omega] at f;exact f.le E
theorem CH {V:View}{p:OA}{n c:Nat}{ds:List Nat}(h:RD V p n c ds){K:Int->Prop}(hn:0<ds.length)
  (hK:K ((ds[0]:Nat):Int)):(p.isSome=true)/\(0<=(0:Int)/\(0:Int)<(n:Int))/\∃x:Int,(∃a,addrAdd p 0=some a/\V.at a (.int .u32 x))/\K x:=by
 have:=h.rd (i:=0) (K:=K) 0 rfl hn hK;simpa using this
theorem Ll {V:View}{p:OA}{n c:Nat}{ds:List Nat}(h:RD V p n c ds){K:Int->Prop}(j:Nat)(hn:j<ds.length)
  (hK:K ((ds[j]:Nat):Int)):(p.isSome=true)/\(0<=(j:Int)/\(j:Int)<(n:Int))/\∃x:Int,(∃a,addrAdd p j=some a/\V.at a (.int .u32 x))/\K x:=by
 have:=h.rd (i:=j) (K:=K) j rfl hn hK;simpa using this
theorem kT {ds:List Nat}(h:ds.length=1):∃a,ds=[a]:=by
 match ds,h with
 | [a],_=>exact ⟨a,rfl⟩
theorem EH {ds:List Nat}(h:ds.length=2):∃a b,ds=[a,b]:=by
 match ds,h with
 | [a,b],_=>exact ⟨a,b,rfl⟩
theorem cj {V:View}{p q:OA}{n c m e:Nat}{xs ys:List Nat}(hx:RD V p n c xs)(hy:RD V q m e ys)(hm:xs.length+ys.length<=1099511627776) :
  Acts prog 67 #[.slice p n c,.slice q m e] V fun r V'=>∃p' n' c',r=.slice p' n' c'/\RN V' p' n' c' (val xs*val ys):=by
 have X:=hx.len;have Be:=hy.len;have y:((n:Int)+m).toNat=n+m:=by omega
 have w:i64.wrap ((n:Int)+m)=(n:Int)+m:=i64w (by omega);have vc:=vY p n c q m e V;simp only [w,y,cD] at vc;refine (fun tail=>vc _ ⟨fun S=>⟨fun A=>?_,fun _=>tail⟩,fun _=>tail⟩) ?_
 ·have S:n=1:=by simp at S;omega
  have A:m=1:=by simp at A;omega
  clear tail vc;obtain ⟨a,rfl⟩:=kT (ds:=xs) (by omega);obtain ⟨b,rfl⟩:=kT (ds:=ys) (by omega);have T:=hx.fu.get (i:=0) (by simp);have B:=hy.fu.get (i:=0) (by simp);refine CH hx (by simp) (CH hy (by simp) fun V1 l1=>?_);simp only [List.getElem_cons_zero] at T B ⊢;have Y:a*b<=4294967295*4294967295:=Nat.mul_le_mul (by omega) (by omega);have J:u64.wrap (a:Int)=a:=aH (by omega);have K:u64.wrap (b:Int)=b:=aH (by omega);have Z:(a:Int)*(b:Int)=((a*b:Nat):Int):=by simp
  have e4:u64.wrap ((a*b:Nat):Int)=((a*b:Nat):Int):=aH (by omega);rw [J,K,Z,e4];refine (dG (a*b) (by omega)).mono ?_;rintro r V2 l2 ⟨p',n',c',rfl,h⟩;refine ⟨_,_,_,rfl,fun V3 l3=>⟨_,_,_,rfl,?_⟩⟩;simp only [aY,eh,Nat.mul_zero,Nat.add_zero];exact h.le l3
 refine ⟨by omega,by omega,by omega,fun z V'=>0<=z.1/\z.1<=n/\∃es:List Nat,z.2=ay es/\es.length=n+m/\bM es /\
  val (es.take (z.1.toNat+m))=val (xs.take z.1.toNat)*val ys,fun z=>n-z.1.toNat,⟨(0,ay (List.replicate (n+m) 0)),by (try dsimp only);and_intros<;>first|exact True.intro|rfl,by (try dsimp only);omega,by (try dsimp only);omega,_,rfl,by simp,bM.rep _,by simp [tH,List.take_replicate]⟩,?_⟩
 rintro ⟨i,vs⟩ V5 U ⟨C,L,es,rfl,M,o,D⟩;dsimp only at C L D ⊢;obtain ⟨i,rfl⟩:=Int.eq_ofNat_of_zero_le C;simp only [Int.toNat_natCast] at D;refine ⟨by trivial,fun v=>?_,fun v=>?_⟩
 ·have v:i<n:=by simpa using v
  refine (hx.le U).rd i rfl (by omega) ?_;have T:=hx.fu.get (i:=i) (by omega)
  refine ⟨fun z V'=>0<=z.1/\z.1<=4294967295/\0<=z.2.1/\z.2.1<=m/\∃d:List Nat,z.2.2=ay d/\d.length=n+m/\bM d/\d.drop (i+z.2.1.toNat)=es.drop (i+z.2.1.toNat) /\
   val (d.take (i+z.2.1.toNat))+4294967296^(i+z.2.1.toNat)*z.1.toNat=val (es.take (i+z.2.1.toNat))+4294967296^i*xs[i]*val (ys.take z.2.1.toNat),fun z=>m-z.2.1.toNat,
   ⟨(0,0,ay es),by (try dsimp only);and_intros<;>first|exact True.intro|rfl,by (try dsimp only);omega,by (try dsimp only);omega,by (try dsimp only);omega,by (try dsimp only);omega,es,rfl,M,o,rfl,by simp⟩,?_⟩
  rintro ⟨I,k,vs⟩ V6 W ⟨E,N,F,O,d,rfl,G,s,j,hw⟩;dsimp only at E N F O j hw ⊢;obtain ⟨k,rfl⟩:=Int.eq_ofNat_of_zero_le F;obtain ⟨I,rfl⟩:=Int.eq_ofNat_of_zero_le E;simp only [Int.toNat_natCast] at j hw;refine ⟨by trivial,fun g=>?_,fun g=>?_⟩
  ·have g:k<m:=by simpa using g
   refine (hy.le (U.trans W)).rd k rfl (by omega) ?_;have B:=hy.fu.get (i:=k) (by omega);have SI:=s.get (i:=i+k) (by omega)
   have P:d[i+k]'(by omega)=es[i+k]'(by omega):=by
    have A:d[i+k]?=es[i+k]?:=by
     have:=congrArg (fun l=>l[0]?) j;simpa [List.getElem?_drop] using this
    rw [List.getElem?_eq_getElem (by omega),List.getElem?_eq_getElem (by omega)] at A;exact Option.some.inj A
   simp (disch:=omega) only [i64w];have u:((i:Int)+k).toNat=i+k:=by omega
   rw [u];refine ⟨⟨by omega,by omega⟩,((d[i+k]'(by omega):Nat):Int),by rw [Nat.zero_add,Nat.mul_one];exact fU (by omega),⟨by omega,by omega⟩,by simp;omega,by omega,?_⟩;have a0:xs[i]*ys[k]<=4294967295*4294967295:=Nat.mul_le_mul (by omega) (by omega);have Np:(xs[i]:Int)*(ys[k]:Int)=((xs[i]*ys[k]:Nat):Int):=by simp
   obtain ⟨t,ht⟩:∃t:Nat,t=I+xs[i]*ys[k]+d[i+k]'(by omega):=⟨_,rfl⟩;rw [Nat.pow_add] at hw;have f:=Cr hw ht
   have J:u64.wrap (u64.wrap (u64.wrap (u64.wrap (xs[i]:Int)*u64.wrap (ys[k]:Int))+u64.wrap ((d[i+k]'(by omega):Nat):Int))+(I:Int))=(t:Int):=by
    clear f;generalize xs[i]*ys[k]=pq at *;rw [aH (x:=(xs[i]:Int)) (by omega),aH (x:=(ys[k]:Int)) (by omega),Np,aH (x:=((pq:Nat):Int)) (by omega)];simp (disch:=omega) only [aH];omega
   rw [J,il,lj];refine ⟨(_,_,_),?_,by (try dsimp only);and_intros<;>first|exact True.intro|rfl,?_⟩
   ·(try dsimp only);omega
   ·(try dsimp only)
    have H:((k:Int)+1).toNat=k+1:=by omega
    refine ⟨by omega,by omega,by omega,by omega,d.set (i+k) (t%4294967296),?_,by simpa using G,s.set _ _ (by omega),?_,?_⟩
    ·rw [←bj];simp
    ·rw [H,List.drop_set_of_lt (by omega)];have:=congrArg (List.drop 1) j;simpa [List.drop_drop,Nat.add_comm,Nat.add_assoc,Nat.add_left_comm] using this
    ·rw [H,show i+(k+1)=i+k+1 from by omega,aD _ _ _ (by omega),aq es (i+k) (by omega),aq ys k (by omega),←P,Nat.pow_succ];have K:((t:Int) / 4294967296).toNat=t / 4294967296:=by omega
     rw [K,Nat.pow_add,f]
  ·have g:k=m:=by simp at g;omega
   subst g;simp (disch:=omega) only [i64w];have u:((i:Int)+k).toNat=i+k:=by omega
   rw [u];refine ⟨⟨by omega,by omega⟩,by simp;omega,(_,_),?_,by (try dsimp only);and_intros<;>first|exact True.intro|rfl,?_⟩
   ·(try dsimp only);omega
   ·(try dsimp only)
    have Q:((i:Int)+1).toNat=i+1:=by omega
    refine ⟨by omega,by omega,d.set (i+k) I,?_,by simpa using G,s.set _ _ (by omega),?_⟩
    ·rw [←bj,pN (by omega)];simp
    ·rw [Q,show i+1+k=i+k+1 from by omega,aD _ _ _ (by omega),hw,D,aq xs i (by omega),ai (ds:=ys) (by omega)];grind
 ·have v:i=n:=by simp at v;omega
  subst v;intro V6 W bk R;refine (cV (RD.aS R o (n:=i+m) (c:=i+m) (by omega) (Nat.le_refl _)) (by omega)).mono ?_;rintro r V7 l7 ⟨k,rfl,g⟩;refine ⟨_,_,_,rfl,fun _ V8 l8=>⟨_,_,_,rfl,?_⟩⟩;rw [aK o] at g;rw [ai (by omega),ai (by omega)] at D;rw [D] at g;exact g.le l8
theorem kM {V:View}{p:OA}{n c:Nat}{ds:List Nat}(h:RD V p n c ds)(hm:ds.length<=1099511627776) :
  Acts prog 153 #[.slice p n c] V fun r V'=>r=.tuple #[.int .u64 ((if n<=2 then val ds else 0:Nat):Int),.bool (decide (n<=2))]:=by
 have u:=h.len;refine Dx p n c V _ ⟨fun e k l=>?_,fun e=>⟨fun f=>?_,fun f=>⟨fun d=>?_,fun d k l=>?_⟩⟩⟩
 ·have e:n=0:=by simp at e;omega
  subst e;have:ds=[]:=List.length_eq_zero_iff.1 (by omega);subst this;rfl
 ·have f:n=1:=by simp at f;omega
  subst f;obtain ⟨a,rfl⟩:=kT (ds:=ds) (by omega);have o:=h.fu.get (i:=0) (by simp);refine CH h (by simp) fun k l=>?_;simp only [List.getElem_cons_zero] at o ⊢;have m:u64.wrap (a:Int)=a:=aH (by omega);rw [m,if_pos (by omega),decide_eq_true (by omega)];simp
 ·have d:n=2:=by simp at d;omega
  subst d;obtain ⟨a,b,rfl⟩:=EH (ds:=ds) (by omega);have g:=h.fu.get (i:=0) (by simp);have j:=h.fu.get (i:=1) (by simp);refine Ll h 1 (by simp) ⟨by omega,CH h (by simp) fun k l=>?_⟩;simp only [List.getElem_cons_zero,List.getElem_cons_succ] at g j ⊢;have m:u64.wrap (a:Int)=a:=aH (by omega);have q:u64.wrap (b:Int)=b:=aH (by omega);have s:((2:Int)^32)=4294967296:=by decide
  have t:u64.wrap ((b:Int)*4294967296)=(b:Int)*4294967296:=aH (by omega);rw [m,q,s,t,Cz _ _ j g,if_pos (by omega),decide_eq_true (by omega)];simp only [aY,eh];congr 4;omega
 ·have d:¬n<=2:=by simp at e f d;omega
  rw [if_neg d,decide_eq_false d];rfl
theorem GY (b:Nat):0 ||| b=b:=Nat.zero_or b
theorem kL {V:View}{p:OA}{n c:Nat}{ds:List Nat}(hx:RD V p n c ds)(hm:ds.length<=1099511627776)(k:Nat)(hk:k<=35184372088832) :
  Acts prog 195 #[.slice p n c,.int .i64 (k:Int)] V fun r V'=>∃p' n' c',r=.slice p' n' c'/\RN V' p' n' c' (val ds*2^k):=by
 have hl:=hx.len;have y:(k:Int).tdiv 32=((k / 32:Nat):Int):=by rw [Int.tdiv_eq_ediv_of_nonneg (by omega)];omega
 have A:(k:Int).tmod 32=((k%32:Nat):Int):=by rw [Int.tmod_eq_emod_of_nonneg (by omega)];omega
 have vc:=Dm p n c k V
 have g:val ds*2^k=4294967296^(k / 32)*val ds*2^(k%32):=by
  have:2^k=4294967296^(k / 32)*2^(k%32):=by
   rw [show (4294967296:Nat)=2^32 from rfl,←Nat.pow_mul,←Nat.pow_add,Nat.div_add_mod]
  rw [this];grind
 rw [g];have C:k / 32<=1099511627776:=by omega
 have o:k%32<32:=Nat.mod_lt _ (by omega);rw [y,A] at vc;generalize k / 32=w at *;generalize k%32=r at *;clear y A g;have D:i64.wrap (w:Int)=(w:Int):=i64w (by omega);have E:i64.wrap ((w:Int)+n)=((w+n:Nat):Int):=by rw [i64w (by omega)];omega
 have F:i64.wrap (((w+n:Nat):Int)+1)=((w+n+1:Nat):Int):=by rw [i64w (by omega)];omega
 have G:u64.wrap (r:Int)=(r:Int):=aH (by omega)
 have h:(min r IntKind.u64.bits)=r:=by
  show min _ 64=r;omega
 have H:((2:Int)^r)=((2^r:Nat):Int):=by simp
 simp only [D,E,F,G,Int.toNat_natCast,h,H,cD] at vc
 refine vc _ ⟨by omega,by omega,by omega,by omega,by omega,fun z V'=>0<=z.1/\z.1<=n/\∃es:List Nat,z.2=ay es/\es.length=w+n+1/\bM es/\(∀c,es[z.1.toNat+w]?=some c->c<2^r)/\(∀j c,z.1.toNat+w<j->es[j]?=some c->c=0) /\
   val (es.take (z.1.toNat+w+1))=4294967296^w*val (ds.take z.1.toNat)*2^r,fun z=>n-z.1.toNat,
   ⟨(0,ay (List.replicate (w+n+1) 0)),by (try dsimp only);and_intros<;>first|exact True.intro|rfl,by (try dsimp only);omega,by (try dsimp only);omega,_,rfl,by simp,bM.rep _,?_,?_,?_⟩,?_⟩
 ·intro c a;rw [List.getElem?_replicate] at a;split at a
  ·cases a;exact Nat.two_pow_pos r
  ·cases a
 ·intro j c _ a;rw [List.getElem?_replicate] at a;split at a
  ·cases a;rfl
  ·cases a
 ·simp [List.take_replicate,tH]
 rintro ⟨i,vs⟩ V4 I ⟨l,q,es,rfl,s,d,a,m,e⟩;dsimp only at l q a m e ⊢;obtain ⟨i,rfl⟩:=Int.eq_ofNat_of_zero_le l;simp only [Int.toNat_natCast] at a m e;refine ⟨by trivial,fun f=>?_,fun f=>?_⟩
 ·have f:i<n:=by simpa using f
  have J:i64.wrap ((w:Int)+i)=((i+w:Nat):Int):=by rw [i64w (by omega)];omega
  have K:i64.wrap (((i+w:Nat):Int)+1)=((i+w+1:Nat):Int):=by rw [i64w (by omega)];omega
  have L:i64.wrap ((i:Int)+1)=((i+1:Nat):Int):=by rw [i64w (by omega)];omega
  simp only [J,K,L,Int.toNat_natCast,Nat.mul_one,Nat.zero_add];refine Ll (hx.le I) i (by omega) ?_;have M:=hx.fu.get (i:=i) (by omega);have t:=a (es[i+w]'(by omega)) (List.getElem?_eq_getElem _);have N:=m (i+w+1) (es[i+w+1]'(by omega)) (by omega) (List.getElem?_eq_getElem _);obtain ⟨O,g2,P,g4⟩:=CT M o t;have hmul:((ds[i]:Nat):Int)*((2^r:Nat):Int)=((ds[i]*2^r:Nat):Int):=by simp
  have Q:u64.wrap ((ds[i]:Nat):Int)=((ds[i]:Nat):Int):=aH (by omega);have R:u64.wrap ((ds[i]*2^r:Nat):Int)=((ds[i]*2^r:Nat):Int):=aH (by omega);have S:u32.wrap ((ds[i]*2^r:Nat):Int)=((ds[i]*2^r%4294967296:Nat):Int):=by rw [il];omega
  have T:u32.wrap (((ds[i]*2^r:Nat):Int).fdiv (2^32))=((ds[i]*2^r / 4294967296:Nat):Int):=by rw [lj,il];omega
  simp only [Q,hmul,R,S,T];have u:ds[i]*2^r / 4294967296<4294967296:=by omega
  have U:=Nat.mod_add_div (ds[i]*2^r) 4294967296;have v:val (List.take (i+1) ds)=val (List.take i ds)+4294967296^i*ds[i]:=aq _ _ (by omega);have W:val (es.take (i+w+1))=val (es.take (i+w))+4294967296^(i+w)*es[i+w]'(by omega):=aq _ _ (by omega);have x:ds[i]*2^r%4294967296<4294967296:=Nat.mod_lt _ (by omega);generalize ds[i]*2^r%4294967296=lo at *;generalize ds[i]*2^r / 4294967296=hi at *;refine ⟨by omega,by omega,⟨by omega,by omega⟩,((es[i+w]'(by omega):Nat):Int),fU (by omega),⟨by omega,by omega⟩,by simp;omega,by omega,⟨by omega,by omega⟩,((es[i+w+1]'(by omega):Nat):Int),?_,by omega,⟨by omega,by omega⟩,by simp;omega,?_⟩
  ·rw [List.getElem?_set_ne (by omega)];exact fU (by omega)
  have X:es[i+w]'(by omega)<4294967296:=d.get (by omega);rw [Ei _ _ X x,O,N,Ei _ _ (by omega) u,GY];refine ⟨(((i+1:Nat):Int),ay ((es.set (i+w) (es[i+w]'(by omega)+lo)).set (i+w+1) hi)),?_,?_,?_⟩
  ·(try dsimp only);omega
  ·(try dsimp only);and_intros<;>first|exact True.intro|rfl|rw [←bj,←bj]
  ·(try dsimp only)
   refine ⟨by omega,by omega,_,rfl,by simpa using s,(d.set _ _ (by omega)).set _ _ (by omega),?_,?_,?_⟩
   ·intro c b;simp only [Int.toNat_natCast] at b;rw [show i+1+w=i+w+1 from by omega,List.getElem?_set_self (by simp;omega)] at b;cases b;exact P
   ·intro j c Y b;simp only [Int.toNat_natCast] at Y;rw [List.getElem?_set_ne (by omega),List.getElem?_set_ne (by omega)] at b;exact m j c (by omega) b
   ·simp only [Int.toNat_natCast];rw [show i+1+w+1=i+w+1+1 from by omega,aD _ _ _ (by simp;omega),aD _ _ _ (by omega),v];rw [W] at e;have Z:4294967296^(i+w+1)*hi=4294967296^(i+w)*(4294967296*hi):=by rw [Nat.pow_succ];grind
    rw [Z,Nat.mul_add,←Nat.add_assoc,e,Nat.add_assoc,←Nat.mul_add,U,Nat.pow_add];grind
 ·have f:i=n:=by simp at f;omega
  subst f;intro V5 l5 bk hb;refine (cV (RD.aS hb d (n:=w+i+1) (c:=w+i+1) (by omega) (Nat.le_refl _)) (by omega)).mono ?_;rintro r' V6 l6 ⟨k',rfl,B⟩;refine ⟨_,_,_,rfl,fun _ V7 l7=>⟨_,_,_,rfl,?_⟩⟩;rw [ai (by omega),ai (by omega)] at e;rw [aK d,e] at B;exact B.le l7
theorem oC (a:Addr)(m n:Nat):(a.add m).add n=a.add (m+n):=by
 unfold Addr.add;by_cases b:m=0
 ·subst b;simp
 ·by_cases c:n=0
  ·subst c;simp [b]
  ·rw [if_neg b,if_neg c,if_neg (by omega)];simp only [Nat.add_assoc]
theorem MG {V:View}{p:OA}{n c:Nat}{ds:List Nat}(h:RD V p n c ds){k:Nat}(hk:k<n):RD V (pJ p c k 1) (n-k) (c-k) (ds.drop k):=by
 have g:=h.len;have j:=h.cap;have e:pJ p c k 1=addrAdd p k:=by unfold pJ;rw [if_neg (by omega),Nat.mul_one]
 rw [e];refine ⟨by simp;omega,by omega,fun i v b=>?_,h.fu.drop k,fun l=>?_⟩
 ·rw [Hn,List.getElem?_drop] at b;obtain ⟨d,f,a⟩:=h.sl _ _ b;refine ⟨d.add k,by rw [f];rfl,?_⟩;rw [oC];exact a
 ·have:p.isNone=true:=by cases p<;>simp_all [addrAdd]
  have:=h.GW this;omega
theorem BC {V:View}{p:OA}{n c:Nat}{ds:List Nat}(hd:RD V p n c ds)(hm:ds.length<=1099511627776)(k:Nat)(hk:k<=35184372088832) :
  Acts prog 196 #[.slice p n c,.int .i64 (k:Int)] V fun r V'=>∃p' n' c',r=.slice p' n' c'/\RN V' p' n' c' (val ds / 2^k):=by
 have U:=hd.len;have F:(k:Int).tdiv 32=((k / 32:Nat):Int):=by rw [Int.tdiv_eq_ediv_of_nonneg (by omega)];omega
 have v:(k:Int).tmod 32=((k%32:Nat):Int):=by rw [Int.tmod_eq_emod_of_nonneg (by omega)];omega
 have vc:=AV p n c k V
 have o:val ds / 2^k=val ds / 4294967296^(k / 32) / 2^(k%32):=by
  rw [Nat.div_div_eq_div_mul,show (4294967296:Nat)=2^32 from rfl,←Nat.pow_mul,←Nat.pow_add,Nat.div_add_mod]
 rw [o];have J:k / 32<=1099511627776:=by omega
 have y:k%32<32:=Nat.mod_lt _ (by omega);rw [F,v] at vc;generalize k / 32=w at *;generalize k%32=r at *;clear F v o;have K:i64.wrap (w:Int)=(w:Int):=i64w (by omega);have L:u64.wrap (r:Int)=(r:Int):=aH (by omega)
 have q:(min r IntKind.u64.bits)=r:=by
  show min _ 64=r;omega
 simp only [K,L,Int.toNat_natCast,q,cD] at vc;refine vc _ ⟨by omega,fun h W X=>?_,fun h=>?_⟩
 ·have h:n<=w:=by simp at h;omega
  have a:=fW hd.fu;have:4294967296^ds.length<=4294967296^w:=Nat.pow_le_pow_right (by omega) (by omega);rw [Nat.div_eq_of_lt (Nat.lt_of_lt_of_le a this),Nat.zero_div];exact ⟨_,_,_,rfl,RD.nil⟩
 ·have h:w<n:=by simp at h;omega
  clear vc
  have s:val ds / 4294967296^w=val (ds.drop w):=by
   have e:val ds=val (ds.take w++ds.drop w):=by rw [List.take_append_drop]
   have a:=fW (hd.fu.take w);rw [cY] at e;rw [List.length_take,Nat.min_eq_left (by omega)] at e a;rw [e,Nat.add_mul_div_left _ _ (Nat.pow_pos (by omega)),Nat.div_eq_of_lt a,Nat.zero_add]
  rw [s];have j:=MG hd h;have M:=j.len;clear s;generalize pJ p c w 1=sp at *;generalize ds.drop w=xs at *;generalize hN:n-w=N at *
  refine ⟨by omega,by omega,⟨by omega,by omega⟩,by omega,by omega,by omega,fun z V'=>0<=z.1/\z.1<=N/\∃es:List Nat,z.2=ay es/\es.length=N/\bM es /\
   val (es.take z.1.toNat)+4294967296^z.1.toNat*(val (xs.drop z.1.toNat) / 2^r)=val xs / 2^r,fun z=>N-z.1.toNat,
   ⟨(0,ay (List.replicate N 0)),by (try dsimp only);and_intros<;>first|exact True.intro|rfl,by (try dsimp only);omega,by (try dsimp only);omega,_,rfl,by simp,bM.rep _,by simp⟩,?_⟩
  rintro ⟨i,Z⟩ V4 G ⟨t,A,es,rfl,B,f,b⟩;dsimp only at t A b ⊢;obtain ⟨i,rfl⟩:=Int.eq_ofNat_of_zero_le t;simp only [Int.toNat_natCast] at b;refine ⟨by trivial,fun m=>?_,fun m=>?_⟩
  ·have m:i<N:=by simpa using m
   have O:i64.wrap ((i:Int)+1)=((i+1:Nat):Int):=by rw [i64w (by omega)];omega
   simp only [O,Int.toNat_natCast,Nat.mul_one,Nat.zero_add];refine Ll (j.le G) i (by omega) ?_;have H:=j.fu.get (i:=i) (by omega);refine ⟨fun z V'=>z=((xs[i]+4294967296*(xs[i+1]?).getD 0:Nat):Int),⟨fun d=>?_,fun d=>?_⟩,?_⟩
   ·have d:i+1<N:=by simp at d;omega
    have C:=j.fu.get (i:=i+1) (by omega)
    have E:bg .or .u64 (u64.wrap ((xs[i]:Nat):Int)) (u64.wrap (u64.wrap ((xs[i+1]:Nat):Int)*2^32))=((xs[i]+4294967296*(xs[i+1]?).getD 0:Nat):Int):=by
     have v:((2:Int)^32)=4294967296:=by decide
     rw [v,aH (by omega),aH (x:=((xs[i+1]:Nat):Int)) (by omega),aH (by omega),Jh _ _ C H,List.getElem?_eq_getElem (by omega),Option.getD_some];omega
    refine Ll (j.le G) (i+1) (by omega) ⟨by omega,((xs[i]+4294967296*(xs[i+1]?).getD 0:Nat):Int),?_,rfl⟩
    (try dsimp only);and_intros<;>first|exact True.intro|exact E|rfl
   ·have d:N<=i+1:=by simp at d;omega
    have E:u64.wrap ((xs[i]:Nat):Int)=((xs[i]+4294967296*(xs[i+1]?).getD 0:Nat):Int):=by
     rw [aH (by omega),List.getElem?_eq_none (by omega)];simp
    refine ⟨((xs[i]+4294967296*(xs[i+1]?).getD 0:Nat):Int),?_,rfl⟩
    (try dsimp only);and_intros<;>first|exact True.intro|exact E|rfl
   rintro _ P Q rfl;have u:=CU (Y:=val (xs.drop (i+1))) H y;rw [pO j.fu] at u
   have g:val (xs.drop i)=xs[i]+4294967296*val (xs.drop (i+1)):=by
    rw [List.drop_eq_getElem_cons (by omega),aY]
   rw [g,u] at b;rw [fP,il];obtain ⟨D,I⟩:∃D,D=(xs[i]+4294967296*(xs[i+1]?).getD 0) / 2^r%4294967296:=⟨_,rfl⟩;have R:(((xs[i]+4294967296*(xs[i+1]?).getD 0) / 2^r:Nat):Int)%4294967296=(D:Int):=by rw [I];omega
   rw [R];rw [←I] at b;refine ⟨by trivial,by omega,⟨by omega,by omega⟩,by simp;omega,(((i+1:Nat):Int),ay (es.set i D)),?_,?_,?_⟩
   ·(try dsimp only);omega
   ·(try dsimp only);and_intros<;>first|exact True.intro|rfl|rw [←bj]
   ·(try dsimp only)
    refine ⟨by omega,by omega,_,rfl,by simpa using B,f.set _ _ (by omega),?_⟩;simp only [Int.toNat_natCast];rw [aD _ _ _ (by omega),←b,Nat.pow_succ,Nat.mul_add,Nat.add_assoc,Nat.mul_assoc]
  ·have m:i=N:=by simp at m;omega
   subst m;intro P Q bk S;refine (cV (RD.aS S f (n:=i) (c:=i) (by omega) (Nat.le_refl _)) (by omega)).mono ?_;rintro r' V6 l6 ⟨k',rfl,d⟩;refine ⟨_,_,_,rfl,fun _ V7 T=>⟨_,_,_,rfl,?_⟩⟩;rw [ai (by omega),List.drop_of_length_le (l:=xs) (i:=i) (by omega)] at b
   have b:val es=val xs / 2^r:=by
    rw [←b,eh,Nat.zero_div,Nat.mul_zero,Nat.add_zero]
   rw [aK f,b] at d;exact d.le T
end Go.Proofs.Tryz
namespace Go.Big
theorem rU {ds:List Nat}(hd:bM ds)(w:Nat)(hw:w<=ds.length):val ds / 4294967296^w=val (ds.drop w):=by
 have e:val ds=val (ds.take w++ds.drop w):=by rw [List.take_append_drop]
 have a:=fW (hd.take w);rw [cY] at e;rw [List.length_take,Nat.min_eq_left (by omega)] at e a;rw [e,Nat.add_mul_div_left _ _ (Nat.pow_pos (by omega)),Nat.div_eq_of_lt a,Nat.zero_add]
theorem PS {R n:Nat}(h:(af R).length=n+2):R / 4294967296^n=(af R)[n+1]'(by omega)*4294967296+(af R)[n]'(by omega):=by
 have:=rU (ax R) n (by omega);rw [ab] at this;rw [this,List.drop_eq_getElem_cons (by omega),List.drop_eq_getElem_cons (i:=n+1) (by omega),List.drop_of_length_le (by omega)];simp only [aY,eh];omega
theorem Mg {R n:Nat}(h:(af R).length=n+1):R / 4294967296^n=(af R)[n]'(by omega):=by
 have:=rU (ax R) n (by omega);rw [ab] at this;rw [this,List.drop_eq_getElem_cons (by omega),List.drop_of_length_le (by omega)];simp only [aY,eh];omega
theorem PR {R n:Nat}(h:(af R).length<=n):R / 4294967296^n=0:=Nat.div_eq_of_lt (az.1 h)
theorem EG {V n:Nat}(h:(af V).length=n+1):(af V)[n]'(by omega)*4294967296^n<=V:=by
 have:=Mg h;rw [←this];exact Nat.div_mul_le_self _ _
theorem Is {R V top P W:Nat}(hV:top*P<=V)(ht:0<top)(hP:0<P)(hW:0<W):R / (V*W)<=R / (P*W) / top:=by
 rw [Nat.le_div_iff_mul_le ht,Nat.le_div_iff_mul_le (Nat.mul_pos hP hW)];have a:R / (V*W)*(V*W)<=R:=Nat.div_mul_le_self _ _;have b:R / (V*W)*(top*P*W)<=R / (V*W)*(V*W):=Nat.mul_le_mul_left _ (Nat.mul_le_mul_right _ hV)
 have c:R / (V*W)*top*(P*W)=R / (V*W)*(top*P*W):=by
  generalize R / (V*W)=q;rw [Nat.mul_assoc q top,←Nat.mul_assoc top P W]
 omega
theorem GQ {A V W D R q R':Nat}(h:A=V*(W*4294967296*D)+R)(hq:R=V*q*W+R'):A=V*(W*(q+4294967296*D))+R':=by
 subst hq;rw [h];grind
theorem IQ {x y s Q R:Nat}(h:x*2^s=y*2^s*Q+R)(hR:R<y*2^s):Q=x / y/\R / 2^s=x%y:=by
 have c:=Nat.two_pow_pos s
 have f:0<y:=by
  rcases Nat.eq_zero_or_pos y with e|e
  ·subst e;simp at hR
  ·exact e
 have g:y*2^s*Q=(y*Q)*2^s:=by grind
 rw [g] at h
 have i:y*Q<=x:=by
  rcases Nat.lt_or_ge x (y*Q) with a|a
  ·have:(x+1)*2^s<=y*Q*2^s:=Nat.mul_le_mul_right _ a;rw [Nat.add_mul] at this;omega
  ·exact a
 obtain ⟨d,rfl⟩:=Nat.exists_eq_add_of_le i;rw [Nat.add_mul] at h;have j:R=d*2^s:=by omega
 subst j;have b:d<y:=Nat.lt_of_mul_lt_mul_right hR;rw [Nat.mul_div_cancel _ c];constructor
 ·rw [Nat.mul_add_div f,Nat.div_eq_of_lt b,Nat.add_zero]
 ·rw [Nat.mul_add_mod,Nat.mod_eq_of_lt b]
theorem Mj (j:Nat):2^(32*j)=4294967296^j:=by rw [Nat.pow_mul]
theorem D4 {R V W g:Nat}(Oh:0<V*W)(h:V*g*W<=R)(hq:R / (V*W)<=g):g=R / (V*W):=by
 have:g<=R / (V*W):=by
  rw [Nat.le_div_iff_mul_le Oh];have:g*(V*W)=V*g*W:=by grind
  omega
 omega
theorem It {R V W g:Nat}(Oh:0<V*W)(h:R<V*g*W):R / (V*W)<g:=by
 rw [Nat.div_lt_iff_lt_mul Oh];have:g*(V*W)=V*g*W:=by grind
 omega
theorem Ey {R V W:Nat}:R=V*(R / (V*W))*W+R%(V*W):=by
 have:=Nat.div_add_mod R (V*W)
 have e:V*(R / (V*W))*W=V*W*(R / (V*W)):=by
  generalize R / (V*W)=q;grind
 omega
theorem ib {a b:Nat}:(af (a*b)).length<=(af a).length+(af b).length:=by
 rw [az,Nat.pow_add];have c:a<4294967296^(af a).length:=az.1 (Nat.le_refl _);have d:b<4294967296^(af b).length:=az.1 (Nat.le_refl _);exact Nat.mul_lt_mul'' c d
theorem zV (j:Nat):(af (4294967296^j)).length<=j+1:=by
 rw [az];exact Nat.pow_lt_pow_right (by omega) (by omega)
end Go.Big
