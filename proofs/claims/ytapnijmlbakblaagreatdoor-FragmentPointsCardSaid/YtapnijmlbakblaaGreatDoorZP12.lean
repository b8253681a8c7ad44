import Derived.Test.YtapnijmlbakblaaGreatDoorZP11
import Derived.Test.YtapnijmlbakblaaGreatDoorZP7
set_option linter.unusedVariables false
open Go.IntKind (i64 u64 u32)
namespace Go.Proofs.Tryz
open Go.Eng Go.Big
theorem _root_.Go.Eng.RD.Yw {V:View}{p:OA}{n c:Nat}{ds:List Nat}(h:RD V p n c ds){i:Int}{K:Int->Prop}(j:Nat)(hj:i=j)(hn:j<ds.length)
  (hK:K ((ds[j]:Nat):Int)):(p.isSome=true)/\(0<=i/\i<(n:Int))/\∃x:Int,(∃a,ah p j=some a/\V.at a (.int .u32 x))/\K x:=by
 have:=h.rd (K:=K) j hj hn hK;subst hj;simpa only [Qq0,Qk0] using this
theorem La {us:List Nat}{rest:List Value}{k:Nat}(h:k<us.length):(aG us++rest)[0+k*1]?=some (.int .u32 (us[k]:Int)):=by
 rw [Qy1,Qk0,Qx4 (by simpa using h)];exact fB h
theorem tZ {us:List Nat}{rest:List Value}{k x:Nat}(h:k<us.length:=by omega):(aG us++rest).set (0+k*1) (.int .u32 (x:Int))=aG (us.set k x)++rest:=by
 rw [Qy1,Qk0,List.set_append_left _ _ (by simpa using h),bz]
theorem CC {y m t s:Nat}(hm:(ai y).length=m)(h0:0<m)(ht:t=(ai y)[m-1]'(by omega))(hs:s=32-bj t) :
  s<32/\(ai (y*2^s)).length=m/\2147483648*4294967296^(m-1)<=y*2^s:=by
 have d:t<4294967296:=by rw [ht];exact (aH y).get _
 have a:t≠0:=by rw [ht];have:=(gG y).last (by omega);simpa [hm] using this
 have f:=pF t;have g:=pE a;have b:bj t<=32:=eI.2 (by omega);have h:0<bj t:=by unfold bj;rw [if_neg a];omega
 have e:=fU (ai y) (m-1);rw [ae,Qx0 (by omega),←ht] at e;simp only [dS,Qj3,Qy9] at e;have c:=eQ ((aH y).take (m-1));rw [Qw0,Qy5 (by omega)] at c;have i:2^bj t*2^s=4294967296:=by rw [←Qy6,hs,Nat.add_sub_cancel' b]
 have j:2^(bj t-1)*2^s=2147483648:=by rw [←Qy6,show bj t-1+s=31 from by omega]
 have k:2147483648*4294967296^(m-1)<=y*2^s:=by
  have:2^(bj t-1)*2^s*4294967296^(m-1)<=t*2^s*4294967296^(m-1):=Qq9 _ (Qq9 _ g);rw [j] at this;have o:t*2^s*4294967296^(m-1)=4294967296^(m-1)*t*2^s:=by grind
  have p:4294967296^(m-1)*t*2^s<=y*2^s:=Qq9 _ (by omega);omega
 refine ⟨by omega,?_,k⟩
 have l:y*2^s<4294967296^m:=by
  have n:y<4294967296^(m-1)*(t+1):=by rw [Qj1,Qk0];omega
  have q:4294967296^(m-1)*(t+1)*2^s<=4294967296^(m-1)*2^bj t*2^s:=Qq9 _ (Qy4 _ f)
  have r:4294967296^(m-1)*2^bj t*2^s=4294967296^m:=by
   rw [Qz7,i,←Qz6,Nat.succ_eq_add_one,Qv4 h0]
  have u:y*2^s<4294967296^(m-1)*(t+1)*2^s:=Qm6 n (Qz4 s);omega
 have v:=aI.2 l
 have w:m-1<(ai (y*2^s)).length:=by
  rw [rW];have:1*4294967296^(m-1)<=2147483648*4294967296^(m-1):=Qq9 _ (by omega);omega
 omega
theorem TA {us:List Nat}{k:Nat}(h:k+2<us.length)(hz:val (us.drop (k+3))=0) :
  val us=((us[k+2]*4294967296+us[k+1])*4294967296+us[k])*4294967296^k+val (us.take k):=by
 have a:=fU us k;rw [Qw4 (i:=k+1) (by omega),Qw4 (i:=k+1+1) (by omega),bq,bq] at a;rw [show k+1+1+1=k+3 from rfl,hz] at a;rw [a];grind
theorem Tz {us:List Nat}{k:Nat}(h:us.length=k+2:=by omega):val us=(us[k+1]*4294967296+us[k])*4294967296^k+val (us.take k):=by
 have a:=fU us k;rw [Qw4 (i:=k+1) (by omega),bq,Qx0 (by omega),dS] at a;rw [a];grind
theorem br (us:List Nat)(k:Nat)(h:k<=us.length:=by omega):val us=val (us.take k)+4294967296^k*val (us.drop k):=by
 conv=>lhs;rw [←Qk5 k us]
 rw [cU,Qw0,Qy5 h]
theorem gQ {us:List Nat}{k:Nat}(h:val us<4294967296^k)(hk:k<=us.length:=by omega):val (us.drop k)=0:=by
 have:=br us k hk;rcases Qx9 (val (us.drop k)) with e|e
 ·exact e
 ·have:4294967296^k*1<=4294967296^k*val (us.drop k):=Qy4 _ e;omega
theorem _root_.Go.Eng.RD.QH {V:View}{p:OA}{n c:Nat}{ds:List Nat}(h:RD V p n c ds){i:Int}{K:Int->Prop}(j:Nat)(hj:i=j){d:Nat}(hn:ds[j]?=some d)
  (hK:K (d:Int)):(p.isSome=true)/\(0<=i/\i<(n:Int))/\∃x:Int,(∃a,ah p (i.toNat*1)=some a/\V.at a (.int .u32 x))/\K x:=by
 obtain ⟨b,e⟩:=Qz1.1 hn;exact h.rd j hj b (by rw [e];exact hK)
theorem iR {us:List Nat}{rest:List Value}{k d:Nat}(h:us[k]?=some d):(aG us++rest)[0+k*1]?=some (.int .u32 (d:Int)):=by
 obtain ⟨a,b⟩:=Qz1.1 h;rw [La a,b]
structure Bf (us vs:List Nat) (j G i b c:Nat) (fs:List Nat):Prop where
 b1:b<=1
 c1:c<4294967296
 hi:i<=vs.length
 len:fs.length=us.length
 cV:bK fs
 dr:fs.drop (j+i)=us.drop (j+i)
 tk:fs.take j=us.take j
 eq:val (fs.take (j+i))+4294967296^j*(G*val (vs.take i))=val (us.take (j+i))+4294967296^j*4294967296^i*(c+b)
theorem Bf.read {us vs:List Nat}{j G i b c:Nat}{fs:List Nat}(h:Bf us vs j G i b c fs)(hj:j+i<us.length):∃u,fs[j+i]?=some u/\us[j+i]?=some u:=by
 have:=congrArg (fun l=>l[0]?) h.dr;simp only [Qm2,Qy9] at this;exact ⟨us[j+i],by rw [this,Qq1 hj],Qq1 hj⟩
theorem Bf.step {us vs:List Nat}{j G i b c:Nat}{fs:List Nat}(h:Bf us vs j G i b c fs)(hG:G<4294967296)(hdv:bK vs)(Gy:bK us)(hi:i<vs.length)(hj:j+i<us.length) :
  ∃u d ob od cn cb:Nat,vs[i]?=some d/\fs[j+i]?=some u/\u64.wrap ((c:Int)+u64.wrap ((G:Int)*u64.wrap (d:Int)))=(cn:Int)/\(cn:Int).fdiv (2^32)=(cb:Int) /\
   (u64.wrap (u64.wrap (u64.wrap (u:Int)-aU .and .u64 (cn:Int) 4294967295)-(b:Int))).fdiv (2^63)=(ob:Int) /\
   u32.wrap (u64.wrap (u64.wrap (u64.wrap (u:Int)-aU .and .u64 (cn:Int) 4294967295)-(b:Int)))=(od:Int)/\od<4294967296 /\
   Bf us vs j G (i+1) ob cb (fs.set (j+i) od):=by
 obtain ⟨u,g,a⟩:=h.read hj;obtain ⟨k,l,-,m,n,z,o,p⟩:=h;have A:=hdv.get (i:=i) hi;have B:u<4294967296:=Gy u (Qv1 a);have C:G*vs[i]<=4294967295*4294967295:=Qm1 (by omega) (by omega);refine ⟨u,vs[i],?_⟩
 have q:u64.wrap ((c:Int)+u64.wrap ((G:Int)*u64.wrap ((vs[i]:Nat):Int)))=((c+G*vs[i]:Nat):Int):=by
  rw [aM (x:=((vs[i]:Nat):Int)) (by omega),←Qb8];generalize G*vs[i]=gd at *;rw [aM (x:=((gd:Nat):Int)) (by omega),aM (by omega)];omega
 have r:=zv (x:=((u:Int)-((c+G*vs[i])%4294967296:Nat)-b)%18446744073709551616) p l k B rfl;have hand:aU .and .u64 ((c+G*vs[i]:Nat):Int) 4294967295=(((c+G*vs[i])%4294967296:Nat):Int):=E6 _
 have e:u64.wrap (u64.wrap (u64.wrap (u:Int)-(((c+G*vs[i])%4294967296:Nat):Int))-(b:Int))=((u:Int)-((c+G*vs[i])%4294967296:Nat)-b)%18446744073709551616:=by
  rw [aM (x:=(u:Int)) (by omega),rv,rv];omega
 have s:(c+G*vs[i]) / 4294967296<4294967296:=by
  generalize G*vs[i]=gd at *;omega
 generalize ((u:Int)-((c+G*vs[i])%4294967296:Nat)-b)%18446744073709551616=xx at *;obtain ⟨E,F,H,t⟩:=r;obtain ⟨ob,w⟩:∃ob:Nat,xx / 9223372036854775808=ob:=⟨(xx / 9223372036854775808).toNat,by omega⟩;obtain ⟨od,f⟩:∃od:Nat,xx%4294967296=od:=⟨(xx%4294967296).toNat,by omega⟩;rw [w,f] at t;simp only [Qq0] at t;have y:od<4294967296:=by omega
 have D:ob<=1:=by omega
 refine ⟨ob,od,c+G*vs[i],(c+G*vs[i]) / 4294967296,Qq1 hi,g,q,?_,?_,?_,y,D,s,hi,by simpa using m,n.set _ _ y,?_,?_,?_⟩
 ·rw [fu]
 ·rw [hand,e,Jy,w]
 ·rw [hand,e,ij,f]
 ·rw [Qv8 (by omega)];have:=congrArg (List.drop 1) z;simpa [Qm0,Qd7,Qj2,Qg1] using this
 ·rw [Qs6,Qc7 (by simp;omega)];exact o
 ·have v:us[j+i]=u:=by rw [Qq1 hj] at a;exact Qm5 a
  rw [show j+(i+1)=j+i+1 from by omega,aL _ _ _,az us (j+i),az vs i hi,Qz6,Qy6,v];exact t
theorem H2 {ks us:List Nat}{j t a:Nat}(h1:ks.take j=us.take j)(hk:j<=ks.length)(hu:j<=us.length)(h:val ks+4294967296^j*a=val us+4294967296^j*t):val (ks.drop j)+a=val (us.drop j)+t:=by
 have b:=br ks j hk;have c:=br us j hu;rw [h1] at b;have:4294967296^j*(val (ks.drop j)+a)=4294967296^j*(val (us.drop j)+t):=by rw [Qj1,Qj1];omega
 exact Nat.eq_of_mul_eq_mul_left (Qp5 (by omega)) this
theorem Bf.fin {us vs:List Nat}{j G b c:Nat}{fs:List Nat}(h:Bf us vs j G vs.length b c fs)(Gy:bK us)(hj:j+vs.length<us.length)(hz:val (us.drop (j+vs.length+1))=0) :
  ∃u ob od:Nat,fs[j+vs.length]?=some u /\
   (u64.wrap (u64.wrap (u64.wrap (u:Int)-(c:Int))-(b:Int))).fdiv (2^63)=(ob:Int) /\
   u32.wrap (u64.wrap (u64.wrap (u64.wrap (u:Int)-(c:Int))-(b:Int)))=(od:Int)/\od<4294967296/\ob<=1 /\
   bK (fs.set (j+vs.length) od)/\(fs.set (j+vs.length) od).length=us.length/\(fs.set (j+vs.length) od).take j=us.take j/\val ((fs.set (j+vs.length) od).drop (j+vs.length+1))=0 /\
   val ((fs.set (j+vs.length) od).drop j)+G*val vs=val (us.drop j)+4294967296^(vs.length+1)*ob:=by
 obtain ⟨u,q,f⟩:=h.read hj;obtain ⟨r,i,-,s,t,D,v,l⟩:=h;have E:u<4294967296:=Gy u (Qv1 f);have w:us[j+vs.length]=u:=by rw [Qq1 hj] at f;exact Qm5 f
 rw [Qv2] at l;have k:=zv (g:=G) (d:=0) (Y:=val vs) (x:=((u:Int)-((c+G*0)%4294967296:Nat)-b)%18446744073709551616) l i r E rfl;simp only [Qj3,Qy9] at k;rw [Qx7 i,Qj5 i,Qy1] at k
 have m:u64.wrap (u64.wrap (u64.wrap (u:Int)-(c:Int))-(b:Int))=((u:Int)-(c:Int)-b)%18446744073709551616:=by
  rw [aM (x:=(u:Int)) (by omega),rv,rv];omega
 generalize ((u:Int)-(c:Int)-b)%18446744073709551616=xx at *;obtain ⟨K,L,M,y⟩:=k;obtain ⟨ob,B⟩:∃ob:Nat,xx / 9223372036854775808=ob:=⟨(xx / 9223372036854775808).toNat,by omega⟩;obtain ⟨od,n⟩:∃od:Nat,xx%4294967296=od:=⟨(xx%4294967296).toNat,by omega⟩;rw [B,n] at y;simp only [Qq0] at y;have C:od<4294967296:=by omega
 have F:ob<=1:=by omega
 obtain ⟨e,a⟩:∃e,e=fs.set (j+vs.length) od:=⟨_,rfl⟩;refine ⟨u,ob,od,q,by rw [m,Jy,B],by rw [m,ij,n],C,F,?_⟩;rw [←a];have z:e.length=us.length:=by rw [a];simpa using s
 have A:bK e:=by rw [a];exact t.set _ _ C
 have o:e.take j=us.take j:=by rw [a,Qs6,Qc7 (by simp;omega)];exact v
 have p:e.drop (j+vs.length+1)=us.drop (j+vs.length+1):=by
  rw [a,Qv8 (by omega)];have:=congrArg (List.drop 1) D;simpa [Qm0,Qd7,Qj2,Qg1] using this
 refine ⟨A,z,o,by rw [p];exact hz,H2 o (by omega) (by omega) ?_⟩;have H:=br e (j+vs.length+1);have I:=br us (j+vs.length+1);have N:val (e.take (j+vs.length+1))=val (fs.take (j+vs.length))+4294967296^j*4294967296^vs.length*od:=by rw [a,aL _ _ _,Qy6]
 have O:val (us.take (j+vs.length+1))=val (us.take (j+vs.length))+4294967296^j*4294967296^vs.length*u:=by rw [az us (j+vs.length),Qy6,w]
 rw [p,hz,Qj3,Qy9] at H;rw [hz,Qj3,Qy9] at I;have J:4294967296^j*(4294967296^vs.length*4294967296)*ob=4294967296^j*(4294967296^(vs.length+1)*ob):=by rw [Qz6];grind
 rw [J] at y;omega
structure Ba (ks vs:List Nat) (j i c:Nat) (gs:List Nat):Prop where
 c1:c<=1
 hi:i<=vs.length
 len:gs.length=ks.length
 cV:bK gs
 dr:gs.drop (j+i)=ks.drop (j+i)
 tk:gs.take j=ks.take j
 eq:val (gs.take (j+i))+4294967296^j*4294967296^i*c=val (ks.take (j+i))+4294967296^j*val (vs.take i)
theorem Ba.read {ks vs:List Nat}{j i c:Nat}{gs:List Nat}(h:Ba ks vs j i c gs)(hj:j+i<ks.length):∃u,gs[j+i]?=some u/\ks[j+i]?=some u:=by
 have:=congrArg (fun l=>l[0]?) h.dr;simp only [Qm2,Qy9] at this;exact ⟨ks[j+i],by rw [this,Qq1 hj],Qq1 hj⟩
theorem Ba.step {ks vs:List Nat}{j i c:Nat}{gs:List Nat}(h:Ba ks vs j i c gs)(hdv:bK vs)(hdk:bK ks)(hi:i<vs.length)(hj:j+i<ks.length) :
  ∃u d od cn cb:Nat,vs[i]?=some d/\gs[j+i]?=some u/\u64.wrap ((c:Int)+u64.wrap (u64.wrap (u:Int)+u64.wrap (d:Int)))=(cn:Int)/\(cn:Int).fdiv (2^32)=(cb:Int) /\
   u32.wrap (cn:Int)=(od:Int)/\Ba ks vs j (i+1) cb (gs.set (j+i) od):=by
 obtain ⟨u,b,a⟩:=h.read hj;obtain ⟨o,-,e,f,p,g,k⟩:=h;have q:=hdv.get (i:=i) hi;have s:u<4294967296:=hdk u (Qv1 a);have l:ks[j+i]=u:=by rw [Qq1 hj] at a;exact Qm5 a
 obtain ⟨t5,r⟩:∃t5,t5=c+u+vs[i]:=⟨_,rfl⟩;have m:=yv k r
 have n:u64.wrap ((c:Int)+u64.wrap (u64.wrap (u:Int)+u64.wrap ((vs[i]:Nat):Int)))=(t5:Int):=by
  rw [aM (x:=((vs[i]:Nat):Int)) (by omega),aM (x:=(u:Int)) (by omega),aM (x:=(u:Int)+_) (by omega),aM (by omega)];omega
 refine ⟨u,vs[i],t5%4294967296,t5,t5 / 4294967296,Qq1 hi,b,n,by rw [fu],by rw [ij];omega,by omega,hi,by simpa using e,f.set _ _ (by omega),?_,?_,?_⟩
 ·rw [Qv8 (by omega)];have:=congrArg (List.drop 1) p;simpa [Qm0,Qd7,Qj2,Qg1] using this
 ·rw [Qs6,Qc7 (by simp;omega)];exact g
 ·rw [show j+(i+1)=j+i+1 from by omega,aL _ _ _,az ks (j+i),az vs i hi,Qz6,Qy6,l];exact m
theorem Ba.fin {ks vs:List Nat}{j c:Nat}{gs:List Nat}(h:Ba ks vs j vs.length c gs)(hdk:bK ks)(hj:j+vs.length<ks.length)(hz:val (ks.drop (j+vs.length+1))=0) :
  ∃u od kp:Nat,gs[j+vs.length]?=some u/\u32.wrap ((u:Int)+u32.wrap (c:Int))=(od:Int)/\kp<=1 /\
   bK (gs.set (j+vs.length) od)/\(gs.set (j+vs.length) od).length=ks.length/\(gs.set (j+vs.length) od).take j=ks.take j/\val ((gs.set (j+vs.length) od).drop (j+vs.length+1))=0 /\
   val ((gs.set (j+vs.length) od).drop j)+4294967296^(vs.length+1)*kp=val (ks.drop j)+val vs:=by
 obtain ⟨u,l,b⟩:=h.read hj;obtain ⟨v,-,m,n,w,o,f⟩:=h;have C:u<4294967296:=hdk u (Qv1 b);have p:ks[j+vs.length]=u:=by rw [Qq1 hj] at b;exact Qm5 b
 rw [Qv2] at f;have g:=yv (d:=0) (u:=u) (Y:=val vs) (t:=c+u) f;simp only [Qj3,Qy9] at g;have y:(c+u)%4294967296<4294967296:=by omega
 have q:(c+u) / 4294967296<=1:=by omega
 have hw:u32.wrap ((u:Int)+u32.wrap (c:Int))=(((c+u)%4294967296:Nat):Int):=by
  rw [pW (x:=(c:Int)) (by omega),ij];omega
 generalize (c+u)%4294967296=od at *;generalize (c+u) / 4294967296=kp at *;obtain ⟨a,e⟩:∃a,a=gs.set (j+vs.length) od:=⟨_,rfl⟩;refine ⟨u,od,kp,l,hw,q,?_⟩;rw [←e];have r:a.length=ks.length:=by rw [e];simpa using m
 have s:bK a:=by rw [e];exact n.set _ _ y
 have i:a.take j=ks.take j:=by rw [e,Qs6,Qc7 (by simp;omega)];exact o
 have k:a.drop (j+vs.length+1)=ks.drop (j+vs.length+1):=by
  rw [e,Qv8 (by omega)];have:=congrArg (List.drop 1) w;simpa [Qm0,Qd7,Qj2,Qg1] using this
 refine ⟨s,r,i,by rw [k];exact hz,H2 i (by omega) (by omega) ?_⟩;have z:=br a (j+vs.length+1);have A:=br ks (j+vs.length+1);have D:val (a.take (j+vs.length+1))=val (gs.take (j+vs.length))+4294967296^j*4294967296^vs.length*od:=by rw [e,aL _ _ _,Qy6]
 have E:val (ks.take (j+vs.length+1))=val (ks.take (j+vs.length))+4294967296^j*4294967296^vs.length*u:=by rw [az ks (j+vs.length),Qy6,p]
 rw [k,hz,Qj3,Qy9] at z;rw [hz,Qj3,Qy9] at A;have B:4294967296^j*(4294967296^vs.length*4294967296)*kp=4294967296^j*(4294967296^(vs.length+1)*kp):=by rw [Qz6];grind
 rw [B] at g;omega
structure GK (v1 v2 v' u0 u1 u2 t' B T Y:Nat):Prop where
 hY:Y=(v1*4294967296+v2)*B+v'
 hT:T=((u0*4294967296+u1)*4294967296+u2)*B+t'
 zd:v'<B
 Ec:t'<B
 TC:2147483648<=v1
 Wb:v1<4294967296
 TD:v2<4294967296
 YF:u0<4294967296
 YG:u1<4294967296
 Wa:u2<4294967296
 lt:T<4294967296*Y
structure GI (v1 f T Y G ρ:Nat):Prop where
 r:ρ<4294967296
 g:G<=4294967297
 eq:G*v1+ρ=f
 lt:T<(G+1)*Y
structure GF (T Y G:Nat):Prop where
 g:G<4294967296
 lt:T<(G+1)*Y
 gt:G*Y<T+Y
section
variable {v1 v2 v' u0 u1 u2 t' B T Y G ρ:Nat}
theorem GK.start (h:GK v1 v2 v' u0 u1 u2 t' B T Y):GI v1 (u0*4294967296+u1) T Y ((u0*4294967296+u1) / v1) ((u0*4294967296+u1)%v1):=by
 have c:=yZ h.hY h.hT h.zd h.lt;have d:=h.TC;have e:=h.Wb;have f:=h.TD;have a:=Qc6 (u0*4294967296+u1) v1;have b:=Qv9 (u0*4294967296+u1) (show 0<v1 by omega);refine ⟨by omega,?_,by rw [Qn1];exact a,?_⟩
 ·have:(u0*4294967296+u1) / v1<4294967298:=by
   rw [Qv0 (by omega)];omega
  omega
 ·rw [Qn1] at a;exact Ie h.hY h.hT h.Ec h.Wa a b
theorem GK.DB (h:GK v1 v2 v' u0 u1 u2 t' B T Y)(hG:4294967296<=G):T<G*Y:=Qx2 h.lt (Qq9 _ hG)
theorem GK.dec (h:GK v1 v2 v' u0 u1 u2 t' B T Y)(hi:GI v1 (u0*4294967296+u1) T Y G ρ)(hd:ρ*4294967296+u2<G*v2):T<G*Y:=Gv h.hY h.hT h.Ec hi.eq hd
theorem GK.last (h:GK v1 v2 v' u0 u1 u2 t' B T Y)(hi:GI v1 (u0*4294967296+u1) T Y G ρ)(hG:G<4294967296)(hd:G*v2<=ρ*4294967296+u2):GF T Y G:=
 ⟨hG,hi.lt,yY h.hY h.hT h.zd (by have:=h.TC;omega) (by omega) hi.eq hd⟩
theorem GK.down (h:GK v1 v2 v' u0 u1 u2 t' B T Y)(hi:GI v1 (u0*4294967296+u1) T Y G ρ)(h1:T<G*Y):1<=G/\(G-1)*v1+(ρ+v1)=u0*4294967296+u1/\T<(G-1+1)*Y:=by
 have a:1<=G:=by
  rcases Qx9 G with b|b
  ·subst b;omega
  ·exact b
 have:=hi.eq;refine ⟨a,?_,by rw [Qv4 a];exact h1⟩;have:G*v1=(G-1)*v1+v1:=by conv=>lhs;rw [←Qv4 a,Qj4,Qd2]
 omega
theorem GK.Lv (h:GK v1 v2 v' u0 u1 u2 t' B T Y)(hi:GI v1 (u0*4294967296+u1) T Y G ρ)(h1:T<G*Y)(h2:4294967296<=ρ+v1):1<=G/\GF T Y (G-1):=by
 obtain ⟨a,e,b⟩:=h.down hi h1;have d:=yZ h.hY h.hT h.zd h.lt;have i:=h.TD;have j:=h.TC;have k:=hi.g
 have f:G-1<4294967296:=by
  rcases Qy8 (G-1) 4294967296 with c|c
  ·exact c
  ·have:=Qq9 v1 c;omega
 refine ⟨a,f,b,yY h.hY h.hT h.zd (by omega) (by omega) e ?_⟩;have l:(G-1)*v2<=4294967295*4294967295:=Qm1 (by omega) (by omega);omega
theorem GK.Lw (h:GK v1 v2 v' u0 u1 u2 t' B T Y)(hi:GI v1 (u0*4294967296+u1) T Y G ρ)(h1:T<G*Y)(h2:ρ+v1<4294967296):1<=G/\GI v1 (u0*4294967296+u1) T Y (G-1) (ρ+v1):=by
 obtain ⟨a,c,b⟩:=h.down hi h1;have d:=hi.g;exact ⟨a,h2,by omega,c,b⟩
theorem GK.words (h:GK v1 v2 v' u0 u1 u2 t' B T Y) :
  aU .or .u64 (u64.wrap (u64.wrap (u0:Int)*2^32)) (u64.wrap (u1:Int))=((u0*4294967296+u1:Nat):Int) /\
  u64.wrap (((u0*4294967296+u1:Nat):Int).tdiv (v1:Int))=(((u0*4294967296+u1) / v1:Nat):Int) /\
  ((u0*4294967296+u1:Nat):Int).tmod (v1:Int)=(((u0*4294967296+u1)%v1:Nat):Int):=by
 have a:=h.YF;have b:=h.YG;have c:((2:Int)^32)=4294967296:=by decide
 refine ⟨?_,?_,?_⟩
 ·rw [c,aM (x:=(u0:Int)) (by omega),aM (x:=(u1:Int)) (by omega),aM (by omega),Cm _ _ a b];omega
 ·rw [Qk1 (by omega),←Int.natCast_ediv];have d:(u0*4294967296+u1) / v1<=u0*4294967296+u1:=Qn3 _ _;generalize (u0*4294967296+u1) / v1=qq at *;rw [aM (by omega)]
 ·rw [Qz3 (by omega),←Ww8]
theorem GK.Nt (h:GK v1 v2 v' u0 u1 u2 t' B T Y)(hi:GI v1 (u0*4294967296+u1) T Y G ρ) :
  u64.wrap ((G:Int)*(v2:Int))=((G*v2:Nat):Int)/\aU .or .u64 (u64.wrap ((ρ:Int)*2^32)) (u64.wrap (u2:Int))=((ρ*4294967296+u2:Nat):Int) /\
  u64.wrap ((ρ:Int)+v1)=((ρ+v1:Nat):Int)/\(1<=G->u64.wrap ((G:Int)-1)=((G-1:Nat):Int)):=by
 have a:=h.Wa;have b:=hi.r;have c:=hi.g;have f:=h.TD;have d:=h.Wb;have e:((2:Int)^32)=4294967296:=by decide
 refine ⟨?_,?_,?_,?_⟩
 ·have d:G*v2<=4294967297*4294967295:=Qm1 c (by omega);rw [←Qb8,aM (by omega)]
 ·rw [e,aM (x:=(ρ:Int)*4294967296) (by omega),aM (by omega),Cm _ _ b a];omega
 ·rw [aM (by omega)];omega
 ·intro h;rw [aM (by omega)];omega
end
end Go.Proofs.Tryz
namespace Go.Proofs.Tryz
open Go.Eng Go.Big
structure OI (X Y n n8:Nat) (j:Int) (us qs:List Nat):Prop where
 j0:-1<=j
 j1:j<(n+1-n8:Nat)
 ul:us.length=n+1
 ud:bK us
 ql:qs.length=n+1-n8
 qd:bK qs
 eq:X=val us+Y*(4294967296^(j+1).toNat*val (qs.drop (j+1).toNat))
 lt:val (us.drop (j+1).toNat)<Y
structure DK (Y n8 k v1 v2:Nat):Prop where
 R_:n8=k+2
 len:(ai Y).length=n8
 g1:(ai Y)[k+1]?=some v1
 g2:(ai Y)[k]?=some v2
 l1:2147483648<=v1
 u1:v1<4294967296
 u2:v2<4294967296
 eq:Y=(v1*4294967296+v2)*4294967296^k+val ((ai Y).take k)
 lt:val ((ai Y).take k)<4294967296^k
 top:Y<4294967296^n8
theorem DK.of {Y n8:Nat}(hl:(ai Y).length=n8)(h2:2<=n8)(ht:2147483648*4294967296^(n8-1)<=Y):∃k v1 v2,DK Y n8 k v1 v2:=by
 obtain ⟨k,e⟩:∃k,n8=k+2:=⟨n8-2,by omega⟩;have a:=Tz (us:=ai Y) (k:=k);rw [ae] at a;have c:=eQ ((aH Y).take k);rw [Qw0,Qy5 (by omega)] at c;have f:=(aH Y).get (i:=k+1) (by omega);have g:=(aH Y).get (i:=k) (by omega)
 have b:2147483648<=(ai Y)[k+1]:=by
  rcases Qy8 (ai Y)[k+1] 2147483648 with d|d
  ·exfalso;have h:((ai Y)[k+1]*4294967296+(ai Y)[k])+1<=2147483648*4294967296:=by omega
   have j:=Qq9 (4294967296^k) h;rw [Qj4,Qd2] at j;have l:2147483648*4294967296^(k+1)=2147483648*4294967296*4294967296^k:=by rw [Qz6];grind
   rw [show n8-1=k+1 from by omega,l] at ht;omega
  ·exact d
 exact ⟨k,_,_,e,hl,Qq1 _,Qq1 _,b,f,g,a,c,by rw [←hl,←aI];exact Qq3 _⟩
theorem OI.start {x X Y n n8 s:Nat}(hX:X=x*2^s)(hx:(ai x).length=n)(hs:s<32)(R_:2<=n8)(hn:n8<=n)(hY:2147483648*4294967296^(n8-1)<=Y)(Zm:(ai X).length<=n+1:=by omega) :
  OI X Y n n8 (((n+1-n8:Nat):Int)-1) ((ai X++[0,0]).take (n+1)) (List.replicate (n+1-n8) 0):=by
 have i:n<=(ai X).length:=by rw [←hx,hX];exact aD (Nat.le_mul_of_pos_right _ (Qz4 s))
 have g:((ai X++[0,0]).take (n+1)).length=n+1:=by simp;omega
 have a:val ((ai X++[0,0]).take (n+1))=X:=by
  have b:val (ai X++[0,0])=X:=by rw [cU,ae];simp
  have c:=br (ai X++[0,0]) (n+1) (by simp;omega)
  have d:val ((ai X++[0,0]).drop (n+1))=0:=by
   refine gQ ?_ (by simp;omega);rw [b];exact aI.1 (by omega)
  rw [d,Qj3,Qy9,b] at c;exact c.symm
 have e:(((n+1-n8:Nat):Int)-1+1).toNat=n+1-n8:=by omega
 refine ⟨by omega,by omega,g,(bK.append.2 ⟨aH X,by simp [bK]⟩).take _,by simp,bK.rep _,?_,?_⟩
 ·rw [e,Qx0 (by simp),dS,Qj3,Qj3,Qy9,a]
 ·rw [e];have b:=br ((ai X++[0,0]).take (n+1)) (n+1-n8);rw [a] at b;have f:X<4294967296^n*2^s:=by rw [hX];exact Qm6 (by rw [←hx];exact aI.1 (Qq3 _)) (Qz4 s)
  have j:2^s<=2^31:=Qw9 (by omega) (by omega)
  have c:4294967296^n*2^s<=4294967296^(n+1-n8)*Y:=by
   have h:4294967296^n=4294967296^(n+1-n8)*4294967296^(n8-1):=by rw [←Qy6];congr 1;omega
   rw [h,Qz7];refine Qy4 _ ?_;have k:2^s*4294967296^(n8-1)<=2147483648*4294967296^(n8-1):=Qq9 _ (by omega);rw [Qn1];omega
  have d:4294967296^(n+1-n8)*val (((ai X++[0,0]).take (n+1)).drop (n+1-n8))<4294967296^(n+1-n8)*Y:=by omega
  exact Nat.lt_of_mul_lt_mul_left d
theorem OI.body {X Y n n8 k v1 v2 j:Nat}{us qs:List Nat}(h:OI X Y n n8 (j:Int) us qs)(hd:DK Y n8 k v1 v2)(hjn:j+n8<=n) :
  val (us.drop (j+n8+1))=0/\∃u0 u1 u2 t',us[j+n8]?=some u0/\us[j+n8-1]?=some u1/\us[j+n8-2]?=some u2/\GK v1 v2 (val ((ai Y).take k)) u0 u1 u2 t' (4294967296^k) (val (us.drop j)) Y:=by
 obtain ⟨-,-,l,a,m,o,e,f⟩:=h;have b:((j:Int)+1).toNat=j+1:=by omega
 rw [b] at e f;have p:=hd.R_;have q:=hd.top;have g:val (us.drop j)=us[j]+4294967296*val (us.drop (j+1)):=by rw [Qw4 (by omega),bq]
 have r:=a.get (i:=j) (by omega)
 have c:val (us.drop (j+n8+1))=0:=by
  have:=gQ (us:=us.drop (j+1)) (k:=n8) (by omega) (by simp;omega);rw [Qm0] at this;rw [show j+n8+1=j+1+n8 from by omega];exact this
 have d:=eQ ((a.drop j).take k);rw [Qw0,Qk7,Qy5 (by omega)] at d
 refine ⟨c,us[j+n8],us[j+n8-1],us[j+n8-2],val ((us.drop j).take k),Qq1 _,Qq1 _,Qq1 _,
  hd.eq,?_,hd.lt,d,hd.l1,hd.u1,hd.u2,a.get _,a.get _,a.get _,by omega⟩
 have:=TA (us:=us.drop j) (k:=k) (by simp;omega) (by rw [Qm0,show j+(k+3)=j+n8+1 from by omega];exact c);simp only [Qh3] at this;rw [this];congr<;>omega
theorem OI.next {X Y n n8 j H:Nat}{us qs hs:List Nat}(h:OI X Y n n8 (j:Int) us qs)(hjn:j+n8<=n)(h1:hs.length=us.length)(XF:bK hs)(h2:hs.take j=us.take j)(h3:val (hs.drop j)+H*Y=val (us.drop j))(h4:val (hs.drop j)<Y)(hH:H<4294967296) :
  OI X Y n n8 ((j:Int)-1) hs (qs.set j H):=by
 obtain ⟨-,f,k,m,g,i,b,o⟩:=h;have a:((j:Int)+1).toNat=j+1:=by omega
 have c:((j:Int)-1+1).toNat=j:=by omega
 rw [a] at b;refine ⟨by omega,by omega,by omega,XF,by simpa using g,i.set _ _ hH,?_,by rw [c];exact h4⟩;have d:=br hs j;have e:=br us j;rw [h2] at d;rw [←h3] at e;rw [c,Qw4 (l:=qs.set j H) (by simp;omega),Qd9,Qv8 (by omega),bq,b,d,e,Qz6];grind
theorem OI.done {x y X Y n n8 s:Nat}{us qs:List Nat}(h:OI X Y n n8 (-1) us qs)(hX:X=x*2^s)(hY:Y=y*2^s)(hn:n8<=n+1)(hYl:Y<4294967296^n8):val qs=x / y/\val (us.take n8) / 2^s=x%y:=by
 obtain ⟨-,-,f,g,i,j,a,b⟩:=h;have a:X=val us+Y*val qs:=by simpa using a
 have b:val us<Y:=by simpa using b
 have e:0<Y:=by omega
 have c:=gQ (us:=us) (k:=n8) (by omega)
 have d:val (us.take n8)=val us:=by
  have:=br us n8;rw [c,Qj3,Qy9] at this;exact this.symm
 constructor
 ·rw [←Nat.mul_div_mul_right x y (Qz4 s),←hX,←hY,a,Qf6 _ _ e,Qj5 b,Qy1]
 ·have:x*2^s%(y*2^s)=val us:=by
   rw [←hX,←hY,a,Wq4,Qx7 b]
  rw [Nat.mul_mod_mul_right] at this;rw [d,←this,Qg5 _ (Qz4 s)]
set_option maxHeartbeats 8000000 in
theorem DR {V:View}{p q:OA}{n c m e:Nat}{x y:Nat}(ha:RN V p n c x)(hb:RN V q m e y)(hn:n<=1099511627776)(hm2:2<=m)(hle:y<=x) :
  aa prog 233 #[.slice p n c,.slice q m e] V fun r V'=>∃p1 n1 c1 p2 n2 c2,r=.tuple #[.slice p1 n1 c1,.slice p2 n2 c2]/\RN V' p1 n1 c1 (x / y)/\RN V' p2 n2 c2 (x%y):=by
 have l:=ha.len;have a0:=hb.len;have b1:m<=n:=by rw [l,a0];exact aD hle
 refine C3 p n c q m e V _ ?_;simp (disch:=omega) only [ar];refine hb.rd (m-1) (by omega) (by omega) fun V1 l1=>(fK _ ((aH y).get (by omega))).mono ?_;rintro r V2 l2 rfl;refine ⟨_,rfl,?_⟩;obtain ⟨t,E⟩:∃t,t=(ai y)[m-1]'(by omega):=⟨_,rfl⟩;rw [←E];have b2:bj t<=32:=eI.2 (by rw [E];exact (aH y).get _);obtain ⟨s,hs⟩:∃s,s=32-bj t:=⟨_,rfl⟩;have es:(32-(bj t:Int))=(s:Int):=by omega
 obtain ⟨KB,o,Sn⟩:=CC a0.symm (by omega) E hs;rw [es,aM (by omega)];clear es b2;intro V3 l3;refine (yJ (ha.le (l1.trans (l2.trans l3))) (by omega) s).mono ?_;rintro r V4 l4 ⟨p4,n4,c4,rfl,h4,F⟩;rw [ae] at h4 F
 have b3:x≠0:=by
  intro w;subst w;rw [yP] at l;simp at l;omega
 have F:c4=n+1:=by
  rcases F with w|w
  ·exact absurd w b3
  ·rw [w,←l,Qj5 KB]
 have a3:=h4.len;have a4:x*2^s<4294967296^n*2^s:=Qm6 (by rw [l];exact aI.1 (Qq3 _)) (Qz4 s);have Vp:2^s<=2^31:=Qw9 (by omega) (by omega)
 have XN:n<=n4/\n4<=n+1:=by
  constructor
  ·rw [a3,l];exact aD (Nat.le_mul_of_pos_right _ (Qz4 s))
  ·rw [a3,aI,Qz6];have:4294967296^n*2^s<=4294967296^n*4294967296:=Qy4 _ (by omega);omega
 refine ⟨_,_,_,rfl,aG (ai (x*2^s)),h4.sl,by simp;omega,h4.cap,h4.KO,by omega,by omega,rfl,by simp [Value.oneCell'],?_⟩;intro sp c7 XD XE;refine ⟨⟨by omega,by omega⟩,fun V5 l5=>(yJ (hb.le (l1.trans (l2.trans (l3.trans (l4.trans l5))))) (by omega) s).mono ?_⟩;rintro r V6 l6 ⟨p8,f,c8,rfl,W,-⟩;rw [ae] at W;have Vz:=W.len;rw [o] at Vz;subst Vz;refine ⟨_,_,_,rfl,?_⟩;obtain ⟨k,v1,v2,I⟩:=DK.of o hm2 Sn;have hk:=I.R_;have c6:=I.l1;have XY:=I.u1;have XZ:=I.u2;have Xy:=OI.start (Y:=y*2^s) rfl l.symm KB hm2 b1 Sn;have w6:i64.wrap ((f:Int)-1)=(f:Int)-1:=ar (by omega);have w7:i64.wrap ((f:Int)-2)=(f:Int)-2:=ar (by omega);simp only [w6,w7];refine W.QH (k+1) (by omega) I.g1 (W.QH k (by omega) I.g2 ?_);have b4:((n:Int)+1).toNat=n+1:=by omega
 have b5:(((n+1:Nat):Int)-(f:Int)).toNat=n+1-f:=by omega
 have w1:i64.wrap ((n:Int)+1)=(n:Int)+1:=ar (by omega);have w2:u64.wrap (v1:Int)=v1:=aM (by omega);have w3:u64.wrap (v2:Int)=v2:=aM (by omega);have w4:i64.wrap (((n+1:Nat):Int)-(f:Int))=((n+1:Nat):Int)-(f:Int):=ar (by omega);have w5:i64.wrap (((n+1-f:Nat):Int)-1)=((n+1-f:Nat):Int)-1:=ar (by omega);simp only [b4,w2,w3,w4,b5,w5,cE];obtain ⟨B,a5⟩:∃B,B=aG ((ai (x*2^s)++[0,0]).drop (n+1))++sp:=⟨_,rfl⟩
 have M:aG (ai (x*2^s))++([.int .u32 0,.int .u32 0]:List Value)++sp=aG ((ai (x*2^s)++[0,0]).take (n+1))++B:=by
  rw [a5,←Qk6,←sG,Qk5,sG];rfl
 rw [M];clear a5 M Sn a4 Vp F hs E;generalize hX:x*2^s=X at *;generalize hY:y*2^s=Y at *
 refine ⟨by omega,by omega,by omega,fun z V'=>∃us D:List Nat,z.2.1=aG us++B/\z.2.2=aG D/\OI X Y n f z.1 us D,fun z=>(z.1+1).toNat,
  ⟨(((n+1-f:Nat):Int)-1,aG ((ai X++[0,0]).take (n+1))++B,aG (List.replicate (n+1-f) 0)),?_,_,_,rfl,rfl,Xy⟩,?_⟩
 ·(try dsimp only);and_intros<;>first|exact True.intro|rfl
 rintro ⟨j,row,Yr⟩ V7 l7 ⟨us,D,rfl,rfl,A⟩;dsimp only at A ⊢;have c9:=A.j0;have d0:=A.j1;have OV:=A.ul;have MG:=A.ql;refine ⟨by trivial,fun K=>?_,fun K=>?_⟩
 ·have K:0<=j:=by simpa using K
  obtain ⟨j,rfl⟩:=Qq7 K;have P:j+f<=n:=by omega
  obtain ⟨hz,u0,u1,u2,t',a6,a7,a8,C⟩:=A.body I P;obtain ⟨eb,Vf,Vg⟩:=C.words;have w8:i64.wrap ((j:Int)+f)=((j+f:Nat):Int):=by rw [ar (by omega)];omega
  have w9:i64.wrap (((j+f:Nat):Int)-1)=((j+f-1:Nat):Int):=by rw [ar (by omega)];omega
  have TF:i64.wrap (((j+f:Nat):Int)-2)=((j+f-2:Nat):Int):=by rw [ar (by omega)];omega
  have XK:i64.wrap ((j:Int)-1)=(j:Int)-1:=ar (by omega);simp only [w8,w9,TF,XK,Qq0];refine ⟨⟨by omega,by omega⟩,_,iR a6,by omega,⟨by omega,by omega⟩,_,iR a7,by omega,by omega,?_⟩;rw [eb,Vf,Vg];clear eb Vf Vg
  refine ⟨fun g V'=>∃G:Nat,g=(G:Int)/\GF (val (us.drop j)) Y G,
   ⟨fun z V'=>∃G ρ:Nat,z=((G:Int),(ρ:Int))/\GI v1 (u0*4294967296+u1) (val (us.drop j)) Y G ρ,fun z=>z.1.toNat,
    ⟨((((u0*4294967296+u1) / v1:Nat):Int),(((u0*4294967296+u1)%v1:Nat):Int)),by (try dsimp only);and_intros<;>first|exact True.intro|rfl,_,_,rfl,C.start⟩,?_⟩,?_⟩
  ·rintro _ V8 l8 ⟨G,ρ,rfl,N⟩;obtain ⟨Ij,Q,YK,QO⟩:=C.Nt N;dsimp only
   have t1:∀a:Nat,((((a / 2^32:Nat):Int) != 0)=true↔4294967296<=a)/\((((a / 2^32:Nat):Int) != 0)=false↔a<4294967296):=by
    intro a;constructor
    ·rw [bne_iff_ne];omega
    ·rw [bne_eq_false_iff_eq];omega
   simp only [YK,fu,(t1 _).1,(t1 _).2];refine ⟨by trivial,by omega,fun h=>⟨by omega,fun R=>?_,fun R=>?_⟩,fun h=>⟨by omega,⟨by omega,by omega⟩,_,iR a8,fun E=>⟨by omega,fun R=>?_,fun R=>?_⟩,fun E=>?_⟩⟩
   ·obtain ⟨g1,g2⟩:=C.Lv N (C.DB h) R;exact ⟨((G-1:Nat):Int),by rw [QO g1];(try dsimp only);and_intros<;>first|exact True.intro|rfl,G-1,rfl,g2⟩
   ·obtain ⟨g1,g2⟩:=C.Lw N (C.DB h) R;exact ⟨(((G-1:Nat):Int),((ρ+v1:Nat):Int)),by (try dsimp only);omega,by rw [QO g1];(try dsimp only);and_intros<;>first|exact True.intro|rfl,G-1,ρ+v1,rfl,g2⟩
   ·have Z:=C.dec N (by rw [Ij,Q,decide_eq_true_eq] at E;omega);obtain ⟨g1,g2⟩:=C.Lv N Z R;exact ⟨((G-1:Nat):Int),by rw [QO g1];(try dsimp only);and_intros<;>first|exact True.intro|rfl,G-1,rfl,g2⟩
   ·have Z:=C.dec N (by rw [Ij,Q,decide_eq_true_eq] at E;omega);obtain ⟨g1,g2⟩:=C.Lw N Z R;exact ⟨(((G-1:Nat):Int),((ρ+v1:Nat):Int)),by (try dsimp only);omega,by rw [QO g1];(try dsimp only);and_intros<;>first|exact True.intro|rfl,G-1,ρ+v1,rfl,g2⟩
   ·have Z:G*v2<=ρ*4294967296+u2:=by rw [Ij,Q,decide_eq_false_iff_not] at E;omega
    exact ⟨(G:Int),by (try dsimp only);and_intros<;>first|exact True.intro|rfl,G,rfl,C.last N h Z⟩
  ·rintro _ V9 l9 ⟨G,rfl,S⟩;have NI:=S.g;clear C a6 a7 a8;have o:=I.len;have a9:=ae Y
   refine ⟨by trivial,fun z V'=>∃(b c i:Nat)(fs:List Nat),z=((b:Int),(c:Int),(i:Int),aG fs++B)/\Bf us (ai Y) j G i b c fs,fun z=>f-z.2.2.1.toNat,
     ⟨(0,0,0,aG us++B),by (try dsimp only);and_intros<;>first|exact True.intro|rfl,0,0,0,us,rfl,by omega,by omega,by omega,rfl,A.ud,rfl,rfl,by simp⟩,?_⟩
   rintro _ gm L ⟨b,c,i,fs,rfl,hS⟩;dsimp only;simp only [Qq0];have hi:=hS.hi;have d1:=hS.len;refine ⟨by trivial,fun h=>?_,fun h=>?_⟩
   ·have h:i<f:=by simpa using h
    obtain ⟨u,d,ob,T,cn,cb,q1,q2,q3,q4,q5,O,q7,b6⟩:=hS.step NI (aH Y) A.ud (by omega) (by omega);refine (W.le (l7.trans (l9.trans L))).QH i rfl q1 ?_;have YL:i64.wrap ((j:Int)+i)=((j+i:Nat):Int):=by rw [ar (by omega)];omega
    have YM:i64.wrap ((i:Int)+1)=((i+1:Nat):Int):=by rw [ar (by omega)];omega
    rw [q3,YL,YM,Qq0];refine ⟨⟨by omega,by omega⟩,_,iR q2,⟨by omega,by omega⟩,by simp;omega,by omega,by omega,?_⟩;rw [q4,q5,O];refine ⟨((ob:Int),(cb:Int),((i+1:Nat):Int),aG (fs.set (j+i) T)++B),by (try dsimp only);omega,?_,_,_,_,_,rfl,b6⟩
    (try dsimp only);and_intros<;>first|exact True.intro|rfl|exact tZ
   ·have h:i=(ai Y).length:=by simp at h;omega
    subst h;obtain ⟨u,ob,T,q1,q2,q3,q4,q5,O,q7,q8,q9,Nb⟩:=hS.fin A.ud (by omega) (by rw [o];exact hz);rw [o] at q1 O q7 q8 q9 Nb;rw [a9] at Nb;refine ⟨⟨by omega,by omega⟩,_,iR q1,⟨by omega,by omega⟩,by simp;omega,⟨by omega,by omega⟩,by simp;omega,by omega,?_⟩;rw [q2,q3,tZ,pW (x:=(G:Int)) (by omega)];generalize fs.set (j+f) T=ks at *;have OM:∀H:Nat,(aG D).set (0+j*1) (.int .u32 (H:Int))=aG (D.set j H):=by intro H;rw [Qy1,Qk0,bz]
    rw [OM];refine ⟨fun U=>?_,fun U=>?_⟩
    ·have U:ob=0:=by simpa using U
     rw [U,Qj3,Qy9] at Nb;have b0:=S.lt;rw [Qj4,Qd2] at b0;refine ⟨((j:Int)-1,aG ks++B,aG (D.set j G)),by (try dsimp only);omega,by (try dsimp only);and_intros<;>first|exact True.intro|rfl,ks,D.set j G,rfl,rfl,?_⟩;exact A.next P q7 O q8 Nb (by omega) NI
    ·have U:ob=1:=by
      have:ob≠0:=by simpa using U
      omega
     rw [U,Qk0] at Nb
     have OH:∀ls:List Nat,ls.length=n+1->bK ls->val (ls.drop (j+f+1))=0->val (ls.drop j)<4294967296^(f+1):=by
      intro ls Z h2 K;have a1:=br (ls.drop j) (f+1) (by simp;omega);rw [Qm0,show j+(f+1)=j+f+1 from by omega,K,Qj3,Qy9] at a1;have a2:=eQ ((h2.drop j).take (f+1));rw [Qw0,Qk7,Qy5 (by omega)] at a2;omega
     have Zo:=OH ks (by omega) O q9
     have b7:1<=G:=by
      rcases Qx9 G with w|w
      ·subst w;omega
      ·exact w
     have Zk:G*Y=(G-1)*Y+Y:=by conv=>lhs;rw [←Qv4 b7,Qj4,Qd2]
     have Zl:=S.gt;have Sq:u32.wrap ((G:Int)-1)=((G-1:Nat):Int):=by rw [pW (by omega)];omega
     refine ⟨⟨by omega,by omega⟩,(G:Int),by rw [Qy1,Qk0,fB (by simp;omega),Qd9],⟨by omega,by omega⟩,by simp;omega,?_⟩;have MH:(aG (D.set j G)).set (0+j*1) (.int .u32 ((G-1:Nat):Int))=aG (D.set j (G-1)):=by rw [Qy1,Qk0,bz,List.set_set]
     rw [Sq,MH]
     refine ⟨fun z V'=>∃(c' i2:Nat)(gs:List Nat),z=((c':Int),(i2:Int),aG gs++B)/\Ba ks (ai Y) j i2 c' gs,fun z=>f-z.2.1.toNat,
      ⟨(0,0,aG ks++B),by (try dsimp only);and_intros<;>first|exact True.intro|rfl,0,0,ks,rfl,by omega,by omega,rfl,O,rfl,rfl,by simp⟩,?_⟩
     rintro _ fH bE ⟨c',i2,gs,rfl,hA⟩;dsimp only;simp only [Qq0];have d2:=hA.hi;have d3:=hA.len;refine ⟨by trivial,fun h=>?_,fun h=>?_⟩
     ·have h:i2<f:=by simpa using h
      obtain ⟨u,d,T,cn,cb,r1,r2,r3,r4,r5,b8⟩:=hA.step (aH Y) O (by omega) (by omega);refine (W.le (l7.trans (l9.trans (L.trans bE)))).QH i2 rfl r1 ?_;have YN:i64.wrap ((j:Int)+i2)=((j+i2:Nat):Int):=by rw [ar (by omega)];omega
      have b9:i64.wrap ((i2:Int)+1)=((i2+1:Nat):Int):=by rw [ar (by omega)];omega
      rw [YN,b9,Qq0];refine ⟨⟨by omega,by omega⟩,_,iR r2,⟨by omega,by omega⟩,by simp;omega,by omega,?_⟩;rw [r3,r4,r5];refine ⟨((cb:Int),((i2+1:Nat):Int),aG (gs.set (j+i2) T)++B),by (try dsimp only);omega,?_,_,_,_,rfl,b8⟩
      (try dsimp only);and_intros<;>first|exact True.intro|rfl|exact tZ
     ·have h:i2=(ai Y).length:=by simp at h;omega
      subst h;obtain ⟨u,T,kp,r1,r2,r3,r4,r5,r6,r7,r8⟩:=hA.fin O (by omega) (by rw [o];exact q9);rw [o] at r1 r4 r5 r6 r7 r8;rw [a9] at r8;refine ⟨⟨by omega,by omega⟩,_,iR r1,⟨by omega,by omega⟩,by simp;omega,?_⟩;rw [r2,tZ];have Zn:=OH _ (by omega) r4 r7;generalize gs.set (j+f) T=hs at *
      have R5:kp=1:=by
       rcases Qx9 kp with w|w
       ·rw [w,Qj3] at r8;omega
       ·omega
      rw [R5,Qk0] at r8;refine ⟨((j:Int)-1,aG hs++B,aG (D.set j (G-1))),by (try dsimp only);omega,by (try dsimp only);and_intros<;>first|exact True.intro|rfl,hs,D.set j (G-1),rfl,rfl,?_⟩;exact A.next P (by omega) r4 (by rw [r6,q8]) (by omega) (by omega) (by omega)
 ·have K:j=-1:=by simp at K;omega
  subst K;obtain ⟨hq,hr⟩:=A.done hX.symm hY.symm (by omega) I.top;have NL:=A.qd;have Gy:=A.ud;intro V8 l8 d4 c0 c3 c5 J
  have XQ:RD V8 (some ⟨c0,0,none⟩) f c7 (us.take f):=by
   refine ⟨by simp;omega,by omega,fun i v hv=>⟨_,rfl,?_⟩,Gy.take f,fun w=>nomatch w⟩;rw [add_zero'];refine fJ c5 ?_;rw [zx,Qv3] at hv;split at hv
   ·rename_i b0;rw [Qx4 (by simp;omega)];exact hv
   ·cases hv
  refine ⟨⟨by omega,by omega⟩,fun V9 l9=>?_⟩;refine (aX (RD.bI (ds:=D) c3 NL (n:=n+1-f) (c:=n+1-f) (by omega) (Qq3 _) |>.le l9)).mono ?_;rintro r gm L ⟨k1,rfl,g1⟩;refine ⟨_,_,_,rfl,fun fH bE=>?_⟩;rw [Qq0];refine (F9 (XQ.le (l9.trans (L.trans bE))) (by simp;omega) s).mono ?_;rintro r jC cM ⟨p2,n2,c2,rfl,g2⟩;refine ⟨_,_,_,rfl,fun oH cN=>⟨_,_,_,_,_,_,rfl,?_,?_⟩⟩
  ·rw [aQ NL] at g1;unfold RN;rw [←hq];exact g1.le (bE.trans (cM.trans cN))
  ·rw [hr] at g2;exact g2.le cN
theorem kG {V:View}{p q:OA}{n c m e:Nat}{xa xb:List Nat}(ha:RD V p n c xa)(hb:RD V q m e xb)(hm:xa.length<=1099511627776)(hn:xb.length<=1099511627776)(h0:val xb≠0) :
  aa prog 191 #[.slice p n c,.slice q m e] V fun r V'=>∃p1 n1 c1 p2 n2 c2,r=.tuple #[.slice p1 n1 c1,.slice p2 n2 c2,.bool true]/\RN V' p1 n1 c1 (val xa / val xb)/\RN V' p2 n2 c2 (val xa%val xb):=by
 have la:=aW ha.cV;have lb:=aW hb.cV;refine yf p n c q m e V _ fun Q s=>(aX (ha.le s)).mono ?_;rintro r R I ⟨n,rfl,b⟩;rw [aQ ha.cV] at b;refine ⟨_,_,_,rfl,fun S t=>(aX (hb.le (s.trans (I.trans t)))).mono ?_⟩;rintro r T J ⟨m,rfl,f⟩;rw [aQ hb.cV] at f
 replace b:=b.le (t.trans J)
 generalize val xa=x at *;generalize val xb=y at *;have K:=b.len;have U:=f.len;refine ⟨_,_,_,rfl,fun u=>?_,fun u W k=>(yI (b.le k) (f.le k) (by omega)).mono ?_⟩
 ·exfalso;have:ai y=[]:=Qq6.1 (by simp at u;omega);exact h0 (bd.1 this)
 rintro r X v rfl;rw [ae,ae]
 replace b:=b.le (k.trans v)
 replace f:=f.le (k.trans v)
 refine ⟨_,rfl,fun d w g=>(lL (b.le g)).mono ?_,fun d=>⟨fun j=>?_,fun j w g=>?_⟩⟩
 ·rintro r z A ⟨B,C,D,rfl,h⟩;have d:x<y:=by simpa [fq] using d
  refine ⟨_,_,_,rfl,fun E a=>⟨_,_,_,_,_,_,rfl,?_,?_⟩⟩
  ·rw [Qj5 d];exact RD.nil
  ·rw [Qx7 d];exact h.le a
 ·have j:m=1:=by simp at j;omega
  subst j;refine f.Yw 0 rfl (by omega) fun w g=>?_;have F:=(aH y).get (i:=0) (by omega)
  have L:y=(ai y)[0]'(by omega):=by
   have e:=fU (ai y) 0;rw [ae,Qx0 (by omega)] at e;simpa using e
  rw [←L] at F ⊢;refine (BA (b.le g) (by omega) y h0 F).mono ?_;rintro r z A ⟨B,C,D,rfl,h⟩;rw [ae] at h ⊢;have G:x%y<y:=Qv9 _ (by omega);refine ⟨_,_,_,_,rfl,fun E a=>?_⟩;rw [aM (by omega)];refine (dp _ (by omega)).mono ?_;rintro r Y M ⟨N,O,P,rfl,l⟩;exact ⟨_,_,_,rfl,fun Z H=>⟨_,_,_,_,_,_,rfl,h.le (a.trans (M.trans H)),l.le H⟩⟩
 ·have d:y<=x:=by simpa [←Wx9,fq] using d
  have o:2<=m:=by
   have:¬(m:Int)=1:=by simpa using j
   have:ai y≠[]:=fun e=>h0 (bd.1 e);have:(ai y).length≠0:=fun e=>this (Qq6.1 e);omega
  refine (DR (b.le g) (f.le g) (by omega) o d).mono ?_;rintro r z A ⟨B,C,D,N,O,P,rfl,h,l⟩;exact ⟨_,_,_,_,_,_,rfl,fun E a=>⟨_,_,_,_,_,_,rfl,h.le a,l.le a⟩⟩
theorem uW (x y:Nat):Nat.gcd y (x%y)=Nat.gcd x y:=by
 rw [Qg4 x y,Nat.gcd_rec y x,Qg4]
theorem qF {V:View}{p q:OA}{n c m e:Nat}{xa xb:List Nat}(ha:RD V p n c xa)(hb:RD V q m e xb)(hm:xa.length<=1099511627776)(hn:xb.length<=1099511627776:=by omega) :
  aa prog 152 #[.slice p n c,.slice q m e] V fun r V'=>∃p1 n1 c1,r=.slice p1 n1 c1/\RN V' p1 n1 c1 (Nat.gcd (val xa) (val xb)):=by
 have la:=aW ha.cV;have lb:=aW hb.cV;refine EL p n c q m e V _ fun V1 R=>(iF (ha.le R) hm).mono ?_;rintro r V2 Y ⟨p1,n1,c1,rfl,f⟩;refine ⟨_,_,_,rfl,fun V3 S=>(iF (hb.le (R.trans (Y.trans S))) hn).mono ?_⟩;rintro r V4 Z ⟨q1,m1,e1,rfl,i⟩
 replace f:=f.le (S.trans Z)
 refine ⟨_,_,_,rfl,fun z k V'=>∃x y:Nat,RN V' z.1 z.2.1 z.2.2.1 x/\RN V' z.2.2.2.1 z.2.2.2.2.1 z.2.2.2.2.2 y/\Nat.gcd x y=Nat.gcd (val xa) (val xb)/\k=y/\(ai x).length<=1099511627776/\(ai y).length<=1099511627776,
  ⟨(p1,n1,c1,q1,m1,e1),val xb,by (try dsimp only);and_intros<;>trivial,val xa,val xb,f,i,rfl,rfl,by omega,by omega⟩,?_⟩
 rintro ⟨p,n,c,q,m,e⟩ k V5 l5 ⟨x,y,f,i,w,hk,I,g⟩;dsimp only at f i ⊢;have a0:=f.len;have T:=i.len;rw [←w];have stop:m=0->y=0:=fun h=>bd.1 (Qq6.1 (by omega))
 have more:∀j:View,V5.Le j->m≠0->aa prog 191 #[.slice p n c,.slice q m e] j fun r A=>∃p1 n1 c1 p2 n2 c2,r=.tuple #[.slice p1 n1 c1,.slice p2 n2 c2,.bool true]/\RN A p2 n2 c2 (x%y)/\x%y<y/\Nat.gcd y (x%y)=Nat.gcd (val xa) (val xb)/\(ai (x%y)).length<=1099511627776/\j.Le A:=by
  intro j l h
  have J:y≠0:=by
   intro e0;subst e0;rw [yP] at T;simp at T;omega
  have d:x%y<y:=Qv9 _ (by omega);refine (kG (f.le l) (i.le l) I g (by rw [ae];exact J)).mono ?_;rintro r A K ⟨L,M,N,F,G,H,rfl,U,u⟩;rw [ae,ae] at u;exact ⟨_,_,_,_,_,_,rfl,u,d,by rw [uW,w],Qx3 (aD) g,K⟩
 refine ⟨by trivial,fun W=>⟨fun o V6 O=>?_,fun o j l=>(more j l ?_).mono ?_⟩,fun W=>⟨fun B=>⟨fun o V6 O=>?_,fun o j l=>(more j l ?_).mono ?_⟩,fun B jC X=>?_⟩⟩
 ·rw [stop (by simp at o;omega),Qf0];rw [stop (by simp at o;omega)] at w;exact ⟨_,_,_,rfl,f.le O⟩
 ·simp at o;omega
 ·rintro r A K ⟨L,M,N,F,G,H,rfl,u,d,s,t,P⟩;exact ⟨_,_,_,_,_,_,_,rfl,(q,m,e,F,G,H),x%y,(by omega),by (try dsimp only);and_intros<;>trivial,y,x%y,i.le (l.trans P),u,s.trans w.symm,rfl,g,t⟩
 ·rw [stop (by simp at o;omega),Qf0];exact ⟨_,_,_,rfl,f.le O⟩
 ·simp at o;omega
 ·rintro r A K ⟨L,M,N,F,G,H,rfl,u,d,s,t,P⟩;exact ⟨_,_,_,_,_,_,_,rfl,(q,m,e,F,G,H),x%y,(by omega),by (try dsimp only);and_intros<;>trivial,y,x%y,i.le (l.trans P),u,s.trans w.symm,rfl,g,t⟩
 ·have a1:n<=2:=by simp at W;omega
  have a2:m<=2:=by simp at B;omega
  have C:x<18446744073709551616:=(aI (k:=2)).1 (by omega);have D:y<18446744073709551616:=(aI (k:=2)).1 (by omega);refine (kH (f.le X)).mono ?_;rintro r oH cN rfl;rw [ae,if_pos C];refine ⟨_,_,rfl,fun mD dP=>(kH (i.le (X.trans (cN.trans dP)))).mono ?_⟩;rintro r mE dj rfl;rw [ae,if_pos D]
  refine ⟨_,_,rfl,fun z V'=>∃a b:Nat,z=((a:Int),(b:Int))/\Nat.gcd a b=Nat.gcd x y/\a<18446744073709551616/\b<18446744073709551616,fun z=>z.2.toNat,
   ⟨((x:Int),(y:Int)),by (try dsimp only);and_intros<;>trivial,x,y,rfl,rfl,C,D⟩,?_⟩
  rintro _ sM dY ⟨a,b,rfl,Q,a3,E⟩;dsimp only;refine ⟨by trivial,fun v=>?_,fun v nF dw=>?_⟩
  ·have v:b≠0:=by rw [bne_iff_ne] at v;omega
   have d:a%b<b:=Qv9 _ (by omega);have e4:(a:Int).tmod (b:Int)=((a%b:Nat):Int):=by rw [Qz3 (by omega),←Ww8]
   rw [e4];exact ⟨by omega,((b:Int),((a%b:Nat):Int)),by (try dsimp only);rw [Qq0,Qq0];exact d,by (try dsimp only);and_intros<;>trivial,b,a%b,rfl,by rw [uW,Q],E,Nat.lt_trans d E⟩
  ·have v:b=0:=by rw [bne_eq_false_iff_eq] at v;omega
   subst v;rw [Qf0] at Q;refine (dp _ (by omega)).mono ?_;rintro r uf fF ⟨L,M,N,rfl,U⟩;refine ⟨_,_,_,rfl,fun A8 gj=>⟨_,_,_,rfl,?_⟩⟩;rw [←Q];exact U.le gj
end Go.Proofs.Tryz
namespace Go.Big
def aA (b:Bool)(ds:List Nat):Int:=if b then -(val ds:Int) else val ds
end Go.Big
namespace Go.Eng
open Go.Big
def RI (V:View)(v:Value)(z:Int):Prop:=∃p n c,v=.agg #[.bool (decide (z<0)),.slice p n c]/\RD V p n c (ai z.natAbs)
theorem RI.le {V V':View}{v:Value}{z:Int}(h:RI V v z)(l:V.Le V'):RI V' v z:=by
 obtain ⟨p,n,c,e,h⟩:=h;exact ⟨p,n,c,e,h.le l⟩
theorem RI.mk {V:View}{b:Bool}{p:OA}{n c:Nat}{z:Int}(hb:b=decide (z<0))(h:RD V p n c (ai z.natAbs)):RI V (.agg #[.bool b,.slice p n c]) z:=⟨p,n,c,by rw [hb],h⟩
end Go.Eng
namespace Go.Proofs.Tryz
open Go.Eng Go.Big
theorem jY {n:Nat}:bj n=0↔n=0:=by
 unfold bj;split<;>simp_all
theorem ct (b:Bool)(ds:List Nat):(aA b ds).natAbs=val ds:=by unfold aA;cases b<;>simp
theorem B7 (b:Bool)(ds:List Nat):aA b ds<0↔b=true/\val ds≠0:=by
 unfold aA;cases b
 ·simp
 ·simp;omega
theorem aE (z:Int):aA (decide (z<0)) (ai z.natAbs)=z:=by
 unfold aA;rw [ae];by_cases h:z<0
 ·rw [decide_eq_true h,if_pos rfl];omega
 ·rw [decide_eq_false h,if_neg (by decide)];omega
theorem Im (b:Bool)(ds:List Nat):aA (!b) ds=-aA b ds:=by unfold aA;cases b<;>simp
theorem nT (ds:List Nat):aA false ds=val ds:=rfl
theorem fw {x n:Nat}(h:n=(ai x).length):0<n↔x≠0:=by
 rw [h];constructor
 ·intro a b;subst b;simp at a
 ·intro a;rcases Qx9 (ai x).length with e|e
  ·exact absurd (bd.1 (Qq6.1 e)) a
  ·exact e
theorem j9 {V:View}(b:Bool){p:OA}{n c x:Nat}(h:RN V p n c x) :
  aa prog 249 #[.bool b,.slice p n c] V fun r V'=>RI V' r (if b then -(x:Int) else x):=by
 have f:=fw h.len;refine qh b p n c V _ ⟨fun a e d=>?_,fun a e d=>?_⟩
 ·rw [if_pos a];refine RI.mk ?_ ?_
  ·rw [Qx6,decide_eq_true_eq,decide_eq_true_eq];omega
  ·rw [Qf3,Qx5];exact h.le d
 ·rw [a,if_neg (by decide)];refine RI.mk ?_ ?_
  ·symm;rw [decide_eq_false_iff_not];omega
  ·rw [Qx5];exact h.le d
theorem iE {V:View}(b:Bool){p:OA}{n c:Nat}{ds:List Nat}(h:RD V p n c ds)(hm:ds.length<=1099511627776) :
  aa prog 194 #[.agg #[.bool b,.slice p n c]] V fun r V'=>RI V' r (aA b ds):=by
 refine tH b p n c V _ fun j g=>(iF (h.le g) hm).mono ?_;rintro r k l ⟨m,o,q,rfl,a⟩;have s:=fw a.len;have f:=B7 b ds;refine ⟨_,_,_,rfl,fun d i e=>RI.mk ?_ ?_,fun d i e=>RI.mk ?_ ?_⟩
 ·rw [Qx6,decide_eq_true_eq,decide_eq_true_eq,f];simp [d];omega
 ·rw [ct];exact a.le e
 ·symm;rw [decide_eq_false_iff_not,f];simp [d]
 ·rw [ct];exact a.le e
def fE (b:Bool)(ds:List Nat):Bool:=decide (ai (val ds)=ds)&&(!b||decide (ds≠[]))
theorem dL {V:View}(b:Bool){p:OA}{n c:Nat}{ds:List Nat}(h:RD V p n c ds)(hm:ds.length<=1099511627776) :
  aa prog 86 #[.agg #[.bool b,.slice p n c]] V fun r V'=>r=.bool (fE b ds):=by
 refine qg b p n c V _ fun m j=>(oU (h.le j) hm).mono ?_;rintro r o q rfl;refine ⟨_,rfl,fun d=>⟨fun a f g=>?_,fun a f g=>?_⟩,fun d f g=>?_⟩
 ·simp [fE,d];simp at a;simp [a]
 ·have k:=h.len;simp [fE,d];simp at a;simp [a];rw [Qx6,decide_eq_true_eq];simp;constructor
  ·intro i l;subst l;simp at k;omega
  ·intro i;rcases Qx9 ds.length with e|e
   ·exact absurd (Qq6.1 e) i
   ·omega
 ·simp [fE,d]
theorem jg {V:View}(n:Int)(h0:-9223372036854775808<=n)(h1:n<=9223372036854775807:=by omega) :
  aa prog 154 #[.int .i64 n] V fun r V'=>RI V' r n:=by
 refine ou n V _ ⟨fun a d f=>?_,fun a d f=>?_⟩
 ·have a:n<0:=by simpa using a
  have e:u64.wrap (0-u64.wrap n)=-n:=by rw [rv,rv];omega
  rw [e];refine (dp _ (by omega)).mono ?_;rintro r g h ⟨i,j,k,rfl,b⟩;refine ⟨_,_,_,rfl,fun l c=>⟨_,_,_,rfl,?_⟩⟩;rw [show n.natAbs=(-n).toNat from by omega];exact b.le c
 ·have a:0<=n:=by simpa using a
  rw [aM (by omega)];refine (dp _ (by omega)).mono ?_;rintro r g h ⟨i,j,k,rfl,b⟩;refine ⟨_,_,_,rfl,fun l c=>⟨_,_,_,rfl,?_⟩⟩;rw [show n.natAbs=n.toNat from by omega];exact b.le c
theorem lI {V:View}(b:Bool){p:OA}{n c:Nat}{ds:List Nat}(h:RD V p n c ds)(hm:ds.length<=1099511627776) :
  aa prog 190 #[.agg #[.bool b,.slice p n c]] V fun r V'=>r=.int .i64 (aA b ds).sign:=by
 refine tI b p n c V _ fun l k=>(fN (h.le k) hm).mono ?_;rintro r m o rfl;have f:(aA b ds)=0↔val ds=0:=by rw [←ct b ds];omega
 have g:=B7 b ds;refine ⟨_,rfl,fun a i j=>?_,fun a=>⟨fun d i j=>?_,fun d i j=>?_⟩⟩
 ·have:val ds=0:=jY.1 (by simp at a;omega);rw [f.2 this];rfl
 ·have:val ds≠0:=fun e=>by simp [jY.2 e] at a
  rw [Qd5 (g.2 ⟨d,this⟩)]
 ·have:val ds≠0:=fun e=>by simp [jY.2 e] at a
  have:0<aA b ds:=by
   have:=f;have:¬aA b ds<0:=by rw [g];simp [d]
   omega
  rw [Qd4 this]
theorem xn {V:View}(b:Bool){p:OA}{n c:Nat}{ds:List Nat}(h:RD V p n c ds)(hm:ds.length<=1099511627776) :
  aa prog 204 #[.agg #[.bool b,.slice p n c]] V fun r V'=>RI V' r (-aA b ds):=by
 refine wB b p n c V _ fun f d=>(iE (!b) (h.le d) hm).mono ?_;rintro r g i ⟨j,k,l,rfl,a⟩;rw [Im] at a ⊢;exact ⟨_,_,_,_,rfl,fun m e=>⟨_,_,_,rfl,a.le e⟩⟩
theorem fY {V:View}(b1 b2:Bool){p q:OA}{n c m e:Nat}{xa xb:List Nat}(ha:RD V p n c xa)(hb:RD V q m e xb)(hm:xa.length+xb.length<=1099511627776:=by omega) :
  aa prog 236 #[.agg #[.bool b1,.slice p n c],.agg #[.bool b2,.slice q m e]] V fun r V'=>RI V' r (aA b1 xa*aA b2 xb):=by
 refine wA b1 p n c b2 q m e V _ fun i a=>(fO (ha.le a) (hb.le a) hm).mono ?_;rintro r j k ⟨l,o,s,rfl,d⟩;refine ⟨_,_,_,rfl,fun t f=>(j9 _ (d.le f)).mono ?_⟩;rintro r u v ⟨w,x,y,rfl,b⟩
 have g:(if (!(b1==b2))=true then -((val xa*val xb:Nat):Int) else ((val xa*val xb:Nat):Int))=aA b1 xa*aA b2 xb:=by
  unfold aA;cases b1<;>cases b2<;>simp [Qt0,Qt1]
 rw [g] at b ⊢;exact ⟨_,_,_,_,rfl,fun z h=>⟨_,_,_,rfl,b.le h⟩⟩
theorem xm {V:View}(b1 b2:Bool){p q:OA}{n c m e:Nat}{xa xb:List Nat}(ha:RD V p n c xa)(hb:RD V q m e xb)(hm:xa.length<=1099511627776)(hn:xb.length<=1099511627776:=by omega) :
  aa prog 237 #[.agg #[.bool b1,.slice p n c],.agg #[.bool b2,.slice q m e]] V fun r V'=>RI V' r (aA b1 xa+aA b2 xb):=by
 have fin:∀{b:Bool} {x:Nat} {i:View} {j:OA} {k l:Nat},RN i j k l x->(if b then -(x:Int) else x)=aA b1 xa+aA b2 xb ->
   aa prog 249 #[.bool b,.slice j k l] i fun r V'=>∃(HE:Bool)(Ja:OA)(IJ HK:Nat),r=.agg #[.bool HE,.slice Ja IJ HK]/\∀o:View,V'.Le o->RI o (.agg #[.bool HE,.slice Ja IJ HK]) (aA b1 xa+aA b2 xb):=by
  intro b x i j k l h he;refine (j9 b h).mono ?_;rintro r v w ⟨y,z,A,rfl,a⟩;rw [he] at a ⊢;exact ⟨_,_,_,_,rfl,fun B s=>⟨_,_,_,rfl,a.le s⟩⟩
 refine wz b1 p n c b2 q m e V _ ⟨fun f i d=>(F8 (ha.le d) (hb.le d) hm hn).mono ?_,fun f i d=>(yK (ha.le d) (hb.le d) hm hn).mono ?_⟩
 ·rintro r C t ⟨j,k,l,rfl,u⟩;have f:b1=b2:=by simpa using f
  subst f;exact ⟨_,_,_,rfl,fun o g=>fin (u.le g) (by unfold aA;cases b1<;>simp;omega)⟩
 ·rintro r C t ⟨j,k,l,rfl,u⟩;have f:b2=!b1:=by cases b1<;>cases b2<;>simp_all
  subst f;refine ⟨_,_,_,_,rfl,fun a o g=>fin (u.le g) ?_,fun a o g=>(yK (hb.le (d.trans (t.trans g))) (ha.le (d.trans (t.trans g))) hn hm).mono ?_⟩
  ·have a:val xb<=val xa:=by simpa using a
   unfold aA;cases b1<;>simp<;>omega
  ·rintro r v w ⟨y,z,A,rfl,D⟩;have a:val xa<val xb:=by simpa using a
   exact ⟨_,_,_,_,rfl,fun B s=>fin (D.le s) (by unfold aA;cases b1<;>simp<;>omega)⟩
theorem sQ {V:View}(b:Bool){p:OA}{n c:Nat}{ds:List Nat}(h:RD V p n c ds)(hm:ds.length<=1099511627776)(hs:val ds<4611686018427387904) :
  aa prog 192 #[.agg #[.bool b,.slice p n c]] V fun r V'=>r=.tuple #[.int .i64 (aA b ds),.bool true]:=by
 refine rB b p n c V _ fun i g=>(kH (h.le g) hm).mono ?_;rintro r j k rfl;rw [if_pos (by omega),decide_eq_true (show val ds<18446744073709551616 by omega)];refine ⟨_,_,rfl,fun _=>⟨fun d=>⟨fun a l m=>?_,fun a=>?_⟩,fun d=>⟨fun _=>⟨fun a=>⟨fun f o q=>?_,fun f=>?_⟩,fun a=>?_⟩,fun a=>nomatch a⟩⟩,fun d=>nomatch d⟩
 ·subst d
  have e:i64.wrap (u64.wrap (0-(val ds:Int)))=-(val ds:Int):=by
   rw [rv,IntKind.wrap_i64];omega
  rw [e];rfl
 ·simp at a;omega
 ·subst d;rw [ar (by omega)];rfl
 ·simp at f;omega
 ·simp [d] at a
end Go.Proofs.Tryz
namespace Go.Eng
open Go.Big
def Wd (q:Rat):Prop:=q.num.natAbs<4611686018427387904/\q.den<4611686018427387904
def RR (V:View)(v:Value)(q:Rat):Prop:=
 (v=.agg #[.int .i64 q.num,.int .i64 ((q.den:Int)-1),.pointer none]/\Wd q) \/
 (∃a b p n c p' n' c',v=.agg #[.int .i64 0,.int .i64 0,.pointer (some a)]/\V.at (a.add 0) (.bool b)/\V.at (a.add 1) (.slice p n c)/\V.at (a.add 2) (.slice p' n' c') /\
  RI V (.agg #[.bool b,.slice p n c]) q.num/\RD V p' n' c' (ai q.den)/\¬Wd q)
theorem RR.le {V V':View}{v:Value}{q:Rat}(h:RR V v q)(l:V.Le V'):RR V' v q:=by
 rcases h with h|⟨a,b,p,n,c,d,f,g,e,i,j,k,m,o,r⟩
 ·exact .inl h
 ·exact .inr ⟨a,b,p,n,c,d,f,g,e,l.at i,l.at j,l.at k,m.le l,o.le l,r⟩
def Sz (k:Nat)(q:Rat):Prop:=q.num.natAbs<2^k/\q.den<2^k
theorem Sz.mono {k m:Nat}{q:Rat}(h:Sz k q)(hm:k<=m:=by omega):Sz m q:=
 ⟨Qx2 h.1 (Qw9 (by omega) hm),Qx2 h.2 (Qw9 (by omega) hm)⟩
theorem ag {n k:Nat}(h:n<2^k:=by omega):(ai n).length<=k:=by
 rw [aI];exact Qx2 h (Nat.pow_le_pow_left (by omega) k)
theorem RR.shape {V:View}{v:Value}{q:Rat}(h:RR V v q):∃(n d:Int)(p:OA),v=.agg #[.int .i64 n,.int .i64 d,.pointer p]:=by
 rcases h with ⟨e,-⟩|⟨a,b,p,n,c,f,g,i,e,-⟩
 ·exact ⟨_,_,_,e⟩
 ·exact ⟨_,_,_,e⟩
end Go.Eng
namespace Go.Proofs.Tryz
open Go.Eng Go.Big
theorem zH (n:Nat):decide ((bj n:Int)<=62)=decide (n<4611686018427387904):=by
 have:=@eI n 62;rw [Qx6,decide_eq_true_eq,decide_eq_true_eq];omega
theorem zh {z:Int}{d:Nat}(hd:d≠0)(hg:Nat.gcd z.natAbs d=1):(mkRat z d).num=z/\(mkRat z d).den=d:=by
 have:Nat.gcd d z.natAbs=1:=by rw [Qg4];exact hg
 rw [Qh4,Qp9,if_neg hd,if_neg hd,this];simp
theorem cm {V:View}(b:Bool){p q:OA}{n c m e:Nat}{xs ys:List Nat}(hx:RD V p n c xs)(hy:RD V q m e ys)(hm:xs.length<=1099511627776)(hn:ys.length<=1099511627776:=by omega) :
  aa prog 147 #[.agg #[.bool b,.slice p n c],.slice q m e] V fun r V'=>RR V' r (mkRat (aA b xs) (val ys)):=by
 have zero:∀V':View,RR V' (.agg #[.int .i64 0,.int .i64 0,.pointer none]) 0:=fun V'=>.inl ⟨rfl,by unfold Wd;decide⟩;refine v_ b p n c q m e V _ fun D h=>(fN (hy.le h) hn).mono ?_;rintro r E o rfl;refine ⟨_,rfl,fun N F O=>?_,fun N P s=>(lI b (hx.le (h.trans (o.trans s))) hm).mono ?_⟩
 ·have:val ys=0:=jY.1 (by simp at N;omega);rw [this,Wq5];exact zero _
 rintro r t u rfl;have v:val ys≠0:=fun e=>by simp [jY.2 e] at N
 refine ⟨_,rfl,fun Q V6 l6=>?_,fun Q V7 l7=>?_⟩
 ·have:aA b xs=0:=Qp0.1 (by simpa using Q);rw [this,Rat.zero_mkRat];exact zero _
 have a2:aA b xs≠0:=fun e=>by simp [e] at Q
 have y:val xs≠0:=by rw [←ct b xs];omega
 replace hx:=hx.le (h.trans (o.trans (s.trans (u.trans l7))))
 replace hy:=hy.le (h.trans (o.trans (s.trans (u.trans l7))))
 refine (qF hx hy hm hn).mono ?_;rintro r V8 l8 ⟨p3,n3,c3,rfl,A⟩
 replace hx:=hx.le l8
 replace hy:=hy.le l8
 have R:Nat.gcd (val xs) (val ys)<=val ys:=Qs7 (by omega) (Qb0 _ _);have i:(ai (Nat.gcd (val xs) (val ys))).length<=1099511627776:=Qx3 (aD R) (by have:=aW hy.cV;omega)
 have S:Nat.gcd (val xs) (val ys)≠0:=by
  intro T;exact y (Nat.eq_zero_of_gcd_eq_zero_left T)
 refine ⟨_,_,_,rfl,fun V9 G=>(fN (A.le G) i).mono ?_⟩;rintro r gm j rfl;rw [ae]
 replace hx:=hx.le (G.trans j)
 replace hy:=hy.le (G.trans j)
 replace A:=A.le (G.trans j)
 refine ⟨_,rfl,fun z V'=>∃(us d:List Nat),z.2.2.2.1=b/\RD V' z.2.2.2.2.1 z.2.2.2.2.2.1 z.2.2.2.2.2.2 us/\RD V' z.1 z.2.1 z.2.2.1 d/\us.length<=1099511627776/\d.length<=1099511627776/\val d≠0 /\
  Nat.gcd (val us) (val d)=1/\mkRat (aA b xs) (val ys)=mkRat (aA b us) (val d),⟨fun H fH I=>?_,fun H=>?_⟩,?_⟩
 ·refine (kG (hx.le I) (A.le I) hm i (by rw [ae];exact S)).mono ?_;rintro r jC cM ⟨p4,n4,c4,p5,n5,c5,rfl,g1,g2⟩;refine ⟨_,_,_,_,_,_,_,rfl,fun oH U=>(kG (hy.le (I.trans (cM.trans U))) (A.le (I.trans (cM.trans U))) hn i (by rw [ae];exact S)).mono ?_⟩;rintro r mD dP ⟨p6,n6,c6,p7,n7,c7,rfl,g3,g4⟩;rw [ae] at g1 g3;have e1:val (ai (val xs / Nat.gcd (val xs) (val ys)))=val xs / Nat.gcd (val xs) (val ys):=ae _;have W:val (ai (val ys / Nat.gcd (val xs) (val ys)))=val ys / Nat.gcd (val xs) (val ys):=ae _;have d1:=Qk8 (val xs) (val ys);have d2:=Qb0 (val xs) (val ys)
  have X:val ys / Nat.gcd (val xs) (val ys)≠0:=by
   intro T;have:=Qt9 d2;rw [T,Qd8] at this;exact v this.symm
  refine ⟨_,_,_,_,_,_,_,rfl,(p6,n6,c6,b,p4,n4,c4),by (try dsimp only);and_intros<;>trivial,_,_,rfl,g1.le (U.trans dP),g3,?_,?_,?_,?_,?_⟩
  ·exact Qx3 (aD (Qn3 _ _)) (by have:=aW hx.cV;omega)
  ·exact Qx3 (aD (Qn3 _ _)) (by have:=aW hy.cV;omega)
  ·rw [W];exact X
  ·rw [e1,W];exact Nat.gcd_div_gcd_div_gcd_of_pos_left (by omega)
  ·rw [W];have k1:val ys=val ys / Nat.gcd (val xs) (val ys)*Nat.gcd (val xs) (val ys):=(Qt9 d2).symm
   have k2:aA b xs=aA b (ai (val xs / Nat.gcd (val xs) (val ys)))*(Nat.gcd (val xs) (val ys):Nat):=by
    have k3:(val xs:Int)=((val xs / Nat.gcd (val xs) (val ys):Nat):Int)*(Nat.gcd (val xs) (val ys):Nat):=by
     rw [←Qb8,Qt9 d1]
    unfold aA;rw [e1];cases b
    ·simpa using k3
    ·simp only [if_true];rw [Qt0,←k3]
   conv=>lhs;rw [k1,k2]
   exact Rat.mkRat_mul_right S
 ·have Y:Nat.gcd (val xs) (val ys)=1:=by
   have f:¬(1<bj (Nat.gcd (val xs) (val ys))):=by simp at H;omega
   have:=@eI (Nat.gcd (val xs) (val ys)) 1;omega
  exact ⟨(q,m,e,b,p,n,c),by (try dsimp only);and_intros<;>trivial,xs,ys,rfl,hx,hy,hm,hn,v,Y,rfl⟩
 ·rintro ⟨q,m,e,g,p,n,c⟩ mE dj ⟨us,d,B,hu,J,Z,k,a0,a1,hq⟩;dsimp only at B hu J ⊢;subst B;rw [hq];obtain ⟨th,a⟩:=zh (z:=aA g us) a0 (by rw [ct];exact a1);generalize mkRat (aA g us) (val d)=w at *
  have hW:Wd w↔val us<4611686018427387904/\val d<4611686018427387904:=by
   unfold Wd;rw [th,a,ct]
  have DB:∀D:View,mE.Le D->¬Wd w->aa prog 194 #[.agg #[.bool g,.slice p n c]] D fun r E=>∃(HE:Bool)(Ja:OA)(IJ HK:Nat),r=.agg #[.bool HE,.slice Ja IJ HK] /\
    (∀F:View,E.Le F->aa prog 195 #[.slice q m e] F fun r P=>∃(VV:OA)(VQ U7:Nat),r=.slice VV VQ U7 /\
    (∀t:View,P.Le t->∀K:Nat,t.bI K (.cells #[.bool HE,.slice Ja IJ HK,.slice VV VQ U7] 271 (0,0))->RR t (.agg #[.int .i64 0,.int .i64 0,.pointer (some ⟨K,0,none⟩)]) w)):=by
   intro D h hw;refine (iE g (hu.le h) Z).mono ?_;rintro r E o Hq;obtain ⟨p2,n2,c2,rfl,H⟩:=Hq;have Hq:RI E (.agg #[.bool (decide (aA g us<0)),.slice p2 n2 c2]) (aA g us):=⟨_,_,_,rfl,H⟩;refine ⟨_,_,_,_,rfl,fun F O=>(iF (J.le (h.trans (o.trans O))) k).mono ?_⟩;rintro r P s ⟨p3,n3,c3,rfl,f⟩;refine ⟨_,_,_,rfl,fun t u K hb=>.inr ⟨⟨K,0,none⟩,decide (aA g us<0),p2,n2,c2,p3,n3,c3,rfl,?_,?_,?_,?_,?_,hw⟩⟩
   ·rw [add_zero'];exact fJ (xs:=[_,_,_]) hb rfl
   ·rw [add_zero'];exact fJ (xs:=[_,_,_]) hb rfl
   ·rw [add_zero'];exact fJ (xs:=[_,_,_]) hb rfl
   ·rw [th];exact Hq.le (O.trans (s.trans u))
   ·rw [a];exact f.le u
  refine ⟨by trivial,fun sM l=>(fN (hu.le l) Z).mono ?_⟩;rintro r nF C rfl;refine ⟨_,rfl,fun f uf L=>(fN (J.le (l.trans (C.trans L))) k).mono ?_,fun f Mi A_=>DB Mi (l.trans (C.trans A_)) ?_⟩
  ·rintro r A8 gj rfl;rw [zH,decide_eq_true_eq] at f;refine ⟨_,rfl,fun M Bg mK=>?_,fun M JW xB=>DB JW (l.trans (C.trans (L.trans (gj.trans xB)))) ?_⟩
   ·rw [zH,decide_eq_true_eq] at M;refine (sQ g (hu.le (l.trans (C.trans (L.trans (gj.trans mK))))) Z f).mono ?_;rintro r Bh iY rfl;refine ⟨_,_,rfl,fun Dv pD=>(kH (J.le (l.trans (C.trans (L.trans (gj.trans (mK.trans (iY.trans pD))))))) k).mono ?_⟩;rintro r Dm lT rfl;rw [if_pos (by omega)];refine ⟨_,_,rfl,fun JV Fp=>.inl ⟨?_,hW.2 ⟨f,M⟩⟩⟩;rw [ar (x:=((val d:Nat):Int)) (by omega),ar (by omega),th,a]
   ·rw [zH,decide_eq_false_iff_not] at M;rw [hW];omega
  ·rw [zH,decide_eq_false_iff_not] at f;rw [hW];omega
end Go.Proofs.Tryz
namespace Go.Eng
open Go.Big
theorem RI.inv {V:View}{b:Bool}{p:OA}{n c:Nat}{z:Int}(h:RI V (.agg #[.bool b,.slice p n c]) z):b=decide (z<0)/\RD V p n c (ai z.natAbs):=by
 obtain ⟨d,f,g,e,a⟩:=h;simp at e;obtain ⟨rfl,rfl,rfl,rfl⟩:=e;exact ⟨rfl,a⟩
end Go.Eng
namespace Go.Proofs.Tryz
open Go.Eng Go.Big
theorem eJ {V:View}{v:Value}{q:Rat}(h:RR V v q){k:Nat}(hs:Sz k q)(hk:k<=1099511627776:=by omega) :
  aa prog 153 #[v] V fun r V'=>RI V' r q.num:=by
 rcases h with ⟨rfl,hw⟩|⟨a,b,p,n,c,w,x,y,rfl,i,j,z,l,A,hw⟩
 ·have:=hw.1;refine nw _ _ _ V _ ⟨(fun d=>nomatch d),fun _ m f=>(jg _ (by omega)).mono ?_⟩;rintro r o s ⟨p,n,c,rfl,g⟩;exact ⟨_,_,_,_,rfl,fun t e=>⟨_,_,_,rfl,g.le e⟩⟩
 ·obtain ⟨rfl,u⟩:=l.inv;refine nw _ _ _ V _ ⟨fun _=>⟨rfl,rfl,decide (q.num<0),p,n,c,a.add 0,rfl,?_,?_,fun m f=>(iE _ (u.le f) (Qx3 (ag hs.1) hk)).mono ?_⟩,fun d=>nomatch d⟩
  ·exact i
  ·simpa [Addr.add] using j
  ·rintro r o s ⟨p,n,c,rfl,g⟩;rw [aE] at g ⊢;exact ⟨_,_,_,_,rfl,fun t e=>⟨_,_,_,rfl,g.le e⟩⟩
theorem dK {V:View}{v:Value}{q:Rat}(h:RR V v q){k:Nat}(hs:Sz k q)(hk:k<=1099511627776:=by omega) :
  aa prog 151 #[v] V fun r V'=>∃p n c,r=.slice p n c/\RN V' p n c q.den:=by
 rcases h with ⟨rfl,hw⟩|⟨a,b,p,n,c,t,u,w,rfl,x,y,i,z,j,hw⟩
 ·have:=hw.2;have A:=q.den_nz;refine nt _ _ _ V _ ⟨(fun d=>nomatch d),fun _ l f=>?_⟩;rw [ar (by omega),aM (by omega)];refine (dp _ (by omega)).mono ?_;rintro r m o ⟨p,n,c,rfl,g⟩;rw [show ((q.den:Int)-1+1).toNat=q.den from by omega] at g;exact ⟨_,_,_,rfl,fun s e=>⟨_,_,_,rfl,g.le e⟩⟩
 ·refine nt _ _ _ V _ ⟨fun _=>⟨rfl,rfl,_,_,_,⟨_,rfl,i⟩,fun l f=>(iF (j.le f) (Qx3 (ag hs.2) hk)).mono ?_⟩,fun d=>nomatch d⟩;rintro r m o ⟨p,n,c,rfl,g⟩;rw [ae] at g;exact ⟨_,_,_,rfl,fun s e=>⟨_,_,_,rfl,g.le e⟩⟩
theorem iD {V:View}(n:Int)(h0:-9223372036854775808<n)(h1:n<=9223372036854775807:=by omega) :
  aa prog 149 #[.int .i64 n] V fun r V'=>r=.int .u64 (n.natAbs:Int):=by
 refine CP n V _ ⟨fun a b c=>?_,fun a b c=>?_⟩
 ·have a:n<0:=by simpa using a
  rw [ar (by omega),aM (by omega)];congr 1;omega
 ·have a:0<=n:=by simpa using a
  rw [aM (by omega)];congr 1;omega
theorem uw {V:View}(x y:Nat)(hx:x<18446744073709551616)(hy:y<18446744073709551616:=by omega) :
  aa prog 148 #[.int .u64 (x:Int),.int .u64 (y:Int)] V fun r V'=>r=.int .u64 (Nat.gcd x y:Int):=by
 refine CQ _ _ V _ ⟨fun z V'=>∃a b:Nat,z=((a:Int),(b:Int))/\Nat.gcd a b=Nat.gcd x y,fun z=>z.2.toNat,
  ⟨((x:Int),(y:Int)),by (try dsimp only);and_intros<;>trivial,x,y,rfl,rfl⟩,?_⟩
 rintro _ g h ⟨a,b,rfl,d⟩;dsimp only;refine ⟨by trivial,fun c=>?_,fun c i j=>?_⟩
 ·have c:b≠0:=by rw [bne_iff_ne] at c;omega
  have e:a%b<b:=Qv9 _ (by omega);have f:(a:Int).tmod (b:Int)=((a%b:Nat):Int):=by rw [Qz3 (by omega),←Ww8]
  rw [f];exact ⟨by omega,((b:Int),((a%b:Nat):Int)),by (try dsimp only);rw [Qq0,Qq0];exact e,by (try dsimp only);and_intros<;>trivial,b,a%b,rfl,by rw [uW,d]⟩
 ·have c:b=0:=by rw [bne_eq_false_iff_eq] at c;omega
  subst c;rw [Qf0] at d;rw [d]
theorem fm {V:View}(a b:Int)(ha:a.natAbs<4611686018427387904)(hb:b.natAbs<4611686018427387904:=by omega) :
  aa prog 234 #[.int .i64 a,.int .i64 b] V fun r V'=>∃z:Int,r=.tuple #[.int .i64 z,.bool (decide ((a*b).natAbs<4611686018427387904))]/\((a*b).natAbs<4611686018427387904->z=a*b):=by
 refine xM a b V _ fun k l=>(iD a (by omega)).mono ?_;rintro r m n rfl;refine ⟨_,rfl,fun o q=>(iD b (by omega)).mono ?_⟩;rintro r s t rfl;refine ⟨_,rfl,fun u v=>(Kg _ _ (by omega)).mono ?_⟩;rintro r w y rfl;have j:(a*b).natAbs=a.natAbs*b.natAbs:=Qn4 a b
 have f:a*b=if (decide (a<0)==decide (b<0)) then ((a.natAbs*b.natAbs:Nat):Int) else -((a.natAbs*b.natAbs:Nat):Int):=by
  rw [Qb8];by_cases c:a<0<;>by_cases d:b<0
  ·rw [decide_eq_true c,decide_eq_true d,show (a.natAbs:Int)=-a from by omega,show (b.natAbs:Int)=-b from by omega];simp [Qt0,Qt1]
  ·rw [decide_eq_true c,decide_eq_false d,if_neg (by decide),show (a.natAbs:Int)=-a from by omega,show (b.natAbs:Int)=b from by omega];simp [Qt0]
  ·rw [decide_eq_false c,decide_eq_true d,if_neg (by decide),show (a.natAbs:Int)=a from by omega,show (b.natAbs:Int)=-b from by omega];simp [Qt1]
  ·rw [decide_eq_false c,decide_eq_false d,show (a.natAbs:Int)=a from by omega,show (b.natAbs:Int)=b from by omega];simp
 rw [j];generalize a.natAbs*b.natAbs=p at *;refine ⟨_,_,rfl,fun e g i=>?_,fun e=>⟨fun c g i=>?_,fun c=>⟨fun d g i=>?_,fun d g i=>?_⟩⟩⟩
 ·have e:18446744073709551616<=p:=by rw [bne_iff_ne] at e;omega
  rw [decide_eq_false (by omega)];exact ⟨_,rfl,fun h=>by omega⟩
 ·have c:4611686018427387904<=p:=by
   rw [decide_eq_true_eq] at c;omega
  rw [decide_eq_false (by omega)];exact ⟨_,rfl,fun h=>by omega⟩
 ·have e:p / 18446744073709551616=0:=by rw [bne_eq_false_iff_eq] at e;omega
  have c:p<4611686018427387904:=by rw [decide_eq_false_iff_not] at c;omega
  rw [decide_eq_true c,ar (x:=((p%18446744073709551616:Nat):Int)) (by omega),ar (by omega)];refine ⟨_,rfl,fun _=>?_⟩;have d:(decide (a<0)==decide (b<0))=false:=by simpa using d
  rw [f,d,if_neg (by decide)];omega
 ·have e:p / 18446744073709551616=0:=by rw [bne_eq_false_iff_eq] at e;omega
  have c:p<4611686018427387904:=by rw [decide_eq_false_iff_not] at c;omega
  rw [decide_eq_true c,ar (x:=((p%18446744073709551616:Nat):Int)) (by omega)];refine ⟨_,rfl,fun _=>?_⟩;have d:(decide (a<0)==decide (b<0))=true:=by simpa using d
  rw [f,d,if_pos rfl];omega
theorem mZ {V:View}(n:Int)(d:Nat)(hn:n.natAbs<4611686018427387904)(hd:d<4611686018427387904)(hd0:d≠0) :
  aa prog 235 #[.int .i64 n,.int .i64 (d:Int)] V fun r V'=>RR V' r (mkRat n d):=by
 refine vZ n _ V _ fun o p=>(iD n (by omega)).mono ?_;rintro r q s rfl;rw [aM (x:=(d:Int)) (by omega)];refine ⟨_,rfl,fun t u=>(uw _ _ (by omega)).mono ?_⟩;rintro r v w rfl;have g:Nat.gcd n.natAbs d<=d:=Qs7 (by omega) (Qb0 _ _);have y:0<Nat.gcd n.natAbs d:=Wq9 _ (by omega);have c:=Qh4 n d;have a:=Qp9 n d;rw [if_neg hd0,Qg4] at c a;have b:(Nat.gcd n.natAbs d:Int)∣n:=Int.ofNat_dvd_left.2 (Qk8 _ _);have h:d / Nat.gcd n.natAbs d<=d:=Qn3 _ _
 have i:(n / (Nat.gcd n.natAbs d:Int)).natAbs<=n.natAbs:=by
  rw [Qr7 b,Qx5];exact Qn3 _ _
 have f:Wd (mkRat n d):=by unfold Wd;rw [c,a];omega
 refine ⟨_,rfl,?_⟩;rw [ar (x:=((Nat.gcd n.natAbs d:Nat):Int)) (by omega)];refine ⟨fun e=>⟨by omega,by omega,fun j k=>.inl ⟨?_,f⟩⟩,fun e j k=>.inl ⟨?_,f⟩⟩
 ·rw [c,a];have l:n.tdiv (Nat.gcd n.natAbs d:Int)=n / (Nat.gcd n.natAbs d:Int):=Int.tdiv_eq_ediv_of_dvd b;have m:(d:Int).tdiv (Nat.gcd n.natAbs d:Int)=((d / Nat.gcd n.natAbs d:Nat):Int):=by rw [Qk1 (by omega),←Int.natCast_ediv]
  rw [l,m];generalize n / (Nat.gcd n.natAbs d:Int)=nn at *;generalize d / Nat.gcd n.natAbs d=dd at *;rw [ar (by omega),ar (x:=(dd:Int)) (by omega),ar (by omega)]
 ·have e:Nat.gcd n.natAbs d=1:=by rw [decide_eq_false_iff_not] at e;omega
  rw [c,a,e,ar (by omega)];simp
theorem mkRat_one (z:Int):mkRat z 1=(z:Rat):=by
 apply Rat.ext
 ·rw [Qh4];simp
 ·rw [Qp9];simp
theorem RD.one {V:View}{bk:Nat}{ty:TypeId}{m:Nat×Nat}(h:V.bI bk (.cells #[.int .u32 1] ty m)):RD V (some ⟨bk,0,none⟩) 1 1 [1]:=
 RD.bI (ds:=[1]) h (by simp [bK]) rfl (Qq3 _)
theorem kF {V:View}(b:Bool){p:OA}{n c:Nat}{ds:List Nat}(h:RD V p n c ds)(hm:ds.length<=1099511627776) :
  aa prog 87 #[.agg #[.bool b,.slice p n c]] V fun r V'=>RR V' r (aA b ds:Rat):=by
 refine xL b p n c V _ fun j f k g=>(cm b (h.le f) (RD.one g) hm (by simp)).mono ?_;rintro r l m a;have e:mkRat (aA b ds) (val [1])=(aA b ds:Rat):=mkRat_one _;rw [e] at a;obtain ⟨n,d,p,rfl⟩:=a.shape;exact ⟨_,_,_,rfl,fun _ o i=>a.le i⟩
theorem va {z:Int}(h:z.natAbs<4611686018427387904):Wd (z:Rat):=⟨h,by show (1:Nat)<_;decide⟩
theorem iC {V:View}(n:Int)(h0:-9223372036854775808<=n)(h1:n<=9223372036854775807:=by omega) :
  aa prog 91 #[.int .i64 n] V fun r V'=>RR V' r (n:Rat):=by
 have DB:∀b:View,V.Le b->aa prog 154 #[.int .i64 n] b fun l i=>∃HE:Bool,∃(Ja:OA)(IJ HK:Nat),l=.agg #[.bool HE,.slice Ja IJ HK]/\(∀a:View,i.Le a->∀N9:Nat,a.bI N9 (.cells #[.int .u32 1] 221 (0,0))->aa prog 147 #[.agg #[.bool HE,.slice Ja IJ HK],.slice (some ⟨N9,0,none⟩) 1 1] a fun o j=>∃Qg:Int,∃Wl:Int,∃VX:OA,o=.agg #[.int .i64 Qg,.int .i64 Wl,.pointer VX]/\∀Zd:C->Value,(∀V5:View,j.Le V5->RR V5 (.agg #[.int .i64 Qg,.int .i64 Wl,.pointer VX]) (n:Rat))):=by
  intro b q;refine (jg n h0 h1).mono ?_;rintro r i v ⟨p,m,c,rfl,g⟩;refine ⟨_,_,_,_,rfl,fun a f w s=>(cm _ (g.le f) (RD.one s) (Qx3 (ag (k:=64)) (by omega)) (by simp)).mono ?_⟩;rintro r j x h;have e:mkRat (aA (decide (n<0)) (ai n.natAbs)) (val [1])=(n:Rat):=by rw [aE];exact mkRat_one _
  rw [e] at h;obtain ⟨n,d,p,rfl⟩:=h.shape;exact ⟨_,_,_,rfl,fun _ a f=>h.le f⟩
 refine CO n V _ ⟨fun _=>DB,fun t=>⟨fun _=>DB,fun u b q=>.inl ⟨rfl,va ?_⟩⟩⟩;rw [decide_eq_false_iff_not] at t u;omega
theorem Bu {V:View}{v:Value}{q:Rat}(h:RR V v q){k:Nat}(hs:Sz k q)(hk:k<=1099511627776:=by omega) :
  aa prog 160 #[v] V fun r V'=>r=.int .i64 q.num.sign:=by
 rcases h with ⟨rfl,hw⟩|⟨a,b,p,n,c,o,s,t,rfl,i,j,u,l,w,hw⟩
 ·refine mw _ _ _ V _ ⟨(fun e=>nomatch e),fun _=>⟨fun h f d=>?_,fun h=>⟨fun g f d=>?_,fun g f d=>?_⟩⟩⟩
  ·rw [Qd5 (by simpa using h)]
  ·rw [Qd4 (by simpa using g)]
  ·have:q.num=0:=by rw [decide_eq_false_iff_not] at h g;omega
   rw [this];rfl
 ·obtain ⟨rfl,m⟩:=l.inv;refine mw _ _ _ V _ ⟨fun _=>⟨rfl,rfl,decide (q.num<0),p,n,c,a.add 0,rfl,?_,?_,fun f d=>(lI _ (m.le d) (Qx3 (ag hs.1) hk)).mono ?_⟩,(fun e=>nomatch e)⟩
  ·exact i
  ·simpa [Addr.add] using j
  ·rintro r x y rfl;rw [aE];exact ⟨_,rfl,fun z A=>rfl⟩
theorem oQ {V:View}{v:Value}{q:Rat}(h:RR V v q):aa prog 88 #[v] V fun r V'=>r=.bool (decide (q=0)):=by
 rcases h with ⟨rfl,hw⟩|⟨a,b,p,n,c,i,j,k,rfl,l,m,o,s,t,hw⟩
 ·refine my _ _ _ V _ ⟨fun _ f g=>?_,(fun d=>nomatch d)⟩;congr 1;rw [Qx6,beq_iff_eq,decide_eq_true_eq];exact Qn5
 ·refine my _ _ _ V _ ⟨(fun d=>nomatch d),fun _ f g=>?_⟩;congr 1;symm;rw [decide_eq_false_iff_not];intro e;subst e;exact hw ⟨by decide,by decide⟩
theorem oP {V:View}{v:Value}{q:Rat}(h:RR V v q){k:Nat}(hs:Sz k q)(hk:k<=1099511627776:=by omega) :
  aa prog 163 #[v] V fun r V'=>RR V' r (-q):=by
 rcases h with ⟨rfl,hw⟩|⟨a,b,p,n,c,i,j,l,rfl,s,t,u,w,x,hw⟩
 ·have:=hw.1;refine nv _ _ _ V _ ⟨(fun d=>nomatch d),fun _ y e=>.inl ⟨?_,by unfold Wd;rw [Wy3,Wy4,Qf3];exact hw⟩⟩;rw [ar (by omega),Wy3,Wy4,Int.zero_sub]
 ·obtain ⟨rfl,z⟩:=w.inv;refine nv _ _ _ V _ ⟨fun _=>⟨rfl,rfl,decide (q.num<0),p,n,c,a.add 0,rfl,?_,?_,rfl,rfl,i,j,l,⟨_,rfl,u⟩,fun y e=>(xn _ (z.le e) (Qx3 (ag hs.1) hk)).mono ?_⟩,(fun d=>nomatch d)⟩
  ·exact s
  ·simpa [Addr.add] using t
  ·rintro r F A m;rw [aE] at m;obtain ⟨B,C,D,rfl,g⟩:=m;refine ⟨_,_,_,_,rfl,fun G o E f=>.inr ⟨⟨E,0,none⟩,decide (-q.num<0),B,C,D,i,j,l,rfl,?_,?_,?_,?_,?_,?_⟩⟩
   ·rw [add_zero'];exact fJ (xs:=[_,_,_]) f rfl
   ·rw [add_zero'];exact fJ (xs:=[_,_,_]) f rfl
   ·rw [add_zero'];exact fJ (xs:=[_,_,_]) f rfl
   ·exact ⟨_,_,_,rfl,g.le o⟩
   ·exact x.le (e.trans (A.trans o))
   ·unfold Wd;rw [Wy3,Wy4,Qf3];exact hw
theorem _root_.Go.Eng.Sz.neg {k:Nat}{q:Rat}(h:Sz k q):Sz k (-q):=by unfold Sz;rw [Wy3,Wy4,Qf3];exact h
theorem vv (z:Int)(g:Nat)(h:(g:Int)∣z):(z / g).natAbs<=z.natAbs:=by
 rw [Qr7 h,Qx5];exact Qn3 _ _
theorem _root_.Go.Eng.Sz.mkRat {k:Nat}{z:Int}{d:Nat}(h1:z.natAbs<2^k)(h2:d<2^k)(hk:0<k):Sz k (mkRat z d):=by
 have a:1<2^k:=Qf1 (by omega);unfold Sz;rw [Qh4,Qp9];split
 ·exact ⟨Qz4 k,a⟩
 ·refine ⟨Qv5 (vv _ _ (Int.ofNat_dvd_left.2 (Qb0 _ _))) h1,Qv5 (Qn3 _ _) h2⟩
theorem bF {a b k m:Nat}(h1:a<2^k)(h2:b<2^m):a*b<2^(k+m):=by rw [Qy6];exact Qp2 h1 h2
theorem ug {x y:Rat}{k m:Nat}(hx:Sz k x)(hy:Sz m y):(x.num*y.den).natAbs<2^(k+m)/\(y.num*x.den).natAbs<2^(k+m)/\(x.num*y.den+y.num*x.den).natAbs<2^(k+m+1)/\x.den*y.den<2^(k+m):=by
 have a:(x.num*y.den).natAbs<2^(k+m):=by rw [Qn4,Qx5];exact bF hx.1 hy.2
 have b:(y.num*x.den).natAbs<2^(k+m):=by rw [Qn4,Qx5,Qd7];exact bF hy.1 hx.2
 refine ⟨a,b,?_,bF hx.2 hy.2⟩;rw [Qz6];omega
theorem _root_.Go.Eng.Sz.add {x y:Rat}{k m:Nat}(hx:Sz k x)(hy:Sz m y):Sz (k+m+1) (x+y):=by
 obtain ⟨-,-,a,b⟩:=ug hx hy;rw [Rat.add_def'];exact Go.Eng.Sz.mkRat a (Qx2 b (Qw9 (by omega) (by omega))) (by omega)
theorem _root_.Go.Eng.Sz.sub {x y:Rat}{k m:Nat}(hx:Sz k x)(hy:Sz m y):Sz (k+m+1) (x-y):=by
 rw [Qr0];exact hx.add hy.neg
theorem _root_.Go.Eng.Sz.mul {x y:Rat}{k m:Nat}(hx:Sz k x)(hy:Sz m y):Sz (k+m+1) (x*y):=by
 rw [Wx5];refine (Go.Eng.Sz.mkRat (k:=k+m+1) ?_ ?_ (by omega))
 ·rw [Qn4];exact Qx2 (bF hx.1 hy.1) (Qw9 (by omega) (by omega))
 ·exact Qx2 (bF hx.2 hy.2) (Qw9 (by omega) (by omega))
theorem oO {V:View}{v w:Value}{x y:Rat}(hx:RR V v x)(hy:RR V w y){k m:Nat}(hk:Sz k x)(hm:Sz m y)(hkm:k+m<1099511627776:=by omega) :
  aa prog 199 #[v,w] V fun r V'=>RR V' r (x+y):=by
 obtain ⟨P,Q,R,rfl⟩:=hx.shape;obtain ⟨S,s1,s2,rfl⟩:=hy.shape;have o:x+y=mkRat (x.num*y.den+y.num*x.den) (x.den*y.den):=Rat.add_def' x y;obtain ⟨b1,b2,b3,b4⟩:=ug hk hm
 have gen:(∀UE:View,V.Le UE->aa prog 153 #[.agg #[.int .i64 P,.int .i64 Q,.pointer R]] UE fun S3 Wt=>∃N3:Bool,∃(Jb:OA)(IK HL:Nat),S3=.agg #[.bool N3,.slice Jb IK HL]/\(∀UF:View,Wt.Le UF->aa prog 151 #[.agg #[.int .i64 S,.int .i64 s1,.pointer s2]] UF fun S4 Wu=>∃(PF:OA)(Pm Oc:Nat),S4=.slice PF Pm Oc/\(∀UG:View,Wu.Le UG->aa prog 236 #[.agg #[.bool N3,.slice Jb IK HL],.agg #[.bool false,.slice PF Pm Oc]] UG fun S5 Wv=>∃N4:Bool,∃(Jc:OA)(IL HM:Nat),S5=.agg #[.bool N4,.slice Jc IL HM]/\(∀UH:View,Wv.Le UH->aa prog 153 #[.agg #[.int .i64 S,.int .i64 s1,.pointer s2]] UH fun S6 Ww=>∃N5:Bool,∃(PI:OA)(Pp Of:Nat),S6=.agg #[.bool N5,.slice PI Pp Of]/\(∀UI:View,Ww.Le UI->aa prog 151 #[.agg #[.int .i64 P,.int .i64 Q,.pointer R]] UI fun S7 Wx=>∃(Jd:OA)(IM HN:Nat),S7=.slice Jd IM HN/\(∀UJ:View,Wx.Le UJ->aa prog 236 #[.agg #[.bool N5,.slice PI Pp Of],.agg #[.bool false,.slice Jd IM HN]] UJ fun S8 Wy=>∃N6:Bool,∃(Je:OA)(IP HO:Nat),S8=.agg #[.bool N6,.slice Je IP HO]/\(∀UK:View,Wy.Le UK->aa prog 237 #[.agg #[.bool N4,.slice Jc IL HM],.agg #[.bool N6,.slice Je IP HO]] UK fun S9 Wz=>∃N7:Bool,∃(PL:OA)(Ps Oi:Nat),S9=.agg #[.bool N7,.slice PL Ps Oi]/\(∀UL:View,Wz.Le UL->aa prog 151 #[.agg #[.int .i64 P,.int .i64 Q,.pointer R]] UL fun S_ WA=>∃(PM:OA)(Pt Oj:Nat),S_=.slice PM Pt Oj/\(∀UM:View,WA.Le UM->aa prog 151 #[.agg #[.int .i64 S,.int .i64 s1,.pointer s2]] UM fun Ta WB=>∃(Jf:OA)(Pu Ok:Nat),Ta=.slice Jf Pu Ok/\(∀UN:View,WB.Le UN->aa prog 150 #[.slice PM Pt Oj,.slice Jf Pu Ok] UN fun Tb WC=>∃(PN:OA)(Pv Ol:Nat),Tb=.slice PN Pv Ol/\(∀UO:View,WC.Le UO->aa prog 147 #[.agg #[.bool N7,.slice PL Ps Oi],.slice PN Pv Ol] UO fun Tc WD=>∃Qj:Int,∃Qk:Int,∃PO:OA,Tc=.agg #[.int .i64 Qj,.int .i64 Qk,.pointer PO]/\(∀UP:View,WD.Le UP->RR UP (.agg #[.int .i64 Qj,.int .i64 Qk,.pointer PO]) (x+y))))))))))))):=by
  intro t f;refine (eJ (hx.le f) hk).mono ?_;rintro r l g ⟨p1,n1,c1,rfl,A⟩;refine ⟨_,_,_,_,rfl,fun V3 i=>(dK (hy.le (f.trans (g.trans i))) hm).mono ?_⟩;rintro r V4 B ⟨p2,n2,c2,rfl,C⟩;have q1:=ag hk.1;have q2:=ag hk.2;have q3:=ag hm.1;have q4:=ag hm.2;refine ⟨_,_,_,rfl,fun V5 u=>(fY _ false (A.le (i.trans (B.trans u))) (C.le u)).mono ?_⟩;rintro r V6 J h6;rw [aE,nT,ae] at h6;obtain ⟨p3,n3,c3,rfl,z⟩:=h6;refine ⟨_,_,_,_,rfl,fun V7 D=>(eJ (hy.le (f.trans (g.trans (i.trans (B.trans (u.trans (J.trans D))))))) hm).mono ?_⟩;rintro r V8 K ⟨p4,n4,c4,rfl,L⟩;refine ⟨_,_,_,_,rfl,fun V9 E=>(dK (hx.le (f.trans (g.trans (i.trans (B.trans (u.trans (J.trans (D.trans (K.trans E))))))))) hk).mono ?_⟩;rintro r gm j ⟨p5,n5,c5,rfl,M⟩;refine ⟨_,_,_,rfl,fun fH F=>(fY _ false (L.le (E.trans (j.trans F))) (M.le F)).mono ?_⟩;rintro r jC cM G;rw [aE,nT,ae] at G;obtain ⟨p6,n6,c6,rfl,g6⟩:=G;have q5:=ag b1;have q6:=ag b2;refine ⟨_,_,_,_,rfl,fun oH T=>(xm _ _ (z.le (D.trans (K.trans (E.trans (j.trans (F.trans (cM.trans T))))))) (g6.le T) (by omega)).mono ?_⟩;rintro r mD dP Lx;rw [aE,aE] at Lx;obtain ⟨p7,n7,c7,rfl,g7⟩:=Lx;have Lo:=f.trans (g.trans (i.trans (B.trans (u.trans (J.trans (D.trans (K.trans (E.trans (j.trans (F.trans (cM.trans (T.trans dP))))))))))));refine ⟨_,_,_,_,rfl,fun mE U=>(dK (hx.le (Lo.trans U)) hk).mono ?_⟩;rintro r sM dY ⟨p8,n8,c8,rfl,g8⟩;refine ⟨_,_,_,rfl,fun nF W=>(dK (hy.le (Lo.trans (U.trans (dY.trans W)))) hm).mono ?_⟩;rintro r uf fF ⟨p9,n9,c9,rfl,g9⟩;refine ⟨_,_,_,rfl,fun A8 X=>(fO (g8.le (W.trans (fF.trans X))) (g9.le X)).mono ?_⟩;rintro r Bg mK ⟨L4,a1,a2,rfl,H⟩;rw [ae,ae] at H;have q7:=ag b3;have q8:=ag b4;refine ⟨_,_,_,rfl,fun Bh iY=>(cm _ (g7.le (U.trans (dY.trans (W.trans (fF.trans (X.trans (mK.trans iY))))))) (H.le iY) (by omega)).mono ?_⟩;rintro r Dv pD q;rw [aE,ae,←o] at q;obtain ⟨n,d,p,rfl⟩:=q.shape;exact ⟨_,_,_,rfl,fun Dm lT=>q.le lT⟩
 have lift:∀t:View,V.Le t->∀l:View,t.Le l->V.Le l:=fun _ h _ h'=>h.trans h';rcases hx with ⟨ex,wx⟩|⟨a,b,p,n,c,p',n',c',ex,-,-,-,-,-,wx⟩
 ·rcases hy with ⟨I,wy⟩|⟨a,b,p,n,c,p',n',c',I,-,-,-,-,-,wy⟩
  ·simp only [Value.agg.injEq,Qb1,Qy2,Value.int.injEq,Value.pointer.injEq,true_and,and_true] at ex I;obtain ⟨rfl,rfl,rfl⟩:=ex;obtain ⟨rfl,rfl,rfl⟩:=I;obtain ⟨P8,Wi⟩:=wx;obtain ⟨P9,Wj⟩:=wy;have dx:=x.den_nz;have dy:=y.den_nz;have e1:i64.wrap ((x.den:Int)-1+1)=x.den:=by rw [ar (by omega)];omega
   have e2:i64.wrap ((y.den:Int)-1+1)=y.den:=by rw [ar (by omega)];omega
   refine jQ _ _ _ _ _ _ V _ ⟨fun _=>⟨fun _ _=>True,⟨fun _=>⟨fun N=>⟨fun O t f=>?_,fun O=>?_⟩,fun N=>?_⟩,(fun h=>nomatch h)⟩,fun _ t f _=>⟨by trivial,fun l g=>gen l (f.trans g)⟩⟩,(fun h=>nomatch h)⟩
   ·have N:x.den=1:=by rw [beq_iff_eq] at N;omega
    have O:y.den=1:=by rw [beq_iff_eq] at O;omega
    rw [ar (by omega)];refine (iC _ (by omega)).mono ?_;rintro r l g s
    have e:((x.num+y.num:Int):Rat)=x+y:=by
     rw [o,N,O];simp only [Qk0,Int.natCast_one,Int.mul_one];exact (mkRat_one _).symm
    rw [e] at s;obtain ⟨n,d,p,rfl⟩:=s.shape;exact ⟨_,_,_,rfl,fun V3 i=>s.le i⟩
   all_goals
    rw [e1,e2];refine fun V4 B=>(fm _ _ P8).mono ?_;rintro r V5 u ⟨z1,rfl,Y⟩;refine ⟨_,_,rfl,fun V6 J=>(fm _ _ P9).mono ?_⟩;rintro r V7 D ⟨z2,rfl,Z⟩;refine ⟨_,_,rfl,fun V8 K=>(fm _ _ (by omega)).mono ?_⟩;rintro r V9 E ⟨z3,rfl,a0⟩;refine ⟨_,_,rfl,fun A=>⟨fun C=>⟨fun z=>⟨fun L=>⟨fun M gm j=>?_,fun _=>⟨(),by and_intros<;>rfl,trivial⟩⟩,fun _=>⟨(),by and_intros<;>rfl,trivial⟩⟩,fun _=>⟨(),by and_intros<;>rfl,trivial⟩⟩,fun _=>⟨(),by and_intros<;>rfl,trivial⟩⟩,fun _=>⟨(),by and_intros<;>rfl,trivial⟩⟩;rw [decide_eq_true_eq] at A C z L M;have k1:=Y A;have k2:=Z C;have k3:=a0 z;rw [←k1] at A;rw [←k2] at C;rw [←Qb8,Qx5] at z;rw [←Qb8] at k3;rw [ar (by omega)] at L M ⊢;rw [k3];refine (mZ _ _ (by omega) z (Qj7 dx dy)).mono ?_;rintro r fH F s;rw [k1,k2,←o] at s;obtain ⟨n,d,p,rfl⟩:=s.shape;exact ⟨_,_,_,rfl,fun V3 i=>s.le i⟩
  ·simp only [Value.agg.injEq,Qb1,Qy2,Value.int.injEq,Value.pointer.injEq,true_and,and_true] at ex I;obtain ⟨rfl,rfl,rfl⟩:=ex;obtain ⟨rfl,rfl,rfl⟩:=I;exact jQ _ _ _ _ _ _ V _ ⟨fun _=>⟨fun _ _=>True,⟨(fun h=>nomatch h),fun _=>⟨(),by and_intros<;>rfl,trivial⟩⟩,fun _ t f _=>⟨by trivial,fun l g=>gen l (f.trans g)⟩⟩,(fun h=>nomatch h)⟩
 ·simp only [Value.agg.injEq,Qb1,Qy2,Value.int.injEq,Value.pointer.injEq,true_and,and_true] at ex;obtain ⟨rfl,rfl,rfl⟩:=ex;exact jQ _ _ _ _ _ _ V _ ⟨(fun h=>nomatch h),fun _=>gen⟩
end Go.Proofs.Tryz
