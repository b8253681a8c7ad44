import Derived.Test.YtlhmddanbgcbjaaGreatDoorL11
import Derived.Test.YtlhmddanbgcbjaaGreatDoorL6
set_option linter.all false
open Go.IntKind (i64 u64 u32)
namespace Go.Proofs.Tryz
open Go.Eng Go.Big
open Go.Value renaming int→qvZ
variable{G b c i j k:Nat}{fs gs ks us vs:List Nat}{rest:List Value}
theorem _root_.Go.Eng.RD.rd0 {V:ut}{p:OA}{n:Nat}{ds:pz Nat}(h:RD V p n c ds){i:Int}{K:Int->Prop}(j:Nat)(hj:i=j)(hn:j<ds.length)
  (hK:K ((ds[j]:Nat):Int)):(p.isSome=true)/\(0<=i/\i<(n:Int))/\∃x:Int,(∃a,ae p j=some a/\V.at a (qvZ .u32 x))/\K x:=by have:=h.rd (K:=K) j hj hn hK;subst hj;simpa only [Qq0,Qk5] using this
theorem Ve (h:k<us.length):(aK us++rest)[0+k*1]?=some (qvZ .u32 (us[k]:Int)):=by grind [List.getElem?_append_left,iL]
theorem zx {x:Nat}(h:k<us.length:=by omega):(aK us++rest).set (0+k*1) (qvZ .u32 (x:Int))=aK (us.set k x)++rest:=by rw [Qz2,Qk5,List.set_append_left _ _ (by simpa using h),bT]
theorem Je {y m t s:Nat}(hm:(ah y).length=m)(h0:0<m)(ht:t=(ah y)[m-1]'(by omega))(hs:s=32-dP t) :
  s<32/\(ah (y*2^s)).length=m/\2147483648*4294967296^(m-1)<=y*2^s:=by have d:t<4294967296:=by{rw [ht];exact (aL y).get _};have a:t≠0:=by{rw [ht];have:=(lu y).last (by omega);simpa [hm] using this};have f:=uD t;have g:=zo a;have b:dP t<=32:=lV.2 (by omega);have h:0<dP t:=by{unfold dP;rw [if_neg a];omega};have e:=ji (ah y) (m-1) (by omega);rw [af,Qx8 (by omega),←ht] at e;simp only [gi,Qj6,Qj1] at e;have c:=iN ((aL y).take (m-1));rw [Qq7,Qj3 (by omega)] at c;have n:2^dP t*2^s=4294967296:=by{rw [←Qz9,hs,Nat.add_sub_cancel' b]};have i:2^(dP t-1)*2^s=2147483648:=by{rw [←Qz9,show dP t-1+s=31 from by omega]};have j:2147483648*4294967296^(m-1)<=y*2^s:=by{have:2^(dP t-1)*2^s*4294967296^(m-1)<=t*2^s*4294967296^(m-1):=Qw0 _ (Qw0 _ g);rw [i] at this;have o:t*2^s*4294967296^(m-1)=4294967296^(m-1)*t*2^s:=by{grind};have p:4294967296^(m-1)*t*2^s<=y*2^s:=Qw0 _ (by omega);omega};refine ⟨by omega,?_,j⟩;have k:y*2^s<4294967296^m:=by{have l:y<4294967296^(m-1)*(t+1):=by{rw [Qb3,Qk5];omega};have q:4294967296^(m-1)*(t+1)*2^s<=4294967296^(m-1)*2^dP t*2^s:=Qw0 _ (Qz8 _ f);have r:4294967296^(m-1)*2^dP t*2^s=4294967296^m:=by{grind [Nat.pow_succ,Nat.sub_add_cancel]};have u:y*2^s<4294967296^(m-1)*(t+1)*2^s:=Qm6 l (Qk3 s);omega};have v:=aN.2 k;have w:m-1<(ah (y*2^s)).length:=by{rw [xk];omega};omega
theorem top3 {us:pz Nat}{k:Nat}(h:k+2<us.length)(hz:val (us.drop (k+3))=0) :
  val us=((us[k+2]*4294967296+us[k+1])*4294967296+us[k])*4294967296^k+val (us.take k):=by have a:=ji us k (by omega);rw [Qw4 (i:=k+1) (by omega),Qw4 (i:=k+1+1) (by omega),bO,bO] at a;grind
theorem top2 {us:pz Nat}{k:Nat}(h:us.length=k+2:=by omega):val us=(us[k+1]*4294967296+us[k])*4294967296^k+val (us.take k):=by grind [ji,List.drop_eq_getElem_cons,bO,gi]
theorem bK (us:pz Nat)(k:Nat)(h:k<=us.length:=by omega):val us=val (us.take k)+4294967296^k*val (us.drop k):=by grind [List.take_append_drop,eX]
theorem jO {us:pz Nat}{k:Nat}(h:val us<4294967296^k)(hk:k<=us.length:=by omega):val (us.drop k)=0:=by have:=bK us k hk;rcases Qy9 (val (us.drop k)) with e|e;{exact e};{have:4294967296^k*1<=4294967296^k*val (us.drop k):=Qz8 _ e;omega}
theorem _root_.Go.Eng.RD.rdq {V:ut}{p:OA}{n:Nat}{ds:pz Nat}(h:RD V p n c ds){i:Int}{K:Int->Prop}(j:Nat)(hj:i=j){d:Nat}(hn:ds[j]?=some d)
  (hK:K (d:Int)):(p.isSome=true)/\(0<=i/\i<(n:Int))/\∃x:Int,(∃a,ae p (i.toNat*1)=some a/\V.at a (qvZ .u32 x))/\K x:=by have ⟨b,e⟩:=Qw9.1 hn;exact h.rd j hj b (by rw [e];exact hK)
theorem lF {d:Nat}(h:us[k]?=some d):(aK us++rest)[0+k*1]?=some (qvZ .u32 (d:Int)):=by grind [Ve]
structure Hf (us vs:List Nat) (j G i b c:Nat) (fs:List Nat):Prop where
 b1:b<=1
 c1:c<4294967296
 hi:i<=vs.length
 len:fs.length=us.length
 gC:cP fs
 dr:fs.drop (j+i)=us.drop (j+i)
 tk:fs.take j=us.take j
 eq:val (fs.take (j+i))+4294967296^j*(G*val (vs.take i))=val (us.take (j+i))+4294967296^j*4294967296^i*(c+b)
theorem Hf.read (h:Hf us vs j G i b c fs)(hj:j+i<us.length):∃u,fs[j+i]?=some u/\us[j+i]?=some u:=by have:=congrArg (λl=>l[0]?) h.dr;grind
theorem Hf.step (h:Hf us vs j G i b c fs)(hG:G<4294967296)(hdv:cP vs)(Oi:cP us)(hi:i<vs.length)(hj:j+i<us.length) :
  ∃u d ob od cn cb:Nat,vs[i]?=some d/\fs[j+i]?=some u/\u64.wrap ((c:Int)+u64.wrap ((G:Int)*u64.wrap (d:Int)))=(cn:Int)/\(cn:Int).fdiv (2^32)=(cb:Int) /\
   (u64.wrap (u64.wrap (u64.wrap (u:Int)-b_ .and .u64 (cn:Int) 4294967295)-(b:Int))).fdiv (2^63)=(ob:Int) /\
   u32.wrap (u64.wrap (u64.wrap (u64.wrap (u:Int)-b_ .and .u64 (cn:Int) 4294967295)-(b:Int)))=(od:Int)/\od<4294967296 /\
   Hf us vs j G (i+1) ob cb (fs.set (j+i) od):=by have ⟨u,k,a⟩:=h.read hj;obtain ⟨l,m,-,n,o,A,p,q⟩:=h;have B:=hdv.get (i:=i) hi;have r:u<4294967296:=Oi u (Qv6 a);have C:G*vs[i]<=4294967295*4294967295:=Qf8 (by omega) (by omega);refine ⟨u,vs[i],?_⟩;have s:u64.wrap ((c:Int)+u64.wrap ((G:Int)*u64.wrap ((vs[i]:Nat):Int)))=((c+G*vs[i]:Nat):Int):=by{rw [bq (x:=((vs[i]:Nat):Int)) (by omega),←Qn1];generalize G*vs[i]=gd at *;rw [bq (x:=((gd:Nat):Int)) (by omega),bq (by omega)];omega};have t:=E1 (x:=((u:Int)-((c+G*vs[i])%4294967296:Nat)-b)%18446744073709551616) q m l r rfl;have hand:b_ .and .u64 ((c+G*vs[i]:Nat):Int) 4294967295=(((c+G*vs[i])%4294967296:Nat):Int):=ZE _;have e:u64.wrap (u64.wrap (u64.wrap (u:Int)-(((c+G*vs[i])%4294967296:Nat):Int))-(b:Int))=((u:Int)-((c+G*vs[i])%4294967296:Nat)-b)%18446744073709551616:=by{rw [bq (x:=(u:Int)) (by omega),yv,yv];omega};have v:(c+G*vs[i]) / 4294967296<4294967296:=by{generalize G*vs[i]=gd at *;omega};generalize ((u:Int)-((c+G*vs[i])%4294967296:Nat)-b)%18446744073709551616=xx at *;obtain ⟨E,F,H,y⟩:=t;obtain ⟨ob,f⟩:∃ob:Nat,xx / 9223372036854775808=ob:=⟨(xx / 9223372036854775808).toNat,by omega⟩;obtain ⟨od,g⟩:∃od:Nat,xx%4294967296=od:=⟨(xx%4294967296).toNat,by omega⟩;rw [f,g] at y;have z:od<4294967296:=by{omega};have D:ob<=1:=by{omega};refine ⟨ob,od,c+G*vs[i],(c+G*vs[i]) / 4294967296,Qq1 hi,k,s,?_,?_,?_,z,D,v,hi,by simpa using n,o.set _ _ z,?_,?_,?_⟩;{rw [kX]};{rw [hand,e,SH,f]};{rw [hand,e,kn,g]};{rw [Qb4 (by omega)];have:=congrArg (List.drop 1) A;simpa [Qn4] using this};{rw [Wq0,Qc7 (by simp;omega)];exact p};{have w:us[j+i]=u:=by{rw [Qq1 hj] at a;exact Qb8 a};rw [show j+(i+1)=j+i+1 from by omega,aU _ _ _,ay us (j+i),ay vs i hi,Qk8,Qz9,w];exact y}
theorem Qn {t a:Nat}(h1:ks.take j=us.take j)(hk:j<=ks.length)(hu:j<=us.length)(h:val ks+4294967296^j*a=val us+4294967296^j*t):val (ks.drop j)+a=val (us.drop j)+t:=by have b:=bK ks j hk;have c:=bK us j hu;rw [h1] at b;have:4294967296^j*(val (ks.drop j)+a)=4294967296^j*(val (us.drop j)+t):=by{rw [Qb3,Qb3];omega};grind [Nat.eq_of_mul_eq_mul_left]
theorem Hf.fin (h:Hf us vs j G vs.length b c fs)(Oi:cP us)(hj:j+vs.length<us.length)(hz:val (us.drop (j+vs.length+1))=0) :
  ∃u ob od:Nat,fs[j+vs.length]?=some u /\
   (u64.wrap (u64.wrap (u64.wrap (u:Int)-(c:Int))-(b:Int))).fdiv (2^63)=(ob:Int) /\
   u32.wrap (u64.wrap (u64.wrap (u64.wrap (u:Int)-(c:Int))-(b:Int)))=(od:Int)/\od<4294967296/\ob<=1 /\
   cP (fs.set (j+vs.length) od)/\(fs.set (j+vs.length) od).length=us.length/\(fs.set (j+vs.length) od).take j=us.take j/\val ((fs.set (j+vs.length) od).drop (j+vs.length+1))=0 /\
   val ((fs.set (j+vs.length) od).drop j)+G*val vs=val (us.drop j)+4294967296^(vs.length+1)*ob:=by have ⟨u,r,f⟩:=h.read hj;obtain ⟨s,i,-,t,v,E,w,l⟩:=h;have y:u<4294967296:=Oi u (Qv6 f);have z:us[j+vs.length]=u:=by{rw [Qq1 hj] at f;exact Qb8 f};rw [Qy2] at l;have k:=E1 (g:=G) (d:=0) (Y:=val vs) (x:=((u:Int)-((c+G*0)%4294967296:Nat)-b)%18446744073709551616) l i s y rfl;simp only [Qj6,Qj1] at k;rw [Qx9 i,Qj8 i,Qz2] at k;have m:u64.wrap (u64.wrap (u64.wrap (u:Int)-(c:Int))-(b:Int))=((u:Int)-(c:Int)-b)%18446744073709551616:=by{rw [bq (x:=(u:Int)) (by omega),yv,yv];omega};generalize ((u:Int)-(c:Int)-b)%18446744073709551616=xx at *;obtain ⟨J,K,L,C⟩:=k;obtain ⟨ob,n⟩:∃ob:Nat,xx / 9223372036854775808=ob:=⟨(xx / 9223372036854775808).toNat,by omega⟩;obtain ⟨od,o⟩:∃od:Nat,xx%4294967296=od:=⟨(xx%4294967296).toNat,by omega⟩;rw [n,o] at C;simp only [Qq0] at C;have D:od<4294967296:=by{omega};have F:ob<=1:=by{omega};obtain ⟨e,a⟩:∃e,e=fs.set (j+vs.length) od:=⟨_,rfl⟩;refine ⟨u,ob,od,r,by rw [m,SH,n],by rw [m,kn,o],D,F,?_⟩;rw [←a];have A:e.length=us.length:=by{rw [a];simpa using t};have B:cP e:=by{rw [a];exact v.set _ _ D};have p:e.take j=us.take j:=by{rw [a,Wq0,Qc7 (by simp;omega)];exact w};have q:e.drop (j+vs.length+1)=us.drop (j+vs.length+1):=by{rw [a,Qb4 (by omega)];have:=congrArg (List.drop 1) E;simpa using this};refine ⟨B,A,p,by rw [q];exact hz,Qn p (by omega) (by omega) ?_⟩;have H:=bK e (j+vs.length+1);have I:=bK us (j+vs.length+1);have M:val (e.take (j+vs.length+1))=val (fs.take (j+vs.length))+4294967296^j*4294967296^vs.length*od:=by{rw [a,aU _ _ _,Qz9]};have N:val (us.take (j+vs.length+1))=val (us.take (j+vs.length))+4294967296^j*4294967296^vs.length*u:=by{rw [ay us (j+vs.length),Qz9,z]};rw [q,hz,Qj6,Qj1] at H;rw [hz,Qj6,Qj1] at I;have O:4294967296^j*(4294967296^vs.length*4294967296)*ob=4294967296^j*(4294967296^(vs.length+1)*ob):=by{rw [Qk8];grind};omega
structure Hb (ks vs:List Nat) (j i c:Nat) (gs:List Nat):Prop where
 c1:c<=1
 hi:i<=vs.length
 len:gs.length=ks.length
 gC:cP gs
 dr:gs.drop (j+i)=ks.drop (j+i)
 tk:gs.take j=ks.take j
 eq:val (gs.take (j+i))+4294967296^j*4294967296^i*c=val (ks.take (j+i))+4294967296^j*val (vs.take i)
theorem Hb.read (h:Hb ks vs j i c gs)(hj:j+i<ks.length):∃u,gs[j+i]?=some u/\ks[j+i]?=some u:=by have:=congrArg (λl=>l[0]?) h.dr;grind
theorem Hb.step (h:Hb ks vs j i c gs)(hdv:cP vs)(hdk:cP ks)(hi:i<vs.length)(hj:j+i<ks.length) :
  ∃u d od cn cb:Nat,vs[i]?=some d/\gs[j+i]?=some u/\u64.wrap ((c:Int)+u64.wrap (u64.wrap (u:Int)+u64.wrap (d:Int)))=(cn:Int)/\(cn:Int).fdiv (2^32)=(cb:Int) /\
   u32.wrap (cn:Int)=(od:Int)/\Hb ks vs j (i+1) cb (gs.set (j+i) od):=by have ⟨u,b,a⟩:=h.read hj;obtain ⟨p,-,e,f,q,g,k⟩:=h;have r:=hdv.get (i:=i) hi;have s:u<4294967296:=hdk u (Qv6 a);have l:ks[j+i]=u:=by{rw [Qq1 hj] at a;exact Qb8 a};obtain ⟨t5,m⟩:∃t5,t5=c+u+vs[i]:=⟨_,rfl⟩;have n:=D3 k m;have o:u64.wrap ((c:Int)+u64.wrap (u64.wrap (u:Int)+u64.wrap ((vs[i]:Nat):Int)))=(t5:Int):=by{rw [bq (x:=((vs[i]:Nat):Int)) (by omega),bq (x:=(u:Int)) (by omega),bq (x:=(u:Int)+_) (by omega),bq (by omega)];omega};refine ⟨u,vs[i],t5%4294967296,t5,t5 / 4294967296,Qq1 hi,b,o,by rw [kX],by rw [kn];omega,by omega,hi,by simpa using e,f.set _ _ (by omega),?_,?_,?_⟩;{rw [Qb4 (by omega)];have:=congrArg (List.drop 1) q;simpa [Qn4] using this};{rw [Wq0,Qc7 (by simp;omega)];exact g};{rw [show j+(i+1)=j+i+1 from by omega,aU _ _ _,ay ks (j+i),ay vs i hi,Qk8,Qz9,l];exact n}
theorem Hb.fin (h:Hb ks vs j vs.length c gs)(hdk:cP ks)(hj:j+vs.length<ks.length)(hz:val (ks.drop (j+vs.length+1))=0) :
  ∃u od kp:Nat,gs[j+vs.length]?=some u/\u32.wrap ((u:Int)+u32.wrap (c:Int))=(od:Int)/\kp<=1 /\
   cP (gs.set (j+vs.length) od)/\(gs.set (j+vs.length) od).length=ks.length/\(gs.set (j+vs.length) od).take j=ks.take j/\val ((gs.set (j+vs.length) od).drop (j+vs.length+1))=0 /\
   val ((gs.set (j+vs.length) od).drop j)+4294967296^(vs.length+1)*kp=val (ks.drop j)+val vs:=by have ⟨u,k,b⟩:=h.read hj;obtain ⟨v,-,l,m,w,n,f⟩:=h;have y:u<4294967296:=hdk u (Qv6 b);have o:ks[j+vs.length]=u:=by{rw [Qq1 hj] at b;exact Qb8 b};rw [Qy2] at f;have p:=D3 (d:=0) (u:=u) (Y:=val vs) (t:=c+u) f;simp only [Qj6,Qj1] at p;have z:(c+u)%4294967296<4294967296:=by{omega};have q:(c+u) / 4294967296<=1:=by{omega};have hw:u32.wrap ((u:Int)+u32.wrap (c:Int))=(((c+u)%4294967296:Nat):Int):=by{rw [vg (x:=(c:Int)) (by omega),kn];omega};generalize (c+u)%4294967296=od at *;generalize (c+u) / 4294967296=kp at *;obtain ⟨a,e⟩:∃a,a=gs.set (j+vs.length) od:=⟨_,rfl⟩;refine ⟨u,od,kp,k,hw,q,?_⟩;rw [←e];have r:a.length=ks.length:=by{rw [e];simpa using l};have s:cP a:=by{rw [e];exact m.set _ _ z};have g:a.take j=ks.take j:=by{rw [e,Wq0,Qc7 (by simp;omega)];exact n};have i:a.drop (j+vs.length+1)=ks.drop (j+vs.length+1):=by{rw [e,Qb4 (by omega)];have:=congrArg (List.drop 1) w;simpa using this};refine ⟨s,r,g,by rw [i];exact hz,Qn g (by omega) (by omega) ?_⟩;have A:=bK a (j+vs.length+1);have B:=bK ks (j+vs.length+1);have C:val (a.take (j+vs.length+1))=val (gs.take (j+vs.length))+4294967296^j*4294967296^vs.length*od:=by{rw [e,aU _ _ _,Qz9]};have D:val (ks.take (j+vs.length+1))=val (ks.take (j+vs.length))+4294967296^j*4294967296^vs.length*u:=by{rw [ay ks (j+vs.length),Qz9,o]};rw [i,hz,Qj6,Qj1] at A;rw [hz,Qj6,Qj1] at B;have E:4294967296^j*(4294967296^vs.length*4294967296)*kp=4294967296^j*(4294967296^(vs.length+1)*kp):=by{rw [Qk8];grind};omega
structure GK (v1 v2 v' u0 u1 u2 t' B T Y:Nat):Prop where
 hY:Y=(v1*4294967296+v2)*B+v'
 hT:T=((u0*4294967296+u1)*4294967296+u2)*B+t'
 tM:v'<B
 Ie:t'<B
 v1l:2147483648<=v1
 v1u:v1<4294967296
 v2u:v2<4294967296
 u0u:u0<4294967296
 u1u:u1<4294967296
 u2u:u2<4294967296
 lt:T<4294967296*Y
structure GI (v1 f T Y G ρ:Nat):Prop where
 r:ρ<4294967296
 g:G<=4294967297
 eq:G*v1+ρ=f
 lt:T<(G+1)*Y
structure GF (T Y G:Nat):Prop where
 g:G<4294967296
 lt:T<(G+1)*Y
 gt:G*Y<T+Y
section
variable {v1 v2 v' u0 u1 u2 t' B T Y G ρ:Nat}
theorem GK.start (h:GK v1 v2 v' u0 u1 u2 t' B T Y):GI v1 (u0*4294967296+u1) T Y ((u0*4294967296+u1) / v1) ((u0*4294967296+u1)%v1):=by have c:=ED h.hY h.hT h.tM h.lt;have d:=h.v1l;have e:=h.v1u;have f:=h.v2u;have a:=Qc5 (u0*4294967296+u1) v1;have b:=Qj7 (u0*4294967296+u1) (show 0<v1 by omega);refine ⟨by omega,?_,by rw [Qv5];exact a,?_⟩;{have:(u0*4294967296+u1) / v1<4294967298:=by{rw [Qb2 (by omega)];omega};omega};{rw [Qv5] at a;exact QH h.hY h.hT h.Ie h.u2u a b}
theorem GK.VV (h:GK v1 v2 v' u0 u1 u2 t' B T Y)(hG:4294967296<=G):T<G*Y:=Qy6 h.lt (Qw0 _ hG)
theorem GK.dec (h:GK v1 v2 v' u0 u1 u2 t' B T Y)(hi:GI v1 (u0*4294967296+u1) T Y G ρ)(hd:ρ*4294967296+u2<G*v2):T<G*Y:=Oe h.hY h.hT h.Ie hi.eq hd
theorem GK.last (h:GK v1 v2 v' u0 u1 u2 t' B T Y)(hi:GI v1 (u0*4294967296+u1) T Y G ρ)(hG:G<4294967296)(hd:G*v2<=ρ*4294967296+u2):GF T Y G:=
 ⟨hG,hi.lt,EC h.hY h.hT h.tM (by have:=h.v1l;omega) (by omega) hi.eq hd⟩
theorem GK.down (h:GK v1 v2 v' u0 u1 u2 t' B T Y)(hi:GI v1 (u0*4294967296+u1) T Y G ρ)(h1:T<G*Y):1<=G/\(G-1)*v1+(ρ+v1)=u0*4294967296+u1/\T<(G-1+1)*Y:=by grind [hi.eq,Nat.add_mul]
theorem GK.Wb (h:GK v1 v2 v' u0 u1 u2 t' B T Y)(hi:GI v1 (u0*4294967296+u1) T Y G ρ)(h1:T<G*Y)(h2:4294967296<=ρ+v1):1<=G/\GF T Y (G-1):=by have ⟨a,e,b⟩:=h.down hi h1;have d:=ED h.hY h.hT h.tM h.lt;have g:=h.v2u;have f:G-1<4294967296:=by{rcases Qz3 (G-1) 4294967296 with c|c;{exact c};{have:=Qw0 v1 c;omega}};refine ⟨a,f,b,EC h.hY h.hT h.tM (by omega) (by omega) e ?_⟩;have i:(G-1)*v2<=4294967295*4294967295:=Qf8 (by omega) (by omega);omega
theorem GK.Wc (h:GK v1 v2 v' u0 u1 u2 t' B T Y)(hi:GI v1 (u0*4294967296+u1) T Y G ρ)(h1:T<G*Y)(h2:ρ+v1<4294967296):1<=G/\GI v1 (u0*4294967296+u1) T Y (G-1) (ρ+v1):=by have ⟨a,c,b⟩:=h.down hi h1;have d:=hi.g;exact ⟨a,h2,by omega,c,b⟩
theorem GK.words (h:GK v1 v2 v' u0 u1 u2 t' B T Y) :
  b_ .or .u64 (u64.wrap (u64.wrap (u0:Int)*2^32)) (u64.wrap (u1:Int))=((u0*4294967296+u1:Nat):Int) /\
  u64.wrap (((u0*4294967296+u1:Nat):Int).tdiv (v1:Int))=(((u0*4294967296+u1) / v1:Nat):Int) /\
  ((u0*4294967296+u1:Nat):Int).tmod (v1:Int)=(((u0*4294967296+u1)%v1:Nat):Int):=by have a:=h.u0u;have b:=h.u1u;have c:((2:Int)^32)=4294967296:=by{decide};refine ⟨?_,?_,?_⟩;{rw [c,bq (x:=(u0:Int)) (by omega),bq (x:=(u1:Int)) (by omega),bq (by omega),IM _ _ a b];omega};{rw [Qj2 (by omega),←Int.natCast_ediv];have d:(u0*4294967296+u1) / v1<=u0*4294967296+u1:=Qm7 _ _;generalize (u0*4294967296+u1) / v1=qq at *;rw [bq (by omega)]};{rw [Qk2 (by omega),←Wy8]}
theorem GK.Y2 (h:GK v1 v2 v' u0 u1 u2 t' B T Y)(hi:GI v1 (u0*4294967296+u1) T Y G ρ) :
  u64.wrap ((G:Int)*(v2:Int))=((G*v2:Nat):Int)/\b_ .or .u64 (u64.wrap ((ρ:Int)*2^32)) (u64.wrap (u2:Int))=((ρ*4294967296+u2:Nat):Int) /\
  u64.wrap ((ρ:Int)+v1)=((ρ+v1:Nat):Int)/\(1<=G->u64.wrap ((G:Int)-1)=((G-1:Nat):Int)):=by have a:=h.u2u;have b:=hi.r;have c:=hi.g;have f:=h.v2u;have d:=h.v1u;have e:((2:Int)^32)=4294967296:=by{decide};refine ⟨?_,?_,?_,?_⟩;{have d:G*v2<=4294967297*4294967295:=Qf8 c (by omega);rw [←Qn1,bq (by omega)]};{rw [e,bq (x:=(ρ:Int)*4294967296) (by omega),bq (by omega),IM _ _ b a];omega};{rw [bq (by omega)];omega};{intro h;rw [bq (by omega)];omega}
end
end Go.Proofs.Tryz
namespace Go.Proofs.Tryz
open Go.Eng Go.Big
open Go.Value renaming slice→qD,bool→dQ,tuple→dB,int→qvZ
variable{X Y c e n n8:Nat}{qs us:List Nat}{V:View}{p q:OA}
structure OI (X Y n n8:Nat) (j:Int) (us qs:List Nat):Prop where
 j0:-1<=j
 j1:j<(n+1-n8:Nat)
 ul:us.length=n+1
 ud:cP us
 ql:qs.length=n+1-n8
 qd:cP qs
 eq:X=val us+Y*(4294967296^(j+1).toNat*val (qs.drop (j+1).toNat))
 lt:val (us.drop (j+1).toNat)<Y
structure DK (Y n8 k v1 v2:Nat):Prop where
 hn8:n8=k+2
 len:(ah Y).length=n8
 g1:(ah Y)[k+1]?=some v1
 g2:(ah Y)[k]?=some v2
 l1:2147483648<=v1
 u1:v1<4294967296
 u2:v2<4294967296
 eq:Y=(v1*4294967296+v2)*4294967296^k+val ((ah Y).take k)
 lt:val ((ah Y).take k)<4294967296^k
 top:Y<4294967296^n8
theorem DK.of (hl:(ah Y).length=n8)(h2:2<=n8)(ht:2147483648*4294967296^(n8-1)<=Y):∃k v1 v2,DK Y n8 k v1 v2:=by obtain ⟨k,g⟩:∃k,n8=k+2:=⟨n8-2,by omega⟩;have a:=top2 (us:=ah Y) (k:=k);rw [af] at a;have e:=iN ((aL Y).take k);rw [Qq7,Qj3 (by omega)] at e;have b:=(aL Y).get (i:=k+1) (by omega);have c:=(aL Y).get (i:=k) (by omega);have d:2147483648<=(ah Y)[k+1]:=by{rcases Qz3 (ah Y)[k+1] 2147483648 with f|f;{exfalso;have h:((ah Y)[k+1]*4294967296+(ah Y)[k])+1<=2147483648*4294967296:=by{omega};have j:=Qw0 (4294967296^k) h;rw [Qk1,Qd1] at j;have l:2147483648*4294967296^(k+1)=2147483648*4294967296*4294967296^k:=by{rw [Qk8];grind};rw [show n8-1=k+1 from by omega,l] at ht;omega};{exact f}};exact ⟨k,_,_,g,hl,Qq1 _,Qq1 _,d,b,c,a,e,by rw [←hl,←aN];exact Qq2 _⟩
theorem OI.start {x X Y n n8 s:Nat}(hX:X=x*2^s)(hx:(ah x).length=n)(hs:s<32)(hn8:2<=n8)(hn:n8<=n)(hY:2147483648*4294967296^(n8-1)<=Y)(hXl:(ah X).length<=n+1:=by omega) :
  OI X Y n n8 (((n+1-n8:Nat):Int)-1) ((ah X++[0,0]).take (n+1)) (List.replicate (n+1-n8) 0):=by have h:n<=(ah X).length:=by{rw [←hx,hX];exact aO (Nat.le_mul_of_pos_right _ (Qk3 s))};have c:((ah X++[0,0]).take (n+1)).length=n+1:=by{simp;omega};have a:val ((ah X++[0,0]).take (n+1))=X:=by{have b:val (ah X++[0,0])=X:=by{rw [eX,af];simp};have d:=bK (ah X++[0,0]) (n+1) (by simp;omega);have e:val ((ah X++[0,0]).drop (n+1))=0:=by{refine jO ?_ (by simp;omega);rw [b];exact aN.1 (by omega)};rw [e,Qj6,Qj1,b] at d;exact d.symm};have f:(((n+1-n8:Nat):Int)-1+1).toNat=n+1-n8:=by{omega};refine ⟨by omega,by omega,c,(cP.append.2 ⟨aL X,by simp [cP]⟩).take _,by simp,cP.rep _,?_,?_⟩;{rw [f,Qx8 (by simp),gi,Qj6,Qj6,Qj1,a]};{rw [f];have b:=bK ((ah X++[0,0]).take (n+1)) (n+1-n8);rw [a] at b;have g:X<4294967296^n*2^s:=by{rw [hX];exact Qm6 (by rw [←hx];exact aN.1 (Qq2 _)) (Qk3 s)};have i:2^s<=2^31:=Qx5 (by omega) (by omega);have d:4294967296^n*2^s<=4294967296^(n+1-n8)*Y:=by{have j:4294967296^n=4294967296^(n+1-n8)*4294967296^(n8-1):=by{rw [←Qz9];congr 1;omega};rw [j,Qn0];refine Qz8 _ ?_;have k:2^s*4294967296^(n8-1)<=2147483648*4294967296^(n8-1):=Qw0 _ (by omega);rw [Qv5];omega};have e:4294967296^(n+1-n8)*val (((ah X++[0,0]).take (n+1)).drop (n+1-n8))<4294967296^(n+1-n8)*Y:=by{omega};exact Nat.lt_of_mul_lt_mul_left e}
theorem OI.body {k v1 v2 j:Nat}(h:OI X Y n n8 (j:Int) us qs)(hd:DK Y n8 k v1 v2)(hjn:j+n8<=n) :
  val (us.drop (j+n8+1))=0/\∃u0 u1 u2 t',us[j+n8]?=some u0/\us[j+n8-1]?=some u1/\us[j+n8-2]?=some u2/\GK v1 v2 (val ((ah Y).take k)) u0 u1 u2 t' (4294967296^k) (val (us.drop j)) Y:=by
 obtain ⟨-,-,f,a,p,q,g,l⟩:=h;have b:((j:Int)+1).toNat=j+1:=by omega
 rw [b] at g l;have r:=hd.hn8;have c:=hd.top;have m:val (us.drop j)=us[j]+4294967296*val (us.drop (j+1)):=by rw [Qw4 (by omega),bO]
 have o:=a.get (i:=j) (by omega)
 have d:val (us.drop (j+n8+1))=0:=by have:=jO (us:=us.drop (j+1)) (k:=n8) (by omega) (by simp;omega);rw [Qh3] at this;rw [show j+n8+1=j+1+n8 from by omega];exact this
 have e:=iN ((a.drop j).take k);rw [Qq7,Qb5,Qj3 (by omega)] at e
 refine ⟨d,us[j+n8],us[j+n8-1],us[j+n8-2],val ((us.drop j).take k),Qq1 _,Qq1 _,Qq1 _,
  hd.eq,?_,hd.lt,e,hd.l1,hd.u1,hd.u2,a.get _,a.get _,a.get _,by omega⟩
 have:=top3 (us:=us.drop j) (k:=k) (by simp;omega) (by rw [Qh3,show j+(k+3)=j+n8+1 from by omega];exact d);simp only [List.getElem_drop] at this;rw [this];congr<;>omega
theorem OI.next {j H:Nat}{hs:pz Nat}(h:OI X Y n n8 (j:Int) us qs)(hjn:j+n8<=n)(h1:hs.length=us.length)(hdh:cP hs)(h2:hs.take j=us.take j)(h3:val (hs.drop j)+H*Y=val (us.drop j))(h4:val (hs.drop j)<Y)(hH:H<4294967296) :
  OI X Y n n8 ((j:Int)-1) hs (qs.set j H):=by obtain ⟨-,f,g,m,i,k,c,o⟩:=h;have b:((j:Int)+1).toNat=j+1:=by{omega};have a:((j:Int)-1+1).toNat=j:=by{omega};rw [b] at c;refine ⟨by omega,by omega,by omega,hdh,by simpa using i,k.set _ _ hH,?_,by rw [a];exact h4⟩;have d:=bK hs j;have e:=bK us j;rw [h2] at d;rw [←h3] at e;rw [a,Qw4 (l:=qs.set j H) (by simp;omega),Qf5,Qb4 (by omega),bO,c,d,e,Qk8];grind
theorem OI.done {x y s:Nat}(h:OI X Y n n8 (-1) us qs)(hX:X=x*2^s)(hY:Y=y*2^s)(hn:n8<=n+1)(hYl:Y<4294967296^n8):val qs=x / y/\val (us.take n8) / 2^s=x%y:=by obtain ⟨-,-,f,g,i,j,a,b⟩:=h;have a:X=val us+Y*val qs:=by{simpa using a};have b:val us<Y:=by{simpa using b};have c:0<Y:=by{omega};have d:=jO (us:=us) (k:=n8) (by omega);have e:val (us.take n8)=val us:=by{have:=bK us n8;rw [d,Qj6,Qj1] at this;exact this.symm};constructor;{rw [←Nat.mul_div_mul_right x y (Qk3 s),←hX,←hY,a,Qg1 _ _ c,Qj8 b,Qz2]};{have:x*2^s%(y*2^s)=val us:=by{rw [←hX,←hY,a,Wx2,Qx9 b]};rw [Nat.mul_mod_mul_right] at this;rw [e,←this,Qf3 _ (Qk3 s)]}
set_option maxHeartbeats 8000000 in
theorem Kp {m:Nat}{x y:Nat}(ha:RN V p n c x)(hb:RN V q m e y)(hn:n<=1099511627776)(hm2:2<=m)(hle:y<=x) :
  aa prog 228 #[qD p n c,qD q m e] V λr V'=>∃p1 n1 c1 p2 n2 c2,r=dB #[qD p1 n1 c1,qD p2 n2 c2]/\RN V' p1 n1 c1 (x / y)/\RN V' p2 n2 c2 (x%y):=by
 have l:=ha.len;have a3:=hb.len;have b7:m<=n:=by rw [l,a3];exact aO hle
 refine JH V _ ?_;simp (disch:=omega) only [aw];refine hb.rd (m-1) (by omega) (by omega) λV1 l1=>(iV _ ((aL y).get (by omega))).s ?_;rintro r V2 l2 rfl;refine ⟨_,rfl,?_⟩;obtain ⟨t,F⟩:∃t,t=(ah y)[m-1]'(by omega):=⟨_,rfl⟩;rw [←F];have b8:dP t<=32:=lV.2 (by rw [F];exact (aL y).get _);obtain ⟨s,hs⟩:∃s,s=32-dP t:=⟨_,rfl⟩;have es:(32-(dP t:Int))=(s:Int):=by omega
 have ⟨Um,o,S⟩:=Je a3.symm (by omega) F hs;rw [es,bq (by omega)];clear es b8;intro V3 l3;refine (Ef (ha.le (l1.m (l2.m l3))) (by omega) s).s ?_;rintro r V4 l4 ⟨p4,n4,c4,rfl,h4,I⟩;rw [af] at h4 I
 have b9:x≠0:=by intro A;subst A;rw [Em] at l;simp at l;omega
 have I:c4=n+1:=by rcases I with A|A;{exact absurd A b9};{rw [A,←l,Qj8 Um]}
 have a4:=h4.len;have a5:x*2^s<4294967296^n*2^s:=Qm6 (by rw [l];exact aN.1 (Qq2 _)) (Qk3 s);have c0:2^s<=2^31:=Qx5 (by omega) (by omega)
 have e9:n<=n4/\n4<=n+1:=by constructor;{rw [a4,l];exact aO (Nat.le_mul_of_pos_right _ (Qk3 s))};{rw [a4,aN,Qk8];have:4294967296^n*2^s<=4294967296^n*4294967296:=Qz8 _ (by omega);omega}
 refine ⟨_,_,_,rfl,aK (ah (x*2^s)),h4.sl,by simp;omega,h4.cap,h4.ID,by omega,by omega,rfl,by simp [Value.oneCell'],?_⟩;intro sp c7 e4 e5;refine ⟨⟨by omega,by omega⟩,λV5 l5=>(Ef (hb.le (l1.m (l2.m (l3.m (l4.m l5))))) (by omega) s).s ?_⟩;rintro r V6 l6 ⟨p8,f,c8,rfl,h8,-⟩;rw [af] at h8;have a6:=h8.len;rw [o] at a6;subst a6;refine ⟨_,_,_,rfl,?_⟩;have ⟨k,v1,v2,K⟩:=DK.of o hm2 S;have hk:=K.hn8;have f0:=K.l1;have e6:=K.u1;have e7:=K.u2;have c3:=OI.start (Y:=y*2^s) rfl l.symm Um hm2 b7 S;have w6:i64.wrap ((f:Int)-1)=(f:Int)-1:=aw (by omega);have w7:i64.wrap ((f:Int)-2)=(f:Int)-2:=aw (by omega);simp only [w6,w7];refine h8.rdq (k+1) (by omega) K.g1 (h8.rdq k (by omega) K.g2 ?_);have c5:((n:Int)+1).toNat=n+1:=by omega
 have c6:(((n+1:Nat):Int)-(f:Int)).toNat=n+1-f:=by omega
 have w1:i64.wrap ((n:Int)+1)=(n:Int)+1:=aw (by omega);have w2:u64.wrap (v1:Int)=v1:=bq (by omega);have w3:u64.wrap (v2:Int)=v2:=bq (by omega);have w4:i64.wrap (((n+1:Nat):Int)-(f:Int))=((n+1:Nat):Int)-(f:Int):=aw (by omega);have w5:i64.wrap (((n+1-f:Nat):Int)-1)=((n+1-f:Nat):Int)-1:=aw (by omega);simp only [c5,w2,w3,w4,c6,w5,dX];obtain ⟨C,a7⟩:∃C,C=aK ((ah (x*2^s)++[0,0]).drop (n+1))++sp:=⟨_,rfl⟩
 have O:aK (ah (x*2^s))++([qvZ .u32 0,qvZ .u32 0]:pz un)++sp=aK ((ah (x*2^s)++[0,0]).take (n+1))++C:=by rw [a7,←Qy3,←xO,Qb1,xO];rfl
 rw [O];clear a7 O S a5 c0 I hs F;generalize hX:x*2^s=X at *;generalize hY:y*2^s=Y at *
 refine ⟨by omega,by omega,by omega,λz V'=>∃us E:pz Nat,z.2.1=aK us++C/\z.2.2=aK E/\OI X Y n f z.1 us E,λz=>(z.1+1).toNat,
  ⟨(((n+1-f:Nat):Int)-1,aK ((ah X++[0,0]).take (n+1))++C,aK (List.replicate (n+1-f) 0)),?_,_,_,rfl,rfl,c3⟩,?_⟩
 ·(try dsimp only);and_intros<;>first|exact True.intro|rfl
 rintro ⟨j,row,e8⟩ V7 l7 ⟨us,E,rfl,rfl,B⟩;dsimp only at B ⊢;have f1:=B.j0;have f2:=B.j1;have f3:=B.ul;have Yf:=B.ql;refine ⟨by trivial,λL=>?_,λL=>?_⟩
 ·have L:0<=j:=by simpa using L
  obtain ⟨j,rfl⟩:=Qw2 L;have T:j+f<=n:=by omega
  have ⟨hz,u0,u1,u2,t',a8,a9,b0,D⟩:=B.body K T;obtain ⟨eb,b1,b2⟩:=D.words;have w8:i64.wrap ((j:Int)+f)=((j+f:Nat):Int):=by rw [aw (by omega)];omega
  have w9:i64.wrap (((j+f:Nat):Int)-1)=((j+f-1:Nat):Int):=by rw [aw (by omega)];omega
  have c9:i64.wrap (((j+f:Nat):Int)-2)=((j+f-2:Nat):Int):=by rw [aw (by omega)];omega
  have d0:i64.wrap ((j:Int)-1)=(j:Int)-1:=aw (by omega);simp only [w8,w9,c9,d0,Qq0];refine ⟨⟨by omega,by omega⟩,_,lF a8,by omega,⟨by omega,by omega⟩,_,lF a9,by omega,by omega,?_⟩;rw [eb,b1,b2];clear eb b1 b2
  refine ⟨λg V'=>∃G:Nat,g=(G:Int)/\GF (val (us.drop j)) Y G,
   ⟨λz V'=>∃G ρ:Nat,z=((G:Int),(ρ:Int))/\GI v1 (u0*4294967296+u1) (val (us.drop j)) Y G ρ,λz=>z.1.toNat,
    ⟨((((u0*4294967296+u1) / v1:Nat):Int),(((u0*4294967296+u1)%v1:Nat):Int)),by (try dsimp only);and_intros<;>first|exact True.intro|rfl,_,_,rfl,D.start⟩,?_⟩,?_⟩
  ·rintro _ V8 l8 ⟨G,ρ,rfl,P⟩;have ⟨QN,U,d1,M⟩:=D.Y2 P;dsimp only;have t1:∀a:Nat,((((a / 2^32:Nat):Int) != 0)=true↔4294967296<=a)/\((((a / 2^32:Nat):Int) != 0)=false↔a<4294967296):=by{intro a;constructor;{rw [bne_iff_ne];omega};{rw [bne_eq_false_iff_eq];omega}};simp only [d1,kX];refine ⟨by trivial,by omega,λh=>have h:=(t1 _).1.1 h;⟨by omega,λw=>have w:=(t1 _).1.1 w;?_,λw=>have w:=(t1 _).2.1 w;?_⟩,λh=>have h:=(t1 _).2.1 h;⟨by omega,⟨by omega,by omega⟩,_,lF b0,λF=>⟨by omega,λw=>have w:=(t1 _).1.1 w;?_,λw=>have w:=(t1 _).2.1 w;?_⟩,λF=>?_⟩⟩;{have ⟨g1,g2⟩:=D.Wb P (D.VV h) w;(exact ⟨((G-1:Nat):Int),by rw [M g1];(try dsimp only);and_intros<;>first|exact True.intro|rfl,G-1,rfl,g2⟩)};{have ⟨g1,g2⟩:=D.Wc P (D.VV h) w;(exact ⟨(((G-1:Nat):Int),((ρ+v1:Nat):Int)),by (try dsimp only);omega,by rw [M g1];(try dsimp only);and_intros<;>first|exact True.intro|rfl,G-1,ρ+v1,rfl,g2⟩)};{have h1:=D.dec P (by rw [QN,U,decide_eq_true_eq] at F;omega);have ⟨g1,g2⟩:=D.Wb P h1 w;(exact ⟨((G-1:Nat):Int),by rw [M g1];(try dsimp only);and_intros<;>first|exact True.intro|rfl,G-1,rfl,g2⟩)};{have h1:=D.dec P (by rw [QN,U,decide_eq_true_eq] at F;omega);have ⟨g1,g2⟩:=D.Wc P h1 w;(exact ⟨(((G-1:Nat):Int),((ρ+v1:Nat):Int)),by (try dsimp only);omega,by rw [M g1];(try dsimp only);and_intros<;>first|exact True.intro|rfl,G-1,ρ+v1,rfl,g2⟩)};{have h1:G*v2<=ρ*4294967296+u2:=by{rw [QN,U,decide_eq_false_iff_not] at F;omega};(exact ⟨(G:Int),by (try dsimp only);and_intros<;>first|exact True.intro|rfl,G,rfl,D.last P h h1⟩)}
  ·rintro _ V9 l9 ⟨G,rfl,W⟩;have Zh:=W.g;clear D a8 a9 b0;have o:=K.len;have b3:=af Y
   refine ⟨by trivial,λz V'=>∃(b c i:Nat)(fs:pz Nat),z=((b:Int),(c:Int),(i:Int),aK fs++C)/\Hf us (ah Y) j G i b c fs,λz=>f-z.2.2.1.toNat,
     ⟨(0,0,0,aK us++C),by (try dsimp only);and_intros<;>first|exact True.intro|rfl,0,0,0,us,rfl,by omega,by omega,by omega,rfl,B.ud,rfl,rfl,by simp⟩,?_⟩
   rintro _ fy N ⟨b,c,i,fs,rfl,hS⟩;dsimp only;simp only [Qq0];have hi:=hS.hi;have f4:=hS.len;refine ⟨by trivial,λh=>?_,λh=>?_⟩
   ·have h:i<f:=by{simpa using h};obtain ⟨u,d,ob,Z,cn,cb,q1,q2,q3,q4,q5,Q,q7,d2⟩:=hS.step Zh (aL Y) B.ud (by omega) (by omega);refine (h8.le (l7.m (l9.m N))).rdq i rfl q1 ?_;have d3:i64.wrap ((j:Int)+i)=((j+i:Nat):Int):=by{rw [aw (by omega)];omega};have d4:i64.wrap ((i:Int)+1)=((i+1:Nat):Int):=by{rw [aw (by omega)];omega};rw [q3,d3,d4,Qq0];refine ⟨⟨by omega,by omega⟩,_,lF q2,⟨by omega,by omega⟩,by simp;omega,by omega,by omega,?_⟩;rw [q4,q5,Q];refine ⟨((ob:Int),(cb:Int),((i+1:Nat):Int),aK (fs.set (j+i) Z)++C),by (try dsimp only);omega,?_,_,_,_,_,rfl,d2⟩;(try dsimp only);(and_intros<;>first|exact True.intro|rfl|exact zx)
   ·have h:i=(ah Y).length:=by simp at h;omega
    subst h;obtain ⟨u,ob,Z,q1,q2,q3,q4,q5,Q,q7,q8,q9,U1⟩:=hS.fin B.ud (by omega) (by rw [o];exact hz);rw [o] at q1 Q q7 q8 q9 U1;rw [b3] at U1;refine ⟨⟨by omega,by omega⟩,_,lF q1,⟨by omega,by omega⟩,by simp;omega,⟨by omega,by omega⟩,by simp;omega,by omega,?_⟩;rw [q2,q3,zx,vg (x:=(G:Int)) (by omega)];generalize fs.set (j+f) Z=ks at *;have a0:∀H:Nat,(aK E).set (0+j*1) (qvZ .u32 (H:Int))=aK (E.set j H):=by intro H;rw [Qz2,Qk5,bT]
    rw [a0];refine ⟨λh0=>?_,λh0=>?_⟩
    ·have h0:ob=0:=by{simpa using h0};rw [h0,Qj6,Qj1] at U1;have b4:=W.lt;rw [Qk1,Qd1] at b4;(refine ⟨((j:Int)-1,aK ks++C,aK (E.set j G)),by (try dsimp only);omega,by (try dsimp only);and_intros<;>first|exact True.intro|rfl,ks,E.set j G,rfl,rfl,?_⟩;exact B.next T q7 Q q8 U1 (by omega) Zh)
    ·have h0:ob=1:=by
      have:ob≠0:=by simpa using h0
      omega
     rw [h0,Qk5] at U1
     have R:∀ls:pz Nat,ls.length=n+1->cP ls->val (ls.drop (j+f+1))=0->val (ls.drop j)<4294967296^(f+1):=by intro ls h1 h2 L;have a1:=bK (ls.drop j) (f+1) (by simp;omega);rw [Qh3,show j+(f+1)=j+f+1 from by omega,L,Qj6,Qj1] at a1;have a2:=iN ((h2.drop j).take (f+1));rw [Qq7,Qb5,Qj3 (by omega)] at a2;omega
     have f5:=R ks (by omega) Q q9
     have d5:1<=G:=by rcases Qy9 G with A|A;{subst A;omega};{exact A}
     have f6:G*Y=(G-1)*Y+Y:=by conv=>lhs;rw [←Qn9 d5,Qk1,Qd1]
     have f7:=W.gt;have b5:u32.wrap ((G:Int)-1)=((G-1:Nat):Int):=by rw [vg (by omega)];omega
     refine ⟨⟨by omega,by omega⟩,(G:Int),by rw [Qz2,Qk5,iL (by simp;omega),Qf5],⟨by omega,by omega⟩,by simp;omega,?_⟩;have Yg:(aK (E.set j G)).set (0+j*1) (qvZ .u32 ((G-1:Nat):Int))=aK (E.set j (G-1)):=by rw [Qz2,Qk5,bT,List.set_set]
     rw [b5,Yg]
     refine ⟨λz V'=>∃(c' i2:Nat)(gs:pz Nat),z=((c':Int),(i2:Int),aK gs++C)/\Hb ks (ah Y) j i2 c' gs,λz=>f-z.2.1.toNat,
      ⟨(0,0,aK ks++C),by (try dsimp only);and_intros<;>first|exact True.intro|rfl,0,0,ks,rfl,by omega,by omega,rfl,Q,rfl,rfl,by simp⟩,?_⟩
     rintro _ fC bo ⟨c',i2,gs,rfl,hA⟩;dsimp only;simp only [Qq0];have f8:=hA.hi;have f9:=hA.len;refine ⟨by trivial,λh=>?_,λh=>?_⟩
     ·have h:i2<f:=by{simpa using h};have ⟨u,d,Z,cn,cb,r1,r2,r3,r4,r5,d6⟩:=hA.step (aL Y) Q (by omega) (by omega);refine (h8.le (l7.m (l9.m (N.m bo)))).rdq i2 rfl r1 ?_;have d7:i64.wrap ((j:Int)+i2)=((j+i2:Nat):Int):=by{rw [aw (by omega)];omega};have d8:i64.wrap ((i2:Int)+1)=((i2+1:Nat):Int):=by{rw [aw (by omega)];omega};rw [d7,d8,Qq0];refine ⟨⟨by omega,by omega⟩,_,lF r2,⟨by omega,by omega⟩,by simp;omega,by omega,?_⟩;rw [r3,r4,r5];refine ⟨((cb:Int),((i2+1:Nat):Int),aK (gs.set (j+i2) Z)++C),by (try dsimp only);omega,?_,_,_,_,rfl,d6⟩;(try dsimp only);(and_intros<;>first|exact True.intro|rfl|exact zx)
     ·have h:i2=(ah Y).length:=by{simp at h;omega};subst h;have ⟨u,Z,kp,r1,r2,r3,r4,r5,r6,r7,r8⟩:=hA.fin Q (by omega) (by rw [o];exact q9);rw [o] at r1 r4 r5 r6 r7 r8;rw [b3] at r8;refine ⟨⟨by omega,by omega⟩,_,lF r1,⟨by omega,by omega⟩,by simp;omega,?_⟩;rw [r2,zx];have g0:=R _ (by omega) r4 r7;generalize gs.set (j+f) Z=hs at *;have b6:kp=1:=by{rcases Qy9 kp with A|A;{rw [A,Qj6] at r8;omega};{omega}};rw [b6,Qk5] at r8;(refine ⟨((j:Int)-1,aK hs++C,aK (E.set j (G-1))),by (try dsimp only);omega,by (try dsimp only);and_intros<;>first|exact True.intro|rfl,hs,E.set j (G-1),rfl,rfl,?_⟩;exact B.next T (by omega) r4 (by rw [r6,q8]) (by omega) (by omega) (by omega))
 ·have L:j=-1:=by{simp at L;omega};subst L;have ⟨hq,hr⟩:=B.done hX.symm hY.symm (by omega) K.top;have Zj:=B.qd;have Oi:=B.ud;intro V8 l8 g3 d9 e1 e2 J;have e3:RD V8 (some ⟨d9,0,none⟩) f c7 (us.take f):=by{refine ⟨by simp;omega,by omega,λi v hv=>⟨_,rfl,?_⟩,Oi.take f,λA=>nomatch A⟩;rw [add_zero'];refine dH e2 ?_;rw [E6,Qy7] at hv;split at hv;{rename_i b4;rw [Qx0 (by simp;omega)];exact hv};{cases hv}};refine ⟨⟨by omega,by omega⟩,λV9 l9=>?_⟩;refine (bw (RD.bg (ds:=E) e1 Zj (n:=n+1-f) (c:=n+1-f) (by omega) (Qq2 _) |>.le l9)).s ?_;rintro r fy N ⟨k1,rfl,g1⟩;refine ⟨_,_,_,rfl,λfC bo=>?_⟩;rw [Qq0];refine (NO (e3.le (l9.m (N.m bo))) (by simp;omega) s).s ?_;rintro r gI bW ⟨p2,n2,c2,rfl,g2⟩;refine ⟨_,_,_,rfl,λiT bP=>⟨_,_,_,_,_,_,rfl,?_,?_⟩⟩;{rw [aY Zj] at g1;unfold RN;rw [←hq];exact g1.le (bo.m (bW.m bP))};{rw [hr] at g2;exact g2.le bP}
theorem nP {m:Nat}{xa xb:pz Nat}(ha:RD V p n c xa)(hb:RD V q m e xb)(hm:xa.length<=1099511627776)(hn:xb.length<=1099511627776)(h0:val xb≠0) :
  aa prog 191 #[qD p n c,qD q m e] V λr V'=>∃p1 n1 c1 p2 n2 c2,r=dB #[qD p1 n1 c1,qD p2 n2 c2,dQ true]/\RN V' p1 n1 c1 (val xa / val xb)/\RN V' p2 n2 c2 (val xa%val xb):=by have la:=bH ha.gC;have lb:=bH hb.gC;refine Dz V _ λQ t=>(bw (ha.le t)).s ?_;rintro r V2 J ⟨n,rfl,b⟩;rw [aY ha.gC] at b;refine ⟨_,_,_,rfl,λR u=>(bw (hb.le (t.m (J.m u)))).s ?_⟩;rintro r S K ⟨m,rfl,f⟩;rw [aY hb.gC] at f;replace b:=b.le (u.m K);generalize val xa=x at *;generalize val xb=y at *;have L:=b.len;have T:=f.len;refine ⟨_,_,_,rfl,λv=>?_,λv U k=>(Ed (b.le k) (f.le k) (by omega)).s ?_⟩;{exfalso;have:ah y=[]:=Qw8.1 (by simp at v;omega);exact h0 (bR.1 this)};rintro r W w rfl;rw [af,af];replace b:=b.le (k.m w);replace f:=f.le (k.m w);refine ⟨_,rfl,λd z g=>(pJ (b.le g)).s ?_,λd=>⟨λj=>?_,λj z g=>?_⟩⟩;{rintro r A B ⟨C,D,E,rfl,h⟩;have d:x<y:=by{simpa [iF] using d};refine ⟨_,_,_,rfl,λF a=>⟨_,_,_,_,_,_,rfl,?_,?_⟩⟩;{rw [Qj8 d];exact RD.nil};{rw [Qx9 d];exact h.le a}};{have j:m=1:=by{simp at j;omega};subst j;refine f.rd0 0 rfl (by omega) λz g=>?_;have G:=(aL y).get (i:=0) (by omega);have l:y=(ah y)[0]'(by omega):=by{have e:=ji (ah y) 0 (by omega);rw [af,Qx8 (by omega)] at e;simpa using e};rw [←l] at G ⊢;refine (HD (b.le g) (by omega) y h0 G).s ?_;rintro r A B ⟨C,D,E,rfl,h⟩;rw [af] at h ⊢;have H:x%y<y:=Qj7 _ (by omega);refine qvJ ⟨rfl,λF a=>?_⟩;rw [bq (by omega)];refine (fI _ (by omega)).s ?_;rintro r X M ⟨N,O,P,rfl,o⟩;exact ⟨_,_,_,rfl,λY I=>⟨_,_,_,_,_,_,rfl,h.le (a.m (M.m I)),o.le I⟩⟩};{have d:y<=x:=by{simpa [←Wq4,iF] using d};have s:2<=m:=by{have:¬(m:Int)=1:=by{simpa using j};have:ah y≠[]:=λe=>h0 (bR.1 e);have:(ah y).length≠0:=λe=>this (Qw8.1 e);omega};refine (Kp (b.le g) (f.le g) (by omega) s d).s ?_;rintro r A B ⟨C,D,E,N,O,P,rfl,h,o⟩;exact qyQ ⟨rfl,λF a=>⟨_,_,_,_,_,_,rfl,h.le a,o.le a⟩⟩}
theorem Ay (x y:Nat):Nat.gcd y (x%y)=Nat.gcd x y:=by rw [Qd5 x y,Nat.gcd_rec y x,Qd5]
theorem Ee {m:Nat}{xa xb:pz Nat}(ha:RD V p n c xa)(hb:RD V q m e xb)(hm:xa.length<=1099511627776)(hn:xb.length<=1099511627776:=by omega) :
  aa prog 148 #[qD p n c,qD q m e] V λr V'=>∃p1 n1 c1,r=qD p1 n1 c1/\RN V' p1 n1 c1 (Nat.gcd (val xa) (val xb)):=by
 have la:=bH ha.gC;have lb:=bH hb.gC;refine Lz V _ λV1 R=>(kR (ha.le R) hm).s ?_;rintro r V2 Y ⟨p1,n1,c1,rfl,f⟩;refine ⟨_,_,_,rfl,λV3 S=>(kR (hb.le (R.m (Y.m S))) hn).s ?_⟩;rintro r V4 Z ⟨q1,m1,e1,rfl,i⟩
 replace f:=f.le (S.m Z)
 refine ⟨_,_,_,rfl,λz k V'=>∃x y:Nat,RN V' z.1 z.2.1 z.2.2.1 x/\RN V' z.2.2.2.1 z.2.2.2.2.1 z.2.2.2.2.2 y/\Nat.gcd x y=Nat.gcd (val xa) (val xb)/\k=y/\(ah x).length<=1099511627776/\(ah y).length<=1099511627776,
  ⟨(p1,n1,c1,q1,m1,e1),val xb,by (try dsimp only);and_intros<;>trivial,val xa,val xb,f,i,rfl,rfl,by omega,by omega⟩,?_⟩
 rintro ⟨p,n,c,q,m,e⟩ k V5 l5 ⟨x,y,f,i,A,hk,J,g⟩;dsimp only at f i ⊢;have a0:=f.len;have T:=i.len;rw [←A];have stop:m=0->y=0:=λh=>bR.1 (Qw8.1 (by omega))
 have more:∀j:ut,V5.Le j->m≠0->aa prog 191 #[qD p n c,qD q m e] j λr B=>∃p1 n1 c1 p2 n2 c2,r=dB #[qD p1 n1 c1,qD p2 n2 c2,dQ true]/\RN B p2 n2 c2 (x%y)/\x%y<y/\Nat.gcd y (x%y)=Nat.gcd (val xa) (val xb)/\(ah (x%y)).length<=1099511627776/\j.Le B:=by intro j l h;have K:y≠0:=by{intro e0;subst e0;rw [Em] at T;simp at T;omega};have d:x%y<y:=Qj7 _ (by omega);refine (nP (f.le l) (i.le l) J g (by rw [af];exact K)).s ?_;rintro r B L ⟨M,N,O,G,H,I,rfl,U,v⟩;rw [af,af] at v;exact qyQ ⟨rfl,v,d,by rw [Ay,A],Qw7 (aO) g,L⟩
 refine ⟨by trivial,λW=>⟨λo V6 P=>?_,λo j l=>(more j l ?_).s ?_⟩,λW=>⟨λC=>⟨λo V6 P=>?_,λo j l=>(more j l ?_).s ?_⟩,λC gI X=>?_⟩⟩
 ·rw [stop (by simp at o;omega),Qf6];rw [stop (by simp at o;omega)] at A;exact ⟨_,_,_,rfl,f.le P⟩
 ·simp at o;omega
 ·rintro r B L ⟨M,N,O,G,H,I,rfl,v,d,s,t,Q⟩;exact qyW ⟨rfl,(q,m,e,G,H,I),x%y,(by omega),by (try dsimp only);and_intros<;>trivial,y,x%y,i.le (l.m Q),v,s.m A.symm,rfl,g,t⟩
 ·rw [stop (by simp at o;omega),Qf6];exact ⟨_,_,_,rfl,f.le P⟩
 ·simp at o;omega
 ·rintro r B L ⟨M,N,O,G,H,I,rfl,v,d,s,t,Q⟩;exact qyW ⟨rfl,(q,m,e,G,H,I),x%y,(by omega),by (try dsimp only);and_intros<;>trivial,y,x%y,i.le (l.m Q),v,s.m A.symm,rfl,g,t⟩
 ·have a1:n<=2:=by simp at W;omega
  have a2:m<=2:=by simp at C;omega
  have D:x<18446744073709551616:=(aN (k:=2)).1 (by omega);have E:y<18446744073709551616:=(aN (k:=2)).1 (by omega);refine (nQ (f.le X)).s ?_;rintro r iT bP rfl;rw [af,if_pos D];refine ⟨_,_,rfl,λlP cN=>(nQ (i.le (X.m (bP.m cN)))).s ?_⟩;rintro r jJ cF rfl;rw [af,if_pos E]
  refine ⟨_,_,rfl,λz V'=>∃a b:Nat,z=((a:Int),(b:Int))/\Nat.gcd a b=Nat.gcd x y/\a<18446744073709551616/\b<18446744073709551616,λz=>z.2.toNat,
   ⟨((x:Int),(y:Int)),by (try dsimp only);and_intros<;>trivial,x,y,rfl,rfl,D,E⟩,?_⟩
  rintro _ kI cB ⟨a,b,rfl,u,a3,F⟩;dsimp only;refine ⟨by trivial,λw=>?_,λw lQ cG=>?_⟩
  ·have w:b≠0:=by{rw [bne_iff_ne] at w;omega};have d:a%b<b:=Qj7 _ (by omega);have e4:(a:Int).tmod (b:Int)=((a%b:Nat):Int):=by{rw [Qk2 (by omega),←Wy8]};rw [e4];exact ⟨by omega,((b:Int),((a%b:Nat):Int)),by (try dsimp only);rw [Qq0,Qq0];exact d,by (try dsimp only);and_intros<;>trivial,b,a%b,rfl,by rw [Ay,u],F,Nat.lt_trans d F⟩
  ·have w:b=0:=by{rw [bne_eq_false_iff_eq] at w;omega};subst w;rw [Qf6] at u;refine (fI _ (by omega)).s ?_;rintro r mM cq ⟨M,N,O,rfl,U⟩;refine ⟨_,_,_,rfl,λpf dE=>⟨_,_,_,rfl,?_⟩⟩;rw [←u];exact U.le dE
end Go.Proofs.Tryz
namespace Go.Big
def bI (b:Bool)(ds:List Nat):Int:=if b then -(val ds:Int) else val ds
end Go.Big
namespace Go.Eng
open Go.Big
open Go.Value renaming slice→qD,agg→hF,bool→dQ
def RI (V:View)(v:Value)(z:Int):Prop:=∃p n c,v=.agg #[.bool (decide (z<0)),.slice p n c]/\RD V p n c (ah z.natAbs)
theorem RI.le {V V':ut}{v:un}{z:Int}(h:RI V v z)(l:V.Le V'):RI V' v z:=by obtain ⟨p,n,c,e,h⟩:=h;exact ⟨p,n,c,e,h.le l⟩
def RI.mk {V:ut}{b:md}{p:OA}{n c:Nat}{z:Int}(hb:b=decide (z<0))(h:RD V p n c (ah z.natAbs)):RI V (hF #[dQ b,qD p n c]) z:=⟨p,n,c,by rw [hb],h⟩
end Go.Eng
namespace Go.Proofs.Tryz
open Go.Eng Go.Big
open Go.Value renaming slice→qD,agg→hF,bool→dQ,tuple→dB,int→qvZ
variable{c n:Nat}{V:View}{p:OA}{ds:List Nat}
theorem mQ:dP n=0↔n=0:=by unfold dP;split<;>simp_all
theorem fO (b:md)(ds:pz Nat):(bI b ds).natAbs=val ds:=by unfold bI;cases b<;>simp
theorem Iq (b:md)(ds:pz Nat):bI b ds<0↔b=true/\val ds≠0:=by unfold bI;cases b;{simp};{simp;omega}
theorem aJ (z:Int):bI (decide (z<0)) (ah z.natAbs)=z:=by unfold bI;rw [af];by_cases h:z<0;{rw [decide_eq_true h,if_pos rfl];omega};{rw [decide_eq_false h,if_neg (by decide)];omega}
theorem QR (b:md)(ds:pz Nat):bI (!b) ds=-bI b ds:=by unfold bI;cases b<;>simp
theorem sP (ds:pz Nat):bI false ds=val ds:=rfl
theorem iH {x:Nat}(h:n=(ah x).length):0<n↔x≠0:=by rw [h];constructor;{intro a b;subst b;simp at a};{intro a;rcases Qy9 (ah x).length with e|e;{exact absurd (bR.1 (Qw8.1 e)) a};{exact e}}
theorem mS (b:md){x:Nat}(h:RN V p n c x) :
  aa prog 281 #[dQ b,qD p n c] V λr V'=>RI V' r (if b then -(x:Int) else x):=by have f:=iH h.len;refine vx V _ ⟨λa e d=>?_,λa e d=>?_⟩;{rw [if_pos a];refine RI.mk ?_ ?_;{rw [Qk7,decide_eq_true_eq,decide_eq_true_eq];omega};{rw [Qd6,Qx6];exact h.le d}};{rw [a,if_neg (by decide)];refine RI.mk ?_ ?_;{symm;rw [decide_eq_false_iff_not];omega};{rw [Qx6];exact h.le d}}
theorem kP (b:md)(h:RD V p n c ds)(hm:ds.length<=1099511627776) :
  aa prog 194 #[hF #[dQ b,qD p n c]] V λr V'=>RI V' r (bI b ds):=by refine yH V _ λj g=>(kR (h.le g) hm).s ?_;rintro r V2 k ⟨l,m,o,rfl,a⟩;have q:=iH a.len;have f:=Iq b ds;refine ⟨_,_,_,rfl,λd i e=>RI.mk ?_ ?_,λd i e=>RI.mk ?_ ?_⟩;{rw [Qk7,decide_eq_true_eq,decide_eq_true_eq,f];simp [d];omega};{rw [fO];exact a.le e};{symm;rw [decide_eq_false_iff_not,f];simp [d]};{rw [fO];exact a.le e}
def oV (b:Bool)(ds:List Nat):Bool:=decide (ah (val ds)=ds)&&(!b||decide (ds≠[]))
theorem iX (b:md)(h:RD V p n c ds)(hm:ds.length<=1099511627776) :
  aa prog 84 #[hF #[dQ b,qD p n c]] V λr V'=>r=dQ (oV b ds):=by refine vt V _ λm j=>(Fv (h.le j) hm).s ?_;rintro r V2 o rfl;refine ⟨_,rfl,λd=>⟨λa f g=>?_,λa f g=>?_⟩,λd f g=>?_⟩;{simp [oV,d];simp at a;simp [a]};{have k:=h.len;simp [oV,d];simp at a;simp [a];rw [Qk7,decide_eq_true_eq];simp;constructor;{intro i l;subst l;simp at k;omega};{intro i;rcases Qy9 ds.length with e|e;{exact absurd (Qw8.1 e) i};{omega}}};{simp [oV,d]}
theorem l_ (n:Int)(h0:-9223372036854775808<=n)(h1:n<=9223372036854775807:=by omega) :
  aa prog 151 #[qvZ .i64 n] V λr V'=>RI V' r n:=by refine tC V _ ⟨λa d f=>?_,λa d f=>?_⟩;{have a:n<0:=by{simpa using a};have e:u64.wrap (0-u64.wrap n)=-n:=by{rw [yv,yv];omega};rw [e];refine (fI _ (by omega)).s ?_;rintro r V2 g ⟨h,i,j,rfl,b⟩;refine ⟨_,_,_,rfl,λk c=>⟨_,_,_,rfl,?_⟩⟩;rw [show n.natAbs=(-n).toNat from by omega];exact b.le c};{have a:0<=n:=by{simpa using a};rw [bq (by omega)];refine (fI _ (by omega)).s ?_;rintro r V2 g ⟨h,i,j,rfl,b⟩;refine ⟨_,_,_,rfl,λk c=>⟨_,_,_,rfl,?_⟩⟩;rw [show n.natAbs=n.toNat from by omega];exact b.le c}
theorem pE (b:md)(h:RD V p n c ds)(hm:ds.length<=1099511627776) :
  aa prog 190 #[hF #[dQ b,qD p n c]] V λr V'=>r=qvZ .i64 (bI b ds).sign:=by refine yI V _ λl k=>(kQ (h.le k) hm).s ?_;rintro r V2 m rfl;have f:(bI b ds)=0↔val ds=0:=by{rw [←fO b ds];omega};have g:=Iq b ds;refine ⟨_,rfl,λa i j=>?_,λa=>⟨λd i j=>?_,λd i j=>?_⟩⟩;{have:val ds=0:=mQ.1 (by simp at a;omega);rw [f.2 this];rfl};{have:val ds≠0:=λe=>by{simp [mQ.2 e] at a};rw [Qc0 (g.2 ⟨d,this⟩)]};{have:val ds≠0:=λe=>by{simp [mQ.2 e] at a};have:0<bI b ds:=by{have:=f;have:¬bI b ds<0:=by{rw [g];simp [d]};omega};rw [Qf0 this]}
theorem CS (b:md)(h:RD V p n c ds)(hm:ds.length<=1099511627776) :
  aa prog 207 #[hF #[dQ b,qD p n c]] V λr V'=>RI V' r (-bI b ds):=by refine B_ V _ λf d=>(kP (!b) (h.le d) hm).s ?_;rintro r V2 g ⟨i,j,k,rfl,a⟩;rw [QR] at a ⊢;exact qvJ ⟨rfl,λl e=>⟨_,_,_,rfl,a.le e⟩⟩
theorem jq (b1 b2:md){q:OA}{m e:Nat}{xa xb:pz Nat}(ha:RD V p n c xa)(hb:RD V q m e xb)(hm:xa.length+xb.length<=1099511627776:=by omega) :
  aa prog 259 #[hF #[dQ b1,qD p n c],hF #[dQ b2,qD q m e]] V λr V'=>RI V' r (bI b1 xa*bI b2 xb):=by refine B9 V _ λi a=>(iY (ha.le a) (hb.le a) hm).s ?_;rintro r V2 j ⟨k,l,o,rfl,d⟩;refine ⟨_,_,_,rfl,λs f=>(mS _ (d.le f)).s ?_⟩;rintro r t u ⟨v,w,x,rfl,b⟩;have g:(if (!(b1==b2))=true then -((val xa*val xb:Nat):Int) else ((val xa*val xb:Nat):Int))=bI b1 xa*bI b2 xb:=by{unfold bI;cases b1<;>cases b2<;>simp [Wy3,Ww0]};rw [g] at b ⊢;exact qvJ ⟨rfl,λy h=>⟨_,_,_,rfl,b.le h⟩⟩
theorem CQ (b1 b2:md){q:OA}{m e:Nat}{xa xb:pz Nat}(ha:RD V p n c xa)(hb:RD V q m e xb)(hm:xa.length<=1099511627776)(hn:xb.length<=1099511627776:=by omega) :
  aa prog 258 #[hF #[dQ b1,qD p n c],hF #[dQ b2,qD q m e]] V λr V'=>RI V' r (bI b1 xa+bI b2 xb):=by
 have fin:∀{b:md} {x:Nat} {i:ut} {j:OA} {k l:Nat},RN i j k l x->(if b then -(x:Int) else x)=bI b1 xa+bI b2 xb ->
   aa prog 281 #[dQ b,qD j k l] i λr V'=>∃(PH:md)(R9:OA)(Rx PR:Nat),r=hF #[dQ PH,qD R9 Rx PR]/\∀o:ut,V'.Le o->RI o (hF #[dQ PH,qD R9 Rx PR]) (bI b1 xa+bI b2 xb):=by
  intro b x i j k l h he;refine (mS b h).s ?_;rintro r v w ⟨y,z,A,rfl,a⟩;rw [he] at a ⊢;exact qvJ ⟨rfl,λB s=>⟨_,_,_,rfl,a.le s⟩⟩
 refine B8 V _ ⟨λf i d=>(NN (ha.le d) (hb.le d) hm hn).s ?_,λf i d=>(Eg (ha.le d) (hb.le d) hm hn).s ?_⟩
 ·rintro r V2 t ⟨j,k,l,rfl,u⟩;have f:b1=b2:=by{simpa using f};subst f;exact ⟨_,_,_,rfl,λo g=>fin (u.le g) (by unfold bI;cases b1<;>simp;omega)⟩
 ·rintro r V2 t ⟨j,k,l,rfl,u⟩;have f:b2=!b1:=by{cases b1<;>cases b2<;>simp_all};subst f;refine qvJ ⟨rfl,λa o g=>fin (u.le g) ?_,λa o g=>(Eg (hb.le (d.m (t.m g))) (ha.le (d.m (t.m g))) hn hm).s ?_⟩;{have a:val xb<=val xa:=by{simpa using a};unfold bI;cases b1<;>simp<;>omega};{rintro r v w ⟨y,z,A,rfl,C⟩;have a:val xa<val xb:=by{simpa using a};exact qvJ ⟨rfl,λB s=>fin (C.le s) (by unfold bI;cases b1<;>simp<;>omega)⟩}
theorem xW (b:md)(h:RD V p n c ds)(hm:ds.length<=1099511627776)(hs:val ds<4611686018427387904) :
  aa prog 192 #[hF #[dQ b,qD p n c]] V λr V'=>r=dB #[qvZ .i64 (bI b ds),dQ true]:=by refine wS V _ λi g=>(nQ (h.le g) hm).s ?_;rintro r V2 j rfl;rw [if_pos (by omega),decide_eq_true (show val ds<18446744073709551616 by omega)];refine ⟨_,_,rfl,λ_=>⟨λd=>⟨λa k l=>?_,λa=>?_⟩,λd=>⟨λ_=>⟨λa=>⟨λf m o=>?_,λf=>?_⟩,λa=>?_⟩,λa=>nomatch a⟩⟩,λd=>nomatch d⟩;{subst d;have e:i64.wrap (u64.wrap (0-(val ds:Int)))=-(val ds:Int):=by{rw [yv,IntKind.wrap_i64];omega};rw [e];rfl};{simp at a;omega};{subst d;rw [aw (by omega)];rfl};{simp at f;omega};{simp [d] at a}
end Go.Proofs.Tryz
namespace Go.Eng
open Go.Big
open Go.Value renaming agg→hF,pointer→dZ,int→qvZ
def Wd (q:Rat):Prop:=q.num.natAbs<4611686018427387904/\q.den<4611686018427387904
def RR (V:View)(v:Value)(q:Rat):Prop:=
 (v=.agg #[.int .i64 q.num,.int .i64 ((q.den:Int)-1),.pointer none]/\Wd q) \/
 (∃a b p n c p' n' c',v=.agg #[.int .i64 0,.int .i64 0,.pointer (some a)]/\V.at (a.add 0) (.bool b)/\V.at (a.add 1) (.slice p n c)/\V.at (a.add 2) (.slice p' n' c') /\
  RI V (.agg #[.bool b,.slice p n c]) q.num/\RD V p' n' c' (ah q.den)/\¬Wd q)
theorem RR.le {V V':ut}{v:un}{q:Rat}(h:RR V v q)(l:V.Le V'):RR V' v q:=by rcases h with h|⟨a,b,p,n,c,d,f,g,e,i,j,k,m,o,r⟩;{exact .inl h};{exact .inr ⟨a,b,p,n,c,d,f,g,e,l.at i,l.at j,l.at k,m.le l,o.le l,r⟩}
def Sz (k:Nat)(q:Rat):Prop:=q.num.natAbs<2^k/\q.den<2^k
def Sz.s {k m:Nat}{q:Rat}(h:Sz k q)(hm:k<=m:=by omega):Sz m q:=
 ⟨Qy6 h.1 (Qx5 (by omega) hm),Qy6 h.2 (Qx5 (by omega) hm)⟩
def ag {n k:Nat}(h:n<2^k:=by omega):(ah n).length<=k:=by rw [aN];exact Qy6 h (Nat.pow_le_pow_left (by omega) k)
def RR.shape {V:ut}{v:un}{q:Rat}(h:RR V v q):∃(n d:Int)(p:OA),v=hF #[qvZ .i64 n,qvZ .i64 d,dZ p]:=by rcases h with ⟨e,-⟩|⟨a,b,p,n,c,f,g,i,e,-⟩;{exact ⟨_,_,_,e⟩};{exact ⟨_,_,_,e⟩}
end Go.Eng
namespace Go.Proofs.Tryz
open Go.Eng Go.Big
open Go.Value renaming slice→qD,agg→hF,bool→dQ,pointer→dZ,int→qvZ
def Fk (n:Nat):decide ((dP n:Int)<=62)=decide (n<4611686018427387904):=by have:=@lV n 62;rw [Qk7,decide_eq_true_eq,decide_eq_true_eq];omega
def Oz {z:Int}{d:Nat}(hd:d≠0)(hg:Nat.gcd z.natAbs d=1):(mkRat z d).num=z/\(mkRat z d).den=d:=by have:Nat.gcd d z.natAbs=1:=by{rw [Qd5];exact hg};rw [Qr8,Wq1,if_neg hd,if_neg hd,this];simp
def eA {V:ut}(b:md){p q:OA}{n c m e:Nat}{xs ys:pz Nat}(hx:RD V p n c xs)(hy:RD V q m e ys)(hm:xs.length<=1099511627776)(hn:ys.length<=1099511627776:=by omega) :
  aa prog 143 #[hF #[dQ b,qD p n c],qD q m e] V λr V'=>RR V' r (mkRat (bI b xs) (val ys)):=by
 have zero:∀V':ut,RR V' (hF #[qvZ .i64 0,qvZ .i64 0,dZ none]) 0:=λV'=>.inl ⟨rfl,by unfold Wd;decide⟩;refine BW V _ λE h=>(kQ (hy.le h) hn).s ?_;rintro r V2 s rfl;refine ⟨_,rfl,λN F O=>?_,λN P t=>(pE b (hx.le (h.m (s.m t))) hm).s ?_⟩
 ·have:val ys=0:=mQ.1 (by simp at N;omega);rw [this,Rat.mkRat_zero];exact zero _
 rintro r u v rfl;have y:val ys≠0:=λe=>by simp [mQ.2 e] at N
 refine ⟨_,rfl,λQ V6 l6=>?_,λQ V7 l7=>?_⟩
 ·have:bI b xs=0:=Qm2.1 (by simpa using Q);rw [this,Rat.zero_mkRat];exact zero _
 have a1:bI b xs≠0:=λe=>by simp [e] at Q
 have A:val xs≠0:=by rw [←fO b xs];omega
 replace hx:=hx.le (h.m (s.m (t.m (v.m l7))))
 replace hy:=hy.le (h.m (s.m (t.m (v.m l7))))
 refine (Ee hx hy hm hn).s ?_;rintro r V8 l8 ⟨p3,n3,c3,rfl,B⟩
 replace hx:=hx.le l8
 replace hy:=hy.le l8
 have R:Nat.gcd (val xs) (val ys)<=val ys:=Wq2 (by omega) (Qb9 _ _);have i:(ah (Nat.gcd (val xs) (val ys))).length<=1099511627776:=Qw7 (aO R) (by have:=bH hy.gC;omega)
 have S:Nat.gcd (val xs) (val ys)≠0:=by intro T;exact A (Nat.eq_zero_of_gcd_eq_zero_left T)
 refine ⟨_,_,_,rfl,λV9 G=>(kQ (B.le G) i).s ?_⟩;rintro r fy j rfl;rw [af]
 replace hx:=hx.le (G.m j)
 replace hy:=hy.le (G.m j)
 replace B:=B.le (G.m j)
 refine ⟨_,rfl,λz V'=>∃(us d:pz Nat),z.2.2.2.1=b/\RD V' z.2.2.2.2.1 z.2.2.2.2.2.1 z.2.2.2.2.2.2 us/\RD V' z.1 z.2.1 z.2.2.1 d/\us.length<=1099511627776/\d.length<=1099511627776/\val d≠0 /\
  Nat.gcd (val us) (val d)=1/\mkRat (bI b xs) (val ys)=mkRat (bI b us) (val d),⟨λH fC I=>?_,λH=>?_⟩,?_⟩
 ·refine (nP (hx.le I) (B.le I) hm i (by rw [af];exact S)).s ?_;rintro r gI bW ⟨p4,n4,c4,p5,n5,c5,rfl,g1,g2⟩;refine qyW ⟨rfl,λiT U=>(nP (hy.le (I.m (bW.m U))) (B.le (I.m (bW.m U))) hn i (by rw [af];exact S)).s ?_⟩;rintro r lP cN ⟨p6,n6,c6,p7,n7,c7,rfl,g3,g4⟩;rw [af] at g1 g3;have e1:val (ah (val xs / Nat.gcd (val xs) (val ys)))=val xs / Nat.gcd (val xs) (val ys):=af _;have W:val (ah (val ys / Nat.gcd (val xs) (val ys)))=val ys / Nat.gcd (val xs) (val ys):=af _;have d1:=Qj5 (val xs) (val ys);have d2:=Qb9 (val xs) (val ys)
  have X:val ys / Nat.gcd (val xs) (val ys)≠0:=by intro T;have:=Ww9 d2;rw [T,Qc4] at this;exact y this.symm
  refine qyW ⟨rfl,(p6,n6,c6,b,p4,n4,c4),by (try dsimp only);and_intros<;>trivial,_,_,rfl,g1.le (U.m cN),g3,?_,?_,?_,?_,?_⟩
  ·exact Qw7 (aO (Qm7 _ _)) (by have:=bH hx.gC;omega)
  ·exact Qw7 (aO (Qm7 _ _)) (by have:=bH hy.gC;omega)
  ·rw [W];exact X
  ·rw [e1,W];exact Nat.gcd_div_gcd_div_gcd_of_pos_left (by omega)
  ·rw [W];have k1:val ys=val ys / Nat.gcd (val xs) (val ys)*Nat.gcd (val xs) (val ys):=(Ww9 d2).symm
   have k2:bI b xs=bI b (ah (val xs / Nat.gcd (val xs) (val ys)))*(Nat.gcd (val xs) (val ys):Nat):=by have k3:(val xs:Int)=((val xs / Nat.gcd (val xs) (val ys):Nat):Int)*(Nat.gcd (val xs) (val ys):Nat):=by{rw [←Qn1,Ww9 d1]};unfold bI;rw [e1];cases b;{simpa using k3};{simp only [if_true];rw [Wy3,←k3]}
   conv=>lhs;rw [k1,k2]
   exact Rat.mkRat_mul_right S
 ·have Y:Nat.gcd (val xs) (val ys)=1:=by{have f:¬(1<dP (Nat.gcd (val xs) (val ys))):=by{simp at H;omega};have:=@lV (Nat.gcd (val xs) (val ys)) 1;omega};exact ⟨(q,m,e,b,p,n,c),by (try dsimp only);and_intros<;>trivial,xs,ys,rfl,hx,hy,hm,hn,y,Y,rfl⟩
 ·rintro ⟨q,m,e,g,p,n,c⟩ jJ cF ⟨us,d,C,hu,J,k,l,Z,a0,hq⟩;dsimp only at C hu J ⊢;subst C;rw [hq];have ⟨yh,a⟩:=Oz (z:=bI g us) Z (by rw [fO];exact a0);generalize mkRat (bI g us) (val d)=w at *
  have hW:Wd w↔val us<4611686018427387904/\val d<4611686018427387904:=by unfold Wd;rw [yh,a,fO]
  have VV:∀E:ut,jJ.Le E->¬Wd w->aa prog 194 #[hF #[dQ g,qD p n c]] E λr V2=>∃(PH:md)(R9:OA)(Rx PR:Nat),r=hF #[dQ PH,qD R9 Rx PR] /\
    (∀F:ut,V2.Le F->aa prog 195 #[qD q m e] F λr P=>∃(p3_:OA)(n3_ c3_:Nat),r=qD p3_ n3_ c3_ /\
    (∀u:ut,P.Le u->∀K:Nat,u.bg K (.cells #[dQ PH,qD R9 Rx PR,qD p3_ n3_ c3_] 295 (0,0))->RR u (hF #[qvZ .i64 0,qvZ .i64 0,dZ (some ⟨K,0,none⟩)]) w)):=by
   intro E h hw;refine (kP g (hu.le h) k).s ?_;rintro r V2 s Pk;obtain ⟨p2,n2,c2,rfl,H⟩:=Pk;have Pk:RI V2 (hF #[dQ (decide (bI g us<0)),qD p2 n2 c2]) (bI g us):=⟨_,_,_,rfl,H⟩;refine qvJ ⟨rfl,λF O=>(kR (J.le (h.m (s.m O))) l).s ?_⟩;rintro r P t ⟨p3,n3,c3,rfl,f⟩;refine ⟨_,_,_,rfl,λu v K hb=>.inr ⟨⟨K,0,none⟩,decide (bI g us<0),p2,n2,c2,p3,n3,c3,rfl,?_,?_,?_,?_,?_,hw⟩⟩
   ·rw [add_zero'];exact dH (xs:=[_,_,_]) hb rfl
   ·rw [add_zero'];exact dH (xs:=[_,_,_]) hb rfl
   ·rw [add_zero'];exact dH (xs:=[_,_,_]) hb rfl
   ·rw [yh];exact Pk.le (O.m (t.m v))
   ·rw [a];exact f.le v
  refine ⟨by trivial,λkI o=>(kQ (hu.le o) k).s ?_⟩;rintro r lQ D rfl;refine ⟨_,rfl,λf mM L=>(kQ (J.le (o.m (D.m L))) l).s ?_,λf Pc uz=>VV Pc (o.m (D.m uz)) ?_⟩
  ·rintro r pf dE rfl;rw [Fk,decide_eq_true_eq] at f;refine ⟨_,rfl,λM vG e_=>?_,λM Hh mi=>VV Hh (o.m (D.m (L.m (dE.m mi)))) ?_⟩;{rw [Fk,decide_eq_true_eq] at M;refine (xW g (hu.le (o.m (D.m (L.m (dE.m e_))))) k f).s ?_;rintro r qF gQ rfl;refine ⟨_,_,rfl,λtK gR=>(nQ (J.le (o.m (D.m (L.m (dE.m (e_.m (gQ.m gR))))))) l).s ?_⟩;rintro r vH iu rfl;rw [if_pos (by omega)];refine ⟨_,_,rfl,λHg jX=>.inl ⟨?_,hW.2 ⟨f,M⟩⟩⟩;rw [aw (x:=((val d:Nat):Int)) (by omega),aw (by omega),yh,a]};{rw [Fk,decide_eq_false_iff_not] at M;rw [hW];omega}
  ·rw [Fk,decide_eq_false_iff_not] at f;rw [hW];omega
end Go.Proofs.Tryz
namespace Go.Eng
open Go.Big
open Go.Value renaming slice→qD,agg→hF,bool→dQ
def RI.inv {V:ut}{b:md}{p:OA}{n c:Nat}{z:Int}(h:RI V (hF #[dQ b,qD p n c]) z):b=decide (z<0)/\RD V p n c (ah z.natAbs):=by obtain ⟨d,f,g,e,a⟩:=h;simp at e;obtain ⟨rfl,rfl,rfl,rfl⟩:=e;exact ⟨rfl,a⟩
end Go.Eng
namespace Go.Proofs.Tryz
open Go.Eng Go.Big
open Go.Value renaming slice→qD,agg→hF,bool→dQ,pointer→dZ,tuple→dB,int→qvZ
variable{V:View}{v:Value}{q x y:Rat}{k:Nat}
theorem gZ (h:RR V v q)(hs:Sz k q)(hk:k<=1099511627776:=by omega) :
  aa prog 149 #[v] V λr V'=>RI V' r q.num:=by rcases h with ⟨rfl,hw⟩|⟨a,b,p,n,c,u,w,x,rfl,i,j,y,l,z,hw⟩;{have:=hw.1;refine rW V _ ⟨(λd=>nomatch d),λ_ m f=>(l_ _ (by omega)).s ?_⟩;rintro r V2 o ⟨p,n,c,rfl,g⟩;exact qvJ ⟨rfl,λs e=>⟨_,_,_,rfl,g.le e⟩⟩};{obtain ⟨rfl,t⟩:=l.inv;refine rW V _ ⟨λ_=>⟨rfl,rfl,decide (q.num<0),p,n,c,a.add 0,rfl,?_,?_,λm f=>(kP _ (t.le f) (Qw7 (ag hs.1) hk)).s ?_⟩,λd=>nomatch d⟩;{exact i};{simpa [Addr.add] using j};{rintro r V2 o ⟨p,n,c,rfl,g⟩;rw [aJ] at g ⊢;exact qvJ ⟨rfl,λs e=>⟨_,_,_,rfl,g.le e⟩⟩}}
theorem fW (h:RR V v q)(hs:Sz k q)(hk:k<=1099511627776:=by omega) :
  aa prog 147 #[v] V λr V'=>∃p n c,r=qD p n c/\RN V' p n c q.den:=by rcases h with ⟨rfl,hw⟩|⟨a,b,p,n,c,s,t,u,rfl,w,x,i,y,j,hw⟩;{have:=hw.2;have z:=q.den_nz;refine rT V _ ⟨(λd=>nomatch d),λ_ l f=>?_⟩;rw [aw (by omega),bq (by omega)];refine (fI _ (by omega)).s ?_;rintro r V2 m ⟨p,n,c,rfl,g⟩;rw [show ((q.den:Int)-1+1).toNat=q.den from by omega] at g;exact ⟨_,_,_,rfl,λo e=>⟨_,_,_,rfl,g.le e⟩⟩};{refine rT V _ ⟨λ_=>⟨rfl,rfl,_,_,_,⟨_,rfl,i⟩,λl f=>(kR (j.le f) (Qw7 (ag hs.2) hk)).s ?_⟩,λd=>nomatch d⟩;rintro r V2 m ⟨p,n,c,rfl,g⟩;rw [af] at g;exact ⟨_,_,_,rfl,λo e=>⟨_,_,_,rfl,g.le e⟩⟩}
theorem kO (n:Int)(h0:-9223372036854775808<n)(h1:n<=9223372036854775807:=by omega) :
  aa prog 145 #[qvZ .i64 n] V λr V'=>r=qvZ .u64 (n.natAbs:Int):=by refine Jz V _ ⟨λa b c=>?_,λa b c=>?_⟩;{have a:n<0:=by{simpa using a};rw [aw (by omega),bq (by omega)];congr 1;omega};{have a:0<=n:=by{simpa using a};rw [bq (by omega)];congr 1;omega}
theorem zW (x y:Nat)(hx:x<18446744073709551616)(hy:y<18446744073709551616:=by omega) :
  aa prog 144 #[qvZ .u64 (x:Int),qvZ .u64 (y:Int)] V λr V'=>r=qvZ .u64 (Nat.gcd x y:Int):=by
 refine JA V _ ⟨λz V'=>∃a b:Nat,z=((a:Int),(b:Int))/\Nat.gcd a b=Nat.gcd x y,λz=>z.2.toNat,
  ⟨((x:Int),(y:Int)),by (try dsimp only);and_intros<;>trivial,x,y,rfl,rfl⟩,?_⟩
 rintro _ g h ⟨a,b,rfl,c⟩;dsimp only;refine ⟨by trivial,λd=>?_,λd i j=>?_⟩
 ·have d:b≠0:=by{rw [bne_iff_ne] at d;omega};have e:a%b<b:=Qj7 _ (by omega);have f:(a:Int).tmod (b:Int)=((a%b:Nat):Int):=by{rw [Qk2 (by omega),←Wy8]};rw [f];exact ⟨by omega,((b:Int),((a%b:Nat):Int)),by (try dsimp only);rw [Qq0,Qq0];exact e,by (try dsimp only);and_intros<;>trivial,b,a%b,rfl,by rw [Ay,c]⟩
 ·have d:b=0:=by{rw [bne_eq_false_iff_eq] at d;omega};subst d;rw [Qf6] at c;rw [c]
theorem iE (a b:Int)(ha:a.natAbs<4611686018427387904)(hb:b.natAbs<4611686018427387904:=by omega) :
  aa prog 256 #[qvZ .i64 a,qvZ .i64 b] V λr V'=>∃z:Int,r=dB #[qvZ .i64 z,dQ (decide ((a*b).natAbs<4611686018427387904))]/\((a*b).natAbs<4611686018427387904->z=a*b):=by refine Dq V _ λk l=>(kO a (by omega)).s ?_;rintro r V2 m rfl;refine ⟨_,rfl,λn o=>(kO b (by omega)).s ?_⟩;rintro r q s rfl;refine ⟨_,rfl,λt u=>(TL _ _ (by omega)).s ?_⟩;rintro r v w rfl;have g:(a*b).natAbs=a.natAbs*b.natAbs:=Qv3 a b;have f:a*b=if (decide (a<0)==decide (b<0)) then ((a.natAbs*b.natAbs:Nat):Int) else -((a.natAbs*b.natAbs:Nat):Int):=by{rw [Qn1];by_cases c:a<0<;>by_cases d:b<0;{rw [decide_eq_true c,decide_eq_true d,show (a.natAbs:Int)=-a from by omega,show (b.natAbs:Int)=-b from by omega];simp [Wy3,Ww0]};{rw [decide_eq_true c,decide_eq_false d,if_neg (by decide),show (a.natAbs:Int)=-a from by omega,show (b.natAbs:Int)=b from by omega];simp [Wy3]};{rw [decide_eq_false c,decide_eq_true d,if_neg (by decide),show (a.natAbs:Int)=a from by omega,show (b.natAbs:Int)=-b from by omega];simp [Ww0]};{rw [decide_eq_false c,decide_eq_false d,show (a.natAbs:Int)=a from by omega,show (b.natAbs:Int)=b from by omega];simp}};rw [g];generalize a.natAbs*b.natAbs=p at *;refine ⟨_,_,rfl,λe i j=>?_,λe=>⟨λc i j=>?_,λc=>⟨λd i j=>?_,λd i j=>?_⟩⟩⟩;{have e:18446744073709551616<=p:=by{rw [bne_iff_ne] at e;omega};rw [decide_eq_false (by omega)];exact ⟨_,rfl,λh=>by omega⟩};{have c:4611686018427387904<=p:=by{rw [decide_eq_true_eq] at c;omega};rw [decide_eq_false (by omega)];exact ⟨_,rfl,λh=>by omega⟩};{have e:p / 18446744073709551616=0:=by{rw [bne_eq_false_iff_eq] at e;omega};have c:p<4611686018427387904:=by{rw [decide_eq_false_iff_not] at c;omega};rw [decide_eq_true c,aw (x:=((p%18446744073709551616:Nat):Int)) (by omega),aw (by omega)];refine ⟨_,rfl,λ_=>?_⟩;have d:(decide (a<0)==decide (b<0))=false:=by{simpa using d};rw [f,d,if_neg (by decide)];omega};{have e:p / 18446744073709551616=0:=by{rw [bne_eq_false_iff_eq] at e;omega};have c:p<4611686018427387904:=by{rw [decide_eq_false_iff_not] at c;omega};rw [decide_eq_true c,aw (x:=((p%18446744073709551616:Nat):Int)) (by omega)];refine ⟨_,rfl,λ_=>?_⟩;have d:(decide (a<0)==decide (b<0))=true:=by{simpa using d};rw [f,d,if_pos rfl];omega}
theorem ry (n:Int)(d:Nat)(hn:n.natAbs<4611686018427387904)(hd:d<4611686018427387904)(hd0:d≠0) :
  aa prog 257 #[qvZ .i64 n,qvZ .i64 (d:Int)] V λr V'=>RR V' r (mkRat n d):=by refine BV V _ λo p=>(kO n (by omega)).s ?_;rintro r V2 q rfl;rw [bq (x:=(d:Int)) (by omega)];refine ⟨_,rfl,λs t=>(zW _ _ (by omega)).s ?_⟩;rintro r u v rfl;have g:Nat.gcd n.natAbs d<=d:=Wq2 (by omega) (Qb9 _ _);have w:0<Nat.gcd n.natAbs d:=Wx8 _ (by omega);have c:=Qr8 n d;have a:=Wq1 n d;rw [if_neg hd0,Qd5] at c a;have b:(Nat.gcd n.natAbs d:Int)∣n:=Int.ofNat_dvd_left.2 (Qj5 _ _);have h:d / Nat.gcd n.natAbs d<=d:=Qm7 _ _;have i:(n / (Nat.gcd n.natAbs d:Int)).natAbs<=n.natAbs:=by{rw [Qs4 b,Qx6];exact Qm7 _ _};have f:Wd (mkRat n d):=by{unfold Wd;rw [c,a];omega};refine ⟨_,rfl,?_⟩;rw [aw (x:=((Nat.gcd n.natAbs d:Nat):Int)) (by omega)];refine ⟨λe=>⟨by omega,by omega,λj k=>.inl ⟨?_,f⟩⟩,λe j k=>.inl ⟨?_,f⟩⟩;{rw [c,a];have l:n.tdiv (Nat.gcd n.natAbs d:Int)=n / (Nat.gcd n.natAbs d:Int):=Int.tdiv_eq_ediv_of_dvd b;have m:(d:Int).tdiv (Nat.gcd n.natAbs d:Int)=((d / Nat.gcd n.natAbs d:Nat):Int):=by{rw [Qj2 (by omega),←Int.natCast_ediv]};rw [l,m];generalize n / (Nat.gcd n.natAbs d:Int)=nn at *;generalize d / Nat.gcd n.natAbs d=dd at *;rw [aw (by omega),aw (x:=(dd:Int)) (by omega),aw (by omega)]};{have e:Nat.gcd n.natAbs d=1:=by{rw [decide_eq_false_iff_not] at e;omega};rw [c,a,e,aw (by omega)];simp}
theorem mkRat_one (z:Int):mkRat z 1=(z:Rat):=by apply Rat.ext;{rw [Qr8];simp};{rw [Wq1];simp}
theorem RD.one {bk:Nat}{ty:TypeId}{m:Nat×Nat}(h:V.bg bk (.cells #[qvZ .u32 1] ty m)):RD V (some ⟨bk,0,none⟩) 1 1 [1]:=
 RD.bg (ds:=[1]) h (by simp [cP]) rfl (Qq2 _)
theorem nN (b:md){p:OA}{n c:Nat}{ds:pz Nat}(h:RD V p n c ds)(hm:ds.length<=1099511627776) :
  aa prog 85 #[hF #[dQ b,qD p n c]] V λr V'=>RR V' r (bI b ds:Rat):=by refine Dp V _ λj f k g=>(eA b (h.le f) (RD.one g) hm (by simp)).s ?_;rintro r V2 l a;have e:mkRat (bI b ds) (val [1])=(bI b ds:Rat):=mkRat_one _;rw [e] at a;obtain ⟨n,d,p,rfl⟩:=a.shape;exact ⟨_,_,_,rfl,λ_ m i=>a.le i⟩
theorem AF {z:Int}(h:z.natAbs<4611686018427387904):Wd (z:Rat):=⟨h,by show (1:Nat)<_;decide⟩
theorem r_ (n:Int)(h0:-9223372036854775808<=n)(h1:n<=9223372036854775807:=by omega) :
  aa prog 89 #[qvZ .i64 n] V λr V'=>RR V' r (n:Rat):=by have VV:∀b:ut,V.Le b->aa prog 151 #[qvZ .i64 n] b λf V2=>∃PH:md,∃(R9:OA)(Rx PR:Nat),f=hF #[dQ PH,qD R9 Rx PR]/\(∀a:ut,V2.Le a->∀ZQ:Nat,a.bg ZQ (.cells #[qvZ .u32 1] 231 (0,0))->aa prog 143 #[hF #[dQ PH,qD R9 Rx PR],qD (some ⟨ZQ,0,none⟩) 1 1] a λh l=>∃x4_:Int,∃x5_:Int,∃p6_:OA,h=hF #[qvZ .i64 x4_,qvZ .i64 x5_,dZ p6_]/\∀J7_:C->un,(∀V5:ut,l.Le V5->RR V5 (hF #[qvZ .i64 x4_,qvZ .i64 x5_,dZ p6_]) (n:Rat))):=by{intro b o;refine (l_ n h0 h1).s ?_;rintro r V2 u ⟨p,m,c,rfl,g⟩;refine qvJ ⟨rfl,λa i v q=>(eA _ (g.le i) (RD.one q) (Qw7 (ag (k:=64)) (by omega)) (by simp)).s ?_⟩;rintro r l w j;have e:mkRat (bI (decide (n<0)) (ah n.natAbs)) (val [1])=(n:Rat):=by{rw [aJ];exact mkRat_one _};rw [e] at j;obtain ⟨n,d,p,rfl⟩:=j.shape;exact ⟨_,_,_,rfl,λ_ a i=>j.le i⟩};refine Jw V _ ⟨λ_=>VV,λs=>⟨λ_=>VV,λt b o=>.inl ⟨rfl,AF ?_⟩⟩⟩;rw [decide_eq_false_iff_not] at s t;omega
theorem po (h:RR V v q)(hs:Sz k q)(hk:k<=1099511627776:=by omega) :
  aa prog 199 #[v] V λr V'=>r=qvZ .i64 q.num.sign:=by rcases h with ⟨rfl,hw⟩|⟨a,b,p,n,c,o,s,t,rfl,i,j,u,l,w,hw⟩;{refine qu V _ ⟨(λe=>nomatch e),λ_=>⟨λh f d=>?_,λh=>⟨λg f d=>?_,λg f d=>?_⟩⟩⟩;{rw [Qc0 (by simpa using h)]};{rw [Qf0 (by simpa using g)]};{have:q.num=0:=by{rw [decide_eq_false_iff_not] at h g;omega};rw [this];rfl}};{obtain ⟨rfl,m⟩:=l.inv;refine qu V _ ⟨λ_=>⟨rfl,rfl,decide (q.num<0),p,n,c,a.add 0,rfl,?_,?_,λf d=>(pE _ (m.le d) (Qw7 (ag hs.1) hk)).s ?_⟩,(λe=>nomatch e)⟩;{exact i};{simpa [Addr.add] using j};{rintro r V2 x rfl;rw [aJ];exact ⟨_,rfl,λy z=>rfl⟩}}
theorem Hv (h:RR V v q):aa prog 86 #[v] V λr V'=>r=dQ (decide (q=0)):=by rcases h with ⟨rfl,hw⟩|⟨a,b,p,n,c,i,j,k,rfl,l,m,o,s,t,hw⟩;{refine qv V _ ⟨λ_ f g=>?_,(λd=>nomatch d)⟩;congr 1;rw [Qk7,beq_iff_eq,decide_eq_true_eq];exact Qv0};{refine qv V _ ⟨(λd=>nomatch d),λ_ f g=>?_⟩;congr 1;symm;rw [decide_eq_false_iff_not];intro e;subst e;exact hw ⟨by decide,by decide⟩}
theorem lZ (h:RR V v q)(hs:Sz k q)(hk:k<=1099511627776:=by omega) :
  aa prog 167 #[v] V λr V'=>RR V' r (-q):=by rcases h with ⟨rfl,hw⟩|⟨a,b,p,n,c,i,j,l,rfl,s,t,u,w,x,hw⟩;{have:=hw.1;refine rV V _ ⟨(λd=>nomatch d),λ_ y e=>.inl ⟨?_,by unfold Wd;rw [Qs7,Wk7,Qd6];exact hw⟩⟩;rw [aw (by omega),Qs7,Wk7,Int.zero_sub]};{obtain ⟨rfl,z⟩:=w.inv;refine rV V _ ⟨λ_=>⟨rfl,rfl,decide (q.num<0),p,n,c,a.add 0,rfl,?_,?_,rfl,rfl,i,j,l,⟨_,rfl,u⟩,λy e=>(CS _ (z.le e) (Qw7 (ag hs.1) hk)).s ?_⟩,(λd=>nomatch d)⟩;{exact s};{simpa [Addr.add] using t};{rintro r V2 A m;rw [aJ] at m;obtain ⟨B,C,D,rfl,g⟩:=m;refine qvJ ⟨rfl,λF o E f=>.inr ⟨⟨E,0,none⟩,decide (-q.num<0),B,C,D,i,j,l,rfl,?_,?_,?_,?_,?_,?_⟩⟩;{rw [add_zero'];exact dH (xs:=[_,_,_]) f rfl};{rw [add_zero'];exact dH (xs:=[_,_,_]) f rfl};{rw [add_zero'];exact dH (xs:=[_,_,_]) f rfl};{exact ⟨_,_,_,rfl,g.le o⟩};{exact x.le (e.m (A.m o))};{unfold Wd;rw [Qs7,Wk7,Qd6];exact hw}}}
theorem _root_.Go.Eng.Sz.neg (h:Sz k q):Sz k (-q):=by unfold Sz;rw [Qs7,Wk7,Qd6];exact h
theorem Ba (z:Int)(g:Nat)(h:(g:Int)∣z):(z / g).natAbs<=z.natAbs:=by rw [Qs4 h,Qx6];exact Qm7 _ _
theorem _root_.Go.Eng.Sz.mkRat {k:Nat}{z:Int}{d:Nat}(h1:z.natAbs<2^k)(h2:d<2^k)(hk:0<k):Sz k (mkRat z d):=by have a:1<2^k:=Qc8 (by omega);unfold Sz;rw [Qr8,Wq1];split;{exact ⟨Qk3 k,a⟩};{refine ⟨Qm0 (Ba _ _ (Int.ofNat_dvd_left.2 (Qb9 _ _))) h1,Qm0 (Qm7 _ _) h2⟩}
theorem cu {a b m:Nat}(h1:a<2^k)(h2:b<2^m):a*b<2^(k+m):=by rw [Qz9];exact Qt4 h1 h2
theorem zK {m:Nat}(hx:Sz k x)(hy:Sz m y):(x.num*y.den).natAbs<2^(k+m)/\(y.num*x.den).natAbs<2^(k+m)/\(x.num*y.den+y.num*x.den).natAbs<2^(k+m+1)/\x.den*y.den<2^(k+m):=by have a:(x.num*y.den).natAbs<2^(k+m):=by{rw [Qv3,Qx6];exact cu hx.1 hy.2};have b:(y.num*x.den).natAbs<2^(k+m):=by{rw [Qv3,Qx6,Ww8];exact cu hy.1 hx.2};refine ⟨a,b,?_,cu hx.2 hy.2⟩;rw [Qk8];omega
theorem _root_.Go.Eng.Sz.add {m:Nat}(hx:Sz k x)(hy:Sz m y):Sz (k+m+1) (x+y):=by obtain ⟨-,-,a,b⟩:=zK hx hy;rw [Rat.add_def'];exact Go.Eng.Sz.mkRat a (Qy6 b (Qx5 (by omega) (by omega))) (by omega)
theorem _root_.Go.Eng.Sz.sub {m:Nat}(hx:Sz k x)(hy:Sz m y):Sz (k+m+1) (x-y):=by rw [Qr9];exact hx.add hy.neg
theorem _root_.Go.Eng.Sz.mul {m:Nat}(hx:Sz k x)(hy:Sz m y):Sz (k+m+1) (x*y):=by rw [Wz6];refine (Go.Eng.Sz.mkRat (k:=k+m+1) ?_ ?_ (by omega));{rw [Qv3];exact Qy6 (cu hx.1 hy.1) (Qx5 (by omega) (by omega))};{exact Qy6 (cu hx.2 hy.2) (Qx5 (by omega) (by omega))}
theorem Fo {w:un}(hx:RR V v x)(hy:RR V w y){m:Nat}(hk:Sz k x)(hm:Sz m y)(hkm:k+m<1099511627776:=by omega) :
  aa prog 229 #[v,w] V λr V'=>RR V' r (x+y):=by
 obtain ⟨r0,r1,r2,rfl⟩:=hx.shape;obtain ⟨s0,s1,s2,rfl⟩:=hy.shape;have l:x+y=mkRat (x.num*y.den+y.num*x.den) (x.den*y.den):=Rat.add_def' x y;have ⟨b1,b2,b3,b4⟩:=zK hk hm
 have gen:(∀V46:ut,V.Le V46->aa prog 149 #[hF #[qvZ .i64 r0,qvZ .i64 r1,dZ r2]] V46 λz a0=>∃ZF:md,∃(R_:OA)(Ry PS:Nat),z=hF #[dQ ZF,qD R_ Ry PS]/\(∀ZB:ut,a0.Le ZB->aa prog 147 #[hF #[qvZ .i64 s0,qvZ .i64 s1,dZ s2]] ZB λA a1=>∃(p55_:OA)(n55_ ZV:Nat),A=qD p55_ n55_ ZV/\(∀V50:ut,a1.Le V50->aa prog 259 #[hF #[dQ ZF,qD R_ Ry PS],hF #[dQ false,qD p55_ n55_ ZV]] V50 λB a2=>∃ZG:md,∃(Sa:OA)(Rz PT:Nat),B=hF #[dQ ZG,qD Sa Rz PT]/\(∀V52:ut,a2.Le V52->aa prog 149 #[hF #[qvZ .i64 s0,qvZ .i64 s1,dZ s2]] V52 λC a3=>∃ZH:md,∃(p59_:OA)(n59_ ZY:Nat),C=hF #[dQ ZH,qD p59_ n59_ ZY]/\(∀V54:ut,a3.Le V54->aa prog 147 #[hF #[qvZ .i64 r0,qvZ .i64 r1,dZ r2]] V54 λD a4=>∃(Sb:OA)(RB PU:Nat),D=qD Sb RB PU/\(∀V56:ut,a4.Le V56->aa prog 259 #[hF #[dQ ZH,qD p59_ n59_ ZY],hF #[dQ false,qD Sb RB PU]] V56 λE a5=>∃ZI:md,∃(Sc:OA)(RG PV:Nat),E=hF #[dQ ZI,qD Sc RG PV]/\(∀V58:ut,a5.Le V58->aa prog 258 #[hF #[dQ ZG,qD Sa Rz PT],hF #[dQ ZI,qD Sc RG PV]] V58 λF a6=>∃ZJ:md,∃(p64_:OA)(n64_ Z6:Nat),F=hF #[dQ ZJ,qD p64_ n64_ Z6]/\(∀V60:ut,a6.Le V60->aa prog 147 #[hF #[qvZ .i64 r0,qvZ .i64 r1,dZ r2]] V60 λG a7=>∃(p65_:OA)(n65_ Z9:Nat),G=qD p65_ n65_ Z9/\(∀V62:ut,a7.Le V62->aa prog 147 #[hF #[qvZ .i64 s0,qvZ .i64 s1,dZ s2]] V62 λH a8=>∃(Se:OA)(n66_ Z_:Nat),H=qD Se n66_ Z_/\(∀V64:ut,a8.Le V64->aa prog 146 #[qD p65_ n65_ Z9,qD Se n66_ Z_] V64 λI a9=>∃(p67_:OA)(n67_ aaa:Nat),I=qD p67_ n67_ aaa/\(∀V66:ut,a9.Le V66->aa prog 143 #[hF #[dQ ZJ,qD p64_ n64_ Z6],qD p67_ n67_ aaa] V66 λJ b0=>∃x68_:Int,∃x69_:Int,∃p70_:OA,J=hF #[qvZ .i64 x68_,qvZ .i64 x69_,dZ p70_]/\(∀V68:ut,b0.Le V68->RR V68 (hF #[qvZ .i64 x68_,qvZ .i64 x69_,dZ p70_]) (x+y))))))))))))):=by intro s f;refine (gZ (hx.le f) hk).s ?_;rintro r V2 g ⟨p1,n1,c1,rfl,K⟩;refine qvJ ⟨rfl,λV3 i=>(fW (hy.le (f.m (g.m i))) hm).s ?_⟩;rintro r V4 L ⟨p2,n2,c2,rfl,M⟩;have q1:=ag hk.1;have q2:=ag hk.2;have q3:=ag hm.1;have q4:=ag hm.2;refine ⟨_,_,_,rfl,λV5 t=>(jq _ false (K.le (i.m (L.m t))) (M.le t)).s ?_⟩;rintro r V6 T h6;rw [aJ,sP,af] at h6;obtain ⟨p3,n3,c3,rfl,u⟩:=h6;refine qvJ ⟨rfl,λV7 N=>(gZ (hy.le (f.m (g.m (i.m (L.m (t.m (T.m N))))))) hm).s ?_⟩;rintro r V8 U ⟨p4,n4,c4,rfl,W⟩;refine qvJ ⟨rfl,λV9 O=>(fW (hx.le (f.m (g.m (i.m (L.m (t.m (T.m (N.m (U.m O))))))))) hk).s ?_⟩;rintro r fy j ⟨p5,n5,c5,rfl,X⟩;refine ⟨_,_,_,rfl,λfC P=>(jq _ false (W.le (O.m (j.m P))) (X.le P)).s ?_⟩;rintro r gI bW Q;rw [aJ,sP,af] at Q;obtain ⟨p6,n6,c6,rfl,g6⟩:=Q;have q5:=ag b1;have q6:=ag b2;refine qvJ ⟨rfl,λiT bP=>(CQ _ _ (u.le (N.m (U.m (O.m (j.m (P.m (bW.m bP))))))) (g6.le bP) (by omega)).s ?_⟩;rintro r lP cN Tl;rw [aJ,aJ] at Tl;obtain ⟨p7,n7,c7,rfl,g7⟩:=Tl;have VI:=f.m (g.m (i.m (L.m (t.m (T.m (N.m (U.m (O.m (j.m (P.m (bW.m (bP.m cN))))))))))));refine qvJ ⟨rfl,λjJ cF=>(fW (hx.le (VI.m cF)) hk).s ?_⟩;rintro r kI cB ⟨p8,n8,c8,rfl,g8⟩;refine ⟨_,_,_,rfl,λlQ cG=>(fW (hy.le (VI.m (cF.m (cB.m cG)))) hm).s ?_⟩;rintro r mM cq ⟨p9,n9,c9,rfl,g9⟩;refine ⟨_,_,_,rfl,λpf dE=>(iY (g8.le (cG.m (cq.m dE))) (g9.le dE)).s ?_⟩;rintro r vG e_ ⟨Pq,c0,d0,rfl,R⟩;rw [af,af] at R;have q7:=ag b3;have q8:=ag b4;refine ⟨_,_,_,rfl,λqF gQ=>(eA _ (g7.le (cF.m (cB.m (cG.m (cq.m (dE.m (e_.m gQ))))))) (R.le gQ) (by omega)).s ?_⟩;rintro r tK gR o;rw [aJ,af,←l] at o;obtain ⟨n,d,p,rfl⟩:=o.shape;exact ⟨_,_,_,rfl,λvH iu=>o.le iu⟩
 have lift:∀s:ut,V.Le s->∀V2:ut,s.Le V2->V.Le V2:=λ_ h _ h'=>h.m h';rcases hx with ⟨ex,wx⟩|⟨a,b,p,n,c,p',n',c',ex,-,-,-,-,-,wx⟩
 ·rcases hy with ⟨S,wy⟩|⟨a,b,p,n,c,p',n',c',S,-,-,-,-,-,wy⟩
  ·simp only [Value.agg.injEq,Qm3,Qk4,Value.int.injEq,Value.pointer.injEq,true_and,and_true] at ex S;obtain ⟨rfl,rfl,rfl⟩:=ex;obtain ⟨rfl,rfl,rfl⟩:=S;obtain ⟨b5,d1⟩:=wx;obtain ⟨b6,d2⟩:=wy;have dx:=x.den_nz;have dy:=y.den_nz;have e1:i64.wrap ((x.den:Int)-1+1)=x.den:=by rw [aw (by omega)];omega
   have e2:i64.wrap ((y.den:Int)-1+1)=y.den:=by rw [aw (by omega)];omega
   refine mK V _ ⟨λ_=>⟨λ_ _=>True,⟨λ_=>⟨λY=>⟨λZ s f=>?_,λZ=>?_⟩,λY=>?_⟩,(λh=>nomatch h)⟩,λ_ s f _=>⟨by trivial,λV2 g=>gen V2 (f.m g)⟩⟩,(λh=>nomatch h)⟩
   ·have Y:x.den=1:=by{rw [beq_iff_eq] at Y;omega};have Z:y.den=1:=by{rw [beq_iff_eq] at Z;omega};rw [aw (by omega)];refine (r_ _ (by omega)).s ?_;rintro r V2 g q;have e:((x.num+y.num:Int):Rat)=x+y:=by{rw [l,Y,Z];simp only [Qk5,Int.natCast_one,Int.mul_one];exact (mkRat_one _).symm};rw [e] at q;obtain ⟨n,d,p,rfl⟩:=q.shape;exact ⟨_,_,_,rfl,λV3 i=>q.le i⟩
   all_goals
    rw [e1,e2];refine λV4 L=>(iE _ _ b5).s ?_;rintro r V5 t ⟨z1,rfl,b7⟩;refine ⟨_,_,rfl,λV6 T=>(iE _ _ b6).s ?_⟩;rintro r V7 N ⟨z2,rfl,b8⟩;refine ⟨_,_,rfl,λV8 U=>(iE _ _ (by omega)).s ?_⟩;rintro r V9 O ⟨z3,rfl,b9⟩;refine ⟨_,_,rfl,λK=>⟨λM=>⟨λu=>⟨λW=>⟨λX fy j=>?_,λ_=>⟨(),by and_intros<;>rfl,trivial⟩⟩,λ_=>⟨(),by and_intros<;>rfl,trivial⟩⟩,λ_=>⟨(),by and_intros<;>rfl,trivial⟩⟩,λ_=>⟨(),by and_intros<;>rfl,trivial⟩⟩,λ_=>⟨(),by and_intros<;>rfl,trivial⟩⟩;rw [decide_eq_true_eq] at K M u W X;have k1:=b7 K;have k2:=b8 M;have k3:=b9 u;rw [←k1] at K;rw [←k2] at M;rw [←Qn1,Qx6] at u;rw [←Qn1] at k3;rw [aw (by omega)] at W X ⊢;rw [k3];refine (ry _ _ (by omega) u (Qb6 dx dy)).s ?_;rintro r fC P q;rw [k1,k2,←l] at q;obtain ⟨n,d,p,rfl⟩:=q.shape;exact ⟨_,_,_,rfl,λV3 i=>q.le i⟩
  ·simp only [Value.agg.injEq,Qm3,Qk4,Value.int.injEq,Value.pointer.injEq,true_and,and_true] at ex S;obtain ⟨rfl,rfl,rfl⟩:=ex;obtain ⟨rfl,rfl,rfl⟩:=S;exact mK V _ ⟨λ_=>⟨λ_ _=>True,⟨(λh=>nomatch h),λ_=>⟨(),by and_intros<;>rfl,trivial⟩⟩,λ_ s f _=>⟨by trivial,λV2 g=>gen V2 (f.m g)⟩⟩,(λh=>nomatch h)⟩
 ·simp only [Value.agg.injEq,Qm3,Qk4,Value.int.injEq,Value.pointer.injEq,true_and,and_true] at ex;obtain ⟨rfl,rfl,rfl⟩:=ex;exact mK V _ ⟨(λh=>nomatch h),λ_=>gen⟩
end Go.Proofs.Tryz
