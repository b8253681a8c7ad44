import Derived.Test.YtobpmgpnbbcgjaaGreatDoorG12
set_option linter.all false
open Go.IntKind (i64 u64 u32)
open Go.Value renaming int→Ô,slice→dB,bool→Õ,tuple→æ,agg→qvK,pointer→qyQ
namespace Go.Proofs.Tryz
open Go.Eng Go.Big
section
variable{G b c i j k:Nat}{fs gs ks us vs:List Nat}{rest:List Value}
theorem _root_.Go.Eng.RD.rd0 {V:ut}{p:OA}{n:Nat}{ds:zA Nat}(h:RD V p n c ds){i:Int}{K:Int->Prop}(j:Nat)(u:i=j)(z:j<ds.length)(D:K ((ds[j]:Nat):Int)):(p.isSome=true)/\(0<=i/\i<(n:Int))/\∃x:Int,(∃a,ae p j=some a/\V.at a (Ô .u32 x))/\K x:=by have:=h.rd (K:=K) j u z D;subst u;simpa only [Ü,Ĝ] using this
theorem Wz (h:k<us.length):(aM us++rest)[0+k*1]?=some (Ô .u32 (us[k]:Int)):=by grind [List.getElem?_append_left,iE]
theorem Ai {x:Nat}(h:k<us.length:=by omega):(aM us++rest).set (0+k*1) (Ô .u32 (x:Int))=aM (us.set k x)++rest:=by rw [Ĉ,Ĝ,List.set_append_left _ _ (by simpa using h),bS]
theorem J6 {y m t s:Nat}(hm:(ah y).length=m)(E:0<m)(z:t=(ah y)[m-1]'ω)(D:s=32-dK t):s<32/\(ah (y*2^s)).length=m/\2147483648*4294967296^(m-1)<=y*2^s:=by have d:t<4294967296:=by{rw [z];exact (aN y).get _};have a:t≠0:=by{rw [z];have:=(lD y).last ω;simpa [hm] using this};have b:dK t<=32:=me.2 ω;have f:0<dK t:=by{unfold dK;rw [Ã a];omega};have e:=jd (ah y) (m-1) ω;rw [af,ļ ω,<-z] at e;simp only [fY,Ĩ,ě] at e;have c:=iG ((aN y).take (m-1));rw [è,ğ ω] at c;have k:2^dK t*2^s=4294967296:=by{rw [<-Đ,D,Nat.add_sub_cancel' b]};have g:2^(dK t-1)*2^s=2147483648:=by{rw [<-Đ,show dK t-1+s=31 from by omega]};have h:2147483648*4294967296^(m-1)<=y*2^s:=by{have:2^(dK t-1)*2^s*4294967296^(m-1)<=t*2^s*4294967296^(m-1):=Ā _ (Ā _ (Ad a));rw [g] at this;have l:t*2^s*4294967296^(m-1)=4294967296^(m-1)*t*2^s:=χ;have n:4294967296^(m-1)*t*2^s<=y*2^s:=Ā _ ω;omega};refine ⟨ω,?_,h⟩;have i:y*2^s<4294967296^m:=by{have j:y<4294967296^(m-1)*(t+1):=by{rw [ĭ,Ĝ];omega};have o:4294967296^(m-1)*(t+1)*2^s<=4294967296^(m-1)*2^dK t*2^s:=Ā _ (Ņ _ (vA t));have p:4294967296^(m-1)*2^dK t*2^s=4294967296^m:=by{grind [Nat.pow_succ,Nat.sub_add_cancel]};have q:=Qc6 j (ı s);omega};have r:=aP.2 i;have u:m-1<(ah (y*2^s)).length:=by{rw [yk];omega};omega
theorem top3 {us:zA Nat}{k:Nat}(h:k+2<us.length)(u:val (us.drop (k+3))=0):val us=((us[k+2]*4294967296+us[k+1])*4294967296+us[k])*4294967296^k+val (us.take k):=by have a:=jd us k ω;rw [Ĥ (i:=k+1) ω,Ĥ (i:=k+1+1) ω,bO,bO] at a;grind
theorem top2 {us:zA Nat}{k:Nat}(h:us.length=k+2:=by omega):val us=(us[k+1]*4294967296+us[k])*4294967296^k+val (us.take k):=by grind [jd,List.drop_eq_getElem_cons,bO,fY]
theorem bM (us:zA Nat)(k:Nat)(h:k<=us.length:=by omega):val us=val (us.take k)+4294967296^k*val (us.drop k):=by grind [List.take_append_drop,eQ]
theorem jT {us:zA Nat}{k:Nat}(h:val us<4294967296^k)(u:k<=us.length:=by omega):val (us.drop k)=0:=by have:=bM us k u;rcases Ĵ (val (us.drop k)) with e|e;{exact e};{have:4294967296^k*1<=4294967296^k*val (us.drop k):=Ņ _ e;omega}
theorem _root_.Go.Eng.RD.rdq {V:ut}{p:OA}{n:Nat}{ds:zA Nat}(h:RD V p n c ds){i:Int}{K:Int->Prop}(j:Nat)(u:i=j){d:Nat}(z:ds[j]?=some d)(D:K (d:Int)):(p.isSome=true)/\(0<=i/\i<(n:Int))/\∃x:Int,(∃a,ae p (i.toNat*1)=some a/\V.at a (Ô .u32 x))/\K x:=by have ⟨b,e⟩:=Ġ.1 z;exact h.rd j u b (by rw [e];exact D)
theorem lI {d:Nat}(h:us[k]?=some d):(aM us++rest)[0+k*1]?=some (Ô .u32 (d:Int)):=by grind [Wz]
structure Ii (us vs:List Nat) (j G i b c:Nat) (fs:List Nat):Prop where
 b1:b<=1
 c1:c<4294967296
 hi:i<=vs.length
 len:fs.length=us.length
 gg:cM fs
 dr:fs.drop (j+i)=us.drop (j+i)
 tk:fs.take j=us.take j
 eq:val (fs.take (j+i))+4294967296^j*(G*val (vs.take i))=val (us.take (j+i))+4294967296^j*4294967296^i*(c+b)
theorem Ii.read (h:Ii us vs j G i b c fs)(z:j+i<us.length):∃u,fs[j+i]?=some u/\us[j+i]?=some u:=by have:=Æ (λl=>l[0]?) h.dr;grind
theorem Ii.step (h:Ii us vs j G i b c fs)(hG:G<4294967296)(hdv:cM vs)(Pt:cM us)(hi:i<vs.length)(Z:j+i<us.length):∃u d N M cn cb:Nat,vs[i]?=some d/\fs[j+i]?=some u/\u64.wrap ((c:Int)+u64.wrap ((G:Int)*u64.wrap (d:Int)))=(cn:Int)/\(cn:Int).fdiv (2^32)=(cb:Int) /\ (u64.wrap (u64.wrap (u64.wrap (u:Int)-bY .and .u64 (cn:Int) 4294967295)-(b:Int))).fdiv (2^63)=(N:Int) /\ u32.wrap (u64.wrap (u64.wrap (u64.wrap (u:Int)-bY .and .u64 (cn:Int) 4294967295)-(b:Int)))=(M:Int)/\M<4294967296 /\ Ii us vs j G (i+1) N cb (fs.set (j+i) M):=by have ⟨u,k,a⟩:=h.read Z;obtain ⟨l,m,-,n,o,A,p,q⟩:=h;have B:=hdv.get (i:=i) hi;have r:=Pt u (Qb4 a);have C:G*vs[i]<=4294967295*4294967295:=Qg0 ω ω;refine ⟨u,vs[i],?_⟩;have s:u64.wrap ((c:Int)+u64.wrap ((G:Int)*u64.wrap ((vs[i]:Nat):Int)))=((c+G*vs[i]:Nat):Int):=by{rw [br (x:=((vs[i]:Nat):Int)) ω,<-Ŝ];generalize G*vs[i]=gd at *;rw [br (x:=((gd:Nat):Int)) ω,br ω];omega};have t:=FR (x:=((u:Int)-((c+G*vs[i])%4294967296:Nat)-b)%18446744073709551616) q m l r rfl;have hand:bY .and .u64 ((c+G*vs[i]:Nat):Int) 4294967295=(((c+G*vs[i])%4294967296:Nat):Int):=and64 _;have e:u64.wrap (u64.wrap (u64.wrap (u:Int)-(((c+G*vs[i])%4294967296:Nat):Int))-(b:Int))=((u:Int)-((c+G*vs[i])%4294967296:Nat)-b)%18446744073709551616:=by{rw [br (x:=(u:Int)) ω,y_,y_];omega};have v:(c+G*vs[i]) / 4294967296<4294967296:=by{generalize G*vs[i]=gd at *;omega};generalize ((u:Int)-((c+G*vs[i])%4294967296:Nat)-b)%18446744073709551616=O at *;obtain ⟨E,F,H,y⟩:=t;obtain ⟨N,f⟩:∃N:Nat,O / 9223372036854775808=N:=⟨(O / 9223372036854775808).toNat,ω⟩;obtain ⟨M,g⟩:∃M:Nat,O%4294967296=M:=⟨(O%4294967296).toNat,ω⟩;rw [f,g] at y;have z:M<4294967296:=ω;have D:N<=1:=ω;refine ⟨N,M,c+G*vs[i],(c+G*vs[i]) / 4294967296,ñ hi,k,s,?_,?_,?_,z,D,v,hi,by simpa using n,o.set _ _ z,?_,?_,?_⟩;{rw [jH]};{rw [hand,e,TQ,f]};{rw [hand,e,kz,g]};{rw [Qn5 ω];have:=Æ (List.drop 1) A;simpa [ň] using this};{rw [Qp4,Qd6 (by simp;omega)];exact p};{have w:us[j+i]=u:=by{rw [ñ Z] at a;exact ő a};rw [show j+(i+1)=j+i+1 from by omega,aU _ _ _,aA us (j+i),aA vs i hi,ġ,Đ,w];exact y}
theorem RB {t a:Nat}(u:ks.take j=us.take j)(z:j<=ks.length)(hu:j<=us.length)(h:val ks+4294967296^j*a=val us+4294967296^j*t):val (ks.drop j)+a=val (us.drop j)+t:=by have b:=bM ks j z;have c:=bM us j hu;rw [u] at b;have:4294967296^j*(val (ks.drop j)+a)=4294967296^j*(val (us.drop j)+t):=by{rw [ĭ,ĭ];omega};grind [Nat.eq_of_mul_eq_mul_left]
theorem Ii.fin (h:Ii us vs j G vs.length b c fs)(Pt:cM us)(hj:j+vs.length<us.length)(hz:val (us.drop (j+vs.length+1))=0):∃u ob Z:Nat,fs[j+vs.length]?=some u /\ (u64.wrap (u64.wrap (u64.wrap (u:Int)-(c:Int))-(b:Int))).fdiv (2^63)=(ob:Int) /\ u32.wrap (u64.wrap (u64.wrap (u64.wrap (u:Int)-(c:Int))-(b:Int)))=(Z:Int)/\Z<4294967296/\ob<=1 /\ cM (fs.set (j+vs.length) Z)/\(fs.set (j+vs.length) Z).length=us.length/\(fs.set (j+vs.length) Z).take j=us.take j/\val ((fs.set (j+vs.length) Z).drop (j+vs.length+1))=0 /\ val ((fs.set (j+vs.length) Z).drop j)+G*val vs=val (us.drop j)+4294967296^(vs.length+1)*ob:=by have ⟨u,r,f⟩:=h.read hj;obtain ⟨s,i,-,t,v,E,w,l⟩:=h;have y:=Pt u (Qb4 f);have z:us[j+vs.length]=u:=by{rw [ñ hj] at f;exact ő f};rw [ď] at l;have k:=FR (g:=G) (d:=0) (Y:=val vs) (x:=((u:Int)-((c+G*0)%4294967296:Nat)-b)%18446744073709551616) l i s y rfl;simp only [Ĩ,ě] at k;rw [Ģ i,Ś i,Ĉ] at k;have m:u64.wrap (u64.wrap (u64.wrap (u:Int)-(c:Int))-(b:Int))=((u:Int)-(c:Int)-b)%18446744073709551616:=by{rw [br (x:=(u:Int)) ω,y_,y_];omega};generalize ((u:Int)-(c:Int)-b)%18446744073709551616=xx at *;obtain ⟨J,K,L,C⟩:=k;obtain ⟨ob,n⟩:∃ob:Nat,xx / 9223372036854775808=ob:=⟨(xx / 9223372036854775808).toNat,ω⟩;obtain ⟨Z,o⟩:∃Z:Nat,xx%4294967296=Z:=⟨(xx%4294967296).toNat,ω⟩;rw [n,o] at C;simp only [Ü] at C;have D:Z<4294967296:=ω;have F:ob<=1:=ω;obtain ⟨e,a⟩:∃e,e=fs.set (j+vs.length) Z:=⟨_,rfl⟩;refine ⟨u,ob,Z,r,by rw [m,TQ,n],by rw [m,kz,o],D,F,?_⟩;rw [<-a];have A:e.length=us.length:=by{rw [a];simpa using t};have B:cM e:=by{rw [a];exact v.set _ _ D};have p:e.take j=us.take j:=by{rw [a,Qp4,Qd6 (by simp;omega)];exact w};have q:e.drop (j+vs.length+1)=us.drop (j+vs.length+1):=by{rw [a,Qn5 ω];have:=Æ (List.drop 1) E;simpa using this};refine ⟨B,A,p,by rw [q];exact hz,RB p ω ω ?_⟩;have H:=bM e (j+vs.length+1);have I:=bM us (j+vs.length+1);have M:val (e.take (j+vs.length+1))=val (fs.take (j+vs.length))+4294967296^j*4294967296^vs.length*Z:=by{rw [a,aU _ _ _,Đ]};have N:val (us.take (j+vs.length+1))=val (us.take (j+vs.length))+4294967296^j*4294967296^vs.length*u:=by{rw [aA us (j+vs.length),Đ,z]};rw [q,hz,Ĩ,ě] at H;rw [hz,Ĩ,ě] at I;have O:4294967296^j*(4294967296^vs.length*4294967296)*ob=4294967296^j*(4294967296^(vs.length+1)*ob):=by{rw [ġ];grind};omega
structure H_ (ks vs:List Nat) (j i c:Nat) (gs:List Nat):Prop where
 c1:c<=1
 hi:i<=vs.length
 len:gs.length=ks.length
 gg:cM gs
 dr:gs.drop (j+i)=ks.drop (j+i)
 tk:gs.take j=ks.take j
 eq:val (gs.take (j+i))+4294967296^j*4294967296^i*c=val (ks.take (j+i))+4294967296^j*val (vs.take i)
theorem H_.read (h:H_ ks vs j i c gs)(z:j+i<ks.length):∃u,gs[j+i]?=some u/\ks[j+i]?=some u:=by have:=Æ (λl=>l[0]?) h.dr;grind
theorem H_.step (h:H_ ks vs j i c gs)(hdv:cM vs)(hdk:cM ks)(hi:i<vs.length)(z:j+i<ks.length):∃u d D cn E:Nat,vs[i]?=some d/\gs[j+i]?=some u/\u64.wrap ((c:Int)+u64.wrap (u64.wrap (u:Int)+u64.wrap (d:Int)))=(cn:Int)/\(cn:Int).fdiv (2^32)=(E:Int) /\ u32.wrap (cn:Int)=(D:Int)/\H_ ks vs j (i+1) E (gs.set (j+i) D):=by have ⟨u,b,a⟩:=h.read z;obtain ⟨o,-,e,f,p,g,k⟩:=h;have q:=hdv.get (i:=i) hi;have r:=hdk u (Qb4 a);have l:ks[j+i]=u:=by{rw [ñ z] at a;exact ő a};obtain ⟨t5,m⟩:∃t5,t5=c+u+vs[i]:=⟨_,rfl⟩;have n:u64.wrap ((c:Int)+u64.wrap (u64.wrap (u:Int)+u64.wrap ((vs[i]:Nat):Int)))=(t5:Int):=by{rw [br (x:=((vs[i]:Nat):Int)) ω,br (x:=(u:Int)) ω,br (x:=(u:Int)+_) ω,br ω];omega};refine ⟨u,vs[i],t5%4294967296,t5,t5 / 4294967296,ñ hi,b,n,by rw [jH],by rw [kz];omega,ω,hi,by simpa using e,f.set _ _ ω,?_,?_,?_⟩;{rw [Qn5 ω];have:=Æ (List.drop 1) p;simpa [ň] using this};{rw [Qp4,Qd6 (by simp;omega)];exact g};{rw [show j+(i+1)=j+i+1 from by omega,aU _ _ _,aA ks (j+i),aA vs i hi,ġ,Đ,l];exact (EO k m)}
theorem H_.fin (h:H_ ks vs j vs.length c gs)(hdk:cM ks)(O:j+vs.length<ks.length)(N:val (ks.drop (j+vs.length+1))=0):∃u F M:Nat,gs[j+vs.length]?=some u/\u32.wrap ((u:Int)+u32.wrap (c:Int))=(F:Int)/\M<=1 /\ cM (gs.set (j+vs.length) F)/\(gs.set (j+vs.length) F).length=ks.length/\(gs.set (j+vs.length) F).take j=ks.take j/\val ((gs.set (j+vs.length) F).drop (j+vs.length+1))=0 /\ val ((gs.set (j+vs.length) F).drop j)+4294967296^(vs.length+1)*M=val (ks.drop j)+val vs:=by have ⟨u,k,e⟩:=h.read O;obtain ⟨v,-,l,m,w,n,f⟩:=h;have y:=hdk u (Qb4 e);have o:ks[j+vs.length]=u:=by{rw [ñ O] at e;exact ő e};rw [ď] at f;have p:=EO (d:=0) (u:=u) (Y:=val vs) (t:=c+u) f;simp only [Ĩ,ě] at p;have z:(c+u)%4294967296<4294967296:=ω;have q:(c+u) / 4294967296<=1:=ω;have hw:u32.wrap ((u:Int)+u32.wrap (c:Int))=(((c+u)%4294967296:Nat):Int):=by{rw [vZ (x:=(c:Int)) ω,kz];omega};generalize (c+u)%4294967296=F at *;generalize (c+u) / 4294967296=M at *;obtain ⟨b,a⟩:∃b,b=gs.set (j+vs.length) F:=⟨_,rfl⟩;refine ⟨u,F,M,k,hw,q,?_⟩;rw [<-a];have r:b.length=ks.length:=by{rw [a];simpa using l};have s:cM b:=by{rw [a];exact m.set _ _ z};have g:b.take j=ks.take j:=by{rw [a,Qp4,Qd6 (by simp;omega)];exact n};have i:b.drop (j+vs.length+1)=ks.drop (j+vs.length+1):=by{rw [a,Qn5 ω];have:=Æ (List.drop 1) w;simpa using this};refine ⟨s,r,g,by rw [i];exact N,RB g ω ω ?_⟩;have A:=bM b (j+vs.length+1);have B:=bM ks (j+vs.length+1);have C:val (b.take (j+vs.length+1))=val (gs.take (j+vs.length))+4294967296^j*4294967296^vs.length*F:=by{rw [a,aU _ _ _,Đ]};have D:val (ks.take (j+vs.length+1))=val (ks.take (j+vs.length))+4294967296^j*4294967296^vs.length*u:=by{rw [aA ks (j+vs.length),Đ,o]};rw [i,N,Ĩ,ě] at A;rw [N,Ĩ,ě] at B;have E:4294967296^j*(4294967296^vs.length*4294967296)*M=4294967296^j*(4294967296^(vs.length+1)*M):=by{rw [ġ];grind};omega
structure GK (v1 v2 v' u0 u1 u2 t' B T Y:Nat):Prop where
 hY:Y=(v1*4294967296+v2)*B+v'
 hT:T=((u0*4294967296+u1)*4294967296+u2)*B+t'
 xr:v'<B
 Jb:t'<B
 v1l:2147483648<=v1
 v1u:v1<4294967296
 v2u:v2<4294967296
 u0u:u0<4294967296
 u1u:u1<4294967296
 u2u:u2<4294967296
 lt:T<4294967296*Y
structure GI (v1 f T Y G ρ:Nat):Prop where
 r:ρ<4294967296
 g:G<=4294967297
 eq:G*v1+ρ=f
 lt:T<(G+1)*Y
structure GF (T Y G:Nat):Prop where
 g:G<4294967296
 lt:T<(G+1)*Y
 gt:G*Y<T+Y
section
variable {v1 v2 v' u0 u1 u2 t' B T Y G ρ:Nat}
theorem GK.start (h:GK v1 v2 v' u0 u1 u2 t' B T Y):GI v1 (u0*4294967296+u1) T Y ((u0*4294967296+u1) / v1) ((u0*4294967296+u1)%v1):=by have c:=Fq h.hY h.hT h.xr h.lt;have d:=h.v1l;have e:=h.v1u;have f:=h.v2u;have a:=Qd4 (u0*4294967296+u1) v1;have b:=Ě (u0*4294967296+u1) (show 0<v1 by omega);refine ⟨ω,?_,by rw [Ĺ];exact a,?_⟩;{have:(u0*4294967296+u1) / v1<4294967298:=by{rw [Qn3 ω];omega};omega};{rw [Ĺ] at a;exact Sa h.hY h.hT h.Jb h.u2u a b}
theorem GK.W8 (h:GK v1 v2 v' u0 u1 u2 t' B T Y)(u:4294967296<=G):T<G*Y:=ĺ h.lt (Ā _ u)
theorem GK.dec (h:GK v1 v2 v' u0 u1 u2 t' B T Y)(hi:GI v1 (u0*4294967296+u1) T Y G ρ)(u:ρ*4294967296+u2<G*v2):T<G*Y:=Po h.hY h.hT h.Jb hi.eq u
theorem GK.last (h:GK v1 v2 v' u0 u1 u2 t' B T Y)(hi:GI v1 (u0*4294967296+u1) T Y G ρ)(u:G<4294967296)(z:G*v2<=ρ*4294967296+u2):GF T Y G:=
 ⟨u,hi.lt,Fp h.hY h.hT h.xr (by have:=h.v1l;omega) ω hi.eq z⟩
theorem GK.down (h:GK v1 v2 v' u0 u1 u2 t' B T Y)(hi:GI v1 (u0*4294967296+u1) T Y G ρ)(u:T<G*Y):1<=G/\(G-1)*v1+(ρ+v1)=u0*4294967296+u1/\T<(G-1+1)*Y:=by grind [hi.eq,Nat.add_mul]
theorem GK.Xd (h:GK v1 v2 v' u0 u1 u2 t' B T Y)(hi:GI v1 (u0*4294967296+u1) T Y G ρ)(u:T<G*Y)(z:4294967296<=ρ+v1):1<=G/\GF T Y (G-1):=by have ⟨a,e,b⟩:=h.down hi u;have d:=Fq h.hY h.hT h.xr h.lt;have g:=h.v2u;have f:G-1<4294967296:=by{rcases Ē (G-1) 4294967296 with c|c;{exact c};{have:=Ā v1 c;omega}};refine ⟨a,f,b,Fp h.hY h.hT h.xr ω ω e ?_⟩;have i:(G-1)*v2<=4294967295*4294967295:=Qg0 ω ω;omega
theorem GK.Xe (h:GK v1 v2 v' u0 u1 u2 t' B T Y)(hi:GI v1 (u0*4294967296+u1) T Y G ρ)(u:T<G*Y)(z:ρ+v1<4294967296):1<=G/\GI v1 (u0*4294967296+u1) T Y (G-1) (ρ+v1):=by have ⟨a,c,b⟩:=h.down hi u;have d:=hi.g;exact ⟨a,z,ω,c,b⟩
theorem GK.words (h:GK v1 v2 v' u0 u1 u2 t' B T Y):bY .or .u64 (u64.wrap (u64.wrap (u0:Int)*2^32)) (u64.wrap (u1:Int))=((u0*4294967296+u1:Nat):Int) /\ u64.wrap (((u0*4294967296+u1:Nat):Int).tdiv (v1:Int))=(((u0*4294967296+u1) / v1:Nat):Int) /\ ((u0*4294967296+u1:Nat):Int).tmod (v1:Int)=(((u0*4294967296+u1)%v1:Nat):Int):=by have a:=h.u0u;have b:=h.u1u;have c:((2:Int)^32)=4294967296:=φ;refine ⟨?_,?_,?_⟩;{rw [c,br (x:=(u0:Int)) ω,br (x:=(u1:Int)) ω,br ω,JD _ _ a b];omega};{rw [Qj4 ω,<-Int.natCast_ediv];have d:(u0*4294967296+u1) / v1<=u0*4294967296+u1:=Qc7 _ _;generalize (u0*4294967296+u1) / v1=qq at *;rw [br ω]};{rw [Qk7 ω,<-Wz8]}
theorem GK.ZZ (h:GK v1 v2 v' u0 u1 u2 t' B T Y)(hi:GI v1 (u0*4294967296+u1) T Y G ρ):u64.wrap ((G:Int)*(v2:Int))=((G*v2:Nat):Int)/\bY .or .u64 (u64.wrap ((ρ:Int)*2^32)) (u64.wrap (u2:Int))=((ρ*4294967296+u2:Nat):Int) /\ u64.wrap ((ρ:Int)+v1)=((ρ+v1:Nat):Int)/\(1<=G->u64.wrap ((G:Int)-1)=((G-1:Nat):Int)):=by have a:=h.u2u;have b:=hi.r;have c:=hi.g;have f:=h.v2u;have d:=h.v1u;have e:((2:Int)^32)=4294967296:=φ;refine ⟨?_,?_,?_,?_⟩;{have d:G*v2<=4294967297*4294967295:=Qg0 c ω;rw [<-Ŝ,br ω]};{rw [e,br (x:=(ρ:Int)*4294967296) ω,br ω,JD _ _ b a];omega};{rw [br ω];omega};{intro h;rw [br ω];omega}
end
end
section
variable{X Y c e n n8:Nat}{qs us:List Nat}{V:Ó}{p q:OA}
structure OI (X Y n n8:Nat) (j:Int) (us qs:List Nat):Prop where
 j0:-1<=j
 j1:j<(n+1-n8:Nat)
 ul:us.length=n+1
 ud:cM us
 ql:qs.length=n+1-n8
 qd:cM qs
 eq:X=val us+Y*(4294967296^(j+1).toNat*val (qs.drop (j+1).toNat))
 lt:val (us.drop (j+1).toNat)<Y
structure DK (Y n8 k v1 v2:Nat):Prop where
 hn8:n8=k+2
 len:(ah Y).length=n8
 g1:(ah Y)[k+1]?=some v1
 g2:(ah Y)[k]?=some v2
 l1:2147483648<=v1
 u1:v1<4294967296
 u2:v2<4294967296
 eq:Y=(v1*4294967296+v2)*4294967296^k+val ((ah Y).take k)
 lt:val ((ah Y).take k)<4294967296^k
 top:Y<4294967296^n8
theorem DK.of (u:(ah Y).length=n8)(D:2<=n8)(z:2147483648*4294967296^(n8-1)<=Y):∃k v1 v2,DK Y n8 k v1 v2:=by obtain ⟨k,g⟩:∃k,n8=k+2:=⟨n8-2,ω⟩;have a:=top2 (us:=ah Y) (k:=k);rw [af] at a;have e:=iG ((aN Y).take k);rw [è,ğ ω] at e;have b:=(aN Y).get (i:=k+1) ω;have c:=(aN Y).get (i:=k) ω;have d:2147483648<=(ah Y)[k+1]:=by{rcases Ē (ah Y)[k+1] 2147483648 with f|f;{exfalso;have h:((ah Y)[k+1]*4294967296+(ah Y)[k])+1<=2147483648*4294967296:=ω;have j:=Ā (4294967296^k) h;rw [đ,Ŋ] at j;have l:2147483648*4294967296^(k+1)=2147483648*4294967296*4294967296^k:=by{rw [ġ];grind};rw [show n8-1=k+1 from by omega,l] at z;omega};{exact f}};exact ⟨k,_,_,g,u,ñ _,ñ _,d,b,c,a,e,by rw [<-u,<-aP];exact Ù _⟩
theorem OI.start {x X Y n n8 s:Nat}(hX:X=x*2^s)(u:(ah x).length=n)(z:s<32)(hn8:2<=n8)(D:n8<=n)(hY:2147483648*4294967296^(n8-1)<=Y)(hXl:(ah X).length<=n+1:=by omega):OI X Y n n8 (((n+1-n8:Nat):Int)-1) ((ah X++[0,0]).take (n+1)) (List.replicate (n+1-n8) 0):=by have j:n<=(ah X).length:=by{rw [<-u,hX];exact aQ (Nat.le_mul_of_pos_right _ (ı s))};have g:((ah X++[0,0]).take (n+1)).length=n+1:=by{simp;omega};have a:val ((ah X++[0,0]).take (n+1))=X:=by{have b:val (ah X++[0,0])=X:=by{rw [eQ,af];simp};have c:=bM (ah X++[0,0]) (n+1) (by simp;omega);have d:val ((ah X++[0,0]).drop (n+1))=0:=by{refine jT ?_ (by simp;omega);rw [b];exact aP.1 ω};rw [d,Ĩ,ě,b] at c;exact c.symm};have e:(((n+1-n8:Nat):Int)-1+1).toNat=n+1-n8:=ω;refine ⟨ω,ω,g,(cM.append.2 ⟨aN X,by simp [cM]⟩).take _,ψ,cM.rep _,?_,?_⟩;{rw [e,ļ ψ,fY,Ĩ,Ĩ,ě,a]};{rw [e];have b:=bM ((ah X++[0,0]).take (n+1)) (n+1-n8);rw [a] at b;have f:X<4294967296^n*2^s:=by{rw [hX];exact Qc6 (by rw [<-u];exact aP.1 (Ù _)) (ı s)};have h:2^s<=2^31:=ĵ ω ω;have c:4294967296^n*2^s<=4294967296^(n+1-n8)*Y:=by{have i:4294967296^n=4294967296^(n+1-n8)*4294967296^(n8-1):=by{rw [<-Đ];congr 1;omega};rw [i,ń];refine Ņ _ ?_;have k:2^s*4294967296^(n8-1)<=2147483648*4294967296^(n8-1):=Ā _ ω;rw [Ĺ];omega};have d:4294967296^(n+1-n8)*val (((ah X++[0,0]).take (n+1)).drop (n+1-n8))<4294967296^(n+1-n8)*Y:=ω;exact Nat.lt_of_mul_lt_mul_left d}
theorem OI.body {k v1 v2 j:Nat}(h:OI X Y n n8 (j:Int) us qs)(u:DK Y n8 k v1 v2)(hjn:j+n8<=n):val (us.drop (j+n8+1))=0/\∃u0 u1 u2 t',us[j+n8]?=some u0/\us[j+n8-1]?=some u1/\us[j+n8-2]?=some u2/\GK v1 v2 (val ((ah Y).take k)) u0 u1 u2 t' (4294967296^k) (val (us.drop j)) Y:=by
 obtain ⟨-,-,f,a,q,g,l,m⟩:=h;have b:((j:Int)+1).toNat=j+1:=ω
 rw [b] at l m;have r:=u.hn8;have c:=u.top;have o:val (us.drop j)=us[j]+4294967296*val (us.drop (j+1)):=by rw [Ĥ ω,bO]
 have p:=a.get (i:=j) ω
 have d:val (us.drop (j+n8+1))=0:=by have:=jT (us:=us.drop (j+1)) (k:=n8) ω (by simp;omega);rw [Qh4] at this;rw [show j+n8+1=j+1+n8 from by omega];exact this
 have e:=iG ((a.drop j).take k);rw [è,ī,ğ ω] at e
 refine ⟨d,us[j+n8],us[j+n8-1],us[j+n8-2],val ((us.drop j).take k),ñ _,ñ _,ñ _,
  u.eq,?_,u.lt,e,u.l1,u.u1,u.u2,a.get _,a.get _,a.get _,ω⟩
 have:=top3 (us:=us.drop j) (k:=k) (by simp;omega) (by rw [Qh4,show j+(k+3)=j+n8+1 from by omega];exact d);simp only [Qp5] at this;rw [this];congr<;>omega
theorem OI.next {j H:Nat}{u:zA Nat}(h:OI X Y n n8 (j:Int) us qs)(hjn:j+n8<=n)(F:u.length=us.length)(hdh:cM u)(z:u.take j=us.take j)(D:val (u.drop j)+H*Y=val (us.drop j))(E:val (u.drop j)<Y)(hH:H<4294967296):OI X Y n n8 ((j:Int)-1) u (qs.set j H):=by obtain ⟨-,g,i,m,k,b,d,o⟩:=h;have c:((j:Int)+1).toNat=j+1:=ω;have a:((j:Int)-1+1).toNat=j:=ω;rw [c] at d;refine ⟨ω,ω,ω,hdh,by simpa using k,b.set _ _ hH,?_,by rw [a];exact E⟩;have e:=bM u j;have f:=bM us j;rw [z] at e;rw [<-D] at f;rw [a,Ĥ (l:=qs.set j H) (by simp;omega),Qf8,Qn5 ω,bO,d,e,f,ġ];grind
theorem OI.done {x y s:Nat}(h:OI X Y n n8 (-1) us qs)(hX:X=x*2^s)(hY:Y=y*2^s)(u:n8<=n+1)(hYl:Y<4294967296^n8):val qs=x / y/\val (us.take n8) / 2^s=x%y:=by obtain ⟨-,-,f,i,j,g,a,b⟩:=h;have a:X=val us+Y*val qs:=by{simpa using a};have b:val us<Y:=by{simpa using b};have c:0<Y:=ω;have d:=jT (us:=us) (k:=n8) ω;have e:val (us.take n8)=val us:=by{have:=bM us n8;rw [d,Ĩ,ě] at this;exact this.symm};constructor;{rw [<-Nat.mul_div_mul_right x y (ı s),<-hX,<-hY,a,Qg3 _ _ c,Ś b,Ĉ]};{have:x*2^s%(y*2^s)=val us:=by{rw [<-hX,<-hY,a,Wy2,Ģ b]};rw [Nat.mul_mod_mul_right] at this;rw [e,<-this,Qf7 _ (ı s)]}
set_option maxHeartbeats 8000000 in
theorem Lm {m:Nat}{x y:Nat}(ha:RN V p n c x)(hb:RN V q m e y)(hn:n<=2^40)(hm2:2<=m)(hle:y<=x):À 291 #[dB p n c,dB q m e] V λr W=>∃p1 n1 c1 p2 n2 c2,r=æ #[dB p1 n1 c1,dB p2 n2 c2]/\RN W p1 n1 c1 (x / y)/\RN W p2 n2 c2 (x%y):=by
 have l:=ha.len;have a3:=hb.len;have b9:m<=n:=by rw [l,a3];exact aQ hle
 refine Kx V _ ?_;simp (disch:=omega) only [ao];refine hb.rd (m-1) ω ω λV1 l1=>(iN _ ((aN y).get ω)).s ?_;rintro r V2 l2 rfl;refine ⟨_,rfl,?_⟩;obtain ⟨t,I⟩:∃t,t=(ah y)[m-1]'ω:=⟨_,rfl⟩;rw [<-I];have c0:dK t<=32:=me.2 (by rw [I];exact (aN y).get _);obtain ⟨s,hs⟩:∃s,s=32-dK t:=⟨_,rfl⟩;have es:(32-(dK t:Int))=(s:Int):=ω
 have ⟨Vv,o,S⟩:=J6 a3.symm ω I hs;rw [es,br ω];clear es c0;intro V3 l3;refine (E2 ra ω s).s ?_;rintro r V4 l4 ⟨p4,n4,c4,rfl,h4,K⟩;rw [af] at h4 K
 have c3:x≠0:=by intro A;subst A;rw [E_] at l;simp at l;omega
 have K:c4=n+1:=by rcases K with A|A;{exact Å A c3};{rw [A,<-l,Ś Vv]}
 have a4:=h4.len;have a5:x*2^s<4294967296^n*2^s:=Qc6 (by rw [l];exact aP.1 (Ù _)) (ı s);have c5:2^s<=2^31:=ĵ ω ω
 have Xp:n<=n4/\n4<=n+1:=by constructor;{rw [a4,l];exact aQ (Nat.le_mul_of_pos_right _ (ı s))};{rw [a4,aP,ġ];have:4294967296^n*2^s<=4294967296^n*4294967296:=Ņ _ ω;omega}
 refine ⟨_,_,_,rfl,aM (ah (x*2^s)),h4.sl,by simp;omega,h4.cap,h4.Jv,ω,ω,rfl,by simp [Value.oneCell'],?_⟩;intro sp c7 e6 e7;refine ⟨⟨ω,ω⟩,λV5 l5=>(E2 ra ω s).s ?_⟩;rintro r V6 l6 ⟨p8,f,c8,rfl,h8,-⟩;rw [af] at h8;have a6:=h8.len;rw [o] at a6;subst a6;refine ⟨_,_,_,rfl,?_⟩;have ⟨k,v1,v2,L⟩:=DK.of o hm2 S;have hk:=L.hn8;have f1:=L.l1;have e8:=L.u1;have e9:=L.u2;have c6:=OI.start (Y:=y*2^s) rfl l.symm Vv hm2 b9 S;have w6:i64.wrap ((f:Int)-1)=(f:Int)-1:=ao ω;have w7:i64.wrap ((f:Int)-2)=(f:Int)-2:=ao ω;simp only [w6,w7];refine h8.rdq (k+1) ω L.g1 (h8.rdq k ω L.g2 ?_);have c9:((n:Int)+1).toNat=n+1:=ω
 have d0:(((n+1:Nat):Int)-(f:Int)).toNat=n+1-f:=ω
 have w1:i64.wrap ((n:Int)+1)=(n:Int)+1:=ao ω;have w2:u64.wrap (v1:Int)=v1:=br ω;have w3:u64.wrap (v2:Int)=v2:=br ω;have w4:i64.wrap (((n+1:Nat):Int)-(f:Int))=((n+1:Nat):Int)-(f:Int):=ao ω;have w5:i64.wrap (((n+1-f:Nat):Int)-1)=((n+1-f:Nat):Int)-1:=ao ω;simp only [c9,w2,w3,w4,d0,w5,dQ];obtain ⟨C,a7⟩:∃C,C=aM ((ah (x*2^s)++[0,0]).drop (n+1))++sp:=⟨_,rfl⟩
 have O:aM (ah (x*2^s))++([Ô .u32 0,Ô .u32 0]:zA un)++sp=aM ((ah (x*2^s)++[0,0]).take (n+1))++C:=by rw [a7,<-Ĕ,<-yG,Qj6,yG];rfl
 rw [O];clear a7 O S a5 c5 K hs I;generalize hX:x*2^s=X at *;generalize hY:y*2^s=Y at *
 refine ⟨ω,ω,ω,λz V'=>∃us E:zA Nat,z.2.1=aM us++C/\z.2.2=aM E/\OI X Y n f z.1 us E,λz=>(z.1+1).toNat,
  ⟨(((n+1-f:Nat):Int)-1,aM ((ah X++[0,0]).take (n+1))++C,aM (List.replicate (n+1-f) 0)),?_,_,_,rfl,rfl,c6⟩,?_⟩
 ·(try dsimp only);and_intros<;>first|exact True.intro|rfl
 rintro ⟨j,row,f0⟩ V7 l7 ⟨us,E,rfl,rfl,B⟩;dsimp only at B ⊢;have f2:=B.j0;have f3:=B.j1;have f4:=B.ul;have Zb:=B.ql;refine ⟨θ,λM=>?_,λM=>?_⟩
 ·have M:0<=j:=by simpa using M
  obtain ⟨j,rfl⟩:=ċ M;have T:j+f<=n:=ω
  have ⟨hz,u0,u1,u2,t',a8,a9,b0,D⟩:=B.body L T;obtain ⟨eb,b1,b2⟩:=D.words;have w8:i64.wrap ((j:Int)+f)=((j+f:Nat):Int):=by rw [ao ω];omega
  have w9:i64.wrap (((j+f:Nat):Int)-1)=((j+f-1:Nat):Int):=by rw [ao ω];omega
  have d1:i64.wrap (((j+f:Nat):Int)-2)=((j+f-2:Nat):Int):=by rw [ao ω];omega
  have d2:i64.wrap ((j:Int)-1)=(j:Int)-1:=ao ω;simp only [w8,w9,d1,d2,Ü];refine ⟨⟨ω,ω⟩,_,lI a8,ω,⟨ω,ω⟩,_,lI a9,ω,ω,?_⟩;rw [eb,b1,b2];clear eb b1 b2
  refine ⟨λg V'=>∃G:Nat,g=(G:Int)/\GF (val (us.drop j)) Y G,
   ⟨λz V'=>∃G ρ:Nat,z=((G:Int),(ρ:Int))/\GI v1 (u0*4294967296+u1) (val (us.drop j)) Y G ρ,λz=>z.1.toNat,
    ⟨((((u0*4294967296+u1) / v1:Nat):Int),(((u0*4294967296+u1)%v1:Nat):Int)),by and_intros<;>first|exact True.intro|rfl,_,_,rfl,D.start⟩,?_⟩,?_⟩
  ·rintro _ V8 l8 ⟨G,ρ,rfl,P⟩;have ⟨Sg,U,d3,N⟩:=D.ZZ P;dsimp only;have t1:∀a:Nat,((((a / 2^32:Nat):Int) != 0)=true↔4294967296<=a)/\((((a / 2^32:Nat):Int) != 0)=false↔a<4294967296):=by{intro a;constructor;{rw [bne_iff_ne];omega};{rw [bne_eq_false_iff_eq];omega}};simp only [d3,jH];refine ⟨θ,ω,λh=>have h:=(t1 _).1.1 h;⟨ω,λw=>have w:=(t1 _).1.1 w;?_,λw=>have w:=(t1 _).2.1 w;?_⟩,λh=>have h:=(t1 _).2.1 h;⟨ω,⟨ω,ω⟩,_,lI b0,λI=>⟨ω,λw=>have w:=(t1 _).1.1 w;?_,λw=>have w:=(t1 _).2.1 w;?_⟩,λI=>?_⟩⟩;{have ⟨g1,g2⟩:=D.Xd P (D.W8 h) w;(exact ⟨((G-1:Nat):Int),by rw [N g1];(try dsimp only);and_intros<;>first|exact True.intro|rfl,G-1,rfl,g2⟩)};{have ⟨g1,g2⟩:=D.Xe P (D.W8 h) w;(exact ⟨(((G-1:Nat):Int),((ρ+v1:Nat):Int)),by (try dsimp only);omega,by rw [N g1];(try dsimp only);and_intros<;>first|exact True.intro|rfl,G-1,ρ+v1,rfl,g2⟩)};{have h1:=D.dec P (by rw [Sg,U,Ñ] at I;omega);have ⟨g1,g2⟩:=D.Xd P h1 w;(exact ⟨((G-1:Nat):Int),by rw [N g1];(try dsimp only);and_intros<;>first|exact True.intro|rfl,G-1,rfl,g2⟩)};{have h1:=D.dec P (by rw [Sg,U,Ñ] at I;omega);have ⟨g1,g2⟩:=D.Xe P h1 w;(exact ⟨(((G-1:Nat):Int),((ρ+v1:Nat):Int)),by (try dsimp only);omega,by rw [N g1];(try dsimp only);and_intros<;>first|exact True.intro|rfl,G-1,ρ+v1,rfl,g2⟩)};{have h1:G*v2<=ρ*4294967296+u2:=by{rw [Sg,U,Ò] at I;omega};(exact ⟨(G:Int),by and_intros<;>first|exact True.intro|rfl,G,rfl,D.last P h h1⟩)}
  ·rintro _ V9 l9 ⟨G,rfl,W⟩;have b3:=W.g;clear D a8 a9 b0;have o:=L.len;have b4:=af Y
   refine ⟨θ,λz V'=>∃(b c i:Nat)(fs:zA Nat),z=((b:Int),(c:Int),(i:Int),aM fs++C)/\Ii us (ah Y) j G i b c fs,λz=>f-z.2.2.1.toNat,
     ⟨(0,0,0,aM us++C),by and_intros<;>first|exact True.intro|rfl,0,0,0,us,rfl,ω,ω,ω,rfl,B.ud,rfl,rfl,ψ⟩,?_⟩
   rintro _ fo d4 ⟨b,c,i,fs,rfl,hS⟩;dsimp only;simp only [Ü];have hi:=hS.hi;have f5:=hS.len;refine ⟨θ,λh=>?_,λh=>?_⟩
   ·have h:i<f:=by{simpa using h};obtain ⟨u,d,ob,Z,cn,cb,q1,q2,q3,q4,q5,Q,q7,d5⟩:=hS.step b3 (aN Y) B.ud ω ω;refine (h8.le au).rdq i rfl q1 ?_;have d6:i64.wrap ((j:Int)+i)=((j+i:Nat):Int):=by{rw [ao ω];omega};have d7:i64.wrap ((i:Int)+1)=((i+1:Nat):Int):=by{rw [ao ω];omega};rw [q3,d6,d7,Ü];refine ⟨⟨ω,ω⟩,_,lI q2,⟨ω,ω⟩,by simp;omega,ω,ω,?_⟩;rw [q4,q5,Q];refine ⟨((ob:Int),(cb:Int),((i+1:Nat):Int),aM (fs.set (j+i) Z)++C),by (try dsimp only);omega,?_,_,_,_,_,rfl,d5⟩;(try dsimp only);(and_intros<;>first|exact True.intro|rfl|exact Ai)
   ·have h:i=(ah Y).length:=by simp at h;omega
    subst h;obtain ⟨u,ob,Z,q1,q2,q3,q4,q5,Q,q7,q8,q9,F⟩:=hS.fin B.ud ω (by rw [o];exact hz);rw [o] at q1 Q q7 q8 q9 F;rw [b4] at F;refine ⟨⟨ω,ω⟩,_,lI q1,⟨ω,ω⟩,by simp;omega,⟨ω,ω⟩,by simp;omega,ω,?_⟩;rw [q2,q3,Ai,vZ (x:=(G:Int)) ω];generalize fs.set (j+f) Z=ks at *;have a0:∀H:Nat,(aM E).set (0+j*1) (Ô .u32 (H:Int))=aM (E.set j H):=by intro H;rw [Ĉ,Ĝ,bS]
    rw [a0];refine ⟨λh0=>?_,λh0=>?_⟩
    ·have h0:ob=0:=by{simpa using h0};rw [h0,Ĩ,ě] at F;have b5:=W.lt;rw [đ,Ŋ] at b5;(refine ⟨((j:Int)-1,aM ks++C,aM (E.set j G)),by (try dsimp only);omega,by and_intros<;>first|exact True.intro|rfl,ks,E.set j G,rfl,rfl,?_⟩;exact B.next T q7 Q q8 F ω b3)
    ·have h0:ob=1:=by
      have:ob≠0:=by simpa using h0
      omega
     rw [h0,Ĝ] at F
     have R:∀ls:zA Nat,ls.length=n+1->cM ls->val (ls.drop (j+f+1))=0->val (ls.drop j)<4294967296^(f+1):=by intro ls h1 h2 M;have a1:=bM (ls.drop j) (f+1) (by simp;omega);rw [Qh4,show j+(f+1)=j+f+1 from by omega,M,Ĩ,ě] at a1;have a2:=iG ((h2.drop j).take (f+1));rw [è,ī,ğ ω] at a2;omega
     have f6:=R ks ω Q q9
     have d8:1<=G:=by rcases Ĵ G with A|A;{subst A;omega};{exact A}
     have f7:G*Y=(G-1)*Y+Y:=by conv=>lhs;rw [<-Qm8 d8,đ,Ŋ]
     have f8:=W.gt;have b6:u32.wrap ((G:Int)-1)=((G-1:Nat):Int):=by rw [vZ ω];omega
     refine ⟨⟨ω,ω⟩,(G:Int),by rw [Ĉ,Ĝ,iE (by simp;omega),Qf8],⟨ω,ω⟩,by simp;omega,?_⟩;have Zc:(aM (E.set j G)).set (0+j*1) (Ô .u32 ((G-1:Nat):Int))=aM (E.set j (G-1)):=by rw [Ĉ,Ĝ,bS,List.set_set]
     rw [b6,Zc]
     refine ⟨λz V'=>∃(c' i2:Nat)(gs:zA Nat),z=((c':Int),(i2:Int),aM gs++C)/\H_ ks (ah Y) j i2 c' gs,λz=>f-z.2.1.toNat,
      ⟨(0,0,aM ks++C),by and_intros<;>first|exact True.intro|rfl,0,0,ks,rfl,ω,ω,rfl,Q,rfl,rfl,ψ⟩,?_⟩
     rintro _ fg dy ⟨c',i2,gs,rfl,hA⟩;dsimp only;simp only [Ü];have f9:=hA.hi;have g0:=hA.len;refine ⟨θ,λh=>?_,λh=>?_⟩
     ·have h:i2<f:=by{simpa using h};have ⟨u,d,Z,cn,cb,r1,r2,r3,r4,r5,d9⟩:=hA.step (aN Y) Q ω ω;refine (h8.le au).rdq i2 rfl r1 ?_;have e1:i64.wrap ((j:Int)+i2)=((j+i2:Nat):Int):=by{rw [ao ω];omega};have e2:i64.wrap ((i2:Int)+1)=((i2+1:Nat):Int):=by{rw [ao ω];omega};rw [e1,e2,Ü];refine ⟨⟨ω,ω⟩,_,lI r2,⟨ω,ω⟩,by simp;omega,ω,?_⟩;rw [r3,r4,r5];refine ⟨((cb:Int),((i2+1:Nat):Int),aM (gs.set (j+i2) Z)++C),by (try dsimp only);omega,?_,_,_,_,rfl,d9⟩;(try dsimp only);(and_intros<;>first|exact True.intro|rfl|exact Ai)
     ·have h:i2=(ah Y).length:=by{simp at h;omega};subst h;have ⟨u,Z,kp,r1,r2,r3,r4,r5,r6,r7,r8⟩:=hA.fin Q ω (by rw [o];exact q9);rw [o] at r1 r4 r5 r6 r7 r8;rw [b4] at r8;refine ⟨⟨ω,ω⟩,_,lI r1,⟨ω,ω⟩,by simp;omega,?_⟩;rw [r2,Ai];have g3:=R _ ω r4 r7;generalize gs.set (j+f) Z=hs at *;have b7:kp=1:=by{rcases Ĵ kp with A|A;{rw [A,Ĩ] at r8;omega};{omega}};rw [b7,Ĝ] at r8;(refine ⟨((j:Int)-1,aM hs++C,aM (E.set j (G-1))),by (try dsimp only);omega,by and_intros<;>first|exact True.intro|rfl,hs,E.set j (G-1),rfl,rfl,?_⟩;exact B.next T ω r4 (by rw [r6,q8]) ω ω ω)
 ·have M:j=-1:=by{simp at M;omega};subst M;have ⟨hq,hr⟩:=B.done hX.symm hY.symm ω L.top;have b8:=B.qd;have Pt:=B.ud;intro V8 l8 g4 e3 e4 e5 J;have g5:RD V8 (some ⟨e3,0,none⟩) f c7 (us.take f):=by{refine ⟨by simp;omega,ω,λi v hv=>⟨_,rfl,?_⟩,Pt.take f,λA=>nomatch A⟩;rw [add_zero'];refine dD e5 ?_;rw [FZ,Ħ] at hv;split at hv;{rename_i b5;rw [į (by simp;omega)];exact hv};{cases hv}};refine ⟨⟨ω,ω⟩,λV9 l9=>?_⟩;refine (bw (RD.aW (ds:=E) e4 b8 (n:=n+1-f) (c:=n+1-f) ω (Ù _) |>.le l9)).s ?_;rintro r fo d4 ⟨k1,rfl,g1⟩;refine ⟨_,_,_,rfl,λfg dy=>?_⟩;rw [Ü];refine (OY ra (by simp;omega) s).s ?_;rintro r gT dX ⟨p2,n2,c2,rfl,g2⟩;refine ⟨_,_,_,rfl,λiL dS=>⟨_,_,_,_,_,_,rfl,?_,?_⟩⟩;{rw [a_ b8] at g1;unfold RN;rw [<-hq];exact g1.le au};{rw [hr] at g2;exact ra}
theorem oe {m:Nat}{xa Z:zA Nat}(ha:RD V p n c xa)(hb:RD V q m e Z)(hm:xa.length<=2^40)(hn:Z.length<=2^40)(h0:val Z≠0):À 245 #[dB p n c,dB q m e] V λr W=>∃p1 n1 c1 p2 n2 c2,r=æ #[dB p1 n1 c1,dB p2 n2 c2,Õ true]/\RN W p1 n1 c1 (val xa / val Z)/\RN W p2 n2 c2 (val xa%val Z):=by have la:=bH ha.gg;have lb:=bH hb.gg;refine Ej V _ λN O=>(bw ra).s ?_;rintro r V2 P ⟨n,rfl,d⟩;rw [a_ ha.gg] at d;refine ⟨_,_,_,rfl,λQ G=>(bw ra).s ?_⟩;rintro r R H ⟨m,rfl,f⟩;rw [a_ hb.gg] at f;replace d:=d.le (G.m H);generalize val xa=x at *;generalize val Z=y at *;have I:=d.len;have S:=f.len;refine ⟨_,_,_,rfl,λl=>?_,λl T o=>(E0 ra ra ω).s ?_⟩;{exfalso;have:ah y=[]:=ĝ.1 (by simp at l;omega);exact h0 (bR.1 this)};rintro r U s rfl;rw [af,af];replace d:=d.le (o.m s);replace f:=f.le (o.m s);refine ⟨_,rfl,λa t u=>(qf ra).s ?_,λa=>⟨λg=>?_,λg t u=>?_⟩⟩;{rintro r v w ⟨z,A,B,rfl,h⟩;have a:x<y:=by{simpa [ir] using a};refine ⟨_,_,_,rfl,λC b=>⟨_,_,_,_,_,_,rfl,?_,?_⟩⟩;{rw [Ś a];exact RD.nil};{rw [Ģ a];exact h.le b}};{have g:m=1:=by{simp at g;omega};subst g;refine f.rd0 0 rfl ω λt u=>?_;have D:=(aN y).get (i:=0) ω;have j:y=(ah y)[0]'ω:=by{have e:=jd (ah y) 0 ω;rw [af,ļ ω] at e;simpa using e};rw [<-j] at D ⊢;refine (IC ra ω y h0 D).s ?_;rintro r v w ⟨z,A,B,rfl,h⟩;rw [af] at h ⊢;have E:x%y<y:=Ě _ ω;refine qyJ ⟨rfl,λC b=>?_⟩;rw [br ω];refine (fD _ ω).s ?_;rintro r W X ⟨J,K,L,rfl,F⟩;exact ⟨_,_,_,rfl,λY M=>⟨_,_,_,_,_,_,rfl,ra,F.le M⟩⟩};{have a:y<=x:=by{simpa [<-Ww0,ir] using a};have k:2<=m:=by{have:¬(m:Int)=1:=by{simpa using g};have:ah y≠[]:=λe=>h0 (bR.1 e);have:(ah y).length≠0:=λe=>this (ĝ.1 e);omega};refine (Lm ra ra ω k a).s ?_;rintro r v w ⟨z,A,B,J,K,L,rfl,h,F⟩;exact ⟨_,_,_,_,_,_,rfl,λC b=>⟨_,_,_,_,_,_,rfl,ra,ra⟩⟩}
theorem Bp (x y:Nat):Nat.gcd y (x%y)=Nat.gcd x y:=by rw [Ť x y,Nat.gcd_rec y x,Ť]
theorem E1 {m:Nat}{xa xb:zA Nat}(ha:RD V p n c xa)(hb:RD V q m e xb)(hm:xa.length<=2^40)(hn:xb.length<=2^40:=by omega):À 206 #[dB p n c,dB q m e] V λr W=>∃p1 n1 c1,r=dB p1 n1 c1/\RN W p1 n1 c1 (Nat.gcd (val xa) (val xb)):=by
 have la:=bH ha.gg;have lb:=bH hb.gg;refine MK V _ λV1 l1=>(kU ra hm).s ?_;rintro r V2 l2 ⟨p1,n1,c1,rfl,s⟩;refine ⟨_,_,_,rfl,λV3 S=>(kU ra hn).s ?_⟩;rintro r V4 T ⟨U,W,X,rfl,t⟩
 replace s:=s.le (S.m T)
 refine ⟨_,_,_,rfl,λz k V'=>∃x y:Nat,RN V' z.1 z.2.1 z.2.2.1 x/\RN V' z.2.2.2.1 z.2.2.2.2.1 z.2.2.2.2.2 y/\Nat.gcd x y=Nat.gcd (val xa) (val xb)/\k=y/\(ah x).length<=2^40/\(ah y).length<=2^40,
  ⟨(p1,n1,c1,U,W,X),val xb,σ,val xa,val xb,s,t,rfl,rfl,ω,ω⟩,?_⟩
 rintro ⟨p,n,c,q,m,e⟩ k Y l5 ⟨x,y,s,t,w,hk,J,f⟩;dsimp only at s t ⊢;have Z:=s.len;have P:=t.len;rw [<-w];have stop:m=0->y=0:=λh=>bR.1 (ĝ.1 ω)
 have more:∀g:ut,Y.Le g->m≠0->À 245 #[dB p n c,dB q m e] g λr A=>∃p1 n1 c1 p2 n2 c2,r=æ #[dB p1 n1 c1,dB p2 n2 c2,Õ true]/\RN A p2 n2 c2 (x%y)/\x%y<y/\Nat.gcd y (x%y)=Nat.gcd (val xa) (val xb)/\(ah (x%y)).length<=2^40/\g.Le A:=by intro g F h;have K:y≠0:=by{intro e0;subst e0;rw [E_] at P;simp at P;omega};have d:x%y<y:=Ě _ ω;refine (oe ra ra J f (by rw [af];exact K)).s ?_;rintro r A L ⟨M,N,O,G,H,I,rfl,Q,u⟩;rw [af,af] at u;exact ⟨_,_,_,_,_,_,rfl,u,d,by rw [Bp,w],ü (aQ) f,L⟩
 refine ⟨θ,λR=>⟨λi V6 l6=>?_,λi g F=>(more g F ?_).s ?_⟩,λR=>⟨λB=>⟨λi V6 l6=>?_,λi g F=>(more g F ?_).s ?_⟩,λB gT dX=>?_⟩⟩
 ·rw [stop (by simp at i;omega),Qf9];rw [stop (by simp at i;omega)] at w;exact ⟨_,_,_,rfl,ra⟩
 ·simp at i;omega
 ·rintro r A L ⟨M,N,O,G,H,I,rfl,u,d,j,l,l9⟩;exact qxW ⟨rfl,(q,m,e,G,H,I),x%y,ω,σ,y,x%y,t.le au,u,j.m w.symm,rfl,f,l⟩
 ·rw [stop (by simp at i;omega),Qf9];exact ⟨_,_,_,rfl,ra⟩
 ·simp at i;omega
 ·rintro r A L ⟨M,N,O,G,H,I,rfl,u,d,j,l,l9⟩;exact qxW ⟨rfl,(q,m,e,G,H,I),x%y,ω,σ,y,x%y,t.le au,u,j.m w.symm,rfl,f,l⟩
 ·have a0:n<=2:=by simp at R;omega
  have a1:m<=2:=by simp at B;omega
  have C:x<18446744073709551616:=(aP (k:=2)).1 ω;have D:y<18446744073709551616:=(aP (k:=2)).1 ω;refine (oh ra).s ?_;rintro r iL dS rfl;rw [af,Ä C];refine ⟨_,_,rfl,λlR gj=>(oh ra).s ?_⟩;rintro r lS gC rfl;rw [af,Ä D]
  refine ⟨_,_,rfl,λz V'=>∃a b:Nat,z=((a:Int),(b:Int))/\Nat.gcd a b=Nat.gcd x y/\a<18446744073709551616/\b<18446744073709551616,λz=>z.2.toNat,
   ⟨((x:Int),(y:Int)),σ,x,y,rfl,rfl,C,D⟩,?_⟩
  rintro _ kH fy ⟨a,b,rfl,o,a2,E⟩;dsimp only;refine ⟨θ,λv=>?_,λv lT ij=>?_⟩
  ·have v:b≠0:=by{rw [bne_iff_ne] at v;omega};have d:a%b<b:=Ě _ ω;have e4:(a:Int).tmod (b:Int)=((a%b:Nat):Int):=by{rw [Qk7 ω,<-Wz8]};rw [e4];exact ⟨ω,((b:Int),((a%b:Nat):Int)),by (try dsimp only);rw [Ü,Ü];exact d,σ,b,a%b,rfl,by rw [Bp,o],E,Nat.lt_trans d E⟩
  ·have v:b=0:=by{rw [bne_eq_false_iff_eq] at v;omega};subst v;rw [Qf9] at o;refine (fD _ ω).s ?_;rintro r mZ hU ⟨M,N,O,rfl,Q⟩;refine ⟨_,_,_,rfl,λpS jN=>⟨_,_,_,rfl,?_⟩⟩;rw [<-o];exact Q.le jN
end
end Go.Proofs.Tryz
namespace Go.Big
def bI (b:Bool)(ds:List Nat):Int:=if b then -(val ds:Int) else val ds
end Go.Big
namespace Go.Eng
open Go.Big
def RI (V:Ó)(v:Value)(z:Int):Prop:=∃p n c,v=.agg #[.bool (decide (z<0)),.slice p n c]/\RD V p n c (ah z.natAbs)
theorem RI.le {V V':ut}{v:un}{z:Int}(h:RI V v z)(l:V.Le V'):RI V' v z:=by obtain ⟨p,n,c,e,h⟩:=h;exact ⟨p,n,c,e,ra⟩
def RI.mk {V:ut}{b:md}{p:OA}{n c:Nat}{z:Int}(u:b=decide (z<0))(h:RD V p n c (ah z.natAbs)):RI V (qvK #[Õ b,dB p n c]) z:=⟨p,n,c,by rw [u],h⟩
end Go.Eng
namespace Go.Proofs.Tryz
open Go.Eng Go.Big
variable{c n:Nat}{V:Ó}{p:OA}{ds:List Nat}
theorem ng:dK n=0↔n=0:=by unfold dK;split<;>simp_all
theorem fK (b:md)(ds:zA Nat):(bI b ds).natAbs=val ds:=by unfold bI;cases b<;>simp
theorem Jh (b:md)(ds:zA Nat):bI b ds<0↔b=true/\val ds≠0:=by unfold bI;cases b;{simp};{simp;omega}
theorem bf (z:Int):bI (decide (z<0)) (ah z.natAbs)=z:=by unfold bI;rw [af];by_cases h:z<0;{rw [Ç h,Ä rfl];omega};{rw [È h,Ã φ];omega}
theorem Sj (b:md)(ds:zA Nat):bI (!b) ds=-bI b ds:=by unfold bI;cases b<;>simp
theorem tW (ds:zA Nat):bI false ds=val ds:=rfl
theorem iA {x:Nat}(h:n=(ah x).length):0<n↔x≠0:=by rw [h];constructor;{intro a b;subst b;simp at a};{intro a;rcases Ĵ (ah x).length with e|e;{exact Å (bR.1 (ĝ.1 e)) a};{exact e}}
theorem nq (b:md){x:Nat}(h:RN V p n c x):À 293 #[Õ b,dB p n c] V λr W=>RI W r (if b then -(x:Int) else x):=by have f:=iA h.len;refine wq V _ ⟨λa e d=>?_,λa e d=>?_⟩;{rw [Ä a];refine RI.mk ?_ ?_;{rw [ķ,Ñ,Ñ];omega};{rw [ť,ģ];exact h.le d}};{rw [a,Ã φ];refine RI.mk ?_ ?_;{symm;rw [Ò];omega};{rw [ģ];exact h.le d}}
theorem kS (b:md)(h:RD V p n c ds)(hm:ds.length<=2^40):À 248 #[qvK #[Õ b,dB p n c]] V λr W=>RI W r (bI b ds):=by refine zC V _ λi j=>(kU ra hm).s ?_;rintro r V2 k ⟨l,m,o,rfl,a⟩;have q:=iA a.len;have f:=Jh b ds;refine ⟨_,_,_,rfl,λd g e=>RI.mk ?_ ?_,λd g e=>RI.mk ?_ ?_⟩;{rw [ķ,Ñ,Ñ,f];simp [d];omega};{rw [fK];exact a.le e};{symm;rw [Ò,f];simp [d]};{rw [fK];exact a.le e}
def pG (b:Bool)(ds:List Nat):Bool:=decide (ah (val ds)=ds)&&(!b||decide (ds≠[]))
theorem iP (b:md)(h:RD V p n c ds)(hm:ds.length<=2^40):À 265 #[qvK #[Õ b,dB p n c]] V λr W=>r=Õ (pG b ds):=by refine wo V _ λl m=>(Gj ra hm).s λr V2 o rfl=>⟨_,rfl,λd=>⟨λa f g=>?_,λa f g=>?_⟩,λd f g=>?_⟩;{simp [pG,d];simp at a;simp [a]};{have j:=h.len;simp [pG,d];simp at a;simp [a];rw [ķ,Ñ];simp;constructor;{intro i k;subst k;simp at j;omega};{intro i;rcases Ĵ ds.length with e|e;{exact Å (ĝ.1 e) i};{omega}}};{simp [pG,d]}
theorem mf (n:Int)(u:-9223372036854775808<=n)(z:n<=9223372036854775807:=by omega):À 255 #[Ô .i64 n] V λr W=>RI W r n:=by refine ur V _ ⟨λa d f=>?_,λa d f=>?_⟩;{have a:n<0:=by{simpa using a};have e:u64.wrap (0-u64.wrap n)=-n:=by{rw [y_,y_];omega};rw [e];refine (fD _ ω).s ?_;rintro r V2 g ⟨h,i,j,rfl,b⟩;refine ⟨_,_,_,rfl,λk c=>⟨_,_,_,rfl,?_⟩⟩;rw [show n.natAbs=(-n).toNat from by omega];exact b.le c};{have a:0<=n:=by{simpa using a};rw [br ω];refine (fD _ ω).s ?_;rintro r V2 g ⟨h,i,j,rfl,b⟩;refine ⟨_,_,_,rfl,λk c=>⟨_,_,_,rfl,?_⟩⟩;rw [show n.natAbs=n.toNat from by omega];exact b.le c}
theorem pY (b:md)(h:RD V p n c ds)(hm:ds.length<=2^40):À 240 #[qvK #[Õ b,dB p n c]] V λr W=>r=Ô .i64 (bI b ds).sign:=by refine zD V _ λk l=>(kT ra hm).s ?_;rintro r V2 m rfl;have f:(bI b ds)=0↔val ds=0:=by{rw [<-fK b ds];omega};have g:=Jh b ds;refine ⟨_,rfl,λa i j=>?_,λa=>⟨λd i j=>?_,λd i j=>?_⟩⟩;{have:val ds=0:=ng.1 (by simp at a;omega);rw [f.2 this];rfl};{have:val ds≠0:=λe=>by{simp [ng.2 e] at a};rw [Qf5 (g.2 ⟨d,this⟩)]};{have:val ds≠0:=λe=>by{simp [ng.2 e] at a};have:0<bI b ds:=by{have:=f;have:¬bI b ds<0:=by{rw [g];simp [d]};omega};rw [Qh6 this]}
theorem DB (b:md)(h:RD V p n c ds)(hm:ds.length<=2^40):À 200 #[qvK #[Õ b,dB p n c]] V λr W=>RI W r (-bI b ds):=by refine CT V _ λd e=>(kS (!b) ra hm).s ?_;rintro r V2 f ⟨g,i,j,rfl,a⟩;rw [Sj] at a ⊢;exact qyJ ⟨rfl,λk l=>⟨_,_,_,rfl,ra⟩⟩
theorem jh (b1 E:md){q:OA}{m e:Nat}{z D:zA Nat}(F:RD V p n c z)(M:RD V q m e D)(hm:z.length+D.length<=2^40:=by omega):À 252 #[qvK #[Õ b1,dB p n c],qvK #[Õ E,dB q m e]] V λr W=>RI W r (bI b1 z*bI E D):=by refine CS V _ λd f=>(iQ ra ra hm).s ?_;rintro r V2 g ⟨h,i,j,rfl,k⟩;refine ⟨_,_,_,rfl,λl o=>(nq _ ra).s ?_⟩;rintro r s t ⟨u,v,w,rfl,a⟩;have b:(if (!(b1==E))=true then -((val z*val D:Nat):Int) else ((val z*val D:Nat):Int))=bI b1 z*bI E D:=by{unfold bI;cases b1<;>cases E<;>simp [Wz1,Ww8]};rw [b] at a ⊢;exact qyJ ⟨rfl,λx y=>⟨_,_,_,rfl,ra⟩⟩
theorem DA (b1 D:md){q:OA}{m e:Nat}{E F:zA Nat}(ha:RD V p n c E)(hb:RD V q m e F)(hm:E.length<=2^40)(M:F.length<=2^40:=by omega):À 284 #[qvK #[Õ b1,dB p n c],qvK #[Õ D,dB q m e]] V λr W=>RI W r (bI b1 E+bI D F):=by
 have fin:∀{b:md} {x:Nat} {f:ut} {g:OA} {i j:Nat},RN f g i j x->(if b then -(x:Int) else x)=bI b1 E+bI D F ->
   À 293 #[Õ b,dB g i j] f λr W=>∃(N:md)(O:OA)(Z QX:Nat),r=qvK #[Õ N,dB O Z QX]/\∀k:ut,W.Le k->RI k (qvK #[Õ N,dB O Z QX]) (bI b1 E+bI D F):=by
  intro b x f g i j h he;refine (nq b h).s ?_;rintro r o s ⟨t,u,v,rfl,a⟩;rw [he] at a ⊢;exact qyJ ⟨rfl,λw y=>⟨_,_,_,rfl,ra⟩⟩
 refine CQ V _ ⟨λd f z=>(OX ra ra hm M).s ?_,λd f z=>(E3 ra ra hm M).s ?_⟩
 ·rintro r V2 A ⟨g,i,j,rfl,B⟩;have d:b1=D:=by{simpa using d};subst d;exact ⟨_,_,_,rfl,λk l=>fin ra (by unfold bI;cases b1<;>simp;omega)⟩
 ·rintro r V2 A ⟨g,i,j,rfl,B⟩;have d:D=!b1:=by{cases b1<;>cases D<;>simp_all};subst d;refine qyJ ⟨rfl,λa k l=>fin ra ?_,λa k l=>(E3 ra ra M hm).s ?_⟩;{have a:val F<=val E:=by{simpa using a};unfold bI;cases b1<;>simp<;>omega};{rintro r o s ⟨t,u,v,rfl,C⟩;have a:val E<val F:=by{simpa using a};exact qyJ ⟨rfl,λw y=>fin ra (by unfold bI;cases b1<;>simp<;>omega)⟩}
theorem yM (b:md)(h:RD V p n c ds)(hm:ds.length<=2^40)(u:val ds<4611686018427387904):À 246 #[qvK #[Õ b,dB p n c]] V λr W=>r=æ #[Ô .i64 (bI b ds),Õ true]:=by refine xP V _ λg i=>(oh ra hm).s ?_;rintro r V2 j rfl;rw [Ä ω,Ç (show val ds<18446744073709551616 by omega)];refine ⟨_,_,rfl,λ_=>⟨λd=>⟨λa k l=>?_,λa=>?_⟩,λd=>⟨λ_=>⟨λa=>⟨λf m o=>?_,λf=>?_⟩,λa=>?_⟩,λa=>nomatch a⟩⟩,λd=>nomatch d⟩;{subst d;have e:i64.wrap (u64.wrap (0-(val ds:Int)))=-(val ds:Int):=by{rw [y_,IntKind.wrap_i64];omega};rw [e];rfl};{simp at a;omega};{subst d;rw [ao ω];rfl};{simp at f;omega};{simp [d] at a}
end Go.Proofs.Tryz
namespace Go.Eng
open Go.Big
variable{q:Rat}
def Wd (q:Rat):Prop:=q.num.natAbs<4611686018427387904/\q.den<4611686018427387904
def RR (V:Ó)(v:Value)(q:Rat):Prop:=
 (v=.agg #[.int .i64 q.num,.int .i64 ((q.den:Int)-1),.pointer none]/\Wd q) \/
 (∃a b p n c u z D,v=.agg #[.int .i64 0,.int .i64 0,.pointer (some a)]/\V.at (a.add 0) (.bool b)/\V.at (a.add 1) (.slice p n c)/\V.at (a.add 2) (.slice u z D) /\
  RI V (.agg #[.bool b,.slice p n c]) q.num/\RD V u z D (ah q.den)/\¬Wd q)
theorem RR.le {V V':ut}{v:un}(h:RR V v q)(l:V.Le V'):RR V' v q:=by rcases h with h|⟨a,b,p,n,c,d,f,g,e,i,j,k,m,r,o⟩;{exact .inl h};{exact .inr ⟨a,b,p,n,c,d,f,g,e,l.at i,l.at j,l.at k,m.le l,ra,o⟩}
def Sz (k:Nat)(q:Rat):Prop:=q.num.natAbs<2^k/\q.den<2^k
theorem Sz.s {k m:Nat}(h:Sz k q)(hm:k<=m):Sz m q:=
 ⟨ĺ h.1 (ĵ ω hm),ĺ h.2 (ĵ ω hm)⟩
theorem ag {n k:Nat}(h:n<2^k:=by omega):(ah n).length<=k:=by rw [aP];exact ĺ h (Nat.pow_le_pow_left ω k)
theorem RR.shape {V:ut}{v:un}(h:RR V v q):∃(n d:Int)(p:OA),v=qvK #[Ô .i64 n,Ô .i64 d,qyQ p]:=by rcases h with ⟨e,-⟩|⟨a,b,p,n,c,f,g,i,e,-⟩;{exact ⟨_,_,_,e⟩};{exact ⟨_,_,_,e⟩}
theorem RR.ex {V:ut}{r:un}{K:Int->Int->OA->Prop}(g:RR V r q)(h:∀t:Int×Int×OA,RR V (qvK #[Ô .i64 t.1,Ô .i64 t.2.1,qyQ t.2.2]) q->K t.1 t.2.1 t.2.2):∃a b c,r=qvK #[Ô .i64 a,Ô .i64 b,qyQ c]/\K a b c:=by obtain ⟨a,b,c,rfl⟩:=g.shape;exact ⟨a,b,c,rfl,h (a,b,c) g⟩
end Go.Eng
namespace Go.Proofs.Tryz
open Go.Eng Go.Big
def Gb (n:Nat):decide ((dK n:Int)<=62)=decide (n<4611686018427387904):=by have:=@me n 62;rw [ķ,Ñ,Ñ];omega
def PH {z:Int}{d:Nat}(u:d≠0)(D:Nat.gcd z.natAbs d=1):(mkRat z d).num=z/\(mkRat z d).den=d:=by have:Nat.gcd d z.natAbs=1:=by{rw [Ť];exact D};rw [Qs1,Wq7,Ã u,Ã u,this];simp
def dU {V:ut}(b:md){p q:OA}{n c m e:Nat}{xs ys:zA Nat}(hx:RD V p n c xs)(hy:RD V q m e ys)(hm:xs.length<=2^40)(hn:ys.length<=2^40:=by omega):À 196 #[qvK #[Õ b,dB p n c],dB q m e] V λr W=>RR W r (mkRat (bI b xs) (val ys)):=by
 have zero:∀V':ut,RR V' (qvK #[Ô .i64 0,Ô .i64 0,qyQ none]) 0:=λV'=>.inl ⟨rfl,by unfold Wd;decide⟩;refine CI V _ λt C=>(kT ra hn).s ?_;rintro r V2 D rfl;refine ⟨_,rfl,λE u l3=>?_,λE F G=>(pY b ra hm).s ?_⟩
 ·have:val ys=0:=ng.1 (by simp at E;omega);rw [this,Rat.mkRat_zero];exact zero _
 rintro r k v rfl;have l:val ys≠0:=λe=>by simp [ng.2 e] at E
 refine ⟨_,rfl,λH V6 l6=>?_,λH V7 X=>?_⟩
 ·have:bI b xs=0:=Qm9.1 (by simpa using H);rw [this,Rat.zero_mkRat];exact zero _
 have a0:bI b xs≠0:=λe=>by simp [e] at H
 have o:val xs≠0:=by rw [<-fK b xs];omega
 replace hx:=hx.le (C.m (D.m (G.m (v.m X))))
 replace hy:=hy.le (C.m (D.m (G.m (v.m X))))
 refine (E1 hx hy hm hn).s ?_;rintro r V8 Y ⟨Z,n3,c3,rfl,hg⟩
 replace hx:=hx.le Y
 replace hy:=hy.le Y
 have I:Nat.gcd (val xs) (val ys)<=val ys:=Wq8 ω (Ţ _ _);have h:(ah (Nat.gcd (val xs) (val ys))).length<=2^40:=ü (aQ I) (by have:=bH hy.gg;omega)
 have J:Nat.gcd (val xs) (val ys)≠0:=by intro K;exact o (Nat.eq_zero_of_gcd_eq_zero_left K)
 refine ⟨_,_,_,rfl,λV9 L=>(kT ra h).s ?_⟩;rintro r fo i rfl;rw [af]
 replace hx:=hx.le (L.m i)
 replace hy:=hy.le (L.m i)
 replace hg:=hg.le (L.m i)
 refine ⟨_,rfl,λz V'=>∃(us d:zA Nat),z.2.2.2.1=b/\RD V' z.2.2.2.2.1 z.2.2.2.2.2.1 z.2.2.2.2.2.2 us/\RD V' z.1 z.2.1 z.2.2.1 d/\us.length<=2^40/\d.length<=2^40/\val d≠0 /\
  Nat.gcd (val us) (val d)=1/\mkRat (bI b xs) (val ys)=mkRat (bI b us) (val d),⟨λy fg dy=>?_,λy=>?_⟩,?_⟩
 ·refine (oe ra ra hm h (by rw [af];exact J)).s ?_;rintro r gT dX ⟨p4,n4,c4,p5,n5,c5,rfl,g1,g2⟩;refine qxW ⟨rfl,λiL dS=>(oe ra ra hn h (by rw [af];exact J)).s ?_⟩;rintro r lR gj ⟨p6,n6,c6,p7,n7,c7,rfl,g3,g4⟩;rw [af] at g1 g3;have e1:val (ah (val xs / Nat.gcd (val xs) (val ys)))=val xs / Nat.gcd (val xs) (val ys):=af _;have M:val (ah (val ys / Nat.gcd (val xs) (val ys)))=val ys / Nat.gcd (val xs) (val ys):=af _;have d2:=Ţ (val xs) (val ys)
  have N:val ys / Nat.gcd (val xs) (val ys)≠0:=by intro K;have:=Wx9 d2;rw [K,Ŗ] at this;exact l this.symm
  refine qxW ⟨rfl,(p6,n6,c6,b,p4,n4,c4),σ,_,_,rfl,ra,g3,?_,?_,?_,?_,?_⟩
  ·exact ü (aQ (Qc7 _ _)) (by have:=bH hx.gg;omega)
  ·exact ü (aQ (Qc7 _ _)) (by have:=bH hy.gg;omega)
  ·rw [M];exact N
  ·rw [e1,M];exact Nat.gcd_div_gcd_div_gcd_of_pos_left ω
  ·rw [M]
   have k2:bI b xs=bI b (ah (val xs / Nat.gcd (val xs) (val ys)))*(Nat.gcd (val xs) (val ys):Nat):=by have k3:(val xs:Int)=((val xs / Nat.gcd (val xs) (val ys):Nat):Int)*(Nat.gcd (val xs) (val ys):Nat):=by{rw [<-Ŝ,Wx9 (ņ (val xs) (val ys))]};unfold bI;rw [e1];cases b;{simpa using k3};{simp only [Ï];rw [Wz1,<-k3]}
   conv=>lhs;rw [((Wx9 d2).symm),k2]
   exact Rat.mkRat_mul_right J
 ·have O:Nat.gcd (val xs) (val ys)=1:=by{have f:¬(1<dK (Nat.gcd (val xs) (val ys))):=by{simp at y;omega};have:=@me (Nat.gcd (val xs) (val ys)) 1;omega};exact ⟨(q,m,e,b,p,n,c),σ,xs,ys,rfl,hx,hy,hm,hn,l,O,rfl⟩
 ·rintro ⟨q,m,e,g,p,n,c⟩ lS gC ⟨us,d,s,hu,hv,P,j,Q,R,hq⟩;dsimp only at s hu hv ⊢;subst s;rw [hq];have ⟨S,a⟩:=PH (z:=bI g us) Q (by rw [fK];exact R);generalize mkRat (bI g us) (val d)=w at *
  have T:Wd w↔val us<4611686018427387904/\val d<4611686018427387904:=by unfold Wd;rw [S,a,fK]
  have W8:∀t:ut,lS.Le t->¬Wd w->À 248 #[qvK #[Õ g,dB p n c]] t λr V2=>∃(QO:md)(Th:OA)(SP QX:Nat),r=qvK #[Õ QO,dB Th SP QX] /\
    (∀u:ut,V2.Le u->À 249 #[dB q m e] u λr F=>∃(p3_:OA)(n3_ c3_:Nat),r=dB p3_ n3_ c3_ /\
    (∀k:ut,F.Le k->∀A:Nat,k.aW A (.cells #[Õ QO,dB Th SP QX,dB p3_ n3_ c3_] 287 (0,0))->RR k (qvK #[Ô .i64 0,Ô .i64 0,qyQ (some ⟨A,0,none⟩)]) w)):=by
   intro t C hw;refine (kS g ra P).s ?_;rintro r V2 D U;obtain ⟨p2,n2,c2,rfl,y⟩:=U;have U:RI V2 (qvK #[Õ (decide (bI g us<0)),dB p2 n2 c2]) (bI g us):=⟨_,_,_,rfl,y⟩;refine qyJ ⟨rfl,λu l3=>(kU ra j).s ?_⟩;rintro r F G ⟨Z,n3,c3,rfl,f⟩;refine ⟨_,_,_,rfl,λk v A W=>.inr ⟨⟨A,0,none⟩,decide (bI g us<0),p2,n2,c2,Z,n3,c3,rfl,?_,?_,?_,?_,?_,hw⟩⟩
   ·rw [add_zero'];exact dD (xs:=[_,_,_]) W rfl
   ·rw [add_zero'];exact dD (xs:=[_,_,_]) W rfl
   ·rw [add_zero'];exact dD (xs:=[_,_,_]) W rfl
   ·rw [S];exact U.le au
   ·rw [a];exact f.le v
  refine ⟨θ,λkH fy=>(kT ra P).s ?_⟩;rintro r lT ij rfl;refine ⟨_,rfl,λf mZ hU=>(kT ra j).s ?_,λf QF H5=>W8 QF au ?_⟩
  ·rintro r pS jN rfl;rw [Gb,Ñ] at f;refine ⟨_,rfl,λB sC kt=>?_,λB HZ Bz=>W8 HZ au ?_⟩;{rw [Gb,Ñ] at B;refine (yM g ra P f).s ?_;rintro r sE qB rfl;refine ⟨_,_,rfl,λsN nH=>(oh ra j).s ?_⟩;rintro r uF pk rfl;rw [Ä ω];refine ⟨_,_,rfl,λDx pM=>.inl ⟨?_,T.2 ⟨f,B⟩⟩⟩;rw [ao (x:=((val d:Nat):Int)) ω,ao ω,S,a]};{rw [Gb,Ò] at B;rw [T];omega}
  ·rw [Gb,Ò] at f;rw [T];omega
end Go.Proofs.Tryz
namespace Go.Eng
open Go.Big
def RI.inv {V:ut}{b:md}{p:OA}{n c:Nat}{z:Int}(h:RI V (qvK #[Õ b,dB p n c]) z):b=decide (z<0)/\RD V p n c (ah z.natAbs):=by obtain ⟨d,f,g,e,a⟩:=h;simp at e;obtain ⟨rfl,rfl,rfl,rfl⟩:=e;exact ⟨rfl,a⟩
end Go.Eng
namespace Go.Proofs.Tryz
open Go.Eng Go.Big
variable{V:Ó}{v:Value}{q x y:Rat}{k:Nat}
theorem gQ (h:RR V v q)(D:Sz k q)(E:k<=2^40:=by omega):À 207 #[v] V λr W=>RI W r q.num:=by rcases h with ⟨rfl,hw⟩|⟨a,b,p,n,c,t,u,w,rfl,e,f,x,i,y,hw⟩;{have:=hw.1;refine tF V _ ⟨π,λ_ j l=>(mf _ ω).s ?_⟩;rintro r V2 m ⟨p,n,c,rfl,g⟩;exact qyJ ⟨rfl,λo s=>⟨_,_,_,rfl,ra⟩⟩};{obtain ⟨rfl,z⟩:=i.inv;refine tF V _ ⟨λ_=>⟨rfl,rfl,decide (q.num<0),p,n,c,a.add 0,rfl,?_,?_,λj l=>(kS _ ra (ü (ag D.1) E)).s ?_⟩,λd=>nomatch d⟩;{exact e};{simpa [Addr.add] using f};{rintro r V2 m ⟨p,n,c,rfl,g⟩;rw [bf] at g ⊢;exact qyJ ⟨rfl,λo s=>⟨_,_,_,rfl,ra⟩⟩}}
theorem fS (h:RR V v q)(D:Sz k q)(E:k<=2^40:=by omega):À 205 #[v] V λr W=>∃p n c,r=dB p n c/\RN W p n c q.den:=by rcases h with ⟨rfl,hw⟩|⟨a,b,p,n,c,o,s,t,rfl,u,w,e,x,y,hw⟩;{have:=hw.2;have z:=q.den_nz;refine tC V _ ⟨π,λ_ f i=>?_⟩;rw [ao ω,br ω];refine (fD _ ω).s ?_;rintro r V2 j ⟨p,n,c,rfl,g⟩;rw [show ((q.den:Int)-1+1).toNat=q.den from by omega] at g;exact ⟨_,_,_,rfl,λl m=>⟨_,_,_,rfl,ra⟩⟩};{refine tC V _ ⟨λ_=>⟨rfl,rfl,_,_,_,⟨_,rfl,e⟩,λf i=>(kU ra (ü (ag D.2) E)).s ?_⟩,λd=>nomatch d⟩;rintro r V2 j ⟨p,n,c,rfl,g⟩;rw [af] at g;exact ⟨_,_,_,rfl,λl m=>⟨_,_,_,rfl,ra⟩⟩}
theorem kR (n:Int)(u:-9223372036854775808<n)(z:n<=9223372036854775807:=by omega):À 203 #[Ô .i64 n] V λr W=>r=Ô .u64 (n.natAbs:Int):=by refine Kp V _ ⟨λa b c=>?_,λa b c=>?_⟩;{have a:n<0:=by{simpa using a};rw [ao ω,br ω];congr 1;omega};{have a:0<=n:=by{simpa using a};rw [br ω];congr 1;omega}
theorem AH (x y:Nat)(u:x<18446744073709551616)(D:y<18446744073709551616:=by omega):À 202 #[Ô .u64 (x:Int),Ô .u64 (y:Int)] V λr W=>r=Ô .u64 (Nat.gcd x y:Int):=by
 refine Kq V _ ⟨λz V'=>∃a b:Nat,z=((a:Int),(b:Int))/\Nat.gcd a b=Nat.gcd x y,λz=>z.2.toNat,
  ⟨((x:Int),(y:Int)),σ,x,y,rfl,rfl⟩,?_⟩
 rintro _ g h ⟨a,b,rfl,c⟩;dsimp only;refine ⟨θ,λd=>?_,λd i j=>?_⟩
 ·have d:b≠0:=by{rw [bne_iff_ne] at d;omega};have e:a%b<b:=Ě _ ω;have f:(a:Int).tmod (b:Int)=((a%b:Nat):Int):=by{rw [Qk7 ω,<-Wz8]};rw [f];exact ⟨ω,((b:Int),((a%b:Nat):Int)),by (try dsimp only);rw [Ü,Ü];exact e,σ,b,a%b,rfl,by rw [Bp,c]⟩
 ·have d:b=0:=by{rw [bne_eq_false_iff_eq] at d;omega};subst d;rw [Qf9] at c;rw [c]
theorem im (a b:Int)(D:a.natAbs<4611686018427387904)(E:b.natAbs<4611686018427387904:=by omega):À 250 #[Ô .i64 a,Ô .i64 b] V λr W=>∃z:Int,r=æ #[Ô .i64 z,Õ (decide ((a*b).natAbs<4611686018427387904))]/\((a*b).natAbs<4611686018427387904->z=a*b):=by refine D7 V _ λj k=>(kR a ω).s ?_;rintro r V2 l rfl;refine ⟨_,rfl,λm n=>(kR b ω).s ?_⟩;rintro r o q rfl;refine ⟨_,rfl,λs t=>(UX _ _ ω).s ?_⟩;rintro r u v rfl;have f:a*b=if (decide (a<0)==decide (b<0)) then ((a.natAbs*b.natAbs:Nat):Int) else -((a.natAbs*b.natAbs:Nat):Int):=by{rw [Ŝ];by_cases c:a<0<;>by_cases d:b<0;{rw [Ç c,Ç d,show (a.natAbs:Int)=-a from by omega,show (b.natAbs:Int)=-b from by omega];simp [Wz1,Ww8]};{rw [Ç c,È d,Ã φ,show (a.natAbs:Int)=-a from by omega,show (b.natAbs:Int)=b from by omega];simp [Wz1]};{rw [È c,Ç d,Ã φ,show (a.natAbs:Int)=a from by omega,show (b.natAbs:Int)=-b from by omega];simp [Ww8]};{rw [È c,È d,show (a.natAbs:Int)=a from by omega,show (b.natAbs:Int)=b from by omega];simp}};rw [(Ŀ a b)];generalize a.natAbs*b.natAbs=p at *;refine ⟨_,_,rfl,λe g i=>?_,λe=>⟨λc g i=>?_,λc=>⟨λd g i=>?_,λd g i=>?_⟩⟩⟩;{have e:18446744073709551616<=p:=by{rw [bne_iff_ne] at e;omega};rw [È ω];exact ⟨_,rfl,λh=>ω⟩};{have c:4611686018427387904<=p:=by{rw [Ñ] at c;omega};rw [È ω];exact ⟨_,rfl,λh=>ω⟩};{have e:p / 18446744073709551616=0:=by{rw [bne_eq_false_iff_eq] at e;omega};have c:p<4611686018427387904:=by{rw [Ò] at c;omega};rw [Ç c,ao (x:=((p%18446744073709551616:Nat):Int)) ω,ao ω];refine ⟨_,rfl,λ_=>?_⟩;have d:(decide (a<0)==decide (b<0))=false:=by{simpa using d};rw [f,d,Ã φ];omega};{have e:p / 18446744073709551616=0:=by{rw [bne_eq_false_iff_eq] at e;omega};have c:p<4611686018427387904:=by{rw [Ò] at c;omega};rw [Ç c,ao (x:=((p%18446744073709551616:Nat):Int)) ω];refine ⟨_,rfl,λ_=>?_⟩;have d:(decide (a<0)==decide (b<0))=true:=by{simpa using d};rw [f,d,Ä rfl];omega}
theorem sO (n:Int)(d:Nat)(E:n.natAbs<4611686018427387904)(F:d<4611686018427387904)(z:d≠0):À 251 #[Ô .i64 n,Ô .i64 (d:Int)] V λr W=>RR W r (mkRat n d):=by refine CH V _ λm o=>(kR n ω).s ?_;rintro r V2 p rfl;rw [br (x:=(d:Int)) ω];refine ⟨_,rfl,λq s=>(AH _ _ ω).s ?_⟩;rintro r t u rfl;have g:Nat.gcd n.natAbs d<=d:=Wq8 ω (Ţ _ _);have v:0<Nat.gcd n.natAbs d:=Wy7 _ ω;have c:=Qs1 n d;have a:=Wq7 n d;rw [Ã z,Ť] at c a;have b:(Nat.gcd n.natAbs d:Int)∣n:=Int.ofNat_dvd_left.2 (ņ _ _);have h:d / Nat.gcd n.natAbs d<=d:=Qc7 _ _;have i:(n / (Nat.gcd n.natAbs d:Int)).natAbs<=n.natAbs:=by{rw [Qs7 b,ģ];exact Qc7 _ _};have f:Wd (mkRat n d):=by{unfold Wd;rw [c,a];omega};refine ⟨_,rfl,?_⟩;rw [ao (x:=((Nat.gcd n.natAbs d:Nat):Int)) ω];refine ⟨λe=>⟨ω,ω,λj k=>.inl ⟨?_,f⟩⟩,λe j k=>.inl ⟨?_,f⟩⟩;{rw [c,a];have l:(d:Int).tdiv (Nat.gcd n.natAbs d:Int)=((d / Nat.gcd n.natAbs d:Nat):Int):=by{rw [Qj4 ω,<-Int.natCast_ediv]};rw [(Int.tdiv_eq_ediv_of_dvd b),l];generalize n / (Nat.gcd n.natAbs d:Int)=nn at *;generalize d / Nat.gcd n.natAbs d=D at *;rw [ao ω,ao (x:=(D:Int)) ω,ao ω]};{have e:Nat.gcd n.natAbs d=1:=by{rw [Ò] at e;omega};rw [c,a,e,ao ω];simp}
theorem mkRat_one (z:Int):mkRat z 1=(z:Rat):=by apply Rat.ext;{rw [Qs1];simp};{rw [Wq7];simp}
theorem RD.one {u:Nat}{ty:TypeId}{m:Nat×Nat}(h:V.aW u (.cells #[Ô .u32 1] ty m)):RD V (some ⟨u,0,none⟩) 1 1 [1]:=
 RD.aW (ds:=[1]) h (by simp [cM]) rfl (Ù _)
theorem oa (b:md){p:OA}{n c:Nat}{ds:zA Nat}(h:RD V p n c ds)(hm:ds.length<=2^40):À 266 #[qvK #[Õ b,dB p n c]] V λr W=>RR W r (bI b ds:Rat):=by refine D6 V _ λi j k f=>(dU b ra (RD.one f) hm ψ).s ?_;rintro r V2 l a;have e:mkRat (bI b ds) (val [1])=(bI b ds:Rat):=mkRat_one _;rw [e] at a;obtain ⟨n,d,p,rfl⟩:=a.shape;exact ⟨_,_,_,rfl,λ_ m g=>a.le g⟩
theorem Bv {z:Int}(h:z.natAbs<4611686018427387904):Wd (z:Rat):=⟨h,by show (1:Nat)<_;decide⟩
theorem tL (n:Int)(N:-9223372036854775808<=n)(O:n<=9223372036854775807:=by omega):À 268 #[Ô .i64 n] V λr W=>RR W r (n:Rat):=by have W8:∀a:ut,V.Le a->À 255 #[Ô .i64 n] a λd V2=>∃z:md,∃(D:OA)(E F:Nat),d=qvK #[Õ z,dB D E F]/\(∀b:ut,V2.Le b->∀bk3_:Nat,b.aW bk3_ (.cells #[Ô .u32 1] 269 (0,0))->À 196 #[qvK #[Õ z,dB D E F],dB (some ⟨bk3_,0,none⟩) 1 1] b λf h=>∃x4_:Int,∃x5_:Int,∃p6_:OA,f=qvK #[Ô .i64 x4_,Ô .i64 x5_,qyQ p6_]/\∀J7_:C->un,(∀M:ut,h.Le M->RR M (qvK #[Ô .i64 x4_,Ô .i64 x5_,qyQ p6_]) (n:Rat))):=by{intro a j;refine (mf n N O).s ?_;rintro r V2 s ⟨p,m,c,rfl,g⟩;refine qyJ ⟨rfl,λb t u l=>(dU _ ra (RD.one l) (ü (ag (k:=64)) ω) ψ).s ?_⟩;rintro r h v i;have e:mkRat (bI (decide (n<0)) (ah n.natAbs)) (val [1])=(n:Rat):=by{rw [bf];exact mkRat_one _};grind [i.shape,i.le]};refine Km V _ ⟨λ_=>W8,λo=>⟨λ_=>W8,λq a j=>.inl ⟨rfl,Bv ?_⟩⟩⟩;rw [Ò] at o q;omega
theorem pV (h:RR V v q)(z:Sz k q)(D:k<=2^40:=by omega):À 182 #[v] V λr W=>r=Ô .i64 q.num.sign:=by rcases h with ⟨rfl,hw⟩|⟨a,b,p,n,c,j,l,m,rfl,o,s,t,i,u,hw⟩;{refine rz V _ ⟨π,λ_=>⟨λh e f=>?_,λh=>⟨λg e f=>?_,λg e f=>?_⟩⟩⟩;{rw [Qf5 (by simpa using h)]};{rw [Qh6 (by simpa using g)]};{have:q.num=0:=by{rw [Ò] at h g;omega};rw [this];rfl}};{obtain ⟨rfl,w⟩:=i.inv;refine rz V _ ⟨λ_=>⟨rfl,rfl,decide (q.num<0),p,n,c,a.add 0,rfl,?_,?_,λe f=>(pY _ ra (ü (ag z.1) D)).s ?_⟩,π⟩<;>grind [Addr.add,bf]}
theorem Iu (h:RR V v q):À 267 #[v] V λr W=>r=Õ (decide (q=0)):=by rcases h with ⟨rfl,hw⟩|⟨a,b,p,n,c,f,g,i,rfl,j,k,l,m,o,hw⟩;{grind [rA,Rat.num_eq_zero]};{refine rA _ _ _ V _ ⟨π,λ_ s t=>?_⟩;congr 1;symm;rw [Ò];intro e;subst e;exact hw ⟨φ,φ⟩}
theorem uJ (h:RR V v q){k:Nat}(M:Sz k q)(N:k<=2^40):À 129 #[v] V λr W=>RR W r (-q):=by rcases h with ⟨rfl,hw⟩|⟨a,b,p,n,c,f,i,j,rfl,m,o,s,t,u,hw⟩;{have:=hw.1;refine tE V _ ⟨π,λ_ w x=>.inl ⟨?_,by unfold Wd;rw [Wz2,Wj6,ť];exact hw⟩⟩;rw [ao ω,Wz2,Wj6,Int.zero_sub]};{obtain ⟨rfl,D⟩:=t.inv;refine tE V _ ⟨λ_=>⟨rfl,rfl,decide (q.num<0),p,n,c,a.add 0,rfl,?_,?_,rfl,rfl,f,i,j,⟨_,rfl,s⟩,λw x=>(DB _ ra (ü (ag M.1) N)).s ?_⟩,π⟩;{exact m};{simpa [Addr.add] using o};{rintro r V2 E l;rw [bf] at l;obtain ⟨y,z,A,rfl,g⟩:=l;refine qyJ ⟨rfl,λF B C e=>.inr ⟨⟨C,0,none⟩,decide (-q.num<0),y,z,A,f,i,j,rfl,?_,?_,?_,?_,?_,?_⟩⟩;{rw [add_zero'];exact dD (xs:=[_,_,_]) e rfl};{rw [add_zero'];exact dD (xs:=[_,_,_]) e rfl};{rw [add_zero'];exact dD (xs:=[_,_,_]) e rfl};{exact ⟨_,_,_,rfl,g.le B⟩};{exact u.le au};{unfold Wd;rw [Wz2,Wj6,ť];exact hw}}}
theorem _root_.Go.Eng.Sz.neg (h:Sz k q):Sz k (-q):=by unfold Sz;rw [Wz2,Wj6,ť];exact h
theorem BP (z:Int)(g:Nat)(h:(g:Int)∣z):(z / g).natAbs<=z.natAbs:=by rw [Qs7 h,ģ];exact Qc7 _ _
theorem _root_.Go.Eng.Sz.mkRat {k:Nat}{z:Int}{d:Nat}(u:z.natAbs<2^k)(D:d<2^k)(E:0<k):Sz k (mkRat z d):=by have a:1<2^k:=Qd7 ω;unfold Sz;rw [Qs1,Wq7];split;{exact ⟨ı k,a⟩};{refine ⟨ō (BP _ _ (Int.ofNat_dvd_left.2 (Ţ _ _))) u,ō (Qc7 _ _) D⟩}
theorem cw {a b m:Nat}(u:a<2^k)(z:b<2^m):a*b<2^(k+m):=by rw [Đ];exact Wq1 u z
theorem As {m:Nat}(u:Sz k x)(z:Sz m y):(x.num*y.den).natAbs<2^(k+m)/\(y.num*x.den).natAbs<2^(k+m)/\(x.num*y.den+y.num*x.den).natAbs<2^(k+m+1)/\x.den*y.den<2^(k+m):=by have a:(x.num*y.den).natAbs<2^(k+m):=by{rw [Ŀ,ģ];exact cw u.1 z.2};have b:(y.num*x.den).natAbs<2^(k+m):=by{rw [Ŀ,ģ,Wx8];exact cw z.1 u.2};refine ⟨a,b,?_,cw u.2 z.2⟩;rw [ġ];omega
theorem _root_.Go.Eng.Sz.add {m:Nat}(u:Sz k x)(z:Sz m y):Sz (k+m+1) (x+y):=by obtain ⟨-,-,a,b⟩:=As u z;rw [Rat.add_def'];grind [Go.Eng.Sz.mkRat]
theorem _root_.Go.Eng.Sz.sub {m:Nat}(u:Sz k x)(z:Sz m y):Sz (k+m+1) (x-y):=by rw [Qs2];exact u.add z.neg
theorem _root_.Go.Eng.Sz.mul {m:Nat}(u:Sz k x)(z:Sz m y):Sz (k+m+1) (x*y):=by rw [Wk7];refine (Go.Eng.Sz.mkRat (k:=k+m+1) ?_ ?_ ω);{rw [Ŀ];exact ĺ (cw u.1 z.1) (ĵ ω ω)};{exact ĺ (cw u.2 z.2) (ĵ ω ω)}
theorem Gd {w:un}(hx:RR V v x)(hy:RR V w y){k m:Nat}(hk:Sz k x)(hm:Sz m y)(hkm:k+m<2^40):À 234 #[v,w] V λr W=>RR W r (x+y):=by
 obtain ⟨M,N,O,rfl⟩:=hx.shape;obtain ⟨P,s1,s2,rfl⟩:=hy.shape;have f:=Rat.add_def' x y;have ⟨b1,b2,b3,b4⟩:=As hk hm
 have gen:(∀V46:ut,V.Le V46->À 207 #[qvK #[Ô .i64 M,Ô .i64 N,qyQ O]] V46 λl Q=>∃b53_:md,∃(Ti:OA)(SQ QY:Nat),l=qvK #[Õ b53_,dB Ti SQ QY]/\(∀V48:ut,Q.Le V48->À 205 #[qvK #[Ô .i64 P,Ô .i64 s1,qyQ s2]] V48 λo R=>∃(p55_:OA)(n55_ c55_:Nat),o=dB p55_ n55_ c55_/\(∀V50:ut,R.Le V50->À 252 #[qvK #[Õ b53_,dB Ti SQ QY],qvK #[Õ false,dB p55_ n55_ c55_]] V50 λq S=>∃b56_:md,∃(Tj:OA)(SS QZ:Nat),q=qvK #[Õ b56_,dB Tj SS QZ]/\(∀V52:ut,S.Le V52->À 207 #[qvK #[Ô .i64 P,Ô .i64 s1,qyQ s2]] V52 λs T=>∃b58_:md,∃(p59_:OA)(n59_ c59_:Nat),s=qvK #[Õ b58_,dB p59_ n59_ c59_]/\(∀V54:ut,T.Le V54->À 205 #[qvK #[Ô .i64 M,Ô .i64 N,qyQ O]] V54 λt U=>∃(Tk:OA)(SU Q_:Nat),t=dB Tk SU Q_/\(∀V56:ut,U.Le V56->À 252 #[qvK #[Õ b58_,dB p59_ n59_ c59_],qvK #[Õ false,dB Tk SU Q_]] V56 λu W=>∃b61_:md,∃(Tl:OA)(SW Ra:Nat),u=qvK #[Õ b61_,dB Tl SW Ra]/\(∀V58:ut,W.Le V58->À 284 #[qvK #[Õ b56_,dB Tj SS QZ],qvK #[Õ b61_,dB Tl SW Ra]] V58 λz X=>∃b63_:md,∃(p64_:OA)(n64_ c64_:Nat),z=qvK #[Õ b63_,dB p64_ n64_ c64_]/\(∀V60:ut,X.Le V60->À 205 #[qvK #[Ô .i64 M,Ô .i64 N,qyQ O]] V60 λA Y=>∃(p65_:OA)(n65_ c65_:Nat),A=dB p65_ n65_ c65_/\(∀V62:ut,Y.Le V62->À 205 #[qvK #[Ô .i64 P,Ô .i64 s1,qyQ s2]] V62 λB Z=>∃(Tn:OA)(n66_ c66_:Nat),B=dB Tn n66_ c66_/\(∀V64:ut,Z.Le V64->À 204 #[dB p65_ n65_ c65_,dB Tn n66_ c66_] V64 λC a0=>∃(p67_:OA)(n67_ c67_:Nat),C=dB p67_ n67_ c67_/\(∀V66:ut,a0.Le V66->À 196 #[qvK #[Õ b63_,dB p64_ n64_ c64_],dB p67_ n67_ c67_] V66 λD a1=>∃x68_:Int,∃x69_:Int,∃p70_:OA,D=qvK #[Ô .i64 x68_,Ô .i64 x69_,qyQ p70_]/\(∀V68:ut,a1.Le V68->RR V68 (qvK #[Ô .i64 x68_,Ô .i64 x69_,qyQ p70_]) (x+y))))))))))))):=by intro j l1;refine (gQ ra hk).s ?_;rintro r V2 l2 ⟨p1,n1,c1,rfl,H⟩;refine qyJ ⟨rfl,λV3 I=>(fS ra hm).s ?_⟩;rintro r V4 l4 ⟨p2,n2,c2,rfl,J⟩;have q1:=ag hk.1;have q2:=ag hk.2;have q3:=ag hm.1;have q4:=ag hm.2;refine ⟨_,_,_,rfl,λV5 l5=>(jh _ false ra ra).s ?_⟩;rintro r V6 l6 h6;rw [bf,tW,af] at h6;obtain ⟨p3,n3,c3,rfl,E⟩:=h6;refine qyJ ⟨rfl,λV7 l7=>(gQ ra hm).s ?_⟩;rintro r V8 l8 ⟨p4,n4,c4,rfl,g4⟩;refine qyJ ⟨rfl,λV9 l9=>(fS ra hk).s ?_⟩;rintro r fo a2 ⟨p5,n5,c5,rfl,g5⟩;refine ⟨_,_,_,rfl,λfg dy=>(jh _ false ra ra).s ?_⟩;rintro r gT dX F;rw [bf,tW,af] at F;obtain ⟨p6,n6,c6,rfl,g6⟩:=F;have q5:=ag b1;have q6:=ag b2;refine qyJ ⟨rfl,λiL dS=>(DA _ _ ra ra ω).s ?_⟩;rintro r lR gj Ur;rw [bf,bf] at Ur;obtain ⟨p7,n7,c7,rfl,g7⟩:=Ur;refine qyJ ⟨rfl,λlS gC=>(fS ra hk).s ?_⟩;rintro r kH fy ⟨p8,n8,c8,rfl,g8⟩;refine ⟨_,_,_,rfl,λlT ij=>(fS ra hm).s ?_⟩;rintro r mZ hU ⟨p9,n9,c9,rfl,g9⟩;refine ⟨_,_,_,rfl,λpS jN=>(iQ ra ra).s ?_⟩;rintro r sC kt ⟨a9,b0,b5,rfl,a3⟩;rw [af,af] at a3;have q7:=ag b3;have q8:=ag b4;refine ⟨_,_,_,rfl,λsE qB=>(dU _ ra ra ω).s ?_⟩;rintro r sN nH g;rw [bf,af,<-f] at g;obtain ⟨n,d,p,rfl⟩:=g.shape;exact ⟨_,_,_,rfl,λuF pk=>g.le pk⟩
 have lift:∀j:ut,V.Le j->∀V2:ut,j.Le V2->V.Le V2:=λ_ h _ h'=>h.m h';rcases hx with ⟨ex,wx⟩|⟨a,b,p,n,c,p',n',c',ex,-,-,-,-,-,wx⟩
 ·rcases hy with ⟨G,wy⟩|⟨a,b,p,n,c,p',n',c',G,-,-,-,-,-,wy⟩
  ·simp only [Value.agg.injEq] at ex G;obtain ⟨rfl,rfl,rfl⟩:=ex;obtain ⟨rfl,rfl,rfl⟩:=G;obtain ⟨a4,b6⟩:=wx;obtain ⟨a5,b7⟩:=wy;have e1:i64.wrap ((x.den:Int)-1+1)=x.den:=by rw [ao ω];omega
   have e2:i64.wrap ((y.den:Int)-1+1)=y.den:=by rw [ao ω];omega
   refine mV V _ ⟨λ_=>⟨λ_ _=>True,⟨λ_=>⟨λK=>⟨λL j l1=>?_,λL=>?_⟩,λK=>?_⟩,π⟩,λ_ j l1 _=>⟨θ,λV2 l2=>gen V2 au⟩⟩,π⟩
   ·have K:x.den=1:=by{rw [Ë] at K;omega};have L:y.den=1:=by{rw [Ë] at L;omega};rw [ao ω];refine (tL _ ω).s ?_;rintro r V2 l2 i;have e:((x.num+y.num:Int):Rat)=x+y:=by{rw [f,K,L];simp only [Int.natCast_one,Int.mul_one];exact (mkRat_one _).symm};rw [e] at i;obtain ⟨n,d,p,rfl⟩:=i.shape;exact ⟨_,_,_,rfl,λV3 I=>i.le I⟩
   all_goals
    rw [e1,e2];refine λV4 l4=>(im _ _ a4).s ?_;rintro r V5 l5 ⟨z1,rfl,a6⟩;refine ⟨_,_,rfl,λV6 l6=>(im _ _ a5).s ?_⟩;rintro r V7 l7 ⟨z2,rfl,a7⟩;refine ⟨_,_,rfl,λV8 l8=>(im _ _ ω).s ?_⟩;rintro r V9 l9 ⟨z3,rfl,a8⟩;refine ⟨_,_,rfl,λH=>⟨λJ=>⟨λE=>⟨λg4=>⟨λg5 fo a2=>?_,λ_=>⟨(),σ,trivial⟩⟩,λ_=>⟨(),σ,trivial⟩⟩,λ_=>⟨(),σ,trivial⟩⟩,λ_=>⟨(),σ,trivial⟩⟩,λ_=>⟨(),σ,trivial⟩⟩;rw [Ñ] at H J E g4 g5;have k1:=a6 H;have k2:=a7 J;have k3:=a8 E;rw [<-k1] at H;rw [<-k2] at J;rw [<-Ŝ,ģ] at E;rw [<-Ŝ] at k3;rw [ao ω] at g4 g5 ⊢;rw [k3];refine (sO _ _ ω E (ŏ x.den_nz y.den_nz)).s ?_;rintro r fg dy i;rw [k1,k2,<-f] at i;obtain ⟨n,d,p,rfl⟩:=i.shape;exact ⟨_,_,_,rfl,λV3 I=>i.le I⟩
  ·simp only [Value.agg.injEq] at ex G;obtain ⟨rfl,rfl,rfl⟩:=ex;obtain ⟨rfl,rfl,rfl⟩:=G;exact mV V _ ⟨λ_=>⟨λ_ _=>True,⟨π,λ_=>⟨(),σ,trivial⟩⟩,λ_ j l1 _=>⟨θ,λV2 l2=>gen V2 au⟩⟩,π⟩
 ·simp only [Value.agg.injEq] at ex;obtain ⟨rfl,rfl,rfl⟩:=ex;exact mV V _ ⟨π,λ_=>gen⟩
end Go.Proofs.Tryz
