import Derived.Test.YtbdlbajodgoneaaGreatDoorS12
set_option linter.all false
open Go.IntKind (i64 u64 u32)
open Go.Value renaming int→Ô,slice→yD,bool→gF,tuple→ê,agg→dB,pointer→Õ
namespace Go.Proofs.Tryz
open Go.Eng Go.Big
section
variable{G b c i j k:Nat}{fs gs ks us vs:List Nat}{rest:List Value}
theorem _root_.Go.Eng.RD.rd0 {V:ut}{p:OA}{n:Nat}{ds:zA Nat}(h:RD V p n c ds){i:Int}{K:Int->Prop}(j:Nat)(u:i=j)(z:j<ds.length)(D:K ((ds[j]:Nat):Int)):(p.isSome=true)/\(0<=i/\i<(n:Int))/\∃x:Int,(∃a,ae p j=some a/\V.at a (Ô .u32 x))/\K x:=by have:=h.rd (K:=K) j u z D;subst u;simpa only [ß,Ġ] using this
theorem Yt (h:k<us.length):(aO us++rest)[0+k*1]?=some (Ô .u32 (us[k]:Int)):=by grind [List.getElem?_append_left,iZ]
theorem Br {x:Nat}(h:k<us.length:=by omega):(aO us++rest).set (0+k*1) (Ô .u32 (x:Int))=aO (us.set k x)++rest:=by rw [č,Ġ,List.set_append_left _ _ (by simpa using h),bT]
theorem Lw {y m t s:Nat}(hm:(ah y).length=m)(E:0<m)(z:t=(ah y)[m-1]'ω)(D:s=32-dV t):s<32/\(ah (y*2^s)).length=m/\2147483648*4294967296^(m-1)<=y*2^s:=by have d:t<4294967296:=by{rw [z];exact (aP y).get _};have a:t≠0:=by{rw [z];have:=(mg y).last ω;simpa [hm] using this};have b:dV t<=32:=mJ.2 ω;have f:0<dV t:=by{unfold dV;rw [Ã a];omega};have e:=jF (ah y) (m-1) ω;rw [ag,ń ω,<-z] at e;simp only [gQ,İ,ğ] at e;have c:=ja ((aP y).take (m-1));rw [ì,Ħ ω] at c;have k:2^dV t*2^s=4294967296:=by{rw [<-Ĕ,D,Nat.add_sub_cancel' b]};have g:2^(dV t-1)*2^s=2147483648:=by{rw [<-Ĕ,show dV t-1+s=31 from by omega]};have h:2147483648*4294967296^(m-1)<=y*2^s:=by{have:2^(dV t-1)*2^s*4294967296^(m-1)<=t*2^s*4294967296^(m-1):=ć _ (ć _ (Bk a));rw [g] at this;have l:t*2^s*4294967296^(m-1)=4294967296^(m-1)*t*2^s:=χ;have n:4294967296^(m-1)*t*2^s<=y*2^s:=ć _ ω;omega};refine ⟨ω,?_,h⟩;have i:y*2^s<4294967296^m:=by{have j:y<4294967296^(m-1)*(t+1):=by{rw [Ĵ,Ġ];omega};have o:4294967296^(m-1)*(t+1)*2^s<=4294967296^(m-1)*2^dV t*2^s:=ć _ (Ő _ (wK t));have p:4294967296^(m-1)*2^dV t*2^s=4294967296^m:=by{grind [Nat.pow_succ,Nat.sub_add_cancel]};have q:=Qc7 j (Ļ s);omega};have r:=aR.2 i;have u:m-1<(ah (y*2^s)).length:=by{rw [zG];omega};omega
theorem top3 {us:zA Nat}{k:Nat}(h:k+2<us.length)(u:val (us.drop (k+3))=0):val us=((us[k+2]*4294967296+us[k+1])*4294967296+us[k])*4294967296^k+val (us.take k):=by have a:=jF us k ω;rw [ī (i:=k+1) ω,ī (i:=k+1+1) ω,bP,bP] at a;grind
theorem top2 {us:zA Nat}{k:Nat}(h:us.length=k+2:=by omega):val us=(us[k+1]*4294967296+us[k])*4294967296^k+val (us.take k):=by grind [jF,List.drop_eq_getElem_cons,bP,gQ]
theorem bO (us:zA Nat)(k:Nat)(h:k<=us.length:=by omega):val us=val (us.take k)+4294967296^k*val (us.drop k):=by grind [List.take_append_drop,fA]
theorem kq {us:zA Nat}{k:Nat}(h:val us<4294967296^k)(u:k<=us.length:=by omega):val (us.drop k)=0:=by have:=bO us k u;rcases Ŀ (val (us.drop k)) with e|e;{exact e};{have:4294967296^k*1<=4294967296^k*val (us.drop k):=Ő _ e;omega}
theorem _root_.Go.Eng.RD.rdq {V:ut}{p:OA}{n:Nat}{ds:zA Nat}(h:RD V p n c ds){i:Int}{K:Int->Prop}(j:Nat)(u:i=j){d:Nat}(z:ds[j]?=some d)(D:K (d:Int)):(p.isSome=true)/\(0<=i/\i<(n:Int))/\∃x:Int,(∃a,ae p (i.toNat*1)=some a/\V.at a (Ô .u32 x))/\K x:=by have ⟨b,e⟩:=Ī.1 z;exact h.rd j u b (by rw [e];exact D)
theorem mq {d:Nat}(h:us[k]?=some d):(aO us++rest)[0+k*1]?=some (Ô .u32 (d:Int)):=by grind [Yt]
structure JF (us vs:List Nat) (j G i b c:Nat) (fs:List Nat):Prop where
 b1:b<=1
 c1:c<4294967296
 hi:i<=vs.length
 len:fs.length=us.length
 gT:cR fs
 dr:fs.drop (j+i)=us.drop (j+i)
 tk:fs.take j=us.take j
 eq:val (fs.take (j+i))+4294967296^j*(G*val (vs.take i))=val (us.take (j+i))+4294967296^j*4294967296^i*(c+b)
theorem JF.read (h:JF us vs j G i b c fs)(z:j+i<us.length):∃u,fs[j+i]?=some u/\us[j+i]?=some u:=by have:=Æ (λl=>l[0]?) h.dr;grind
theorem JF.step (h:JF us vs j G i b c fs)(hG:G<4294967296)(hdv:cR vs)(Rj:cR us)(hi:i<vs.length)(Z:j+i<us.length):∃u d N M cn cb:Nat,vs[i]?=some d/\fs[j+i]?=some u/\u64.wrap ((c:Int)+u64.wrap ((G:Int)*u64.wrap (d:Int)))=(cn:Int)/\(cn:Int).fdiv (2^32)=(cb:Int) /\ (u64.wrap (u64.wrap (u64.wrap (u:Int)-ch .and .u64 (cn:Int) 4294967295)-(b:Int))).fdiv (2^63)=(N:Int) /\ u32.wrap (u64.wrap (u64.wrap (u64.wrap (u:Int)-ch .and .u64 (cn:Int) 4294967295)-(b:Int)))=(M:Int)/\M<4294967296 /\ JF us vs j G (i+1) N cb (fs.set (j+i) M):=by have ⟨u,l,a⟩:=h.read Z;obtain ⟨m,n,-,o,p,q,r,s⟩:=h;have C:=hdv.get (i:=i) hi;have t:=Rj u (Qb7 a);have D:G*vs[i]<=4294967295*4294967295:=Qg3 ω ω;refine ⟨u,vs[i],?_⟩;have v:u64.wrap ((c:Int)+u64.wrap ((G:Int)*u64.wrap ((vs[i]:Nat):Int)))=((c+G*vs[i]:Nat):Int):=by{rw [bw (x:=((vs[i]:Nat):Int)) ω,<-Ť];generalize G*vs[i]=gd at *;rw [bw (x:=((gd:Nat):Int)) ω,bw ω];omega};have w:=Hc (x:=((u:Int)-((c+G*vs[i])%4294967296:Nat)-b)%18446744073709551616) s n m t rfl;have hand:ch .and .u64 ((c+G*vs[i]:Nat):Int) 4294967295=(((c+G*vs[i])%4294967296:Nat):Int):=and64 _;have e:u64.wrap (u64.wrap (u64.wrap (u:Int)-(((c+G*vs[i])%4294967296:Nat):Int))-(b:Int))=((u:Int)-((c+G*vs[i])%4294967296:Nat)-b)%18446744073709551616:=by{rw [bw (x:=(u:Int)) ω,Ar,Ar];omega};have y:(c+G*vs[i]) / 4294967296<4294967296:=by{generalize G*vs[i]=gd at *;omega};generalize ((u:Int)-((c+G*vs[i])%4294967296:Nat)-b)%18446744073709551616=O at *;obtain ⟨E,F,H,A⟩:=w;obtain ⟨N,f⟩:∃N:Nat,O / 9223372036854775808=N:=⟨(O / 9223372036854775808).toNat,ω⟩;obtain ⟨M,g⟩:∃M:Nat,O%4294967296=M:=⟨(O%4294967296).toNat,ω⟩;rw [f,g] at A;have B:M<4294967296:=ω;have k:N<=1:=ω;refine ⟨N,M,c+G*vs[i],(c+G*vs[i]) / 4294967296,ô hi,l,v,?_,?_,?_,B,k,y,hi,by simpa using o,p.set _ _ B,?_,?_,?_⟩;{rw [j7]};{rw [hand,e,Vn,f]};{rw [hand,e,kX,g]};{rw [Qn7 ω];have:=Æ (List.drop 1) q;simpa [Ŗ] using this};{rw [Qp8,Qf0 (by simp;omega)];exact r};have z:us[j+i]=u:=by{rw [ô Z] at a;exact ś a};rw [show j+(i+1)=j+i+1 from by omega,aV _ _ _,aD us (j+i),aD vs i hi,ħ,Ĕ,z];exact A
theorem Tz {t a:Nat}(u:ks.take j=us.take j)(z:j<=ks.length)(hu:j<=us.length)(h:val ks+4294967296^j*a=val us+4294967296^j*t):val (ks.drop j)+a=val (us.drop j)+t:=by have b:=bO ks j z;have c:=bO us j hu;rw [u] at b;have:4294967296^j*(val (ks.drop j)+a)=4294967296^j*(val (us.drop j)+t):=by{rw [Ĵ,Ĵ];omega};grind [Nat.eq_of_mul_eq_mul_left]
theorem JF.fin (h:JF us vs j G vs.length b c fs)(Rj:cR us)(hj:j+vs.length<us.length)(hz:val (us.drop (j+vs.length+1))=0):∃u ob Z:Nat,fs[j+vs.length]?=some u /\ (u64.wrap (u64.wrap (u64.wrap (u:Int)-(c:Int))-(b:Int))).fdiv (2^63)=(ob:Int) /\ u32.wrap (u64.wrap (u64.wrap (u64.wrap (u:Int)-(c:Int))-(b:Int)))=(Z:Int)/\Z<4294967296/\ob<=1 /\ cR (fs.set (j+vs.length) Z)/\(fs.set (j+vs.length) Z).length=us.length/\(fs.set (j+vs.length) Z).take j=us.take j/\val ((fs.set (j+vs.length) Z).drop (j+vs.length+1))=0 /\ val ((fs.set (j+vs.length) Z).drop j)+G*val vs=val (us.drop j)+4294967296^(vs.length+1)*ob:=by have ⟨u,s,f⟩:=h.read hj;obtain ⟨t,i,-,v,w,y,z,l⟩:=h;have A:=Rj u (Qb7 f);have B:us[j+vs.length]=u:=by{rw [ô hj] at f;exact ś f};rw [Ė] at l;have k:=Hc (g:=G) (d:=0) (Y:=val vs) (x:=((u:Int)-((c+G*0)%4294967296:Nat)-b)%18446744073709551616) l i t A rfl;simp only [İ,ğ] at k;rw [ĩ i,ũ i,č] at k;have m:u64.wrap (u64.wrap (u64.wrap (u:Int)-(c:Int))-(b:Int))=((u:Int)-(c:Int)-b)%18446744073709551616:=by{rw [bw (x:=(u:Int)) ω,Ar,Ar];omega};generalize ((u:Int)-(c:Int)-b)%18446744073709551616=xx at *;obtain ⟨J,K,L,E⟩:=k;obtain ⟨ob,n⟩:∃ob:Nat,xx / 9223372036854775808=ob:=⟨(xx / 9223372036854775808).toNat,ω⟩;obtain ⟨Z,o⟩:∃Z:Nat,xx%4294967296=Z:=⟨(xx%4294967296).toNat,ω⟩;rw [n,o] at E;simp only [ß] at E;have F:Z<4294967296:=ω;have p:ob<=1:=ω;obtain ⟨e,a⟩:∃e,e=fs.set (j+vs.length) Z:=⟨_,rfl⟩;refine ⟨u,ob,Z,s,by rw [m,Vn,n],by rw [m,kX,o],F,p,?_⟩;rw [<-a];have C:e.length=us.length:=by{rw [a];simpa using v};have D:cR e:=by{rw [a];exact w.set _ _ F};have q:e.take j=us.take j:=by{rw [a,Qp8,Qf0 (by simp;omega)];exact z};have r:e.drop (j+vs.length+1)=us.drop (j+vs.length+1):=by{rw [a,Qn7 ω];have:=Æ (List.drop 1) y;simpa using this};refine ⟨D,C,q,by rw [r];exact hz,Tz q ω ω ?_⟩;have H:=bO e (j+vs.length+1);have I:=bO us (j+vs.length+1);have M:val (e.take (j+vs.length+1))=val (fs.take (j+vs.length))+4294967296^j*4294967296^vs.length*Z:=by{rw [a,aV _ _ _,Ĕ]};have N:val (us.take (j+vs.length+1))=val (us.take (j+vs.length))+4294967296^j*4294967296^vs.length*u:=by{rw [aD us (j+vs.length),Ĕ,B]};rw [r,hz,İ,ğ] at H;rw [hz,İ,ğ] at I;have O:4294967296^j*(4294967296^vs.length*4294967296)*ob=4294967296^j*(4294967296^(vs.length+1)*ob):=by{rw [ħ];grind};omega
structure Jx (ks vs:List Nat) (j i c:Nat) (gs:List Nat):Prop where
 c1:c<=1
 hi:i<=vs.length
 len:gs.length=ks.length
 gT:cR gs
 dr:gs.drop (j+i)=ks.drop (j+i)
 tk:gs.take j=ks.take j
 eq:val (gs.take (j+i))+4294967296^j*4294967296^i*c=val (ks.take (j+i))+4294967296^j*val (vs.take i)
theorem Jx.read (h:Jx ks vs j i c gs)(z:j+i<ks.length):∃u,gs[j+i]?=some u/\ks[j+i]?=some u:=by have:=Æ (λl=>l[0]?) h.dr;grind
theorem Jx.step (h:Jx ks vs j i c gs)(hdv:cR vs)(hdk:cR ks)(hi:i<vs.length)(z:j+i<ks.length):∃u d D cn E:Nat,vs[i]?=some d/\gs[j+i]?=some u/\u64.wrap ((c:Int)+u64.wrap (u64.wrap (u:Int)+u64.wrap (d:Int)))=(cn:Int)/\(cn:Int).fdiv (2^32)=(E:Int) /\ u32.wrap (cn:Int)=(D:Int)/\Jx ks vs j (i+1) E (gs.set (j+i) D):=by have ⟨u,b,a⟩:=h.read z;obtain ⟨p,-,e,f,g,k,l⟩:=h;have q:=hdv.get (i:=i) hi;have r:=hdk u (Qb7 a);have m:ks[j+i]=u:=by{rw [ô z] at a;exact ś a};obtain ⟨t5,n⟩:∃t5,t5=c+u+vs[i]:=⟨_,rfl⟩;have o:u64.wrap ((c:Int)+u64.wrap (u64.wrap (u:Int)+u64.wrap ((vs[i]:Nat):Int)))=(t5:Int):=by{rw [bw (x:=((vs[i]:Nat):Int)) ω,bw (x:=(u:Int)) ω,bw (x:=(u:Int)+_) ω,bw ω];omega};refine ⟨u,vs[i],t5%4294967296,t5,t5 / 4294967296,ô hi,b,o,by rw [j7],by rw [kX];omega,ω,hi,by simpa using e,f.set _ _ ω,?_,?_,?_⟩;{rw [Qn7 ω];have:=Æ (List.drop 1) g;simpa [Ŗ] using this};{rw [Qp8,Qf0 (by simp;omega)];exact k};rw [show j+(i+1)=j+i+1 from by omega,aV _ _ _,aD ks (j+i),aD vs i hi,ħ,Ĕ,m];exact (FX l n)
theorem Jx.fin (h:Jx ks vs j vs.length c gs)(hdk:cR ks)(O:j+vs.length<ks.length)(N:val (ks.drop (j+vs.length+1))=0):∃u F M:Nat,gs[j+vs.length]?=some u/\u32.wrap ((u:Int)+u32.wrap (c:Int))=(F:Int)/\M<=1 /\ cR (gs.set (j+vs.length) F)/\(gs.set (j+vs.length) F).length=ks.length/\(gs.set (j+vs.length) F).take j=ks.take j/\val ((gs.set (j+vs.length) F).drop (j+vs.length+1))=0 /\ val ((gs.set (j+vs.length) F).drop j)+4294967296^(vs.length+1)*M=val (ks.drop j)+val vs:=by have ⟨u,k,e⟩:=h.read O;obtain ⟨w,-,l,m,n,o,f⟩:=h;have y:=hdk u (Qb7 e);have p:ks[j+vs.length]=u:=by{rw [ô O] at e;exact ś e};rw [Ė] at f;have q:=FX (d:=0) (u:=u) (Y:=val vs) (t:=c+u) f;simp only [İ,ğ] at q;have z:(c+u)%4294967296<4294967296:=ω;have r:(c+u) / 4294967296<=1:=ω;have hw:u32.wrap ((u:Int)+u32.wrap (c:Int))=(((c+u)%4294967296:Nat):Int):=by{rw [xl (x:=(c:Int)) ω,kX];omega};generalize (c+u)%4294967296=F at *;generalize (c+u) / 4294967296=M at *;obtain ⟨b,a⟩:∃b,b=gs.set (j+vs.length) F:=⟨_,rfl⟩;refine ⟨u,F,M,k,hw,r,?_⟩;rw [<-a];have s:b.length=ks.length:=by{rw [a];simpa using l};have v:cR b:=by{rw [a];exact m.set _ _ z};have g:b.take j=ks.take j:=by{rw [a,Qp8,Qf0 (by simp;omega)];exact o};have i:b.drop (j+vs.length+1)=ks.drop (j+vs.length+1):=by{rw [a,Qn7 ω];have:=Æ (List.drop 1) n;simpa using this};refine ⟨v,s,g,by rw [i];exact N,Tz g ω ω ?_⟩;have A:=bO b (j+vs.length+1);have B:=bO ks (j+vs.length+1);have C:val (b.take (j+vs.length+1))=val (gs.take (j+vs.length))+4294967296^j*4294967296^vs.length*F:=by{rw [a,aV _ _ _,Ĕ]};have D:val (ks.take (j+vs.length+1))=val (ks.take (j+vs.length))+4294967296^j*4294967296^vs.length*u:=by{rw [aD ks (j+vs.length),Ĕ,p]};rw [i,N,İ,ğ] at A;rw [N,İ,ğ] at B;have E:4294967296^j*(4294967296^vs.length*4294967296)*M=4294967296^j*(4294967296^(vs.length+1)*M):=by{rw [ħ];grind};omega
structure GK (v1 v2 v' u0 u1 u2 t' B T Y:Nat):Prop where
 hY:Y=(v1*4294967296+v2)*B+v'
 hT:T=((u0*4294967296+u1)*4294967296+u2)*B+t'
 Cw:v'<B
 Kx:t'<B
 v1l:2147483648<=v1
 v1u:v1<4294967296
 v2u:v2<4294967296
 u0u:u0<4294967296
 u1u:u1<4294967296
 u2u:u2<4294967296
 lt:T<4294967296*Y
structure GI (v1 f T Y G ρ:Nat):Prop where
 r:ρ<4294967296
 g:G<=4294967297
 eq:G*v1+ρ=f
 lt:T<(G+1)*Y
structure GF (T Y G:Nat):Prop where
 g:G<4294967296
 lt:T<(G+1)*Y
 gt:G*Y<T+Y
section
variable{v1 v2 v' u0 u1 u2 t' B T Y G ρ:Nat}
theorem GK.start (h:GK v1 v2 v' u0 u1 u2 t' B T Y):GI v1 (u0*4294967296+u1) T Y ((u0*4294967296+u1) / v1) ((u0*4294967296+u1)%v1):=by have c:=GH h.hY h.hT h.Cw h.lt;have d:=h.v1l;have e:=h.v1u;have f:=h.v2u;have a:=Qd7 (u0*4294967296+u1) v1;have b:=ġ (u0*4294967296+u1) (show 0<v1 by omega);refine ⟨ω,?_,by rw [Ľ];exact a,?_⟩;{have:(u0*4294967296+u1) / v1<4294967298:=by{rw [Qn4 ω];omega};omega};rw [Ľ] at a;exact TY h.hY h.hT h.Kx h.u2u a b
theorem GK.YZ (h:GK v1 v2 v' u0 u1 u2 t' B T Y)(u:4294967296<=G):T<G*Y:=ł h.lt (ć _ u)
theorem GK.dec (h:GK v1 v2 v' u0 u1 u2 t' B T Y)(hi:GI v1 (u0*4294967296+u1) T Y G ρ)(u:ρ*4294967296+u2<G*v2):T<G*Y:=Re h.hY h.hT h.Kx hi.eq u
theorem GK.last (h:GK v1 v2 v' u0 u1 u2 t' B T Y)(hi:GI v1 (u0*4294967296+u1) T Y G ρ)(u:G<4294967296)(z:G*v2<=ρ*4294967296+u2):GF T Y G:=
 ⟨u,hi.lt,GG h.hY h.hT h.Cw (by have:=h.v1l;omega) ω hi.eq z⟩
theorem GK.down (h:GK v1 v2 v' u0 u1 u2 t' B T Y)(hi:GI v1 (u0*4294967296+u1) T Y G ρ)(u:T<G*Y):1<=G/\(G-1)*v1+(ρ+v1)=u0*4294967296+u1/\T<(G-1+1)*Y:=by grind [hi.eq,Nat.add_mul]
theorem GK.Y5 (h:GK v1 v2 v' u0 u1 u2 t' B T Y)(hi:GI v1 (u0*4294967296+u1) T Y G ρ)(u:T<G*Y)(z:4294967296<=ρ+v1):1<=G/\GF T Y (G-1):=by have ⟨b,a,c⟩:=h.down hi u;have e:=GH h.hY h.hT h.Cw h.lt;have g:=h.v2u;have f:G-1<4294967296:=by{rcases ę (G-1) 4294967296 with d|d;{exact d};{have:=ć v1 d;omega}};refine ⟨b,f,c,GG h.hY h.hT h.Cw ω ω a ?_⟩;have i:(G-1)*v2<=4294967295*4294967295:=Qg3 ω ω;omega
theorem GK.Y6 (h:GK v1 v2 v' u0 u1 u2 t' B T Y)(hi:GI v1 (u0*4294967296+u1) T Y G ρ)(u:T<G*Y)(z:ρ+v1<4294967296):1<=G/\GI v1 (u0*4294967296+u1) T Y (G-1) (ρ+v1):=by have ⟨b,a,c⟩:=h.down hi u;have d:=hi.g;exact ⟨b,z,ω,a,c⟩
theorem GK.words (h:GK v1 v2 v' u0 u1 u2 t' B T Y):ch .or .u64 (u64.wrap (u64.wrap (u0:Int)*2^32)) (u64.wrap (u1:Int))=((u0*4294967296+u1:Nat):Int) /\ u64.wrap (((u0*4294967296+u1:Nat):Int).tdiv (v1:Int))=(((u0*4294967296+u1) / v1:Nat):Int) /\ ((u0*4294967296+u1:Nat):Int).tmod (v1:Int)=(((u0*4294967296+u1)%v1:Nat):Int):=by have a:=h.u0u;have b:=h.u1u;have c:((2:Int)^32)=4294967296:=φ;refine ⟨?_,?_,?_⟩;{rw [c,bw (x:=(u0:Int)) ω,bw (x:=(u1:Int)) ω,bw ω,K0 _ _ a b];omega};{rw [Qv0 ω,<-Int.natCast_ediv];have d:(u0*4294967296+u1) / v1<=u0*4294967296+u1:=Qc8 _ _;generalize (u0*4294967296+u1) / v1=qq at *;rw [bw ω]};rw [Qk9 ω,<-Wk4]
theorem GK.words2 (h:GK v1 v2 v' u0 u1 u2 t' B T Y)(hi:GI v1 (u0*4294967296+u1) T Y G ρ):u64.wrap ((G:Int)*(v2:Int))=((G*v2:Nat):Int)/\ch .or .u64 (u64.wrap ((ρ:Int)*2^32)) (u64.wrap (u2:Int))=((ρ*4294967296+u2:Nat):Int) /\ u64.wrap ((ρ:Int)+v1)=((ρ+v1:Nat):Int)/\(1<=G->u64.wrap ((G:Int)-1)=((G-1:Nat):Int)):=by have a:=h.u2u;have b:=hi.r;have c:=hi.g;have f:=h.v2u;have d:=h.v1u;have e:((2:Int)^32)=4294967296:=φ;refine ⟨?_,?_,?_,?_⟩;{have d:G*v2<=4294967297*4294967295:=Qg3 c ω;rw [<-Ť,bw ω]};{rw [e,bw (x:=(ρ:Int)*4294967296) ω,bw ω,K0 _ _ b a];omega};{rw [bw ω];omega};intro h;rw [bw ω];omega
end
end
section
variable{X Y c e n n8:Nat}{qs us:List Nat}{V:Ó}{p q:OA}
structure OI (X Y n n8:Nat) (j:Int) (us qs:List Nat):Prop where
 j0:-1<=j
 j1:j<(n+1-n8:Nat)
 ul:us.length=n+1
 ud:cR us
 ql:qs.length=n+1-n8
 qd:cR qs
 eq:X=val us+Y*(4294967296^(j+1).toNat*val (qs.drop (j+1).toNat))
 lt:val (us.drop (j+1).toNat)<Y
structure DK (Y n8 k v1 v2:Nat):Prop where
 hn8:n8=k+2
 len:(ah Y).length=n8
 g1:(ah Y)[k+1]?=some v1
 g2:(ah Y)[k]?=some v2
 l1:2147483648<=v1
 u1:v1<4294967296
 u2:v2<4294967296
 eq:Y=(v1*4294967296+v2)*4294967296^k+val ((ah Y).take k)
 lt:val ((ah Y).take k)<4294967296^k
 top:Y<4294967296^n8
theorem DK.of (u:(ah Y).length=n8)(D:2<=n8)(z:2147483648*4294967296^(n8-1)<=Y):∃k v1 v2,DK Y n8 k v1 v2:=by obtain ⟨k,g⟩:∃k,n8=k+2:=⟨n8-2,ω⟩;have a:=top2 (us:=ah Y) (k:=k);rw [ag] at a;have e:=ja ((aP Y).take k);rw [ì,Ħ ω] at e;have b:=(aP Y).get (i:=k+1) ω;have c:=(aP Y).get (i:=k) ω;have d:2147483648<=(ah Y)[k+1]:=by{rcases ę (ah Y)[k+1] 2147483648 with f|f;{exfalso;have h:((ah Y)[k+1]*4294967296+(ah Y)[k])+1<=2147483648*4294967296:=ω;have j:=ć (4294967296^k) h;rw [ĕ,ŗ] at j;have l:2147483648*4294967296^(k+1)=2147483648*4294967296*4294967296^k:=by{rw [ħ];grind};rw [show n8-1=k+1 from by omega,l] at z;omega};exact f};exact ⟨k,_,_,g,u,ô _,ô _,d,b,c,a,e,by rw [<-u,<-aR];exact Ú _⟩
theorem OI.start {x X Y n n8 s:Nat}(hX:X=x*2^s)(u:(ah x).length=n)(z:s<32)(hn8:2<=n8)(D:n8<=n)(hY:2147483648*4294967296^(n8-1)<=Y)(hXl:(ah X).length<=n+1:=by omega):OI X Y n n8 (((n+1-n8:Nat):Int)-1) ((ah X++[0,0]).take (n+1)) (List.replicate (n+1-n8) 0):=by have j:n<=(ah X).length:=by{rw [<-u,hX];exact aS (Nat.le_mul_of_pos_right _ (Ļ s))};have g:((ah X++[0,0]).take (n+1)).length=n+1:=by{simp;omega};have a:val ((ah X++[0,0]).take (n+1))=X:=by{have b:val (ah X++[0,0])=X:=by{rw [fA,ag];simp};have c:=bO (ah X++[0,0]) (n+1) (by simp;omega);have d:val ((ah X++[0,0]).drop (n+1))=0:=by{refine kq ?_ (by simp;omega);rw [b];exact aR.1 ω};rw [d,İ,ğ,b] at c;exact c.symm};have e:(((n+1-n8:Nat):Int)-1+1).toNat=n+1-n8:=ω;refine ⟨ω,ω,g,(cR.append.2 ⟨aP X,by simp [cR]⟩).take _,ψ,cR.rep _,?_,?_⟩;{rw [e,ń ψ,gQ,İ,İ,ğ,a]};rw [e];have b:=bO ((ah X++[0,0]).take (n+1)) (n+1-n8);rw [a] at b;have f:X<4294967296^n*2^s:=by{rw [hX];exact Qc7 (by rw [<-u];exact aR.1 (Ú _)) (Ļ s)};have h:2^s<=2^31:=ŀ ω ω;have c:4294967296^n*2^s<=4294967296^(n+1-n8)*Y:=by{have i:4294967296^n=4294967296^(n+1-n8)*4294967296^(n8-1):=by{rw [<-Ĕ];congr 1;omega};rw [i,ŏ];refine Ő _ ?_;have k:2^s*4294967296^(n8-1)<=2147483648*4294967296^(n8-1):=ć _ ω;rw [Ľ];omega};have d:4294967296^(n+1-n8)*val (((ah X++[0,0]).take (n+1)).drop (n+1-n8))<4294967296^(n+1-n8)*Y:=ω;exact Nat.lt_of_mul_lt_mul_left d
theorem OI.body {k v1 v2 j:Nat}(h:OI X Y n n8 (j:Int) us qs)(u:DK Y n8 k v1 v2)(hjn:j+n8<=n):val (us.drop (j+n8+1))=0/\∃u0 u1 u2 t',us[j+n8]?=some u0/\us[j+n8-1]?=some u1/\us[j+n8-2]?=some u2/\GK v1 v2 (val ((ah Y).take k)) u0 u1 u2 t' (4294967296^k) (val (us.drop j)) Y:=by
 obtain ⟨-,-,f,a,g,l,m,o⟩:=h;have b:((j:Int)+1).toNat=j+1:=ω
 rw [b] at m o;have r:=u.hn8;have c:=u.top;have p:val (us.drop j)=us[j]+4294967296*val (us.drop (j+1)):=by rw [ī ω,bP]
 have q:=a.get (i:=j) ω
 have d:val (us.drop (j+n8+1))=0:=by have:=kq (us:=us.drop (j+1)) (k:=n8) ω (by simp;omega);rw [Qh8] at this;rw [show j+n8+1=j+1+n8 from by omega];exact this
 have e:=ja ((a.drop j).take k);rw [ì,į,Ħ ω] at e
 refine ⟨d,us[j+n8],us[j+n8-1],us[j+n8-2],val ((us.drop j).take k),ô _,ô _,ô _,
  u.eq,?_,u.lt,e,u.l1,u.u1,u.u2,a.get _,a.get _,a.get _,ω⟩
 have:=top3 (us:=us.drop j) (k:=k) (by simp;omega) (by rw [Qh8,show j+(k+3)=j+n8+1 from by omega];exact d);simp only [Qp9] at this;rw [this];congr<;>omega
theorem OI.next {j H:Nat}{u:zA Nat}(h:OI X Y n n8 (j:Int) us qs)(hjn:j+n8<=n)(F:u.length=us.length)(hdh:cR u)(z:u.take j=us.take j)(D:val (u.drop j)+H*Y=val (us.drop j))(E:val (u.drop j)<Y)(hH:H<4294967296):OI X Y n n8 ((j:Int)-1) u (qs.set j H):=by obtain ⟨-,i,k,m,b,c,e,o⟩:=h;have d:((j:Int)+1).toNat=j+1:=ω;have a:((j:Int)-1+1).toNat=j:=ω;rw [d] at e;refine ⟨ω,ω,ω,hdh,by simpa using b,c.set _ _ hH,?_,by rw [a];exact E⟩;have f:=bO u j;have g:=bO us j;rw [z] at f;rw [<-D] at g;rw [a,ī (l:=qs.set j H) (by simp;omega),Qg0,Qn7 ω,bP,e,f,g,ħ];grind
theorem OI.done {x y s:Nat}(h:OI X Y n n8 (-1) us qs)(hX:X=x*2^s)(hY:Y=y*2^s)(u:n8<=n+1)(hYl:Y<4294967296^n8):val qs=x / y/\val (us.take n8) / 2^s=x%y:=by obtain ⟨-,-,f,j,g,i,a,b⟩:=h;have a:X=val us+Y*val qs:=by{simpa using a};have b:val us<Y:=by{simpa using b};have c:0<Y:=ω;have d:=kq (us:=us) (k:=n8) ω;have e:val (us.take n8)=val us:=by{have:=bO us n8;rw [d,İ,ğ] at this;exact this.symm};constructor;{rw [<-Nat.mul_div_mul_right x y (Ļ s),<-hX,<-hY,a,Qg6 _ _ c,ũ b,č]};{have:x*2^s%(y*2^s)=val us:=by{rw [<-hX,<-hY,a,Wy9,ĩ b]};rw [Nat.mul_mod_mul_right] at this;rw [e,<-this,Qf9 _ (Ļ s)]}
set_option maxHeartbeats 8000000 in
theorem Nb {m:Nat}{x y:Nat}(ha:RN V p n c x)(hb:RN V q m e y)(hn:n<=2^40)(hm2:2<=m)(hle:y<=x):À 258 #[yD p n c,yD q m e] V λr W=>∃p1 n1 c1 p2 n2 c2,r=ê #[yD p1 n1 c1,yD p2 n2 c2]/\RN W p1 n1 c1 (x / y)/\RN W p2 n2 c2 (x%y):=by
 have l:=ha.len;have a3:=hb.len;have b9:m<=n:=by rw [l,a3];exact aS hle
 refine Mb V _ ?_;simp (disch:=omega) only [aq];refine hb.rd (m-1) ω ω λV1 l1=>(jh _ ((aP y).get ω)).s ?_;rintro r V2 l2 rfl;refine ⟨_,rfl,?_⟩;obtain ⟨t,I⟩:∃t,t=(ah y)[m-1]'ω:=⟨_,rfl⟩;rw [<-I];have c0:dV t<=32:=mJ.2 (by rw [I];exact (aP y).get _);obtain ⟨s,hs⟩:∃s,s=32-dV t:=⟨_,rfl⟩;have es:(32-(dV t:Int))=(s:Int):=ω
 have ⟨Xy,o,T⟩:=Lw a3.symm ω I hs;rw [es,bw ω];clear es c0;intro V3 l3;refine (Ge ra ω s).s ?_;rintro r V4 l4 ⟨p4,n4,c4,rfl,h4,K⟩;rw [ag] at h4 K
 have c3:x≠0:=by intro A;subst A;rw [Gq] at l;simp at l;omega
 have K:c4=n+1:=by rcases K with A|A;{exact Å A c3};rw [A,<-l,ũ Xy]
 have a4:=h4.len;have a5:x*2^s<4294967296^n*2^s:=Qc7 (by rw [l];exact aR.1 (Ú _)) (Ļ s);have c5:2^s<=2^31:=ŀ ω ω
 have Xx:n<=n4/\n4<=n+1:=by constructor;{rw [a4,l];exact aS (Nat.le_mul_of_pos_right _ (Ļ s))};rw [a4,aR,ħ];have:4294967296^n*2^s<=4294967296^n*4294967296:=Ő _ ω;omega
 refine ⟨_,_,_,rfl,aO (ah (x*2^s)),h4.sl,by simp;omega,h4.cap,h4.KS,ω,ω,rfl,by simp [Value.oneCell'],?_⟩;intro sp c7 e6 e7;refine ⟨Ź,λV5 l5=>(Ge ra ω s).s ?_⟩;rintro r V6 l6 ⟨p8,f,c8,rfl,h8,-⟩;rw [ag] at h8;have a6:=h8.len;rw [o] at a6;subst a6;refine ⟨_,_,_,rfl,?_⟩;have ⟨k,v1,v2,L⟩:=DK.of o hm2 T;have hk:=L.hn8;have f1:=L.l1;have e8:=L.u1;have e9:=L.u2;have c6:=OI.start (Y:=y*2^s) rfl l.symm Xy hm2 b9 T;have w6:i64.wrap ((f:Int)-1)=(f:Int)-1:=aq ω;have w7:i64.wrap ((f:Int)-2)=(f:Int)-2:=aq ω;simp only [w6,w7];refine h8.rdq (k+1) ω L.g1 (h8.rdq k ω L.g2 ?_);have c9:((n:Int)+1).toNat=n+1:=ω
 have d0:(((n+1:Nat):Int)-(f:Int)).toNat=n+1-f:=ω
 have w1:i64.wrap ((n:Int)+1)=(n:Int)+1:=aq ω;have w2:u64.wrap (v1:Int)=v1:=bw ω;have w3:u64.wrap (v2:Int)=v2:=bw ω;have w4:i64.wrap (((n+1:Nat):Int)-(f:Int))=((n+1:Nat):Int)-(f:Int):=aq ω;have w5:i64.wrap (((n+1-f:Nat):Int)-1)=((n+1-f:Nat):Int)-1:=aq ω;simp only [c9,w2,w3,w4,d0,w5,eu];obtain ⟨C,a7⟩:∃C,C=aO ((ah (x*2^s)++[0,0]).drop (n+1))++sp:=⟨_,rfl⟩
 have P:aO (ah (x*2^s))++([Ô .u32 0,Ô .u32 0]:zA un)++sp=aO ((ah (x*2^s)++[0,0]).take (n+1))++C:=by rw [a7,<-Ě,<-zV,Qv4,zV];rfl
 rw [P];clear a7 P T a5 c5 K hs I;generalize hX:x*2^s=X at *;generalize hY:y*2^s=Y at *
 refine ⟨ω,ω,ω,λz V'=>∃us E:zA Nat,z.2.1=aO us++C/\z.2.2=aO E/\OI X Y n f z.1 us E,λz=>(z.1+1).toNat,
  ⟨(((n+1-f:Nat):Int)-1,aO ((ah X++[0,0]).take (n+1))++C,aO (List.replicate (n+1-f) 0)),?_,_,_,rfl,rfl,c6⟩,?_⟩
 ·(try dsimp only);and_intros<;>first|exact True.intro|rfl
 rintro ⟨j,row,f0⟩ V7 l7 ⟨us,E,rfl,rfl,B⟩;dsimp only at B ⊢;have f2:=B.j0;have f3:=B.j1;have f4:=B.ul;have f5:=B.ql;refine ⟨θ,λM=>?_,λM=>?_⟩
 ·have M:0<=j:=by simpa using M
  obtain ⟨j,rfl⟩:=đ M;have U:j+f<=n:=ω
  have ⟨hz,u0,u1,u2,t',a8,a9,b0,D⟩:=B.body L U;obtain ⟨eb,b1,b2⟩:=D.words;have w8:i64.wrap ((j:Int)+f)=((j+f:Nat):Int):=by rw [aq ω];omega
  have w9:i64.wrap (((j+f:Nat):Int)-1)=((j+f-1:Nat):Int):=by rw [aq ω];omega
  have d1:i64.wrap (((j+f:Nat):Int)-2)=((j+f-2:Nat):Int):=by rw [aq ω];omega
  have d2:i64.wrap ((j:Int)-1)=(j:Int)-1:=aq ω;simp only [w8,w9,d1,d2,ß];refine ⟨Ź,_,mq a8,ω,Ź,_,mq a9,ω,ω,?_⟩;rw [eb,b1,b2];clear eb b1 b2
  refine ⟨λg V'=>∃G:Nat,g=(G:Int)/\GF (val (us.drop j)) Y G,
   ⟨λz V'=>∃G ρ:Nat,z=((G:Int),(ρ:Int))/\GI v1 (u0*4294967296+u1) (val (us.drop j)) Y G ρ,λz=>z.1.toNat,
    ⟨((((u0*4294967296+u1) / v1:Nat):Int),(((u0*4294967296+u1)%v1:Nat):Int)),Ÿ,_,_,rfl,D.start⟩,?_⟩,?_⟩
  ·rintro _ V8 l8 ⟨G,ρ,rfl,Q⟩;have ⟨T4,W,d3,N⟩:=D.words2 Q;dsimp only;have t1:∀a:Nat,((((a / 2^32:Nat):Int) != 0)=true↔4294967296<=a)/\((((a / 2^32:Nat):Int) != 0)=false↔a<4294967296):=by{intro a;constructor;{rw [bne_iff_ne];omega};rw [bne_eq_false_iff_eq];omega};simp only [d3,j7];refine ⟨θ,ω,λh=>have h:=(t1 _).1.1 h;⟨ω,λw=>have w:=(t1 _).1.1 w;?_,λw=>have w:=(t1 _).2.1 w;?_⟩,λh=>have h:=(t1 _).2.1 h;⟨ω,Ź,_,mq b0,λI=>⟨ω,λw=>have w:=(t1 _).1.1 w;?_,λw=>have w:=(t1 _).2.1 w;?_⟩,λI=>?_⟩⟩;{have ⟨g1,g2⟩:=D.Y5 Q (D.YZ h) w;(exact ⟨((G-1:Nat):Int),by rw [N g1];(try dsimp only);and_intros<;>first|exact True.intro|rfl,G-1,rfl,g2⟩)};{have ⟨g1,g2⟩:=D.Y6 Q (D.YZ h) w;(exact ⟨(((G-1:Nat):Int),((ρ+v1:Nat):Int)),by (try dsimp only);omega,by rw [N g1];(try dsimp only);and_intros<;>first|exact True.intro|rfl,G-1,ρ+v1,rfl,g2⟩)};{have h1:=D.dec Q (by rw [T4,W,Ñ] at I;omega);have ⟨g1,g2⟩:=D.Y5 Q h1 w;(exact ⟨((G-1:Nat):Int),by rw [N g1];(try dsimp only);and_intros<;>first|exact True.intro|rfl,G-1,rfl,g2⟩)};{have h1:=D.dec Q (by rw [T4,W,Ñ] at I;omega);have ⟨g1,g2⟩:=D.Y6 Q h1 w;(exact ⟨(((G-1:Nat):Int),((ρ+v1:Nat):Int)),by (try dsimp only);omega,by rw [N g1];(try dsimp only);and_intros<;>first|exact True.intro|rfl,G-1,ρ+v1,rfl,g2⟩)};have h1:G*v2<=ρ*4294967296+u2:=by{rw [T4,W,Ò] at I;omega};(exact ⟨(G:Int),Ÿ,G,rfl,D.last Q h h1⟩)
  ·rintro _ V9 l9 ⟨G,rfl,Z⟩;have b3:=Z.g;clear D a8 a9 b0;have o:=L.len;have b4:=ag Y
   refine ⟨θ,λz V'=>∃(b c i:Nat)(fs:zA Nat),z=((b:Int),(c:Int),(i:Int),aO fs++C)/\JF us (ah Y) j G i b c fs,λz=>f-z.2.2.1.toNat,
     ⟨(0,0,0,aO us++C),Ÿ,0,0,0,us,rfl,ω,ω,ω,rfl,B.ud,rfl,rfl,ψ⟩,?_⟩
   rintro _ eV d4 ⟨b,c,i,fs,rfl,hS⟩;dsimp only;simp only [ß];have hi:=hS.hi;have f6:=hS.len;refine ⟨θ,λh=>?_,λh=>?_⟩
   ·have h:i<f:=by{simpa using h};have ⟨u,d,ob,od,cn,cb,q1,q2,q3,q4,q5,R,q7,d5⟩:=hS.step b3 (aP Y) B.ud ω ω;refine (h8.le au).rdq i rfl q1 ?_;have d6:i64.wrap ((j:Int)+i)=((j+i:Nat):Int):=by{rw [aq ω];omega};have d7:i64.wrap ((i:Int)+1)=((i+1:Nat):Int):=by{rw [aq ω];omega};rw [q3,d6,d7,ß];refine ⟨Ź,_,mq q2,Ź,by simp;omega,ω,ω,?_⟩;rw [q4,q5,R];refine ⟨((ob:Int),(cb:Int),((i+1:Nat):Int),aO (fs.set (j+i) od)++C),by (try dsimp only);omega,?_,_,_,_,_,rfl,d5⟩;(try dsimp only);(and_intros<;>first|exact True.intro|rfl|exact Br)
   ·have h:i=(ah Y).length:=by simp at h;omega
    subst h;have ⟨u,ob,od,q1,q2,q3,q4,q5,R,q7,q8,q9,F⟩:=hS.fin B.ud ω (by rw [o];exact hz);rw [o] at q1 R q7 q8 q9 F;rw [b4] at F;refine ⟨Ź,_,mq q1,Ź,by simp;omega,Ź,by simp;omega,ω,?_⟩;rw [q2,q3,Br,xl (x:=(G:Int)) ω];generalize fs.set (j+f) od=ks at *;have a0:∀H:Nat,(aO E).set (0+j*1) (Ô .u32 (H:Int))=aO (E.set j H):=by intro H;rw [č,Ġ,bT]
    rw [a0];refine ⟨λh0=>?_,λh0=>?_⟩
    ·have h0:ob=0:=by{simpa using h0};rw [h0,İ,ğ] at F;have b5:=Z.lt;rw [ĕ,ŗ] at b5;(refine ⟨((j:Int)-1,aO ks++C,aO (E.set j G)),by (try dsimp only);omega,Ÿ,ks,E.set j G,rfl,rfl,?_⟩;exact B.next U q7 R q8 F ω b3)
    ·have h0:ob=1:=by
      have:ob≠0:=by simpa using h0
      omega
     rw [h0,Ġ] at F
     have S:∀ls:zA Nat,ls.length=n+1->cR ls->val (ls.drop (j+f+1))=0->val (ls.drop j)<4294967296^(f+1):=by intro ls h1 h2 M;have a1:=bO (ls.drop j) (f+1) (by simp;omega);rw [Qh8,show j+(f+1)=j+f+1 from by omega,M,İ,ğ] at a1;have a2:=ja ((h2.drop j).take (f+1));rw [ì,į,Ħ ω] at a2;omega
     have f7:=S ks ω R q9
     have d8:1<=G:=by rcases Ŀ G with A|A;{subst A;omega};exact A
     have f8:G*Y=(G-1)*Y+Y:=by conv=>lhs;rw [<-Qm9 d8,ĕ,ŗ]
     have f9:=Z.gt;have b6:u32.wrap ((G:Int)-1)=((G-1:Nat):Int):=by rw [xl ω];omega
     refine ⟨Ź,(G:Int),by rw [č,Ġ,iZ (by simp;omega),Qg0],Ź,by simp;omega,?_⟩;have O:(aO (E.set j G)).set (0+j*1) (Ô .u32 ((G-1:Nat):Int))=aO (E.set j (G-1)):=by rw [č,Ġ,bT,List.set_set]
     rw [b6,O]
     refine ⟨λz V'=>∃(c' i2:Nat)(gs:zA Nat),z=((c':Int),(i2:Int),aO gs++C)/\Jx ks (ah Y) j i2 c' gs,λz=>f-z.2.1.toNat,
      ⟨(0,0,aO ks++C),Ÿ,0,0,ks,rfl,ω,ω,rfl,R,rfl,rfl,ψ⟩,?_⟩
     rintro _ eW cU ⟨c',i2,gs,rfl,hA⟩;dsimp only;simp only [ß];have g0:=hA.hi;have g3:=hA.len;refine ⟨θ,λh=>?_,λh=>?_⟩
     ·have h:i2<f:=by{simpa using h};have ⟨u,d,od,cn,cb,r1,r2,r3,r4,r5,d9⟩:=hA.step (aP Y) R ω ω;refine (h8.le au).rdq i2 rfl r1 ?_;have e1:i64.wrap ((j:Int)+i2)=((j+i2:Nat):Int):=by{rw [aq ω];omega};have e2:i64.wrap ((i2:Int)+1)=((i2+1:Nat):Int):=by{rw [aq ω];omega};rw [e1,e2,ß];refine ⟨Ź,_,mq r2,Ź,by simp;omega,ω,?_⟩;rw [r3,r4,r5];refine ⟨((cb:Int),((i2+1:Nat):Int),aO (gs.set (j+i2) od)++C),by (try dsimp only);omega,?_,_,_,_,rfl,d9⟩;(try dsimp only);(and_intros<;>first|exact True.intro|rfl|exact Br)
     ·have h:i2=(ah Y).length:=by{simp at h;omega};subst h;have ⟨u,od,kp,r1,r2,r3,r4,r5,r6,r7,r8⟩:=hA.fin R ω (by rw [o];exact q9);rw [o] at r1 r4 r5 r6 r7 r8;rw [b4] at r8;refine ⟨Ź,_,mq r1,Ź,by simp;omega,?_⟩;rw [r2,Br];have g4:=S _ ω r4 r7;generalize gs.set (j+f) od=hs at *;have b7:kp=1:=by{rcases Ŀ kp with A|A;{rw [A,İ] at r8;omega};omega};rw [b7,Ġ] at r8;(refine ⟨((j:Int)-1,aO hs++C,aO (E.set j (G-1))),by (try dsimp only);omega,Ÿ,hs,E.set j (G-1),rfl,rfl,?_⟩;exact B.next U ω r4 (by rw [r6,q8]) ω ω ω)
 ·have M:j=-1:=by{simp at M;omega};subst M;have ⟨hq,hr⟩:=B.done hX.symm hY.symm ω L.top;have b8:=B.qd;have Rj:=B.ud;intro V8 l8 g5 e3 e4 e5 J;have g6:RD V8 (some ⟨e3,0,none⟩) f c7 (us.take f):=by{refine ⟨by simp;omega,ω,λi v hv=>⟨_,rfl,?_⟩,Rj.take f,λA=>nomatch A⟩;rw [add_zero'];refine dK e5 ?_;rw [Hh,ķ] at hv;split at hv;{rename_i b5;rw [Ĺ (by simp;omega)];exact hv};cases hv};refine ⟨Ź,λV9 l9=>?_⟩;refine (bC (RD.aX (ds:=E) e4 b8 (n:=n+1-f) (c:=n+1-f) ω (Ú _) |>.le l9)).s ?_;rintro r eV d4 ⟨k1,rfl,g1⟩;refine ⟨_,_,_,rfl,λeW cU=>?_⟩;rw [ß];refine (QK ra (by simp;omega) s).s ?_;rintro r gC dI ⟨p2,n2,c2,rfl,g2⟩;refine ⟨_,_,_,rfl,λiI dS=>⟨_,_,_,_,_,_,rfl,?_,?_⟩⟩;{rw [bf b8] at g1;unfold RN;rw [<-hq];exact g1.le au};rw [hr] at g2;exact ra
theorem oV {m:Nat}{xa Z:zA Nat}(ha:RD V p n c xa)(hb:RD V q m e Z)(hm:xa.length<=2^40)(hn:Z.length<=2^40)(h0:val Z≠0):À 206 #[yD p n c,yD q m e] V λr W=>∃p1 n1 c1 p2 n2 c2,r=ê #[yD p1 n1 c1,yD p2 n2 c2,gF true]/\RN W p1 n1 c1 (val xa / val Z)/\RN W p2 n2 c2 (val xa%val Z):=by have la:=bJ ha.gT;have lb:=bJ hb.gT;refine Fs V _ λN O=>(bC ra).s ?_;rintro r V2 P ⟨n,rfl,d⟩;rw [bf ha.gT] at d;refine ⟨_,_,_,rfl,λQ G=>(bC ra).s ?_⟩;rintro r R H ⟨m,rfl,f⟩;rw [bf hb.gT] at f;replace d:=d.le (G.m H);generalize val xa=x at *;generalize val Z=y at *;have I:=d.len;have S:=f.len;refine ⟨_,_,_,rfl,λl=>?_,λl T o=>(Gc ra ra ω).s ?_⟩;{exfalso;have:ah y=[]:=Ĥ.1 (by simp at l;omega);exact h0 (bS.1 this)};rintro r U s rfl;rw [ag,ag];replace d:=d.le (o.m s);replace f:=f.le (o.m s);refine ⟨_,rfl,λa t u=>(rj ra).s ?_,λa=>⟨λg=>?_,λg t u=>?_⟩⟩;{rintro r v w ⟨z,A,B,rfl,h⟩;have a:x<y:=by{simpa [iR] using a};refine ⟨_,_,_,rfl,λC b=>⟨_,_,_,_,_,_,rfl,?_,?_⟩⟩;{rw [ũ a];exact RD.nil};rw [ĩ a];exact h.le b};{have g:m=1:=by{simp at g;omega};subst g;refine f.rd0 0 rfl ω λt u=>?_;have D:=(aP y).get (i:=0) ω;have j:y=(ah y)[0]'ω:=by{have e:=jF (ah y) 0 ω;rw [ag,ń ω] at e;simpa using e};rw [<-j] at D ⊢;refine (JY ra ω y h0 D).s ?_;rintro r v w ⟨z,A,B,rfl,h⟩;rw [ag] at h ⊢;have E:x%y<y:=ġ _ ω;refine qyK ⟨rfl,λC b=>?_⟩;rw [bw ω];refine (fQ _ ω).s ?_;rintro r W X ⟨J,K,L,rfl,F⟩;exact ⟨_,_,_,rfl,λY M=>⟨_,_,_,_,_,_,rfl,ra,F.le M⟩⟩};have a:y<=x:=by{simpa [<-Ww7,iR] using a};have k:2<=m:=by{have:¬(m:Int)=1:=by{simpa using g};have:ah y≠[]:=λe=>h0 (bS.1 e);have:(ah y).length≠0:=λe=>this (Ĥ.1 e);omega};refine (Nb ra ra ω k a).s ?_;rintro r v w ⟨z,A,B,J,K,L,rfl,h,F⟩;exact qyJ ⟨rfl,λC b=>⟨_,_,_,_,_,_,rfl,ra,ra⟩⟩
theorem Ct (x y:Nat):Nat.gcd y (x%y)=Nat.gcd x y:=by rw [ŭ x y,Nat.gcd_rec y x,ŭ]
theorem Gd {m:Nat}{xa xb:zA Nat}(ha:RD V p n c xa)(hb:RD V q m e xb)(hm:xa.length<=2^40)(hn:xb.length<=2^40:=by omega):À 174 #[yD p n c,yD q m e] V λr W=>∃p1 n1 c1,r=yD p1 n1 c1/\RN W p1 n1 c1 (Nat.gcd (val xa) (val xb)):=by
 have la:=bJ ha.gT;have lb:=bJ hb.gT;refine OC V _ λV1 l1=>(lI ra hm).s ?_;rintro r V2 l2 ⟨p1,n1,c1,rfl,s⟩;refine ⟨_,_,_,rfl,λV3 S=>(lI ra hn).s ?_⟩;rintro r V4 T ⟨U,W,X,rfl,t⟩
 replace s:=s.le (S.m T)
 refine ⟨_,_,_,rfl,λz k V'=>∃x y:Nat,RN V' z.1 z.2.1 z.2.2.1 x/\RN V' z.2.2.2.1 z.2.2.2.2.1 z.2.2.2.2.2 y/\Nat.gcd x y=Nat.gcd (val xa) (val xb)/\k=y/\(ah x).length<=2^40/\(ah y).length<=2^40,
  ⟨(p1,n1,c1,U,W,X),val xb,σ,val xa,val xb,s,t,rfl,rfl,ω,ω⟩,?_⟩
 rintro ⟨p,n,c,q,m,e⟩ k Y l5 ⟨x,y,s,t,w,hk,J,f⟩;dsimp only at s t ⊢;have Z:=s.len;have P:=t.len;rw [<-w];have stop:m=0->y=0:=λh=>bS.1 (Ĥ.1 ω)
 have more:∀g:ut,Y.Le g->m≠0->À 206 #[yD p n c,yD q m e] g λr A=>∃p1 n1 c1 p2 n2 c2,r=ê #[yD p1 n1 c1,yD p2 n2 c2,gF true]/\RN A p2 n2 c2 (x%y)/\x%y<y/\Nat.gcd y (x%y)=Nat.gcd (val xa) (val xb)/\(ah (x%y)).length<=2^40/\g.Le A:=by intro g F h;have K:y≠0:=by{intro e0;subst e0;rw [Gq] at P;simp at P;omega};have d:x%y<y:=ġ _ ω;refine (oV ra ra J f (by rw [ag];exact K)).s ?_;rintro r A L ⟨M,N,O,G,H,I,rfl,Q,u⟩;rw [ag,ag] at u;exact qyJ ⟨rfl,u,d,by rw [Ct,w],Ā (aS) f,L⟩
 refine ⟨θ,λR=>⟨λi V6 l6=>?_,λi g F=>(more g F ?_).s ?_⟩,λR=>⟨λB=>⟨λi V6 l6=>?_,λi g F=>(more g F ?_).s ?_⟩,λB gC dI=>?_⟩⟩
 ·rw [stop (by simp at i;omega),Qg1];rw [stop (by simp at i;omega)] at w;exact ⟨_,_,_,rfl,ra⟩
 ·simp at i;omega
 ·rintro r A L ⟨M,N,O,G,H,I,rfl,u,d,j,l,l9⟩;exact qxQ ⟨rfl,(q,m,e,G,H,I),x%y,ω,σ,y,x%y,t.le au,u,j.m w.symm,rfl,f,l⟩
 ·rw [stop (by simp at i;omega),Qg1];exact ⟨_,_,_,rfl,ra⟩
 ·simp at i;omega
 ·rintro r A L ⟨M,N,O,G,H,I,rfl,u,d,j,l,l9⟩;exact qxQ ⟨rfl,(q,m,e,G,H,I),x%y,ω,σ,y,x%y,t.le au,u,j.m w.symm,rfl,f,l⟩
 ·have a0:n<=2:=by simp at R;omega
  have a1:m<=2:=by simp at B;omega
  have C:x<18446744073709551616:=(aR (k:=2)).1 ω;have D:y<18446744073709551616:=(aR (k:=2)).1 ω;refine (oW ra).s ?_;rintro r iI dS rfl;rw [ag,Ä C];refine ⟨_,_,rfl,λkK fH=>(oW ra).s ?_⟩;rintro r ke fB rfl;rw [ag,Ä D]
  refine ⟨_,_,rfl,λz V'=>∃a b:Nat,z=((a:Int),(b:Int))/\Nat.gcd a b=Nat.gcd x y/\a<18446744073709551616/\b<18446744073709551616,λz=>z.2.toNat,
   ⟨((x:Int),(y:Int)),σ,x,y,rfl,rfl,C,D⟩,?_⟩
  rintro _ kf e_ ⟨a,b,rfl,o,a2,E⟩;dsimp only;refine ⟨θ,λv=>?_,λv lu gX=>?_⟩
  ·have v:b≠0:=by{rw [bne_iff_ne] at v;omega};have d:a%b<b:=ġ _ ω;have e4:(a:Int).tmod (b:Int)=((a%b:Nat):Int):=by{rw [Qk9 ω,<-Wk4]};rw [e4];exact ⟨ω,((b:Int),((a%b:Nat):Int)),by (try dsimp only);rw [ß,ß];exact d,σ,b,a%b,rfl,by rw [Ct,o],E,Nat.lt_trans d E⟩
  ·have v:b=0:=by{rw [bne_eq_false_iff_eq] at v;omega};subst v;rw [Qg1] at o;refine (fQ _ ω).s ?_;rintro r mD gj ⟨M,N,O,rfl,Q⟩;refine ⟨_,_,_,rfl,λnf je=>⟨_,_,_,rfl,?_⟩⟩;rw [<-o];exact Q.le je
end
end Go.Proofs.Tryz
namespace Go.Big
def bK (b:Bool)(ds:List Nat):Int:=if b then -(val ds:Int) else val ds
end Go.Big
namespace Go.Eng
open Go.Big
def RI (V:Ó)(v:Value)(z:Int):Prop:=∃p n c,v=.agg #[.bool (decide (z<0)),.slice p n c]/\RD V p n c (ah z.natAbs)
theorem RI.le {V V':ut}{v:un}{z:Int}(h:RI V v z)(l:V.Le V'):RI V' v z:=by obtain ⟨p,n,c,e,h⟩:=h;exact ⟨p,n,c,e,ra⟩
def RI.mk {V:ut}{b:md}{p:OA}{n c:Nat}{z:Int}(u:b=decide (z<0))(h:RD V p n c (ah z.natAbs)):RI V (dB #[gF b,yD p n c]) z:=⟨p,n,c,by rw [u],h⟩
end Go.Eng
namespace Go.Proofs.Tryz
open Go.Eng Go.Big
variable{c n:Nat}{V:Ó}{p:OA}{ds:List Nat}
theorem nT:dV n=0↔n=0:=by unfold dV;split<;>simp_all
theorem fW (b:md)(ds:zA Nat):(bK b ds).natAbs=val ds:=by unfold bK;cases b<;>simp
theorem KE (b:md)(ds:zA Nat):bK b ds<0↔b=true/\val ds≠0:=by unfold bK;cases b;{simp};simp;omega
theorem aY (z:Int):bK (decide (z<0)) (ah z.natAbs)=z:=by unfold bK;rw [ag];by_cases h:z<0;{rw [Ç h,Ä rfl];omega};rw [È h,Ã φ];omega
theorem T6 (b:md)(ds:zA Nat):bK (!b) ds=-bK b ds:=by unfold bK;cases b<;>simp
theorem uU (ds:zA Nat):bK false ds=val ds:=rfl
theorem iV {x:Nat}(h:n=(ah x).length):0<n↔x≠0:=by rw [h];constructor;{intro a b;subst b;simp at a};intro a;rcases Ŀ (ah x).length with e|e;{exact Å (bS.1 (Ĥ.1 e)) a};exact e
theorem nY (b:md){x:Nat}(h:RN V p n c x):À 276 #[gF b,yD p n c] V λr W=>RI W r (if b then -(x:Int) else x):=by have f:=iV h.len;refine xE V _ ⟨λa e d=>?_,λa e d=>?_⟩;{rw [Ä a];refine RI.mk ?_ ?_;{rw [ĵ,Ñ,Ñ];omega};rw [Ů,ē];exact h.le d};rw [a,Ã φ];refine RI.mk ?_ ?_;{symm;rw [Ò];omega};rw [ē];exact h.le d
theorem lG (b:md)(h:RD V p n c ds)(hm:ds.length<=2^40):À 209 #[dB #[gF b,yD p n c]] V λr W=>RI W r (bK b ds):=by refine AH V _ λi j=>(lI ra hm).s ?_;rintro r V2 k ⟨l,m,o,rfl,a⟩;have q:=iV a.len;have f:=KE b ds;refine ⟨_,_,_,rfl,λd g e=>RI.mk ?_ ?_,λd g e=>RI.mk ?_ ?_⟩;{rw [ĵ,Ñ,Ñ,f];simp [d];omega};{rw [fW];exact a.le e};{symm;rw [Ò,f];simp [d]};rw [fW];exact a.le e
def qA (b:Bool)(ds:List Nat):Bool:=decide (ah (val ds)=ds)&&(!b||decide (ds≠[]))
theorem jj (b:md)(h:RD V p n c ds)(hm:ds.length<=2^40):À 251 #[dB #[gF b,yD p n c]] V λr W=>r=gF (qA b ds):=by refine xD V _ λl m=>(HG ra hm).s λr V2 o rfl=>⟨_,rfl,λd=>⟨λa f g=>?_,λa f g=>?_⟩,λd f g=>?_⟩;{simp [qA,d];simp at a;simp [a]};{have j:=h.len;simp [qA,d];simp at a;simp [a];rw [ĵ,Ñ];simp;constructor;{intro i k;subst k;simp at j;omega};intro i;rcases Ŀ ds.length with e|e;{exact Å (Ĥ.1 e) i};omega};simp [qA,d]
theorem mK (n:Int)(u:-9223372036854775808<=n)(z:n<=9223372036854775807:=by omega):À 227 #[Ô .i64 n] V λr W=>RI W r n:=by refine vu V _ ⟨λa d f=>?_,λa d f=>?_⟩;{have a:n<0:=by{simpa using a};have e:u64.wrap (0-u64.wrap n)=-n:=by{rw [Ar,Ar];omega};rw [e];refine (fQ _ ω).s ?_;rintro r V2 g ⟨h,i,j,rfl,b⟩;refine ⟨_,_,_,rfl,λk c=>⟨_,_,_,rfl,?_⟩⟩;rw [show n.natAbs=(-n).toNat from by omega];exact b.le c};have a:0<=n:=by{simpa using a};rw [bw ω];refine (fQ _ ω).s ?_;rintro r V2 g ⟨h,i,j,rfl,b⟩;refine ⟨_,_,_,rfl,λk c=>⟨_,_,_,rfl,?_⟩⟩;rw [show n.natAbs=n.toNat from by omega];exact b.le c
theorem qV (b:md)(h:RD V p n c ds)(hm:ds.length<=2^40):À 205 #[dB #[gF b,yD p n c]] V λr W=>r=Ô .i64 (bK b ds).sign:=by refine AJ V _ λk l=>(lH ra hm).s ?_;rintro r V2 m rfl;have f:(bK b ds)=0↔val ds=0:=by{rw [<-fW b ds];omega};have g:=KE b ds;refine ⟨_,rfl,λa i j=>?_,λa=>⟨λd i j=>?_,λd i j=>?_⟩⟩;{have:val ds=0:=nT.1 (by simp at a;omega);rw [f.2 this];rfl};{have:val ds≠0:=λe=>by{simp [nT.2 e] at a};rw [Qd2 (g.2 ⟨d,this⟩)]};{have:val ds≠0:=λe=>by{simp [nT.2 e] at a};have:0<bK b ds:=by{have:=f;have:¬bK b ds<0:=by{rw [g];simp [d]};omega};rw [Qf7 this]}
theorem EB (b:md)(h:RD V p n c ds)(hm:ds.length<=2^40):À 168 #[dB #[gF b,yD p n c]] V λr W=>RI W r (-bK b ds):=by refine DY V _ λd e=>(lG (!b) ra hm).s ?_;rintro r V2 f ⟨g,i,j,rfl,a⟩;rw [T6] at a ⊢;exact qyK ⟨rfl,λk l=>⟨_,_,_,rfl,ra⟩⟩
theorem jI (b1 E:md){q:OA}{m e:Nat}{z D:zA Nat}(F:RD V p n c z)(M:RD V q m e D)(hm:z.length+D.length<=2^40:=by omega):À 224 #[dB #[gF b1,yD p n c],dB #[gF E,yD q m e]] V λr W=>RI W r (bK b1 z*bK E D):=by refine DX V _ λd f=>(jm ra ra hm).s ?_;rintro r V2 g ⟨h,i,j,rfl,k⟩;refine ⟨_,_,_,rfl,λl o=>(nY _ ra).s ?_⟩;rintro r s t ⟨u,v,w,rfl,a⟩;have b:(if (!(b1==E))=true then -((val z*val D:Nat):Int) else ((val z*val D:Nat):Int))=bK b1 z*bK E D:=by{unfold bK;cases b1<;>cases E<;>simp [Wk0,Wx4]};rw [b] at a ⊢;exact qyK ⟨rfl,λx y=>⟨_,_,_,rfl,ra⟩⟩
theorem EA (b1 D:md){q:OA}{m e:Nat}{E F:zA Nat}(ha:RD V p n c E)(hb:RD V q m e F)(hm:E.length<=2^40)(M:F.length<=2^40:=by omega):À 274 #[dB #[gF b1,yD p n c],dB #[gF D,yD q m e]] V λr W=>RI W r (bK b1 E+bK D F):=by
 have fin:∀{b:md} {x:Nat} {f:ut} {g:OA} {i j:Nat},RN f g i j x->(if b then -(x:Int) else x)=bK b1 E+bK D F ->
   À 276 #[gF b,yD g i j] f λr W=>∃(N:md)(O:OA)(Z S5:Nat),r=dB #[gF N,yD O Z S5]/\∀k:ut,W.Le k->RI k (dB #[gF N,yD O Z S5]) (bK b1 E+bK D F):=by
  intro b x f g i j h he;refine (nY b h).s ?_;rintro r o s ⟨t,u,v,rfl,a⟩;rw [he] at a ⊢;exact qyK ⟨rfl,λw y=>⟨_,_,_,rfl,ra⟩⟩
 refine DW V _ ⟨λd f z=>(QJ ra ra hm M).s ?_,λd f z=>(Gf ra ra hm M).s ?_⟩
 ·rintro r V2 A ⟨g,i,j,rfl,B⟩;have d:b1=D:=by{simpa using d};subst d;exact ⟨_,_,_,rfl,λk l=>fin ra (by unfold bK;cases b1<;>simp;omega)⟩
 ·rintro r V2 A ⟨g,i,j,rfl,B⟩;have d:D=!b1:=by{cases b1<;>cases D<;>simp_all};subst d;refine qyK ⟨rfl,λa k l=>fin ra ?_,λa k l=>(Gf ra ra M hm).s ?_⟩;{have a:val F<=val E:=by{simpa using a};unfold bK;cases b1<;>simp<;>omega};rintro r o s ⟨t,u,v,rfl,C⟩;have a:val E<val F:=by{simpa using a};exact qyK ⟨rfl,λw y=>fin ra (by unfold bK;cases b1<;>simp<;>omega)⟩
theorem Ad (b:md)(h:RD V p n c ds)(hm:ds.length<=2^40)(u:val ds<4611686018427387904):À 207 #[dB #[gF b,yD p n c]] V λr W=>r=ê #[Ô .i64 (bK b ds),gF true]:=by refine yX V _ λg i=>(oW ra hm).s ?_;rintro r V2 j rfl;rw [Ä ω,Ç (show val ds<18446744073709551616 by omega)];refine ⟨_,_,rfl,λ_=>⟨λd=>⟨λa k l=>?_,λa=>?_⟩,λd=>⟨λ_=>⟨λa=>⟨λf m o=>?_,λf=>?_⟩,λa=>?_⟩,λa=>nomatch a⟩⟩,λd=>nomatch d⟩;{subst d;have e:i64.wrap (u64.wrap (0-(val ds:Int)))=-(val ds:Int):=by{rw [Ar,IntKind.wrap_i64];omega};rw [e];rfl};{simp at a;omega};{subst d;rw [aq ω];rfl};{simp at f;omega};simp [d] at a
end Go.Proofs.Tryz
namespace Go.Eng
open Go.Big
variable{q:Rat}
def Wd (q:Rat):Prop:=q.num.natAbs<4611686018427387904/\q.den<4611686018427387904
def RR (V:Ó)(v:Value)(q:Rat):Prop:=
 (v=.agg #[.int .i64 q.num,.int .i64 ((q.den:Int)-1),.pointer none]/\Wd q) \/
 (∃a b p n c u z D,v=.agg #[.int .i64 0,.int .i64 0,.pointer (some a)]/\V.at (a.add 0) (.bool b)/\V.at (a.add 1) (.slice p n c)/\V.at (a.add 2) (.slice u z D) /\
  RI V (.agg #[.bool b,.slice p n c]) q.num/\RD V u z D (ah q.den)/\¬Wd q)
theorem RR.le {V V':ut}{v:un}(h:RR V v q)(l:V.Le V'):RR V' v q:=by rcases h with h|⟨a,b,p,n,c,d,f,g,e,i,j,k,m,r,o⟩;{exact .inl h};exact .inr ⟨a,b,p,n,c,d,f,g,e,l.at i,l.at j,l.at k,m.le l,ra,o⟩
def Sz (k:Nat)(q:Rat):Prop:=q.num.natAbs<2^k/\q.den<2^k
theorem Sz.s {k m:Nat}(h:Sz k q)(hm:k<=m):Sz m q:=
 ⟨ł h.1 (ŀ ω hm),ł h.2 (ŀ ω hm)⟩
theorem af {n k:Nat}(h:n<2^k):(ah n).length<=k:=by rw [aR];exact ł h (Nat.pow_le_pow_left ω k)
theorem RR.shape {V:ut}{v:un}(h:RR V v q):∃(n d:Int)(p:OA),v=dB #[Ô .i64 n,Ô .i64 d,Õ p]:=by rcases h with ⟨e,-⟩|⟨a,b,p,n,c,f,g,i,e,-⟩;{exact ⟨_,_,_,e⟩};exact ⟨_,_,_,e⟩
theorem RR.ex {V:ut}{r:un}{K:Int->Int->OA->Prop}(g:RR V r q)(h:∀t:Int×Int×OA,RR V (dB #[Ô .i64 t.1,Ô .i64 t.2.1,Õ t.2.2]) q->K t.1 t.2.1 t.2.2):∃a b c,r=dB #[Ô .i64 a,Ô .i64 b,Õ c]/\K a b c:=by obtain ⟨a,b,c,rfl⟩:=g.shape;exact ⟨a,b,c,rfl,h (a,b,c) g⟩
end Go.Eng
namespace Go.Proofs.Tryz
open Go.Eng Go.Big
def Hx (n:Nat):decide ((dV n:Int)<=62)=decide (n<4611686018427387904):=by have:=@mJ n 62;rw [ĵ,Ñ,Ñ];omega
def Rx {z:Int}{d:Nat}(u:d≠0)(D:Nat.gcd z.natAbs d=1):(mkRat z d).num=z/\(mkRat z d).den=d:=by have:Nat.gcd d z.natAbs=1:=by{rw [ŭ];exact D};rw [Qs8,Ww5,Ã u,Ã u,this];simp
def dE {V:ut}(b:md){p q:OA}{n c m e:Nat}{xs ys:zA Nat}(hx:RD V p n c xs)(hy:RD V q m e ys)(hm:xs.length<=2^40)(hn:ys.length<=2^40:=by omega):À 149 #[dB #[gF b,yD p n c],yD q m e] V λr W=>RR W r (mkRat (bK b xs) (val ys)):=by
 have zero:∀V':ut,RR V' (dB #[Ô .i64 0,Ô .i64 0,Õ none]) 0:=λV'=>.inl ⟨rfl,by unfold Wd;decide⟩;refine DN V _ λt C=>(lH ra hn).s ?_;rintro r V2 D rfl;refine ⟨_,rfl,λE u l3=>?_,λE F G=>(qV b ra hm).s ?_⟩
 ·have:val ys=0:=nT.1 (by simp at E;omega);rw [this,Rat.mkRat_zero];exact zero _
 rintro r k v rfl;have l:val ys≠0:=λe=>by simp [nT.2 e] at E
 refine ⟨_,rfl,λH V6 l6=>?_,λH V7 X=>?_⟩
 ·have:bK b xs=0:=Qc0.1 (by simpa using H);rw [this,Rat.zero_mkRat];exact zero _
 have a0:bK b xs≠0:=λe=>by simp [e] at H
 have o:val xs≠0:=by rw [<-fW b xs];omega
 replace hx:=hx.le (C.m (D.m (G.m (v.m X))))
 replace hy:=hy.le (C.m (D.m (G.m (v.m X))))
 refine (Gd hx hy hm hn).s ?_;rintro r V8 Y ⟨Z,n3,c3,rfl,hg⟩
 replace hx:=hx.le Y
 replace hy:=hy.le Y
 have I:Nat.gcd (val xs) (val ys)<=val ys:=Qr0 ω (ŧ _ _);have h:(ah (Nat.gcd (val xs) (val ys))).length<=2^40:=Ā (aS I) (by have:=bJ hy.gT;omega)
 have J:Nat.gcd (val xs) (val ys)≠0:=by intro K;exact o (Nat.eq_zero_of_gcd_eq_zero_left K)
 refine ⟨_,_,_,rfl,λV9 L=>(lH ra h).s ?_⟩;rintro r eV i rfl;rw [ag]
 replace hx:=hx.le (L.m i)
 replace hy:=hy.le (L.m i)
 replace hg:=hg.le (L.m i)
 refine ⟨_,rfl,λz V'=>∃(us d:zA Nat),z.2.2.2.1=b/\RD V' z.2.2.2.2.1 z.2.2.2.2.2.1 z.2.2.2.2.2.2 us/\RD V' z.1 z.2.1 z.2.2.1 d/\us.length<=2^40/\d.length<=2^40/\val d≠0 /\
  Nat.gcd (val us) (val d)=1/\mkRat (bK b xs) (val ys)=mkRat (bK b us) (val d),⟨λy eW cU=>?_,λy=>?_⟩,?_⟩
 ·refine (oV ra ra hm h (by rw [ag];exact J)).s ?_;rintro r gC dI ⟨p4,n4,c4,p5,n5,c5,rfl,g1,g2⟩;refine qxQ ⟨rfl,λiI dS=>(oV ra ra hn h (by rw [ag];exact J)).s ?_⟩;rintro r kK fH ⟨p6,n6,c6,p7,n7,c7,rfl,g3,g4⟩;rw [ag] at g1 g3;have e1:val (ah (val xs / Nat.gcd (val xs) (val ys)))=val xs / Nat.gcd (val xs) (val ys):=ag _;have M:val (ah (val ys / Nat.gcd (val xs) (val ys)))=val ys / Nat.gcd (val xs) (val ys):=ag _;have d2:=ŧ (val xs) (val ys)
  have N:val ys / Nat.gcd (val xs) (val ys)≠0:=by intro K;have:=Wy5 d2;rw [K,ť] at this;exact l this.symm
  refine qxQ ⟨rfl,(p6,n6,c6,b,p4,n4,c4),σ,_,_,rfl,ra,g3,?_,?_,?_,?_,?_⟩
  ·exact Ā (aS (Qc8 _ _)) (by have:=bJ hx.gT;omega)
  ·exact Ā (aS (Qc8 _ _)) (by have:=bJ hy.gT;omega)
  ·rw [M];exact N
  ·rw [e1,M];exact Nat.gcd_div_gcd_div_gcd_of_pos_left ω
  ·rw [M]
   have k2:bK b xs=bK b (ah (val xs / Nat.gcd (val xs) (val ys)))*(Nat.gcd (val xs) (val ys):Nat):=by have k3:(val xs:Int)=((val xs / Nat.gcd (val xs) (val ys):Nat):Int)*(Nat.gcd (val xs) (val ys):Nat):=by{rw [<-Ť,Wy5 (Ŋ (val xs) (val ys))]};unfold bK;rw [e1];cases b;{simpa using k3};simp only [Ï];rw [Wk0,<-k3]
   conv=>lhs;rw [((Wy5 d2).symm),k2]
   exact Rat.mkRat_mul_right J
 ·have O:Nat.gcd (val xs) (val ys)=1:=by{have f:¬(1<dV (Nat.gcd (val xs) (val ys))):=by{simp at y;omega};have:=@mJ (Nat.gcd (val xs) (val ys)) 1;omega};exact ⟨(q,m,e,b,p,n,c),σ,xs,ys,rfl,hx,hy,hm,hn,l,O,rfl⟩
 ·rintro ⟨q,m,e,g,p,n,c⟩ ke fB ⟨us,d,s,hu,hv,P,j,Q,R,hq⟩;dsimp only at s hu hv ⊢;subst s;rw [hq];have ⟨S,a⟩:=Rx (z:=bK g us) Q (by rw [fW];exact R);generalize mkRat (bK g us) (val d)=w at *
  have T:Wd w↔val us<4611686018427387904/\val d<4611686018427387904:=by unfold Wd;rw [S,a,fW]
  have YZ:∀t:ut,ke.Le t->¬Wd w->À 209 #[dB #[gF g,yD p n c]] t λr V2=>∃(SS:md)(UT:OA)(Uu S5:Nat),r=dB #[gF SS,yD UT Uu S5] /\
    (∀u:ut,V2.Le u->À 210 #[yD q m e] u λr F=>∃(p3_:OA)(n3_ c3_:Nat),r=yD p3_ n3_ c3_ /\
    (∀k:ut,F.Le k->∀A:Nat,k.aX A (.cells #[gF SS,yD UT Uu S5,yD p3_ n3_ c3_] 256 (0,0))->RR k (dB #[Ô .i64 0,Ô .i64 0,Õ (some ⟨A,0,none⟩)]) w)):=by
   intro t C hw;refine (lG g ra P).s ?_;rintro r V2 D U;obtain ⟨p2,n2,c2,rfl,y⟩:=U;have U:RI V2 (dB #[gF (decide (bK g us<0)),yD p2 n2 c2]) (bK g us):=⟨_,_,_,rfl,y⟩;refine qyK ⟨rfl,λu l3=>(lI ra j).s ?_⟩;rintro r F G ⟨Z,n3,c3,rfl,f⟩;refine ⟨_,_,_,rfl,λk v A W=>.inr ⟨⟨A,0,none⟩,decide (bK g us<0),p2,n2,c2,Z,n3,c3,rfl,?_,?_,?_,?_,?_,hw⟩⟩
   ·rw [add_zero'];exact dK (xs:=[_,_,_]) W rfl
   ·rw [add_zero'];exact dK (xs:=[_,_,_]) W rfl
   ·rw [add_zero'];exact dK (xs:=[_,_,_]) W rfl
   ·rw [S];exact U.le au
   ·rw [a];exact f.le v
  refine ⟨θ,λkf e_=>(lH ra P).s ?_⟩;rintro r lu gX rfl;refine ⟨_,rfl,λf mD gj=>(lH ra j).s ?_,λf SH MJ=>YZ SH au ?_⟩
  ·rintro r nf je rfl;rw [Hx,Ñ] at f;refine ⟨_,rfl,λB kg il=>?_,λB A8 uV=>YZ A8 au ?_⟩;{rw [Hx,Ñ] at B;refine (Ad g ra P f).s ?_;rintro r qC nQ rfl;refine ⟨_,_,rfl,λqN lZ=>(oW ra j).s ?_⟩;rintro r qD l_ rfl;rw [Ä ω];refine ⟨_,_,rfl,λAa nt=>.inl ⟨?_,T.2 ⟨f,B⟩⟩⟩;rw [aq (x:=((val d:Nat):Int)) ω,aq ω,S,a]};rw [Hx,Ò] at B;rw [T];omega
  ·rw [Hx,Ò] at f;rw [T];omega
end Go.Proofs.Tryz
namespace Go.Eng
open Go.Big
def RI.inv {V:ut}{b:md}{p:OA}{n c:Nat}{z:Int}(h:RI V (dB #[gF b,yD p n c]) z):b=decide (z<0)/\RD V p n c (ah z.natAbs):=by obtain ⟨d,f,g,e,a⟩:=h;simp at e;obtain ⟨rfl,rfl,rfl,rfl⟩:=e;exact ⟨rfl,a⟩
end Go.Eng
namespace Go.Proofs.Tryz
open Go.Eng Go.Big
variable{V:Ó}{v:Value}{q x y:Rat}{k:Nat}
theorem ij (h:RR V v q)(D:Sz k q)(E:k<=2^40:=by omega):À 175 #[v] V λr W=>RI W r q.num:=by rcases h with ⟨rfl,hw⟩|⟨a,b,p,n,c,t,u,w,rfl,e,f,x,i,y,hw⟩;{have:=hw.1;refine uB V _ ⟨π,λ_ j l=>(mK _ ω).s ?_⟩;rintro r V2 m ⟨p,n,c,rfl,g⟩;exact qyK ⟨rfl,λo s=>⟨_,_,_,rfl,ra⟩⟩};obtain ⟨rfl,z⟩:=i.inv;refine uB V _ ⟨λ_=>⟨rfl,rfl,decide (q.num<0),p,n,c,a.add 0,rfl,?_,?_,λj l=>(lG _ ra (Ā (af D.1) E)).s ?_⟩,λd=>nomatch d⟩;{exact e};{simpa [Addr.add] using f};rintro r V2 m ⟨p,n,c,rfl,g⟩;rw [aY] at g ⊢;exact qyK ⟨rfl,λo s=>⟨_,_,_,rfl,ra⟩⟩
theorem gH (h:RR V v q)(D:Sz k q)(E:k<=2^40:=by omega):À 173 #[v] V λr W=>∃p n c,r=yD p n c/\RN W p n c q.den:=by rcases h with ⟨rfl,hw⟩|⟨a,b,p,n,c,o,s,t,rfl,u,w,e,x,y,hw⟩;{have:=hw.2;have z:=q.den_nz;refine ux V _ ⟨π,λ_ f i=>?_⟩;rw [aq ω,bw ω];refine (fQ _ ω).s ?_;rintro r V2 j ⟨p,n,c,rfl,g⟩;rw [show ((q.den:Int)-1+1).toNat=q.den from by omega] at g;exact ⟨_,_,_,rfl,λl m=>⟨_,_,_,rfl,ra⟩⟩};refine ux V _ ⟨λ_=>⟨rfl,rfl,_,_,_,⟨_,rfl,e⟩,λf i=>(lI ra (Ā (af D.2) E)).s ?_⟩,λd=>nomatch d⟩;rintro r V2 j ⟨p,n,c,rfl,g⟩;rw [ag] at g;exact ⟨_,_,_,rfl,λl m=>⟨_,_,_,rfl,ra⟩⟩
theorem lE (n:Int)(u:-9223372036854775808<n)(z:n<=9223372036854775807:=by omega):À 171 #[Ô .i64 n] V λr W=>r=Ô .u64 (n.natAbs:Int):=by refine LV V _ ⟨λa b c=>?_,λa b c=>?_⟩;{have a:n<0:=by{simpa using a};rw [aq ω,bw ω];congr 1;omega};have a:0<=n:=by{simpa using a};rw [bw ω];congr 1;omega
theorem BS (x y:Nat)(u:x<18446744073709551616)(D:y<18446744073709551616:=by omega):À 170 #[Ô .u64 (x:Int),Ô .u64 (y:Int)] V λr W=>r=Ô .u64 (Nat.gcd x y:Int):=by
 refine LW V _ ⟨λz V'=>∃a b:Nat,z=((a:Int),(b:Int))/\Nat.gcd a b=Nat.gcd x y,λz=>z.2.toNat,
  ⟨((x:Int),(y:Int)),σ,x,y,rfl,rfl⟩,?_⟩
 rintro _ g h ⟨a,b,rfl,c⟩;dsimp only;refine ⟨θ,λd=>?_,λd i j=>?_⟩
 ·have d:b≠0:=by{rw [bne_iff_ne] at d;omega};have e:a%b<b:=ġ _ ω;have f:(a:Int).tmod (b:Int)=((a%b:Nat):Int):=by{rw [Qk9 ω,<-Wk4]};rw [f];exact ⟨ω,((b:Int),((a%b:Nat):Int)),by (try dsimp only);rw [ß,ß];exact e,σ,b,a%b,rfl,by rw [Ct,c]⟩
 ·have d:b=0:=by{rw [bne_eq_false_iff_eq] at d;omega};subst d;rw [Qg1] at c;rw [c]
theorem iP (a b:Int)(D:a.natAbs<4611686018427387904)(E:b.natAbs<4611686018427387904:=by omega):À 222 #[Ô .i64 a,Ô .i64 b] V λr W=>∃z:Int,r=ê #[Ô .i64 z,gF (decide ((a*b).natAbs<4611686018427387904))]/\((a*b).natAbs<4611686018427387904->z=a*b):=by refine E_ V _ λj k=>(lE a ω).s ?_;rintro r V2 l rfl;refine ⟨_,rfl,λm n=>(lE b ω).s ?_⟩;rintro r o q rfl;refine ⟨_,rfl,λs t=>(WQ _ _ ω).s ?_⟩;rintro r u v rfl;have f:a*b=if (decide (a<0)==decide (b<0)) then ((a.natAbs*b.natAbs:Nat):Int) else -((a.natAbs*b.natAbs:Nat):Int):=by{rw [Ť];by_cases c:a<0<;>by_cases d:b<0;{rw [Ç c,Ç d,show (a.natAbs:Int)=-a from by omega,show (b.natAbs:Int)=-b from by omega];simp [Wk0,Wx4]};{rw [Ç c,È d,Ã φ,show (a.natAbs:Int)=-a from by omega,show (b.natAbs:Int)=b from by omega];simp [Wk0]};{rw [È c,Ç d,Ã φ,show (a.natAbs:Int)=a from by omega,show (b.natAbs:Int)=-b from by omega];simp [Wx4]};rw [È c,È d,show (a.natAbs:Int)=a from by omega,show (b.natAbs:Int)=b from by omega];simp};rw [(Ĭ a b)];generalize a.natAbs*b.natAbs=p at *;refine ⟨_,_,rfl,λe g i=>?_,λe=>⟨λc g i=>?_,λc=>⟨λd g i=>?_,λd g i=>?_⟩⟩⟩;{have e:18446744073709551616<=p:=by{rw [bne_iff_ne] at e;omega};rw [È ω];exact ⟨_,rfl,λh=>ω⟩};{have c:4611686018427387904<=p:=by{rw [Ñ] at c;omega};rw [È ω];exact ⟨_,rfl,λh=>ω⟩};{have e:p / 18446744073709551616=0:=by{rw [bne_eq_false_iff_eq] at e;omega};have c:p<4611686018427387904:=by{rw [Ò] at c;omega};rw [Ç c,aq (x:=((p%18446744073709551616:Nat):Int)) ω,aq ω];refine ⟨_,rfl,λ_=>?_⟩;have d:(decide (a<0)==decide (b<0))=false:=by{simpa using d};rw [f,d,Ã φ];omega};have e:p / 18446744073709551616=0:=by{rw [bne_eq_false_iff_eq] at e;omega};have c:p<4611686018427387904:=by{rw [Ò] at c;omega};rw [Ç c,aq (x:=((p%18446744073709551616:Nat):Int)) ω];refine ⟨_,rfl,λ_=>?_⟩;have d:(decide (a<0)==decide (b<0))=true:=by{simpa using d};rw [f,d,Ä rfl];omega
theorem tW (n:Int)(d:Nat)(E:n.natAbs<4611686018427387904)(F:d<4611686018427387904)(z:d≠0):À 223 #[Ô .i64 n,Ô .i64 (d:Int)] V λr W=>RR W r (mkRat n d):=by refine DM V _ λm o=>(lE n ω).s ?_;rintro r V2 p rfl;rw [bw (x:=(d:Int)) ω];refine ⟨_,rfl,λq s=>(BS _ _ ω).s ?_⟩;rintro r t u rfl;have g:Nat.gcd n.natAbs d<=d:=Qr0 ω (ŧ _ _);have v:0<Nat.gcd n.natAbs d:=Wz5 _ ω;have c:=Qs8 n d;have a:=Ww5 n d;rw [Ã z,ŭ] at c a;have b:(Nat.gcd n.natAbs d:Int)∣n:=Wy6.2 (Ŋ _ _);have h:d / Nat.gcd n.natAbs d<=d:=Qc8 _ _;have i:(n / (Nat.gcd n.natAbs d:Int)).natAbs<=n.natAbs:=by{rw [Qt4 b,ē];exact Qc8 _ _};have f:Wd (mkRat n d):=by{unfold Wd;rw [c,a];omega};refine ⟨_,rfl,?_⟩;rw [aq (x:=((Nat.gcd n.natAbs d:Nat):Int)) ω];refine ⟨λe=>⟨ω,ω,λj k=>.inl ⟨?_,f⟩⟩,λe j k=>.inl ⟨?_,f⟩⟩;{rw [c,a];have l:(d:Int).tdiv (Nat.gcd n.natAbs d:Int)=((d / Nat.gcd n.natAbs d:Nat):Int):=by{rw [Qv0 ω,<-Int.natCast_ediv]};rw [(Int.tdiv_eq_ediv_of_dvd b),l];generalize n / (Nat.gcd n.natAbs d:Int)=nn at *;generalize d / Nat.gcd n.natAbs d=D at *;rw [aq ω,aq (x:=(D:Int)) ω,aq ω]};have e:Nat.gcd n.natAbs d=1:=by{rw [Ò] at e;omega};rw [c,a,e,aq ω];simp
theorem mkRat_one (z:Int):mkRat z 1=(z:Rat):=by apply Rat.ext;{rw [Qs8];simp};rw [Ww5];simp
theorem RD.one {u:Nat}{ty:TypeId}{m:Nat×Nat}(h:V.aX u (.cells #[Ô .u32 1] ty m)):RD V (some ⟨u,0,none⟩) 1 1 [1]:=
 RD.aX (ds:=[1]) h (by simp [cR]) rfl (Ú _)
theorem oT (b:md){p:OA}{n c:Nat}{ds:zA Nat}(h:RD V p n c ds)(hm:ds.length<=2^40):À 252 #[dB #[gF b,yD p n c]] V λr W=>RR W r (bK b ds:Rat):=by refine E9 V _ λi j k f=>(dE b ra (RD.one f) hm ψ).s ?_;rintro r V2 l a;have e:mkRat (bK b ds) (val [1])=(bK b ds:Rat):=mkRat_one _;rw [e] at a;obtain ⟨n,d,p,rfl⟩:=a.shape;exact ⟨_,_,_,rfl,λ_ m g=>a.le g⟩
theorem CA {z:Int}(h:z.natAbs<4611686018427387904):Wd (z:Rat):=⟨h,by show (1:Nat)<_;decide⟩
theorem uJ (n:Int)(N:-9223372036854775808<=n)(O:n<=9223372036854775807:=by omega):À 254 #[Ô .i64 n] V λr W=>RR W r (n:Rat):=by have YZ:∀a:ut,V.Le a->À 227 #[Ô .i64 n] a λd V2=>∃z:md,∃(D:OA)(E F:Nat),d=dB #[gF z,yD D E F]/\(∀b:ut,V2.Le b->∀bk3_:Nat,b.aX bk3_ (.cells #[Ô .u32 1] 271 (0,0))->À 149 #[dB #[gF z,yD D E F],yD (some ⟨bk3_,0,none⟩) 1 1] b λf h=>∃x4_:Int,∃x5_:Int,∃p6_:OA,f=dB #[Ô .i64 x4_,Ô .i64 x5_,Õ p6_]/\∀J7_:C->un,(∀M:ut,h.Le M->RR M (dB #[Ô .i64 x4_,Ô .i64 x5_,Õ p6_]) (n:Rat))):=by{intro a j;refine (mK n N O).s ?_;rintro r V2 s ⟨p,m,c,rfl,g⟩;refine qyK ⟨rfl,λb t u l=>(dE _ ra (RD.one l) (Ā (af (k:=64) ω) ω) ψ).s ?_⟩;rintro r h v i;have e:mkRat (bK (decide (n<0)) (ah n.natAbs)) (val [1])=(n:Rat):=by{rw [aY];exact mkRat_one _};grind [i.shape,i.le]};refine LR V _ ⟨λ_=>YZ,λo=>⟨λ_=>YZ,λq a j=>.inl ⟨rfl,CA ?_⟩⟩⟩;rw [Ò] at o q;omega
theorem fP (h:RR V v q)(z:Sz k q)(D:k<=2^40:=by omega):À 164 #[v] V λr W=>r=Ô .i64 q.num.sign:=by rcases h with ⟨rfl,hw⟩|⟨a,b,p,n,c,j,l,m,rfl,o,s,t,i,u,hw⟩;{refine sO V _ ⟨π,λ_=>⟨λh e f=>?_,λh=>⟨λg e f=>?_,λg e f=>?_⟩⟩⟩;{rw [Qd2 (by simpa using h)]};{rw [Qf7 (by simpa using g)]};{have:q.num=0:=by{rw [Ò] at h g;omega};rw [this];rfl}};obtain ⟨rfl,w⟩:=i.inv;refine sO V _ ⟨λ_=>⟨rfl,rfl,decide (q.num<0),p,n,c,a.add 0,rfl,?_,?_,λe f=>(qV _ ra (Ā (af z.1) D)).s ?_⟩,π⟩<;>grind [Addr.add,aY]
theorem JP (h:RR V v q):À 253 #[v] V λr W=>r=gF (decide (q=0)):=by rcases h with ⟨rfl,hw⟩|⟨a,b,p,n,c,f,g,i,rfl,j,k,l,m,o,hw⟩;{grind [sP,Rat.num_eq_zero]};refine sP _ _ _ V _ ⟨π,λ_ s t=>?_⟩;congr 1;symm;rw [Ò];intro e;subst e;exact hw ⟨φ,φ⟩
theorem oR (h:RR V v q){k:Nat}(M:Sz k q)(N:k<=2^40):À 101 #[v] V λr W=>RR W r (-q):=by rcases h with ⟨rfl,hw⟩|⟨a,b,p,n,c,f,i,j,rfl,m,o,s,t,u,hw⟩;{have:=hw.1;refine uA V _ ⟨π,λ_ w x=>.inl ⟨?_,by unfold Wd;rw [Wx5,Wv1,Ů];exact hw⟩⟩;rw [aq ω,Wx5,Wv1,Int.zero_sub]};obtain ⟨rfl,D⟩:=t.inv;refine uA V _ ⟨λ_=>⟨rfl,rfl,decide (q.num<0),p,n,c,a.add 0,rfl,?_,?_,rfl,rfl,f,i,j,⟨_,rfl,s⟩,λw x=>(EB _ ra (Ā (af M.1) N)).s ?_⟩,π⟩;{exact m};{simpa [Addr.add] using o};rintro r V2 E l;rw [aY] at l;obtain ⟨y,z,A,rfl,g⟩:=l;refine qyK ⟨rfl,λF B C e=>.inr ⟨⟨C,0,none⟩,decide (-q.num<0),y,z,A,f,i,j,rfl,?_,?_,?_,?_,?_,?_⟩⟩;{rw [add_zero'];exact dK (xs:=[_,_,_]) e rfl};{rw [add_zero'];exact dK (xs:=[_,_,_]) e rfl};{rw [add_zero'];exact dK (xs:=[_,_,_]) e rfl};{exact ⟨_,_,_,rfl,g.le B⟩};{exact u.le au};unfold Wd;rw [Wx5,Wv1,Ů];exact hw
theorem _root_.Go.Eng.Sz.neg (h:Sz k q):Sz k (-q):=by unfold Sz;rw [Wx5,Wv1,Ů];exact h
theorem CX (z:Int)(g:Nat)(h:(g:Int)∣z):(z / g).natAbs<=z.natAbs:=by rw [Qt4 h,ē];exact Qc8 _ _
theorem _root_.Go.Eng.Sz.mkRat {k:Nat}{z:Int}{d:Nat}(u:z.natAbs<2^k)(D:d<2^k)(E:0<k):Sz k (mkRat z d):=by have a:1<2^k:=Qf1 ω;unfold Sz;rw [Qs8,Ww5];split;{exact ⟨Ļ k,a⟩};refine ⟨ň (CX _ _ (Wy6.2 (ŧ _ _))) u,ň (Qc8 _ _) D⟩
theorem bX {a b m:Nat}(u:a<2^k)(z:b<2^m):a*b<2^(k+m):=by rw [Ĕ];exact Wq9 u z
theorem BC {m:Nat}(u:Sz k x)(z:Sz m y):(x.num*y.den).natAbs<2^(k+m)/\(y.num*x.den).natAbs<2^(k+m)/\(x.num*y.den+y.num*x.den).natAbs<2^(k+m+1)/\x.den*y.den<2^(k+m):=by have a:(x.num*y.den).natAbs<2^(k+m):=by{rw [Ĭ,ē];exact bX u.1 z.2};have b:(y.num*x.den).natAbs<2^(k+m):=by{rw [Ĭ,ē,Wy4];exact bX z.1 u.2};refine ⟨a,b,?_,bX u.2 z.2⟩;rw [ħ];omega
theorem _root_.Go.Eng.Sz.add {m:Nat}(u:Sz k x)(z:Sz m y):Sz (k+m+1) (x+y):=by obtain ⟨-,-,a,b⟩:=BC u z;rw [Rat.add_def'];grind [Go.Eng.Sz.mkRat]
theorem _root_.Go.Eng.Sz.sub {m:Nat}(u:Sz k x)(z:Sz m y):Sz (k+m+1) (x-y):=by rw [Qs9];exact u.add z.neg
theorem _root_.Go.Eng.Sz.mul {m:Nat}(u:Sz k x)(z:Sz m y):Sz (k+m+1) (x*y):=by rw [Wj2];refine (Go.Eng.Sz.mkRat (k:=k+m+1) ?_ ?_ ω);{rw [Ĭ];exact ł (bX u.1 z.1) (ŀ ω ω)};exact ł (bX u.2 z.2) (ŀ ω ω)
theorem Hz {w:un}(hx:RR V v x)(hy:RR V w y){k m:Nat}(hk:Sz k x)(hm:Sz m y)(hkm:k+m<2^40):À 220 #[v,w] V λr W=>RR W r (x+y):=by
 obtain ⟨M,N,O,rfl⟩:=hx.shape;obtain ⟨P,s1,s2,rfl⟩:=hy.shape;have f:=Rat.add_def' x y;have ⟨b1,b2,b3,b4⟩:=BC hk hm
 have gen:(∀V46:ut,V.Le V46->À 175 #[dB #[Ô .i64 M,Ô .i64 N,Õ O]] V46 λl Q=>∃b53_:md,∃(UU:OA)(Uv S6:Nat),l=dB #[gF b53_,yD UU Uv S6]/\(∀V48:ut,Q.Le V48->À 173 #[dB #[Ô .i64 P,Ô .i64 s1,Õ s2]] V48 λo R=>∃(p55_:OA)(n55_ c55_:Nat),o=yD p55_ n55_ c55_/\(∀V50:ut,R.Le V50->À 224 #[dB #[gF b53_,yD UU Uv S6],dB #[gF false,yD p55_ n55_ c55_]] V50 λq S=>∃b56_:md,∃(UW:OA)(Uw S7:Nat),q=dB #[gF b56_,yD UW Uw S7]/\(∀V52:ut,S.Le V52->À 175 #[dB #[Ô .i64 P,Ô .i64 s1,Õ s2]] V52 λs T=>∃b58_:md,∃(p59_:OA)(n59_ c59_:Nat),s=dB #[gF b58_,yD p59_ n59_ c59_]/\(∀V54:ut,T.Le V54->À 173 #[dB #[Ô .i64 M,Ô .i64 N,Õ O]] V54 λt U=>∃(UX:OA)(Ux S8:Nat),t=yD UX Ux S8/\(∀V56:ut,U.Le V56->À 224 #[dB #[gF b58_,yD p59_ n59_ c59_],dB #[gF false,yD UX Ux S8]] V56 λu W=>∃b61_:md,∃(UY:OA)(Uy S9:Nat),u=dB #[gF b61_,yD UY Uy S9]/\(∀V58:ut,W.Le V58->À 274 #[dB #[gF b56_,yD UW Uw S7],dB #[gF b61_,yD UY Uy S9]] V58 λz X=>∃b63_:md,∃(p64_:OA)(n64_ c64_:Nat),z=dB #[gF b63_,yD p64_ n64_ c64_]/\(∀V60:ut,X.Le V60->À 173 #[dB #[Ô .i64 M,Ô .i64 N,Õ O]] V60 λA Y=>∃(p65_:OA)(n65_ c65_:Nat),A=yD p65_ n65_ c65_/\(∀V62:ut,Y.Le V62->À 173 #[dB #[Ô .i64 P,Ô .i64 s1,Õ s2]] V62 λB Z=>∃(UZ:OA)(n66_ c66_:Nat),B=yD UZ n66_ c66_/\(∀V64:ut,Z.Le V64->À 172 #[yD p65_ n65_ c65_,yD UZ n66_ c66_] V64 λC a0=>∃(p67_:OA)(n67_ c67_:Nat),C=yD p67_ n67_ c67_/\(∀V66:ut,a0.Le V66->À 149 #[dB #[gF b63_,yD p64_ n64_ c64_],yD p67_ n67_ c67_] V66 λD a1=>∃x68_:Int,∃x69_:Int,∃p70_:OA,D=dB #[Ô .i64 x68_,Ô .i64 x69_,Õ p70_]/\(∀V68:ut,a1.Le V68->RR V68 (dB #[Ô .i64 x68_,Ô .i64 x69_,Õ p70_]) (x+y))))))))))))):=by intro j l1;refine (ij ra hk).s ?_;rintro r V2 l2 ⟨p1,n1,c1,rfl,H⟩;refine qyK ⟨rfl,λV3 I=>(gH ra hm).s ?_⟩;rintro r V4 l4 ⟨p2,n2,c2,rfl,J⟩;have q1:=af hk.1;have q2:=af hk.2;have q3:=af hm.1;have q4:=af hm.2;refine ⟨_,_,_,rfl,λV5 l5=>(jI _ false ra ra).s ?_⟩;rintro r V6 l6 h6;rw [aY,uU,ag] at h6;obtain ⟨p3,n3,c3,rfl,E⟩:=h6;refine qyK ⟨rfl,λV7 l7=>(ij ra hm).s ?_⟩;rintro r V8 l8 ⟨p4,n4,c4,rfl,g4⟩;refine qyK ⟨rfl,λV9 l9=>(gH ra hk).s ?_⟩;rintro r eV a2 ⟨p5,n5,c5,rfl,g5⟩;refine ⟨_,_,_,rfl,λeW cU=>(jI _ false ra ra).s ?_⟩;rintro r gC dI F;rw [aY,uU,ag] at F;obtain ⟨p6,n6,c6,rfl,g6⟩:=F;have q5:=af b1;have q6:=af b2;refine qyK ⟨rfl,λiI dS=>(EA _ _ ra ra ω).s ?_⟩;rintro r kK fH Wj;rw [aY,aY] at Wj;obtain ⟨p7,n7,c7,rfl,g7⟩:=Wj;refine qyK ⟨rfl,λke fB=>(gH ra hk).s ?_⟩;rintro r kf e_ ⟨p8,n8,c8,rfl,g8⟩;refine ⟨_,_,_,rfl,λlu gX=>(gH ra hm).s ?_⟩;rintro r mD gj ⟨p9,n9,c9,rfl,g9⟩;refine ⟨_,_,_,rfl,λnf je=>(jm ra ra).s ?_⟩;rintro r kg il ⟨a9,b0,b5,rfl,a3⟩;rw [ag,ag] at a3;have q7:=af b3;have q8:=af b4;refine ⟨_,_,_,rfl,λqC nQ=>(dE _ ra ra ω).s ?_⟩;rintro r qN lZ g;rw [aY,ag,<-f] at g;obtain ⟨n,d,p,rfl⟩:=g.shape;exact ⟨_,_,_,rfl,λqD l_=>g.le l_⟩
 have lift:∀j:ut,V.Le j->∀V2:ut,j.Le V2->V.Le V2:=λ_ h _ h'=>h.m h';rcases hx with ⟨ex,wx⟩|⟨a,b,p,n,c,p',n',c',ex,-,-,-,-,-,wx⟩
 ·rcases hy with ⟨G,wy⟩|⟨a,b,p,n,c,p',n',c',G,-,-,-,-,-,wy⟩
  ·simp only [Value.agg.injEq] at ex G;obtain ⟨rfl,rfl,rfl⟩:=ex;obtain ⟨rfl,rfl,rfl⟩:=G;obtain ⟨a4,b6⟩:=wx;obtain ⟨a5,b7⟩:=wy;have e1:i64.wrap ((x.den:Int)-1+1)=x.den:=by rw [aq ω];omega
   have e2:i64.wrap ((y.den:Int)-1+1)=y.den:=by rw [aq ω];omega
   refine nN V _ ⟨λ_=>⟨λ_ _=>True,⟨λ_=>⟨λK=>⟨λL j l1=>?_,λL=>?_⟩,λK=>?_⟩,π⟩,λ_ j l1 _=>⟨θ,λV2 l2=>gen V2 au⟩⟩,π⟩
   ·have K:x.den=1:=by{rw [Ë] at K;omega};have L:y.den=1:=by{rw [Ë] at L;omega};rw [aq ω];refine (uJ _ ω).s ?_;rintro r V2 l2 i;have e:((x.num+y.num:Int):Rat)=x+y:=by{rw [f,K,L];simp only [Int.natCast_one,Int.mul_one];exact (mkRat_one _).symm};rw [e] at i;obtain ⟨n,d,p,rfl⟩:=i.shape;exact ⟨_,_,_,rfl,λV3 I=>i.le I⟩
   all_goals
    rw [e1,e2];refine λV4 l4=>(iP _ _ a4).s ?_;rintro r V5 l5 ⟨z1,rfl,a6⟩;refine ⟨_,_,rfl,λV6 l6=>(iP _ _ a5).s ?_⟩;rintro r V7 l7 ⟨z2,rfl,a7⟩;refine ⟨_,_,rfl,λV8 l8=>(iP _ _ ω).s ?_⟩;rintro r V9 l9 ⟨z3,rfl,a8⟩;refine ⟨_,_,rfl,λH=>⟨λJ=>⟨λE=>⟨λg4=>⟨λg5 eV a2=>?_,λ_=>⟨(),σ,trivial⟩⟩,λ_=>⟨(),σ,trivial⟩⟩,λ_=>⟨(),σ,trivial⟩⟩,λ_=>⟨(),σ,trivial⟩⟩,λ_=>⟨(),σ,trivial⟩⟩;rw [Ñ] at H J E g4 g5;have k1:=a6 H;have k2:=a7 J;have k3:=a8 E;rw [<-k1] at H;rw [<-k2] at J;rw [<-Ť,ē] at E;rw [<-Ť] at k3;rw [aq ω] at g4 g5 ⊢;rw [k3];refine (tW _ _ ω E (Ņ x.den_nz y.den_nz)).s ?_;rintro r eW cU i;rw [k1,k2,<-f] at i;obtain ⟨n,d,p,rfl⟩:=i.shape;exact ⟨_,_,_,rfl,λV3 I=>i.le I⟩
  ·simp only [Value.agg.injEq] at ex G;obtain ⟨rfl,rfl,rfl⟩:=ex;obtain ⟨rfl,rfl,rfl⟩:=G;exact nN V _ ⟨λ_=>⟨λ_ _=>True,⟨π,λ_=>⟨(),σ,trivial⟩⟩,λ_ j l1 _=>⟨θ,λV2 l2=>gen V2 au⟩⟩,π⟩
 ·simp only [Value.agg.injEq] at ex;obtain ⟨rfl,rfl,rfl⟩:=ex;exact nN V _ ⟨π,λ_=>gen⟩
end Go.Proofs.Tryz
