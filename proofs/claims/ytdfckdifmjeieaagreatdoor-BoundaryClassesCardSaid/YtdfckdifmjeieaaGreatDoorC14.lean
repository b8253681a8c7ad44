import Derived.Test.YtdfckdifmjeieaaGreatDoorC13
import Derived.Test.YtdfckdifmjeieaaGreatDoorC7
set_option linter.all false
open Go.IntKind (i64 u64 u32)
open Go.IntKind renaming i64→Ŵ
open Go.Value renaming slice→yG,bool→dB,tuple→å,int→Ô,agg→hF,pointer→qvJ
namespace Go.Proofs.Tryz
open Go.Eng Go.Big
variable{V:Ó}{p:OA}{c n:Nat}{ds:List Nat}
def LN (h:RD V p n c ds){K:Int->Prop}(u:0<ds.length)(y:K ((ds[0]:Nat):Int)):(p.isSome=true)/\(0<=(0:Int)/\(0:Int)<(n:Int))/\∃x:Int,(∃a,af p 0=some a/\V.at a (Ô .u32 x))/\K x:=by have:=h.rd (i:=0) (K:=K) 0 rfl u y;simpa using this
def Zq (h:RD V p n c ds){K:Int->Prop}(j:Nat)(u:j<ds.length)(y:K ((ds[j]:Nat):Int)):(p.isSome=true)/\(0<=(j:Int)/\(j:Int)<(n:Int))/\∃x:Int,(∃a,af p j=some a/\V.at a (Ô .u32 x))/\K x:=by have:=h.rd (i:=j) (K:=K) j rfl u y;simpa using this
def pZ {ds:zA Nat}(h:ds.length=1:=by omega):∃a,ds=[a]:=by
 match ds,h with
 | [a],_=>exact ⟨a,rfl⟩
def O9 {ds:zA Nat}(h:ds.length=2:=by omega):∃a b,ds=[a,b]:=by
 match ds,h with
 | [a,b],_=>exact ⟨a,b,rfl⟩
theorem dE {q:OA}{m e:Nat}{xs ys:zA Nat}(hx:RD V p n c xs)(hy:RD V q m e ys)(hm:xs.length+ys.length<=2^40:=by omega):À 98 #[yG p n c,yG q m e] V λr W=>∃p' n' c',r=yG p' n' c'/\RN W p' n' c' (val xs*val ys):=by
 have X:=hx.len;have Nf:=hy.len;have y:((n:Int)+m).toNat=n+m:=ω
 have w:Ŵ.wrap ((n:Int)+m)=(n:Int)+m:=ay ω;have vc:=Ef p n c q m e V;simp only [w,y,dZ] at vc;refine (λtail=>vc _ ⟨λT=>⟨λA=>?_,λ_=>tail⟩,λ_=>tail⟩) ?_
 ·have T:n=1:=by{simp at T;omega};have A:m=1:=by{simp at A;omega};clear tail vc;obtain ⟨a,rfl⟩:=pZ (ds:=xs);obtain ⟨b,rfl⟩:=pZ (ds:=ys);have U:=hx.gi.get (i:=0) ψ;have B:=hy.gi.get (i:=0) ψ;refine LN hx ψ (LN hy ψ λV1 l1=>?_);simp only [Qt6] at U B ⊢;have Y:a*b<=4294967295*4294967295:=Qg7 ω ω;have K:u64.wrap (a:Int)=a:=bw ω;have L:u64.wrap (b:Int)=b:=bw ω;have Z:(a:Int)*(b:Int)=((a*b:Nat):Int):=ψ;have e4:u64.wrap ((a*b:Nat):Int)=((a*b:Nat):Int):=bw ω;rw [K,L,Z,e4];refine (fg (a*b)).s ?_;rintro r V2 l2 ⟨p',n',c',rfl,h⟩;refine ⟨_,_,_,rfl,λV3 l3=>⟨_,_,_,rfl,?_⟩⟩;simp only [bT,gN,Ĭ,ġ];exact ra
 refine ⟨ω,ω,ω,λz V'=>0<=z.1/\z.1<=n/\∃es:zA Nat,z.2=aQ es/\es.length=n+m/\cP es /\
  val (es.take (z.1.toNat+m))=val (xs.take z.1.toNat)*val ys,λz=>n-z.1.toNat,⟨(0,aQ (List.replicate (n+m) 0)),Ų,by (try dsimp only);omega,by (try dsimp only);omega,_,rfl,ψ,cP.rep _,by simp [BC,Qs0]⟩,?_⟩
 rintro ⟨i,vs⟩ V5 l5 ⟨C,M,es,rfl,N,o,D⟩;dsimp only at C M D ⊢;obtain ⟨i,rfl⟩:=ď C;simp only [Ý] at D;refine ⟨θ,λv=>?_,λv=>?_⟩
 ·have v:i<n:=by simpa using v
  refine (hx.le l5).rd i rfl ω ?_;have U:=hx.gi.get (i:=i) ω
  refine ⟨λz V'=>0<=z.1/\z.1<=4294967295/\0<=z.2.1/\z.2.1<=m/\∃d:zA Nat,z.2.2=aQ d/\d.length=n+m/\cP d/\d.drop (i+z.2.1.toNat)=es.drop (i+z.2.1.toNat) /\
   val (d.take (i+z.2.1.toNat))+4294967296^(i+z.2.1.toNat)*z.1.toNat=val (es.take (i+z.2.1.toNat))+4294967296^i*xs[i]*val (ys.take z.2.1.toNat),λz=>m-z.2.1.toNat,
   ⟨(0,0,aQ es),Ų,by (try dsimp only);omega,by (try dsimp only);omega,by (try dsimp only);omega,by (try dsimp only);omega,es,rfl,N,o,rfl,ψ⟩,?_⟩
  rintro ⟨J,k,vs⟩ V6 l6 ⟨E,O,F,P,d,rfl,G,s,g,hw⟩;dsimp only at E O F P g hw ⊢;obtain ⟨k,rfl⟩:=ď F;obtain ⟨J,rfl⟩:=ď E;simp only [Ý] at g hw;refine ⟨θ,λj=>?_,λj=>?_⟩
  ·have j:k<m:=by{simpa using j};refine (hy.le aA).rd k rfl ω ?_;have B:=hy.gi.get (i:=k) ω;have W:=s.get (i:=i+k) ω;have Q:d[i+k]'ω=es[i+k]'ω:=by{have A:d[i+k]?=es[i+k]?:=by{have:=Æ (λl=>l[0]?) g;simpa [Qn9] using this};rw [ñ ω,ñ ω] at A;exact ő A};simp (disch:=omega) only [ay];have u:((i:Int)+k).toNat=i+k:=ω;rw [u];refine ⟨ų,((d[i+k]'ω:Nat):Int),by rw [ĉ,Ģ];exact ja ω,ų,by simp;omega,ω,?_⟩;have a0:xs[i]*ys[k]<=4294967295*4294967295:=Qg7 ω ω;have H:(xs[i]:Int)*(ys[k]:Int)=((xs[i]*ys[k]:Nat):Int):=ψ;obtain ⟨t,ht⟩:∃t:Nat,t=J+xs[i]*ys[k]+d[i+k]'ω:=⟨_,rfl⟩;rw [Ė] at hw;have f:=Lj hw ht;have K:u64.wrap (u64.wrap (u64.wrap (u64.wrap (xs[i]:Int)*u64.wrap (ys[k]:Int))+u64.wrap ((d[i+k]'ω:Nat):Int))+(J:Int))=(t:Int):=by{clear f;generalize xs[i]*ys[k]=pq at *;rw [bw (x:=(xs[i]:Int)) ω,bw (x:=(ys[k]:Int)) ω,H,bw (x:=((pq:Nat):Int)) ω];simp (disch:=omega) only [bw];omega};rw [K,k_,xz];(refine ⟨(_,_,_),?_,Ų,?_⟩);{(try dsimp only);omega};(try dsimp only);have I:((k:Int)+1).toNat=k+1:=ω;refine ⟨ω,ω,ω,ω,d.set (i+k) (t%4294967296),?_,by simpa using G,s.set _ _ ω,?_,?_⟩;{rw [<-bV];simp};{rw [I,Qn1 ω];have:=Æ (List.drop 1) g;simpa [Qp1,Wy5,Ŋ,Nat.add_left_comm] using this};rw [I,show i+(k+1)=i+k+1 from by omega,aX _ _ _,aG es (i+k),aG ys k,<-Q,Ĩ];have L:((t:Int)/4294967296).toNat=t/4294967296:=ω;rw [L,Ė,f]
  ·have j:k=m:=by{simp at j;omega};subst j;simp (disch:=omega) only [ay];have u:((i:Int)+k).toNat=i+k:=ω;rw [u];(refine ⟨ų,by simp;omega,(_,_),?_,Ų,?_⟩);{(try dsimp only);omega};(try dsimp only);have R:((i:Int)+1).toNat=i+1:=ω;refine ⟨ω,ω,d.set (i+k) J,?_,by simpa using G,s.set _ _ ω,?_⟩;{rw [<-bV,xF ω];simp};rw [R,show i+1+k=i+k+1 from by omega,aX _ _ _,hw,D,aG xs i,ax (ds:=ys)];grind
 ·have v:i=n:=by{simp at v;omega};subst v;intro V6 l6 bk S;refine (eG (RD.bo S o (n:=i+m) (c:=i+m) ω (Ù _))).s ?_;rintro r V7 l7 ⟨k,rfl,j⟩;refine ⟨_,_,_,rfl,λ_ V8 l8=>⟨_,_,_,rfl,?_⟩⟩;rw [bg o] at j;rw [ax,ax] at D;rw [D] at j;exact ra
def pL (h:RD V p n c ds)(hm:ds.length<=2^40:=by omega):À 147 #[yG p n c] V λr W=>r=å #[Ô .u64 ((if n<=2 then val ds else 0:Nat):Int),dB (decide (n<=2))]:=by have u:=h.len;refine MU V _ ⟨λe k l=>?_,λe=>⟨λf=>?_,λf=>⟨λd=>?_,λd k l=>?_⟩⟩⟩;{have e:n=0:=by{simp at e;omega};subst e;have:ds=[]:=ĕ.1 ω;subst this;rfl};{have f:n=1:=by{simp at f;omega};subst f;obtain ⟨a,rfl⟩:=pZ (ds:=ds);have o:=h.gi.get (i:=0) ψ;refine LN h ψ λk l=>?_;simp only [Qt6] at o ⊢;have m:u64.wrap (a:Int)=a:=bw ω;rw [m,Ä ω,Ç ω];simp};{have d:n=2:=by{simp at d;omega};subst d;obtain ⟨a,b,rfl⟩:=O9 (ds:=ds);have g:=h.gi.get (i:=0) ψ;have j:=h.gi.get (i:=1) ψ;refine Zq h 1 ψ ⟨ω,LN h ψ λk l=>?_⟩;simp only [Qt6,List.getElem_cons_succ] at g j ⊢;have m:u64.wrap (a:Int)=a:=bw ω;have q:u64.wrap (b:Int)=b:=bw ω;have s:((2:Int)^32)=4294967296:=φ;have t:u64.wrap ((b:Int)*4294967296)=(b:Int)*4294967296:=bw ω;rw [m,q,s,t,Lv _ _ j g,Ä ω,Ç ω];simp only [bT,gN];congr 4;omega};have d:¬n<=2:=by{simp at e f d;omega};rw [Ã d,È d];rfl
def SS (b:Nat):0 ||| b=b:=Nat.zero_or b
theorem pJ (hx:RD V p n c ds)(hm:ds.length<=2^40)(k:Nat)(hk:k<=35184372088832:=by omega):À 253 #[yG p n c,Ô Ŵ (k:Int)] V λr W=>∃p' n' c',r=yG p' n' c'/\RN W p' n' c' (val ds*2^k):=by
 have hl:=hx.len;have C:(k:Int).tdiv 32=((k/32:Nat):Int):=by rw [Qj4 ω];omega
 have D:(k:Int).tmod 32=((k%32:Nat):Int):=by rw [Qk9 ω];omega
 have vc:=MJ p n c k V
 have h:val ds*2^k=4294967296^(k/32)*val ds*2^(k%32):=by have:2^k=4294967296^(k/32)*2^(k%32):=by{rw [show (4294967296:Nat)=2^32 from rfl,<-Wx1,<-Ė,Qd5]};rw [this];grind
 rw [h];have E:k/32<=2^40:=ω
 have s:k%32<32:=ę _ ω;rw [C,D] at vc;generalize k/32=w at *;generalize k%32=r at *;clear C D h;have F:Ŵ.wrap (w:Int)=(w:Int):=ay ω;have G:Ŵ.wrap ((w:Int)+n)=((w+n:Nat):Int):=by rw [ay ω];omega
 have H:Ŵ.wrap (((w+n:Nat):Int)+1)=((w+n+1:Nat):Int):=by rw [ay ω];omega
 have I:u64.wrap (r:Int)=(r:Int):=bw ω
 have l:(min r IntKind.u64.bits)=r:=by show min _ 64=r;omega
 have J:((2:Int)^r)=((2^r:Nat):Int):=ψ
 simp only [F,G,H,I,Ý,l,J,dZ] at vc
 refine vc _ ⟨ω,ω,ω,ω,ω,λz V'=>0<=z.1/\z.1<=n/\∃es:zA Nat,z.2=aQ es/\es.length=w+n+1/\cP es/\(∀c,es[z.1.toNat+w]?=some c->c<2^r)/\(∀j c,z.1.toNat+w<j->es[j]?=some c->c=0) /\
   val (es.take (z.1.toNat+w+1))=4294967296^w*val (ds.take z.1.toNat)*2^r,λz=>n-z.1.toNat,
   ⟨(0,aQ (List.replicate (w+n+1) 0)),Ų,ω,ω,_,rfl,ψ,cP.rep _,?_,?_,?_⟩,?_⟩
 ·intro c a;rw [Qs7] at a;split at a;{cases a;exact ĵ r};cases a
 ·intro j c _ a;rw [Qs7] at a;split at a;{cases a;rfl};cases a
 ·simp [Qs0,BC]
 rintro ⟨i,vs⟩ V4 l4 ⟨m,t,es,rfl,u,d,a,q,f⟩;dsimp only at m t a q f ⊢;obtain ⟨i,rfl⟩:=ď m;simp only [Ý] at a q f;refine ⟨θ,λg=>?_,λg=>?_⟩
 ·have g:i<n:=by{simpa using g};have K:Ŵ.wrap ((w:Int)+i)=((i+w:Nat):Int):=ŵ;have L:Ŵ.wrap (((i+w:Nat):Int)+1)=((i+w+1:Nat):Int):=ŵ;have M:Ŵ.wrap ((i:Int)+1)=((i+1:Nat):Int):=ŵ;simp only [K,L,M,Ý,Ģ,ĉ];refine Zq ra i ω ?_;have N:=hx.gi.get (i:=i) ω;have v:=a (es[i+w]'ω) (ñ _);have x:=q (i+w+1) (es[i+w+1]'ω) ω (ñ _);have ⟨O,g2,P,g4⟩:=L_ N s v;have hmul:((ds[i]:Nat):Int)*((2^r:Nat):Int)=((ds[i]*2^r:Nat):Int):=ψ;have Q:u64.wrap ((ds[i]:Nat):Int)=((ds[i]:Nat):Int):=bw ω;have R:u64.wrap ((ds[i]*2^r:Nat):Int)=((ds[i]*2^r:Nat):Int):=bw ω;have S:u32.wrap ((ds[i]*2^r:Nat):Int)=((ds[i]*2^r%4294967296:Nat):Int):=by{rw [k_];omega};have T:u32.wrap (((ds[i]*2^r:Nat):Int).fdiv (2^32))=((ds[i]*2^r/4294967296:Nat):Int):=by{rw [xz,k_];omega};simp only [Q,hmul,R,S,T];have y:ds[i]*2^r/4294967296<4294967296:=ω;have U:=Qh2 (ds[i]*2^r) 4294967296;have A:val (List.take (i+1) ds)=val (List.take i ds)+4294967296^i*ds[i]:=aG _ _;have o:val (es.take (i+w+1))=val (es.take (i+w))+4294967296^(i+w)*es[i+w]'ω:=aG _ _;have B:ds[i]*2^r%4294967296<4294967296:=ę _ ω;generalize ds[i]*2^r%4294967296=lo at *;generalize ds[i]*2^r/4294967296=hi at *;refine ⟨ω,ω,ų,((es[i+w]'ω:Nat):Int),ja ω,ų,by simp;omega,ω,ų,((es[i+w+1]'ω:Nat):Int),?_,ω,ų,by simp;omega,?_⟩;{rw [Qn8 ω];exact ja ω};have e:es[i+w]'ω<4294967296:=d.get ω;rw [OC _ _ e B,O,x,OC _ _ ω y,SS];refine ⟨(((i+1:Nat):Int),aQ ((es.set (i+w) (es[i+w]'ω+lo)).set (i+w+1) hi)),?_,?_,?_⟩;{(try dsimp only);omega};{(try dsimp only);(and_intros<;>first|exact True.intro|rfl|rw [<-bV,<-bV])};(try dsimp only);refine ⟨ω,ω,_,rfl,by simpa using u,(d.set _ _ ω).set _ _ ω,?_,?_,?_⟩;{intro c b;simp only [Ý] at b;rw [show i+1+w=i+w+1 from by omega,Qt5 (by simp;omega)] at b;cases b;exact P};{intro j c W b;simp only [Ý] at W;rw [Qn8 ω,Qn8 ω] at b;exact q j c ω b};simp only [Ý];rw [show i+1+w+1=i+w+1+1 from by omega,aX _ _ _ (by simp;omega),aX _ _ _,A];rw [o] at f;have X:4294967296^(i+w+1)*hi=4294967296^(i+w)*(4294967296*hi):=by{rw [Ĩ];grind};rw [X,İ,<-Ŋ,f,Ŋ,<-İ,U,Ė];grind
 ·have g:i=n:=by{simp at g;omega};subst g;intro V5 l5 bk Y;refine (eG (RD.bo Y d (n:=w+i+1) (c:=w+i+1) ω (Ù _))).s ?_;rintro r' V6 l6 ⟨k',rfl,Z⟩;refine ⟨_,_,_,rfl,λ_ V7 l7=>⟨_,_,_,rfl,?_⟩⟩;rw [ax,ax] at f;rw [bg d,f] at Z;exact ra
def kP (a:Addr)(m n:Nat):(a.add m).add n=a.add (m+n):=by unfold Addr.add;by_cases b:m=0;{subst b;simp};by_cases c:n=0;{subst c;simp [b]};rw [Ã b,Ã c,Ã ω];simp only [Ŋ]
theorem RDdrop (h:RD V p n c ds){k:Nat}(u:k<n):RD V (kq p c k 1) (n-k) (c-k) (ds.drop k):=by have g:=h.len;have j:=h.cap;have e:kq p c k 1=af p k:=by{unfold kq;rw [Ã ω,Ģ]};rw [e];refine ⟨by simp;omega,ω,λi v b=>?_,h.gi.drop k,λl=>?_⟩;{rw [Ti,Qn9] at b;have ⟨d,f,a⟩:=h.sl _ _ b;refine ⟨d.add k,by rw [f];rfl,?_⟩;rw [kP];exact a};{have:p.isNone=true:=by{cases p<;>simp_all [af]};have:=h.Ll this;omega}
def Kv (hd:RD V p n c ds)(hm:ds.length<=2^40)(k:Nat)(hk:k<=35184372088832:=by omega):À 254 #[yG p n c,Ô Ŵ (k:Int)] V λr W=>∃p' n' c',r=yG p' n' c'/\RN W p' n' c' (val ds/2^k):=by
 have S:=hd.len;have F:(k:Int).tdiv 32=((k/32:Nat):Int):=by rw [Qj4 ω];omega
 have u:(k:Int).tmod 32=((k%32:Nat):Int):=by rw [Qk9 ω];omega
 have vc:=JD p n c k V
 have m:val ds/2^k=val ds/4294967296^(k/32)/2^(k%32):=by rw [Nat.div_div_eq_div_mul,show (4294967296:Nat)=2^32 from rfl,<-Wx1,<-Ė,Qd5]
 rw [m];have I:k/32<=2^40:=ω
 have y:k%32<32:=ę _ ω;rw [F,u] at vc;generalize k/32=w at *;generalize k%32=r at *;clear F u m;have J:Ŵ.wrap (w:Int)=(w:Int):=ay ω;have K:u64.wrap (r:Int)=(r:Int):=bw ω
 have o:(min r IntKind.u64.bits)=r:=by show min _ 64=r;omega
 simp only [J,K,Ý,o,dZ] at vc;refine vc _ ⟨ω,λh T U=>?_,λh=>?_⟩
 ·have h:n<=w:=by{simp at h;omega};have a:=je hd.gi;have:4294967296^ds.length<=4294967296^w:=ķ ω ω;rw [ŗ (Ľ a this),Wj8];exact ⟨_,_,_,rfl,RD.nil⟩
 ·have h:w<n:=by simp at h;omega
  clear vc
  have q:val ds/4294967296^w=val (ds.drop w):=by have e:val ds=val (ds.take w++ds.drop w):=by{rw [Qj8]};have a:=je (hd.gi.take w);rw [fo] at e;rw [ë,Ħ ω] at e a;rw [e,Qh0 _ _ (Wx2 ω),ŗ a,ĉ]
  rw [q];have v:=RDdrop hd h;have L:=v.len;clear q;generalize kq p c w 1=sp at *;generalize ds.drop w=xs at *;generalize hN:n-w=N at *
  refine ⟨ω,ω,ų,ω,ω,ω,λz V'=>0<=z.1/\z.1<=N/\∃es:zA Nat,z.2=aQ es/\es.length=N/\cP es /\
   val (es.take z.1.toNat)+4294967296^z.1.toNat*(val (xs.drop z.1.toNat)/2^r)=val xs/2^r,λz=>N-z.1.toNat,
   ⟨(0,aQ (List.replicate N 0)),Ų,ω,ω,_,rfl,ψ,cP.rep _,ψ⟩,?_⟩
  rintro ⟨i,W⟩ X Z ⟨s,A,es,rfl,B,d,b⟩;dsimp only at s A b ⊢;obtain ⟨i,rfl⟩:=ď s;simp only [Ý] at b;refine ⟨θ,λj=>?_,λj=>?_⟩
  ·have j:i<N:=by{simpa using j};have M:Ŵ.wrap ((i:Int)+1)=((i+1:Nat):Int):=ŵ;simp only [M,Ý,Ģ,ĉ];refine Zq ra i ω ?_;have G:=v.gi.get (i:=i) ω;refine ⟨λz V'=>z=((xs[i]+4294967296*(xs[i+1]?).getD 0:Nat):Int),⟨λf=>?_,λf=>?_⟩,?_⟩;{have f:i+1<N:=by{simp at f;omega};have C:=v.gi.get (i:=i+1) ω;have E:b_ .or .u64 (u64.wrap ((xs[i]:Nat):Int)) (u64.wrap (u64.wrap ((xs[i+1]:Nat):Int)*2^32))=((xs[i]+4294967296*(xs[i+1]?).getD 0:Nat):Int):=by{have u:((2:Int)^32)=4294967296:=φ;rw [u,bw ω,bw (x:=((xs[i+1]:Nat):Int)) ω,bw ω,VS _ _ C G,ñ ω,Qp0];omega};refine Zq ra (i+1) ω ⟨ω,((xs[i]+4294967296*(xs[i+1]?).getD 0:Nat):Int),?_,rfl⟩;(try dsimp only);(and_intros<;>first|exact True.intro|exact E|rfl)};{have f:N<=i+1:=by{simp at f;omega};have E:u64.wrap ((xs[i]:Nat):Int)=((xs[i]+4294967296*(xs[i+1]?).getD 0:Nat):Int):=by{rw [bw ω,Ŧ ω];simp};refine ⟨((xs[i]+4294967296*(xs[i+1]?).getD 0:Nat):Int),?_,rfl⟩;(try dsimp only);(and_intros<;>first|exact True.intro|exact E|rfl)};rintro _ O P rfl;have t:=Ma (Y:=val (xs.drop (i+1))) G y;rw [xG v.gi] at t;have g:val (xs.drop i)=xs[i]+4294967296*val (xs.drop (i+1)):=by{rw [ī ω,bT]};rw [g,t] at b;rw [kd,k_];obtain ⟨D,H⟩:∃D,D=(xs[i]+4294967296*(xs[i+1]?).getD 0)/2^r%4294967296:=⟨_,rfl⟩;have Q:(((xs[i]+4294967296*(xs[i+1]?).getD 0)/2^r:Nat):Int)%4294967296=(D:Int):=by{rw [H];omega};rw [Q];rw [<-H] at b;refine ⟨θ,ω,ų,by simp;omega,(((i+1:Nat):Int),aQ (es.set i D)),?_,?_,?_⟩;{(try dsimp only);omega};{(try dsimp only);(and_intros<;>first|exact True.intro|rfl|rw [<-bV])};(try dsimp only);refine ⟨ω,ω,_,rfl,by simpa using B,d.set _ _ ω,?_⟩;simp only [Ý];rw [aX _ _ _,<-b,Ĩ,İ,Ŋ,ņ]
  ·have j:i=N:=by{simp at j;omega};subst j;intro O P bk R;refine (eG (RD.bo R d (n:=i) (c:=i) ω (Ù _))).s ?_;rintro r' V6 l6 ⟨k',rfl,f⟩;refine ⟨_,_,_,rfl,λ_ V7 l7=>⟨_,_,_,rfl,?_⟩⟩;rw [ax,ľ (l:=xs) (i:=i) ω] at b;have b:val es=val xs/2^r:=by{rw [<-b,gN,Wj8,Ĭ,ġ]};rw [bg d,b] at f;exact ra
end Go.Proofs.Tryz
namespace Go.Big
variable{R V W n:Nat}
theorem Ab {ds:zA Nat}(u:cP ds)(w:Nat)(hw:w<=ds.length):val ds/4294967296^w=val (ds.drop w):=by have e:val ds=val (ds.take w++ds.drop w):=by{rw [Qj8]};grind [je,u.take,fo,Nat.add_mul_div_left,Nat.div_eq_of_lt]
theorem lead2 (h:(ai R).length=n+2):R/4294967296^n=(ai R)[n+1]'ω*4294967296+(ai R)[n]'ω:=by grind [Ab,aS,ag,List.drop_eq_getElem_cons,bT,gN]
theorem lead1 (h:(ai R).length=n+1):R/4294967296^n=(ai R)[n]'ω:=by grind [Ab,aS,ag,List.drop_eq_getElem_cons,bT,gN]
def lead0 (h:(ai R).length<=n):R/4294967296^n=0:=ŗ (aT.1 h)
def O7 (h:(ai V).length=n+1):(ai V)[n]'ω*4294967296^n<=V:=by have:=lead1 h;rw [<-this];exact Nat.div_mul_le_self _ _
theorem UR {R V top P W:Nat}(u:top*P<=V)(y:0<top)(z:0<P)(E:0<W):R/(V*W)<=R/(P*W)/top:=by rw [Wq3 y,Wq3 (Wv5 z E)];have a:R/(V*W)*(V*W)<=R:=Nat.div_mul_le_self _ _;have b:R/(V*W)*(top*P*W)<=R/(V*W)*(V*W):=Ň _ (Ă _ u);grind
theorem SH {A D q u:Nat}(h:A=V*(W*4294967296*D)+R)(y:R=V*q*W+u):A=V*(W*(q+4294967296*D))+u:=by subst y;rw [h];grind
theorem Vl {x y s Q:Nat}(h:x*2^s=y*2^s*Q+R)(u:R<y*2^s):Q=x/y/\R/2^s=x%y:=by have f:=ĵ s;have g:0<y:=by{rcases ĺ y with e|e;{subst e;simp at u};exact e};have i:y*2^s*Q=(y*Q)*2^s:=χ;have b:y*Q<=x:=by{rcases ē x (y*Q) with a|a;{have:(x+1)*2^s<=y*Q*2^s:=Ă _ a;rw [Đ] at this;omega};exact a};obtain ⟨d,rfl⟩:=Nat.exists_eq_add_of_le b;rw [Đ] at h;have c:R=d*2^s:=ω;subst c;have j:=Nat.lt_of_mul_lt_mul_right u;grind [Nat.mul_div_cancel,Nat.mul_add_div,Nat.div_eq_of_lt,Nat.mul_add_mod,Nat.mod_eq_of_lt]
def pow32 (j:Nat):2^(32*j)=4294967296^j:=by rw [Wx1]
theorem N8 {g:Nat}(hVW:0<V*W)(h:V*g*W<=R)(u:R/(V*W)<=g):g=R/(V*W):=by have:g<=R/(V*W):=by{rw [Wq3 hVW];grind};omega
theorem US {g:Nat}(hVW:0<V*W)(h:R<V*g*W):R/(V*W)<g:=by rw [Qb9 hVW];have:g*(V*W)=V*g*W:=χ;omega
theorem OU {R V W:Nat}:R=V*(R/(V*W))*W+R%(V*W):=by grind [Nat.div_add_mod]
def kV {a b:Nat}:(ai (a*b)).length<=(ai a).length+(ai b).length:=by rw [aT,Ė];have c:a<4294967296^(ai a).length:=aT.1 (Ù _);have d:b<4294967296^(ai b).length:=aT.1 (Ù _);exact Wq7 c d
def Ik (j:Nat):(ai (4294967296^j)).length<=j+1:=by rw [aT];exact Nat.pow_lt_pow_right ω ω
end Go.Big
namespace Go.Proofs.Tryz
open Go.Eng Go.Big
variable{V:Ó}{p q:OA}{R c e n:Nat}
def rdG {ds:zA Nat}(h:RD V p n c ds){i:Int}{K:Int->Prop}(j d:Nat)(y:i=j)(u:ds[j]?=some d)(z:K (d:Int)):(p.isSome=true)/\(0<=i/\i<(n:Int))/\∃x:Int,(∃a,af p (i.toNat*1)=some a/\V.at a (Ô .u32 x))/\K x:=by have b:j<ds.length:=by{rcases ē j ds.length with h|h;{exact h};rw [Ŧ h] at u;cases u};refine h.rd j y b ?_;rw [ñ b] at u;cases u;exact z
def Tg {W n:Nat}(h:(ai W).length=n+1:=by omega):∃top,(ai W)[n]?=some top/\top≠0/\top<4294967296/\top*4294967296^n<=W:=by refine ⟨(ai W)[n]'ω,ñ _,?_,(aS W).get _,O7 h⟩;have:=(kg W).last ω;simpa [h] using this
structure J8 (A V L:Nat) (R:Nat) (j:Nat) (es:List Nat):Prop where
 len:es.length=L
 gi:cP es
 lt:R<V*4294967296^j
 eq:A=V*(4294967296^j*val (es.drop j))+R
theorem J8.step {A V L j:Nat}{es:zA Nat}(h:J8 A V L R (j+1) es)(y:j<L)(u:0<V):R/(V*4294967296^j)<4294967296/\J8 A V L (R-V*(R/(V*4294967296^j))*4294967296^j) j (es.set j (R/(V*4294967296^j))):=by have c:0<4294967296^j:=Wx2 ω;have a:=Wv5 u c;have b:R/(V*4294967296^j)<4294967296:=by{rw [Qb9 a];have:=h.lt;rw [Ĩ] at this;have e:4294967296*(V*4294967296^j)=V*(4294967296^j*4294967296):=by{generalize 4294967296^j=w;grind};omega};have d:=OU (R:=R) (V:=V) (W:=4294967296^j);have he:R-V*(R/(V*4294967296^j))*4294967296^j=R%(V*4294967296^j):=ω;refine ⟨b,⟨by simpa using h.len,h.gi.set _ _ b,by rw [he];exact (ę R a),?_⟩⟩;have f:=h.len;rw [ī (by simp;omega),Qg4,Qn1 ω,bT,he];exact SH (by have:=h.eq;rwa [Ĩ] at this) d
def Ws {V j:Nat}(h:R<V*4294967296^(j+1)):(ai R).length<=(ai V).length+j+1:=by have a:V*4294967296^(j+1)<=4294967296^(ai V).length*4294967296^(j+1):=Ă _ (Qs4 (aT.1 (Ù _)));rw [<-Ė] at a;have:=aT.2 (Ľ h a);omega
def YX (h:(ai R).length<=n+2):R/4294967296^n<18446744073709551616:=by rw [Qb9 (Wx2 ω)];have:=aT.1 h;rw [Ĩ,Ĩ] at this;have e:4294967296^n*4294967296*4294967296=18446744073709551616*4294967296^n:=by{generalize 4294967296^n=w;omega};omega
theorem NM {m:Nat}{x y:Nat}(hx:RN V p n c x)(hy:RN V q m e y)(hm:(ai x).length<=2^38)(hy0:0<y)(hle:(ai y).length<=(ai x).length):À 203 #[yG p n c,yG q m e] V λr W=>∃p1 n1 c1 p2 n2 c2,r=å #[yG p1 n1 c1,yG p2 n2 c2]/\RN W p1 n1 c1 (x/y)/\RN W p2 n2 c2 (x%y):=by
 have a6:=hx.len;have Nf:=hy.len
 have d1:0<m:=by rcases ĺ m with h|h;{have:=bG.1 (ĕ.1 (Nf▸h));omega};exact h
 have vc:=MS p n c q m e V;have w1:Ŵ.wrap ((m:Int)-1)=((m-1:Nat):Int):=by rw [ay ω];omega
 have w2:Ŵ.wrap ((n:Int)-m)=((n-m:Nat):Int):=by rw [ay ω];omega
 have w3:Ŵ.wrap (((n-m:Nat):Int)+1)=((n-m+1:Nat):Int):=by rw [ay ω];omega
 have w4:Ŵ.wrap (((n-m+1:Nat):Int)-1)=((n-m:Nat):Int):=by rw [ay ω];omega
 simp only [w1,w2,w3,Ý,w4,dZ] at vc;obtain ⟨L,hL⟩:∃L,L=n-m+1:=⟨_,rfl⟩;rw [<-hL] at vc;refine vc _ ?_;clear vc;refine hy.rd (m-1) rfl ω λV1 l1=>(js _ ((aS y).get ω)).s ?_;rintro r V2 l2 rfl;have a7:dL ((ai y)[m-1]'ω)<=32:=jJ.2 (by have:=(aS y).get (i:=m-1) ω;omega);obtain ⟨s,hs⟩:∃s:Nat,(32:Int)-(dL ((ai y)[m-1]'ω):Int)=s:=⟨32-dL ((ai y)[m-1]'ω),ω⟩;have YD:s<=32:=ω
 rw [hs];clear hs a7;refine ⟨_,rfl,λV3 l3=>(pJ ra ω s).s ?_⟩;rintro r V4 l4 ⟨vp,d,vc,rfl,K⟩;rw [ag] at K;refine ⟨_,_,_,rfl,λV5 l5=>(pJ ra ω s).s ?_⟩;rintro r V6 l6 ⟨rp,M,rc,rfl,hr⟩;rw [ag] at hr
 replace K:=K.le (l5.m l6)
 have a8:=K.len;have O:=ĵ s;have d2:=ķ (n:=2) ω YD;have P:=Wv5 hy0 O;have d3:(ai (2^s)).length<=2:=aT.2 ω;have d4:d<=m+2:=by have:=kV (a:=y) (b:=2^s);omega
 have d5:0<d:=by rcases ĺ d with h|h;{have:=bG.1 (ĕ.1 (a8▸h));omega};exact h
 have G:J8 (x*2^s) (y*2^s) L (x*2^s) L (List.replicate L 0):=by refine ⟨ψ,cP.rep _,?_,ψ⟩;have h1:x<4294967296^n:=by{rw [a6];exact aT.1 (Ù _)};have h2:4294967296^(m-1)<=y:=by{rw [<-zK];omega};have v:4294967296^(m-1)*4294967296^L<=y*4294967296^L:=Ă _ h2;rw [<-Ė,show m-1+L=n from by omega] at v;have C:x*2^s<y*4294967296^L*2^s:=Qc7 ω O;have D:y*4294967296^L*2^s=y*2^s*4294967296^L:=by{generalize 4294967296^L=w;grind};omega
 have E:∀{Q R:Nat},x*2^s=y*2^s*Q+R->R<y*2^s->Q=x/y/\R/2^s=x%y:=λh1 h2=>Vl h1 h2;generalize x*2^s=A at *;generalize y*2^s=W at *;have w5:Ŵ.wrap ((d:Int)-1)=((d-1:Nat):Int):=by rw [ay ω];omega
 simp only [w5,Ý];refine ⟨_,_,_,rfl,?_⟩;have ⟨top,a9,b0,b5,H⟩:=Tg (W:=W) (n:=d-1);refine rdG K (d-1) top rfl a9 ?_;have w6:u64.wrap (top:Int)=top:=bw ω;simp only [w6]
 refine ⟨ω,ω,ω,λz V'=>∃R:Nat,RN V' z.1 z.2.1 z.2.2.1 R/\-1<=z.2.2.2.1/\z.2.2.2.1<L/\∃es:zA Nat,z.2.2.2.2=aQ es/\J8 A W L R (z.2.2.2.1+1).toNat es,λz=>(z.2.2.2.1+1).toNat,
  ⟨(rp,M,rc,((n-m:Nat):Int),aQ (List.replicate L 0)),Ų,A,hr,by (try dsimp only);omega,by (try dsimp only);omega,_,rfl,?_⟩,?_⟩
 ·(try dsimp only);rw [show (((n-m:Nat):Int)+1).toNat=L from by omega];exact G
 rintro ⟨rp,M,rc,j,vs⟩ V7 l7 ⟨R,N,b6,b7,es,rfl,o⟩;dsimp only at N b6 b7 o ⊢;have d6:=N.len;refine ⟨θ,λv=>?_,λv=>?_⟩
 ·have v:0<=j:=by simpa using v
  obtain ⟨j,rfl⟩:=ď v;have o:=o;have b8:j<L:=ω
  have S:=Ws o.lt;have ⟨hq,T⟩:=o.step b8 P;have w7:Ŵ.wrap ((d:Int)+j)=((d-1+j+1:Nat):Int):=by rw [ay ω];omega
  have w8:Ŵ.wrap (((d-1+j+1:Nat):Int)-1)=((d-1+j:Nat):Int):=by rw [ay ω];omega
  have w9:Ŵ.wrap ((32:Int)*j)=((32*j:Nat):Int):=by rw [ay ω];omega
  have b9:Ŵ.wrap ((j:Int)-1)=(j:Int)-1:=ay ω;simp only [w7,w8,w9,b9,Ý];have S:(ai R).length<=d-1+j+2:=ω
  have c0:=YX S;have hP:0<4294967296^(d-1):=Wx2 ω;have hW:0<4294967296^j:=Wx2 ω;have hg:=UR (R:=R) H ω hP hW;rw [<-Ė] at hg;have l2:=@lead2 R (d-1+j);have l1:=@lead1 R (d-1+j);have l0:=@lead0 R (d-1+j);have l:∀i (hi:i<(ai R).length),(ai R)[i]<4294967296:=λi hi=>(aS R).get hi;generalize R/4294967296^(d-1+j)=lead at *;refine ⟨λz V'=>z=(lead:Int),⟨λC=>?_,λC=>?_⟩,?_⟩
  ·have C:d-1+j+1<M:=by{simp at C;omega};refine (N.rd (d-1+j+1) rfl ω ⟨ω,N.rd (d-1+j) rfl ω ⟨(lead:Int),?_,rfl⟩⟩);have U:b_ .or .u64 (u64.wrap (u64.wrap (((ai R)[d-1+j+1]'ω:Nat):Int)*2^32)) (u64.wrap (((ai R)[d-1+j]'ω:Nat):Int))=(lead:Int):=by{have e3:((2:Int)^32)=4294967296:=φ;have g1:=l (d-1+j+1) ω;have X:=l (d-1+j) ω;have:=l2 ω;rw [e3,bw (x:=(((ai R)[d-1+j+1]'ω:Nat):Int)) ω,bw (x:=(((ai R)[d-1+j]'ω:Nat):Int)) ω,bw ω,Lv _ _ g1 X,this];omega};(try dsimp only);(and_intros<;>first|exact True.intro|exact U|rfl)
  ·have C:M<=d-1+j+1:=by{simp at C;omega};refine ⟨λz V'=>z=(lead:Int),⟨λD=>?_,λD=>?_⟩,?_⟩;{have D:d-1+j<M:=by{simp at D;omega};refine N.rd (d-1+j) rfl ω ⟨(lead:Int),?_,rfl⟩;have U:u64.wrap (((ai R)[d-1+j]'ω:Nat):Int)=(lead:Int):=by{have X:=l (d-1+j) ω;rw [bw ω,l1 ω]};(try dsimp only);(and_intros<;>first|exact True.intro|exact U|rfl)};{have D:M<=d-1+j:=by{simp at D;omega};have U:(0:Int)=(lead:Int):=by{rw [l0 ω];rfl};refine ⟨(lead:Int),?_,rfl⟩;(try dsimp only);(and_intros<;>first|exact True.intro|exact U|rfl)};rintro _ V8 l8 rfl;refine ⟨θ,(lead:Int),?_,rfl⟩;(try dsimp only);(and_intros<;>first|exact True.intro|rfl)
  rintro _ V9 l9 rfl;clear l2 l1 l0 l;have F:(lead:Int).tdiv (top:Int)=((lead/top:Nat):Int):=by rw [Qj4 ω];omega
  have c3:lead/top<=lead:=Qc8 _ _;rw [F];generalize lead/top=lt at *
  obtain ⟨B,Y,t,Z⟩:∃B:Nat,cM (u64.wrap (lt:Int)) 4294967295=(B:Int)/\B<4294967296/\R/(W*4294967296^j)<=B:=by rw [bw ω];unfold cM;split;{exact ⟨4294967295,rfl,ω,ω⟩};exact ⟨lt,rfl,ω,hg⟩
  rw [Y];clear Y F c3 hg c0;have a0:=Wv5 P hW;have u:∀g:Nat,g<4294967296->(ai g).length<=1:=λg hg=>aT.2 ω;refine ⟨θ,ω,λfD a1=>(fg B).s ?_⟩;rintro r eX dq ⟨gp,gn,gc,rfl,d7⟩;refine ⟨_,_,_,rfl,λgQ eJ=>(dE ra ra (by have:=u B t;omega)).s ?_⟩;rintro r ji fk ⟨pp,pn,pc,rfl,c4⟩;rw [ag,ag] at c4;have I:=λg=>kV (a:=W) (b:=g);refine ⟨_,_,_,rfl,λlH iL=>(pJ ra (by have:=u B t;have:=I B;omega) (32*j)).s ?_⟩;rintro r mJ iE ⟨tp,tn,tc,rfl,a2⟩;rw [ag,pow32] at a2;have d0:=N.le (l9.m (a1.m (dq.m (eJ.m (fk.m (iL.m iE))))))
  refine ⟨_,_,_,rfl,λz V'=>∃g:Nat,z.1=g/\g<4294967296/\R/(W*4294967296^j)<=g/\RN V' z.2.1 z.2.2.1 z.2.2.2 (W*g*4294967296^j),λz=>z.1.toNat,
   ⟨((B:Int),tp,tn,tc),Ų,B,rfl,t,Z,a2⟩,?_⟩
  rintro ⟨_,tp,tn,tc⟩ ko gV ⟨g,rfl,c5,c6,ht⟩;dsimp only at ht ⊢
  have c7:(ai (W*g*4294967296^j)).length<=2^40:=by have h1:=kV (a:=W*g) (b:=4294967296^j);have h2:=Ik j;have v:=I g;have C:=u g c5;omega
  refine ⟨θ,λnk kf=>(jw ra ra c7).s ?_⟩;rintro r nq iF rfl;refine ⟨_,rfl,λf=>?_,λf=>?_⟩
  ·have f:R<W*g*4294967296^j:=by{have f:0<nE (W*g*4294967296^j) R:=by{simpa using f};unfold nE at f;split at f;{omega};split at f;{assumption};omega};have c8:=US a0 f;have d8:=ş (ä _) c8;have e1:u64.wrap ((g:Int)-1)=((g-1:Nat):Int):=by{rw [bw ω];omega};simp only [e1];refine λqM lD=>(fg (g-1)).s ?_;rintro r uJ kN ⟨gp,gn,gc,rfl,d9⟩;refine ⟨_,_,_,rfl,λtM rI=>(dE ((K.le aA).le aA) ra (by have:=u (g-1) ω;omega)).s ?_⟩;rintro r vO oX ⟨pp,pn,pc,rfl,c9⟩;rw [ag,ag] at c9;refine ⟨_,_,_,rfl,λvP oY=>(pJ ra (by have:=u (g-1) ω;have:=I (g-1);omega) (32*j)).s ?_⟩;rintro r EL tO ⟨tp,tn,tc,rfl,a3⟩;rw [ag,pow32] at a3;(refine ⟨_,_,_,rfl,(((g-1:Nat):Int),tp,tn,tc),?_,Ų,g-1,rfl,ω,ω,a3⟩);(try dsimp only);omega
  ·have f:W*g*4294967296^j<=R:=by{have f:¬0<nE (W*g*4294967296^j) R:=by{simpa using f};unfold nE at f;split at f;{omega};split at f;{omega};omega};rw [<-(N8 a0 f c6)] at T;have e0:=o.len;refine ⟨ų,by simp;omega,λNa qI=>(uU ra ra ω (aL f) (by rw [ag,ag];exact f)).s ?_⟩;rintro r Rk Ng ⟨np,nn,nc,rfl,a4⟩;rw [ag,ag] at a4;have e1:u32.wrap (g:Int)=(g:Int):=xF ω;have e2:(aQ es).set (0+j*1) (Ô .u32 (g:Int))=aQ (es.set j g):=by{rw [<-bV];simp};simp only [e1];(refine ⟨_,_,_,rfl,(np,nn,nc,(j:Int)-1,aQ (es.set j g)),?_,by and_intros<;>first|exact True.intro|rfl|exact e2|(rw [<-bV];simp),R-W*g*4294967296^j,a4,by (try dsimp only);omega,by (try dsimp only);omega,_,rfl,?_⟩);{(try dsimp only);omega};(try dsimp only);rw [show ((j:Int)-1+1).toNat=j from by omega];exact T
 ·have v:j=-1:=by{simp at v;omega};subst v;have a5:(ai R).length<=2^40:=by{have f:=o.lt;have f:R<W:=by{simpa using f};have:=aL (Qs4 f);omega};intro V8 l8 bk hb;refine (eG (RD.bo hb o.gi (n:=L) (c:=L) o.len.symm (Ù _)) (by have:=o.len;omega)).s ?_;rintro r V9 l9 ⟨k,rfl,C⟩;refine ⟨_,_,_,rfl,λ_ fD a1=>(Kv ra a5 s).s ?_⟩;rintro r eX dq ⟨p2,n2,c2,rfl,D⟩;rw [ag] at D;refine ⟨_,_,_,rfl,λgQ eJ=>⟨_,_,_,_,_,_,rfl,?_,?_⟩⟩;{have f:=o.lt;have J:=o.eq;have f:R<W:=by{simpa using f};have J:A=W*val es+R:=by{simpa using J};have ⟨g1,X⟩:=E J f;rw [bg o.gi,g1] at C;exact ra};have f:=o.lt;have J:=o.eq;have f:R<W:=by{simpa using f};have J:A=W*val es+R:=by{simpa using J};have ⟨g1,X⟩:=E J f;rw [X] at D;exact ra
def xS {x:Nat}(h:(ai x).length<=2:=by omega):x<18446744073709551616:=by have:=aT.1 h;omega
def ı {b:Nat}{ds:zA Nat}{sp:zA um}{ty:TypeId}(u:cP ds)(y:n=ds.length)(z:n<=c)(E:V.bo b (.cells (aQ ds++sp).toArray ty (0,0))):RD V (some ⟨b,0,none⟩) n c ds:=by refine ⟨y,z,λi v a=>⟨_,rfl,?_⟩,u,λe=>nomatch e⟩;rw [add_zero'];refine dM E ?_;rw [ĳ];{exact a};rcases ē i (aQ ds).length with e|e;{exact e};rw [Ŧ e] at a;cases a
def gF {m:Nat}{x y:Nat}(hx:RN V p n c x)(hy:RN V q m e y)(hm:(ai x).length<=2^38)(hm':(ai y).length<=2^38)(hy0:0<y):À 149 #[yG p n c,yG q m e] V λr W=>∃p1 n1 c1 p2 n2 c2,r=å #[yG p1 n1 c1,yG p2 n2 c2]/\RN W p1 n1 c1 (x/y)/\RN W p2 n2 c2 (x%y):=by
 have j:=hx.len;have Y:=hy.len
 have Z:0<m:=by rcases ĺ m with h|h;{have:=bG.1 (ĕ.1 (Y▸h));omega};exact h
 refine FK V _ λV1 E=>(pL ra).s ?_;rintro r V2 T rfl;rw [ag];refine ⟨_,_,rfl,λz V'=>True,⟨λa=>?_,λa=>⟨(),Ų,trivial⟩⟩,?_⟩
 ·have a:n<=2:=by{simpa using a};refine λV3 l3=>(pL ra).s ?_;rintro r V4 l4 rfl;rw [ag];refine ⟨_,_,rfl,λf=>?_,λf=>⟨(),Ų,trivial⟩⟩;have f:m<=2:=by{simpa using f};have a0:=xS (x:=x);have a1:=xS (x:=y);rw [Ä a,Ä f];have hq:x/y<=x:=Qc8 _ _;have hr:x%y<y:=ę _ hy0;have F:((x:Nat):Int).tdiv (y:Int)=((x/y:Nat):Int):=by{rw [Qj4 ω];omega};have G:((x:Nat):Int).tmod (y:Int)=((x%y:Nat):Int):=by{rw [Qk9 ω];omega};rw [F,G];generalize x/y=qq at *;generalize x%y=rr at *;have H:u64.wrap (qq:Int)=qq:=bw ω;rw [H];refine ⟨ω,ω,λV5 l5=>(fg qq).s ?_⟩;rintro r V6 l6 ⟨p1,n1,c1,rfl,g1⟩;refine ⟨_,_,_,rfl,λV7 l7=>(fg rr).s ?_⟩;rintro r V8 l8 ⟨p2,n2,c2,rfl,g2⟩;exact ⟨_,_,_,rfl,λV9 l9=>⟨_,_,_,_,_,_,rfl,ra,ra⟩⟩
 rintro _ fD u _
 replace hx:=hx.le (E.m (T.m u))
 replace hy:=hy.le (E.m (T.m u))
 refine ⟨θ,λeX U=>(jw ra ra ω).s ?_⟩;rintro r gQ W rfl
 replace hx:=hx.le (U.m W)
 replace hy:=hy.le (U.m W)
 refine ⟨_,rfl,λa=>⟨aQ (ai x),hx.sl,by simp [j],ω,ω,ψ,by simp [j],?_,?_⟩,λa=>⟨λf=>?_,λf=>?_⟩⟩
 ·intro v g;simp only [aQ,þ] at g;obtain ⟨d,-,rfl⟩:=g;rfl
 ·have a:x<y:=by{simpa [iV] using a};intro bk J sp c' f h2 V1 E b C;rw [ŗ a,ė a];refine qyJ ⟨rfl,RD.nil,?_⟩;simp only [ĉ,ŝ,Qf6,Œ] at C f ⊢;exact ı (aS x) j f C
 ·have a:y<=x:=by simpa [<-Ww6,iV] using a
  have f:m=1:=by simp at f;omega
  subst f;have ⟨d,D⟩:=pZ (ds:=ai y);have I:d=y:=by have:=ag y;rw [D] at this;simpa using this
  subst I;have K:d<4294967296:=by have:=aS d;rw [D] at this;exact (cP.cons.1 this).1
  try unfold RN at hy
  rw [D] at hy;have a2:0<n:=by have:=aL a;omega
  have w1:Ŵ.wrap ((n:Int)-1)=(n:Int)-1:=ay ω;simp only [w1,Ý,dZ];have Ap:=aS x;have w:=ag x;try unfold RN at hx
  clear D;rw [<-w];clear w a;generalize ai x=xs at *
  refine ⟨ω,ω,ω,λz V'=>0<=z.1/\z.1<d/\-1<=z.2.1/\z.2.1<n/\∃es:zA Nat,z.2.2=aQ es/\es.length=n/\cP es /\
   val (xs.drop (z.2.1+1).toNat)=d*val (es.drop (z.2.1+1).toNat)+z.1.toNat,λz=>(z.2.1+1).toNat,
   ⟨(0,(n:Int)-1,aQ (List.replicate n 0)),Ų,by (try dsimp only);omega,by (try dsimp only);omega,by (try dsimp only);omega,by (try dsimp only);omega,_,rfl,ψ,cP.rep _,?_⟩,?_⟩
  ·(try dsimp only);rw [ľ ω,ľ ψ];rfl
  rintro ⟨rest,i,vs⟩ lH L ⟨A,M,N,O,es,rfl,P,o,g⟩;dsimp only at A M N O g ⊢;obtain ⟨rest,rfl⟩:=ď A;refine ⟨θ,λs=>?_,λs=>?_⟩
  ·have s:0<=i:=by{simpa using s};obtain ⟨i,rfl⟩:=ď s;have Q:((i:Int)+1).toNat=i+1:=ω;rw [Q] at g;simp only [Ý] at g ⊢;have B:=Ap.get (i:=i) ω;refine (hx.le L).rd i rfl ω (LN (hy.le L) ψ λmJ iE=>(X0 rest xs[i] d ω B K).s ?_);rintro r ko gV rfl;have hq:(rest*4294967296+xs[i])/d<4294967296:=by{rw [Qb9 ω];have:rest+1<=d:=ω;have:=Ă 4294967296 this;rw [ļ 4294967296 d];omega};have hr:(rest*4294967296+xs[i])%d<d:=ę _ ω;have N_:=Qd5 (rest*4294967296+xs[i]) d;generalize (rest*4294967296+xs[i])/d=q at *;generalize (rest*4294967296+xs[i])%d=r at *;have w2:Ŵ.wrap ((i:Int)-1)=(i:Int)-1:=ay ω;simp only [w2];refine ⟨_,_,rfl,ų,by simp;omega,((r:Int),(i:Int)-1,aQ (es.set i q)),?_,?_,?_⟩;{(try dsimp only);omega};{(try dsimp only);(and_intros<;>first|exact True.intro|rfl|(rw [<-bV];simp))};(try dsimp only);refine ⟨ω,ω,ω,ω,_,rfl,by simpa using P,o.set _ _ ω,?_⟩;have R:((i:Int)-1+1).toNat=i:=ω;rw [R,ī ω,ī (l:=es.set i q) (by simp;omega),Qg4,Qn1 ω];rw [bT,bT,Ý];exact (Dv g N_)
  ·have s:i=-1:=by{simp at s;omega};subst s;simp only [Ý] at g;have g:val xs=d*val es+rest:=by{simpa using g};intro nk kf bk C;refine (eG (RD.bo C o (n:=n) (c:=n) ω (Ù _))).s ?_;rintro r nq iF ⟨k,rfl,h4⟩;refine ⟨_,_,_,rfl,λ_ qM lD S t=>?_⟩;have t:qM.bo S (.cells (aQ [rest]).toArray 245 (0,0)):=by{simpa [aQ] using t};refine (eG (RD.bo t (n:=1) (c:=1) (by simp [cP];omega) rfl (Ù _)) ψ).s ?_;rintro r uJ kN ⟨k2,rfl,X⟩;refine ⟨_,_,_,rfl,λ_ tM rI=>⟨_,_,_,_,_,_,rfl,?_,?_⟩⟩;{have F:val xs/d=val es:=by{rw [g,Wj6 ω,ŗ ω,ġ]};rw [bg o] at h4;rw [F];exact ra};have G:val xs%d=rest:=by{rw [g,Wj7,ė ω]};rw [bg (by simp [cP];omega)] at X;have H:val [rest]=rest:=ψ;rw [H] at X;rw [G];exact ra
 ·have a:y<=x:=by{simpa [<-Ww6,iV] using a};refine λji fk=>(NM ra ra hm hy0 (aL a)).s ?_;rintro r lH L ⟨p1,n1,c1,p2,n2,c2,rfl,g1,g2⟩;exact qyJ ⟨rfl,λmJ iE=>⟨_,_,_,_,_,_,rfl,ra,ra⟩⟩
def iU {m:Nat}{x y:Nat}(hx:RN V p n c x)(hy:RN V q m e y)(hm:(ai x).length<=2^38)(hm':(ai y).length<=2^38:=by omega):À 84 #[yG p n c,yG q m e] V λr W=>∃p1 n1 c1,r=yG p1 n1 c1/\RN W p1 n1 c1 (Nat.gcd x y):=by
 have I:=hx.len;have U:=hy.len;refine FJ V _ λK A=>(pL ra).s ?_;rintro r V2 E rfl;rw [ag];refine ⟨_,_,rfl,λz V'=>True,⟨λu=>?_,λu=>⟨(),Ų,trivial⟩⟩,?_⟩
 ·have u:n<=2:=by simpa using u
  refine λW X=>(pL ra).s ?_;rintro r Y Z rfl;rw [ag];refine ⟨_,_,rfl,λj=>?_,λj=>⟨(),Ų,trivial⟩⟩;have j:m<=2:=by simpa using j
  rw [Ä u,Ä j]
  refine ⟨λz V'=>∃a b:Nat,z=((a:Int),(b:Int))/\a<18446744073709551616/\b<18446744073709551616/\Nat.gcd a b=Nat.gcd x y,λz=>z.2.toNat,
   ⟨((x:Int),(y:Int)),Ų,x,y,rfl,(xS (x:=x)),(xS (x:=y)),rfl⟩,?_⟩
  rintro _ V5 l5 ⟨a,b,rfl,s,i,l⟩;dsimp only;refine ⟨θ,λf=>?_,λf=>?_⟩
  ·have f:0<b:=by{simpa using f};have L:(a:Int).tmod (b:Int)=((a%b:Nat):Int):=by{rw [Qk9 ω];omega};have w:a%b<b:=ę _ f;(refine ⟨ω,((b:Int),((a%b:Nat):Int)),?_,by and_intros<;>first|exact True.intro|rfl|exact L,b,a%b,rfl,i,ω,?_⟩);{(try dsimp only);simp only [Ý];exact w};rw [<-l,ŧ a b,Nat.gcd_rec b a,ŧ]
  ·have f:b=0:=by{simp at f;omega};subst f;rw [Qg5] at l;refine λV6 l6=>(fg a s).s ?_;rintro r V7 l7 ⟨p1,n1,c1,rfl,F⟩;rw [l] at F;exact ⟨_,_,_,rfl,λV8 l8=>⟨_,_,_,rfl,ra⟩⟩
 rintro _ V9 G _
 replace hx:=hx.le (A.m (E.m G))
 replace hy:=hy.le (A.m (E.m G))
 refine ⟨θ,λz k V'=>∃a b:Nat,RN V' z.1 z.2.1 z.2.2.1 a/\RN V' z.2.2.2.1 z.2.2.2.2.1 z.2.2.2.2.2 b/\b=k/\(ai a).length<=2^38/\(ai b).length<=2^38/\Nat.gcd a b=Nat.gcd x y,
  ⟨(p,n,c,q,m,e),y,Ų,x,y,hx,hy,rfl,hm,hm',rfl⟩,?_⟩
 rintro ⟨ap,an,ac,M,B,N⟩ _ fD O ⟨a,b,s,i,rfl,C,t,l⟩;dsimp only at s i ⊢;have o:=s.len;have D:=i.len;refine ⟨θ,λf=>?_,λf=>?_⟩
 ·have f:0<B:=by{simpa using f};have g:0<b:=by{rcases ĺ b with h|h;{subst h;simp at D;omega};exact h};refine λeX dq=>(gF ra ra C t g).s ?_;rintro r gQ eJ ⟨p1,n1,c1,P,Q,R,rfl,F,S⟩;have w:a%b<b:=ę _ g;have T:=aL (Qs4 w);(refine qyJ ⟨rfl,(M,B,N,P,Q,R),a%b,w,Ų,b,a%b,i.le aA,S,rfl,t,ω,?_⟩;rw [<-l,ŧ a b,Nat.gcd_rec b a,ŧ])
 ·have f:B=0:=by{simp at f;omega};have g:b=0:=bG.1 (ĕ.1 ω);subst g;rw [Qg5] at l;rw [<-l];refine ⟨aQ (ai a),s.sl,by simp [o],ω,ω,ψ,by simp [o],?_,?_⟩;{intro v H;simp only [aQ,þ] at H;obtain ⟨d,-,rfl⟩:=H;rfl};intro bk J sp c' j h2 K A b i;refine ⟨_,_,_,rfl,?_⟩;simp only [ĉ,ŝ,Qf6,Œ] at i j ⊢;exact ı (aS a) o j i
end Go.Proofs.Tryz
namespace Go.Big
def bO (b:Bool)(ds:List Nat):Int:=if b then -(val ds:Int) else val ds
end Go.Big
namespace Go.Eng
open Go.Big
def RI (V:Ó)(v:Value)(z:Int):Prop:=∃p n c,v=.agg #[.bool (decide (z<0)),.slice p n c]/\RD V p n c (ai z.natAbs)
def RI.le {V V':un}{v:um}{z:Int}(h:RI V v z)(l:V.Le V'):RI V' v z:=by obtain ⟨p,n,c,e,h⟩:=h;exact ⟨p,n,c,e,ra⟩
def RI.mk {V:un}{b:ut}{p:OA}{n c:Nat}{z:Int}(u:b=decide (z<0))(h:RD V p n c (ai z.natAbs)):RI V (hF #[dB b,yG p n c]) z:=⟨p,n,c,by rw [u],h⟩
end Go.Eng
namespace Go.Proofs.Tryz
open Go.Eng Go.Big
variable{c n:Nat}{V:Ó}{p:OA}{ds:List Nat}
theorem nY:dL n=0↔n=0:=by unfold dL;split<;>simp_all
def fU (b:ut)(ds:zA Nat):(bO b ds).natAbs=val ds:=by unfold bO;cases b<;>simp
def K8 (b:ut)(ds:zA Nat):bO b ds<0↔b=true/\val ds≠0:=by unfold bO;cases b;{simp};simp;omega
theorem aM (z:Int):bO (decide (z<0)) (ai z.natAbs)=z:=by unfold bO;rw [ag];by_cases h:z<0;{rw [Ç h,Ä rfl];omega};rw [È h,Ã φ];omega
def U3 (b:ut)(ds:zA Nat):bO (!b) ds=-bO b ds:=by unfold bO;cases b<;>simp
def vi (ds:zA Nat):bO false ds=val ds:=rfl
def iX {x:Nat}(h:n=(ai x).length):0<n↔x≠0:=by rw [h];constructor;{intro a b;subst b;simp at a};intro a;rcases ĺ (ai x).length with e|e;{exact Å (bG.1 (ĕ.1 e)) a};exact e
def oa (b:ut){x:Nat}(h:RN V p n c x):À 288 #[dB b,yG p n c] V λr W=>RI W r (if b then -(x:Int) else x):=by have f:=iX h.len;refine xO V _ ⟨λa e d=>?_,λa e d=>?_⟩;{rw [Ä a];refine RI.mk ?_ ?_;{rw [ģ,Ñ,Ñ];omega};rw [Ũ,ĩ];exact h.le d};rw [a,Ã φ];refine RI.mk ?_ ?_;{symm;rw [Ò];omega};rw [ĩ];exact h.le d
def lM (b:ut)(h:RD V p n c ds)(hm:ds.length<=2^40):À 220 #[hF #[dB b,yG p n c]] V λr W=>RI W r (bO b ds):=by refine AM V _ λi j=>(lN ra hm).s ?_;rintro r V2 k ⟨l,m,o,rfl,a⟩;have q:=iX a.len;have f:=K8 b ds;refine ⟨_,_,_,rfl,λd g e=>RI.mk ?_ ?_,λd g e=>RI.mk ?_ ?_⟩;{rw [ģ,Ñ,Ñ,f];simp [d];omega};{rw [fU];exact a.le e};{symm;rw [Ò,f];simp [d]};rw [fU];exact a.le e
def kR (b:Bool)(ds:List Nat):Bool:=decide (ai (val ds)=ds)&&(!b||decide (ds≠[]))
def gE (b:ut)(h:RD V p n c ds)(hm:ds.length<=2^40):À 172 #[hF #[dB b,yG p n c]] V λr W=>r=dB (kR b ds):=by refine xN V _ λl m=>(vW ra hm).s λr V2 o rfl=>⟨_,rfl,λd=>⟨λa f g=>?_,λa f g=>?_⟩,λd f g=>?_⟩;{simp [kR,d];simp at a;simp [a]};{have j:=h.len;simp [kR,d];simp at a;simp [a];rw [ģ,Ñ];simp;constructor;{intro i k;subst k;simp at j;omega};intro i;rcases ĺ ds.length with e|e;{exact Å (ĕ.1 e) i};omega};simp [kR,d]
def mK (n:Int)(u:-9223372036854775808<=n)(y:n<=9223372036854775807:=by omega):À 206 #[Ô Ŵ n] V λr W=>RI W r n:=by refine vH V _ ⟨λa d f=>?_,λa d f=>?_⟩;{have a:n<0:=by{simpa using a};have e:u64.wrap (0-u64.wrap n)=-n:=by{rw [Aw,Aw];omega};rw [e];refine (fN _ ω).s ?_;rintro r V2 g ⟨h,i,j,rfl,b⟩;refine ⟨_,_,_,rfl,λk c=>⟨_,_,_,rfl,?_⟩⟩;rw [show n.natAbs=(-n).toNat from by omega];exact b.le c};have a:0<=n:=by{simpa using a};rw [bw ω];refine (fN _ ω).s ?_;rintro r V2 g ⟨h,i,j,rfl,b⟩;refine ⟨_,_,_,rfl,λk c=>⟨_,_,_,rfl,?_⟩⟩;rw [show n.natAbs=n.toNat from by omega];exact b.le c
def qX (b:ut)(h:RD V p n c ds)(hm:ds.length<=2^40):À 209 #[hF #[dB b,yG p n c]] V λr W=>r=Ô Ŵ (bO b ds).sign:=by refine AO V _ λk l=>(ju ra hm).s ?_;rintro r V2 m rfl;have f:(bO b ds)=0↔val ds=0:=by{rw [<-fU b ds];omega};have g:=K8 b ds;refine ⟨_,rfl,λa i j=>?_,λa=>⟨λd i j=>?_,λd i j=>?_⟩⟩;{have:val ds=0:=nY.1 (by simp at a;omega);rw [f.2 this];rfl};{have:val ds≠0:=λe=>by{simp [nY.2 e] at a};rw [Qd1 (g.2 ⟨d,this⟩)]};{have:val ds≠0:=λe=>by{simp [nY.2 e] at a};have:0<bO b ds:=by{have:=f;have:¬bO b ds<0:=by{rw [g];simp [d]};omega};rw [Qg2 this]}
def EU (b:ut)(h:RD V p n c ds)(hm:ds.length<=2^40):À 195 #[hF #[dB b,yG p n c]] V λr W=>RI W r (-bO b ds):=by refine Ec V _ λd e=>(lM (!b) ra hm).s ?_;rintro r V2 f ⟨g,i,j,rfl,a⟩;rw [U3] at a ⊢;exact qyK ⟨rfl,λk l=>⟨_,_,_,rfl,ra⟩⟩
def jK (b1 b2:ut){q:OA}{m e:Nat}{z E:zA Nat}(F:RD V p n c z)(M:RD V q m e E)(hm:z.length+E.length<=2^40:=by omega):À 258 #[hF #[dB b1,yG p n c],hF #[dB b2,yG q m e]] V λr W=>RI W r (bO b1 z*bO b2 E):=by refine Eb V _ λd f=>(jv ra ra hm).s ?_;rintro r V2 g ⟨h,i,j,rfl,k⟩;refine ⟨_,_,_,rfl,λl o=>(oa _ ra).s ?_⟩;rintro r s t ⟨u,v,w,rfl,a⟩;have b:(if (!(b1==b2))=true then -((val z*val E:Nat):Int) else ((val z*val E:Nat):Int))=bO b1 z*bO b2 E:=by{unfold bO;cases b1<;>cases b2<;>simp [Wk4,Wx3]};rw [b] at a ⊢;exact qyK ⟨rfl,λx y=>⟨_,_,_,rfl,ra⟩⟩
theorem ET (b1 b2:ut){q:OA}{m e:Nat}{E F:zA Nat}(ha:RD V p n c E)(hb:RD V q m e F)(hm:E.length<=2^40)(M:F.length<=2^40:=by omega):À 259 #[hF #[dB b1,yG p n c],hF #[dB b2,yG q m e]] V λr W=>RI W r (bO b1 E+bO b2 F):=by
 have fin:∀{b:ut} {x:Nat} {f:un} {g:OA} {i j:Nat},RN f g i j x->(if b then -(x:Int) else x)=bO b1 E+bO b2 F ->
   À 288 #[dB b,yG g i j] f λr W=>∃(N:ut)(O:OA)(Z T3:Nat),r=hF #[dB N,yG O Z T3]/\∀k:un,W.Le k->RI k (hF #[dB N,yG O Z T3]) (bO b1 E+bO b2 F):=by
  intro b x f g i j h he;refine (oa b h).s ?_;rintro r o s ⟨t,u,v,rfl,a⟩;rw [he] at a ⊢;exact qyK ⟨rfl,λw y=>⟨_,_,_,rfl,ra⟩⟩
 refine Ea V _ ⟨λd f z=>(RY ra ra hm M).s ?_,λd f z=>(Gx ra ra hm M).s ?_⟩
 ·rintro r V2 A ⟨g,i,j,rfl,B⟩;have d:b1=b2:=by{simpa using d};subst d;exact ⟨_,_,_,rfl,λk l=>fin ra (by unfold bO;cases b1<;>simp;omega)⟩
 ·rintro r V2 A ⟨g,i,j,rfl,B⟩;have d:b2=!b1:=by{cases b1<;>cases b2<;>simp_all};subst d;refine qyK ⟨rfl,λa k l=>fin ra ?_,λa k l=>(Gx ra ra M hm).s ?_⟩;{have a:val F<=val E:=by{simpa using a};unfold bO;cases b1<;>simp<;>omega};rintro r o s ⟨t,u,v,rfl,C⟩;have a:val E<val F:=by{simpa using a};exact qyK ⟨rfl,λw y=>fin ra (by unfold bO;cases b1<;>simp<;>omega)⟩
def Ag (b:ut)(h:RD V p n c ds)(hm:ds.length<=2^40)(u:val ds<4611686018427387904):À 218 #[hF #[dB b,yG p n c]] V λr W=>r=å #[Ô Ŵ (bO b ds),dB true]:=by refine yZ V _ λg i=>(pI ra hm).s ?_;rintro r V2 j rfl;rw [Ä ω,Ç (show val ds<18446744073709551616 by omega)];refine ⟨_,_,rfl,λ_=>⟨λd=>⟨λa k l=>?_,λa=>?_⟩,λd=>⟨λ_=>⟨λa=>⟨λf m o=>?_,λf=>?_⟩,λa=>?_⟩,λa=>nomatch a⟩⟩,λd=>nomatch d⟩;{subst d;have e:Ŵ.wrap (u64.wrap (0-(val ds:Int)))=-(val ds:Int):=by{rw [Aw,IntKind.wrap_i64];omega};rw [e];rfl};{simp at a;omega};{subst d;rw [ay ω];rfl};{simp at f;omega};simp [d] at a
end Go.Proofs.Tryz
namespace Go.Eng
open Go.Big
variable{q:Rat}
def Wd (q:Rat):Prop:=q.num.natAbs<4611686018427387904/\q.den<4611686018427387904
def RR (V:Ó)(v:Value)(q:Rat):Prop:=
 (v=.agg #[.int Ŵ q.num,.int Ŵ ((q.den:Int)-1),.pointer none]/\Wd q) \/
 (∃a b p n c p' n' c',v=.agg #[.int Ŵ 0,.int Ŵ 0,.pointer (some a)]/\V.at (a.add 0) (.bool b)/\V.at (a.add 1) (.slice p n c)/\V.at (a.add 2) (.slice p' n' c') /\
  RI V (.agg #[.bool b,.slice p n c]) q.num/\RD V p' n' c' (ai q.den)/\¬Wd q)
def RR.le {V V':un}{v:um}(h:RR V v q)(l:V.Le V'):RR V' v q:=by rcases h with h|⟨a,b,p,n,c,d,f,g,e,i,j,k,m,r,o⟩;{exact .inl h};exact .inr ⟨a,b,p,n,c,d,f,g,e,l.at i,l.at j,l.at k,m.le l,ra,o⟩
def Sz (k:Nat)(q:Rat):Prop:=q.num.natAbs<2^k/\q.den<2^k
def Sz.s {k m:Nat}(h:Sz k q)(hm:k<=m):Sz m q:=
 ⟨Ľ h.1 (ķ ω hm),Ľ h.2 (ķ ω hm)⟩
def ah {n k:Nat}(h:n<2^k:=by omega):(ai n).length<=k:=by rw [aT];exact Ľ h (Nat.pow_le_pow_left ω k)
def RR.shape {V:un}{v:um}(h:RR V v q):∃(n d:Int)(p:OA),v=hF #[Ô Ŵ n,Ô Ŵ d,qvJ p]:=by rcases h with ⟨e,-⟩|⟨a,b,p,n,c,f,g,i,e,-⟩;{exact ⟨_,_,_,e⟩};exact ⟨_,_,_,e⟩
def RR.ex {V:un}{r:um}{K:Int->Int->OA->Prop}(g:RR V r q)(h:∀t:Int×Int×OA,RR V (hF #[Ô Ŵ t.1,Ô Ŵ t.2.1,qvJ t.2.2]) q->K t.1 t.2.1 t.2.2):∃a b c,r=hF #[Ô Ŵ a,Ô Ŵ b,qvJ c]/\K a b c:=by obtain ⟨a,b,c,rfl⟩:=g.shape;exact ⟨a,b,c,rfl,h (a,b,c) g⟩
end Go.Eng
namespace Go.Proofs.Tryz
open Go.Eng Go.Big
variable{V:Ó}{p q:OA}{c e n:Nat}
def HU (n:Nat):decide ((dL n:Int)<=62)=decide (n<4611686018427387904):=by have:=@jJ n 62;rw [ģ,Ñ,Ñ];omega
def SK {z:Int}{d:Nat}(u:d≠0)(y:Nat.gcd z.natAbs d=1):(mkRat z d).num=z/\(mkRat z d).den=d:=by have:Nat.gcd d z.natAbs=1:=by{rw [ŧ];exact y};rw [Qs8,Ww3,Ã u,Ã u,this];simp
def dD (b:ut){m:Nat}{xs ys:zA Nat}(hx:RD V p n c xs)(hy:RD V q m e ys)(hm:xs.length<=2^40)(hn:ys.length<=2^40:=by omega):À 171 #[hF #[dB b,yG p n c],yG q m e] V λr W=>RR W r (mkRat (bO b xs) (val ys)):=by
 have zero:∀V':un,RR V' (hF #[Ô Ŵ 0,Ô Ŵ 0,qvJ none]) 0:=λV'=>.inl ⟨rfl,by unfold Wd;decide⟩;refine DZ V _ λu D=>(ju ra hn).s ?_;rintro r V2 E rfl;refine ⟨_,rfl,λF v l3=>?_,λF G H=>(qX b ra hm).s ?_⟩
 ·have:val ys=0:=nY.1 (by simp at F;omega);rw [this,Rat.mkRat_zero];exact zero _
 rintro r l y rfl;have o:val ys≠0:=λe=>by simp [nY.2 e] at F
 refine ⟨_,rfl,λI V6 l6=>?_,λI V7 X=>?_⟩
 ·have:bO b xs=0:=Qm8.1 (by simpa using I);rw [this,Rat.zero_mkRat];exact zero _
 have a0:bO b xs≠0:=λe=>by simp [e] at I
 have s:val xs≠0:=by rw [<-fU b xs];omega
 replace hx:=hx.le (D.m (E.m (H.m (y.m X))))
 replace hy:=hy.le (D.m (E.m (H.m (y.m X))))
 refine (yk hx hy hm hn).s ?_;rintro r V8 Y ⟨Z,n3,c3,rfl,hg⟩
 replace hx:=hx.le Y
 replace hy:=hy.le Y
 have J:Nat.gcd (val xs) (val ys)<=val ys:=Ww4 ω (Ţ _ _);have h:(ai (Nat.gcd (val xs) (val ys))).length<=2^40:=ÿ (aL J) (by have:=bz hy.gi;omega)
 have i:Nat.gcd (val xs) (val ys)≠0:=by intro K;exact s (Nat.eq_zero_of_gcd_eq_zero_left K)
 refine ⟨_,_,_,rfl,λV9 L=>(ju ra h).s ?_⟩;rintro r fD j rfl;rw [ag]
 replace hx:=hx.le (L.m j)
 replace hy:=hy.le (L.m j)
 replace hg:=hg.le (L.m j)
 refine ⟨_,rfl,λz V'=>∃(us d:zA Nat),z.2.2.2.1=b/\RD V' z.2.2.2.2.1 z.2.2.2.2.2.1 z.2.2.2.2.2.2 us/\RD V' z.1 z.2.1 z.2.2.1 d/\us.length<=2^40/\d.length<=2^40/\val d≠0 /\
  Nat.gcd (val us) (val d)=1/\mkRat (bO b xs) (val ys)=mkRat (bO b us) (val d),⟨λA eX dq=>?_,λA=>?_⟩,?_⟩
 ·refine (pH ra ra hm h (by rw [ag];exact i)).s ?_;rintro r gQ eJ ⟨p4,n4,c4,p5,n5,c5,rfl,g1,g2⟩;refine qxQ ⟨rfl,λji fk=>(pH ra ra hn h (by rw [ag];exact i)).s ?_⟩;rintro r lH iL ⟨p6,n6,c6,p7,n7,c7,rfl,g3,g4⟩;rw [ag] at g1 g3;have e1:val (ai (val xs/Nat.gcd (val xs) (val ys)))=val xs/Nat.gcd (val xs) (val ys):=ag _;have M:val (ai (val ys/Nat.gcd (val xs) (val ys)))=val ys/Nat.gcd (val xs) (val ys):=ag _;have d2:=Ţ (val xs) (val ys)
  have N:val ys/Nat.gcd (val xs) (val ys)≠0:=by intro K;have:=Wy6 d2;rw [K,ŝ] at this;exact o this.symm
  refine qxQ ⟨rfl,(p6,n6,c6,b,p4,n4,c4),σ,_,_,rfl,ra,g3,?_,?_,?_,?_,?_⟩
  ·exact ÿ (aL (Qc8 _ _)) (by have:=bz hx.gi;omega)
  ·exact ÿ (aL (Qc8 _ _)) (by have:=bz hy.gi;omega)
  ·rw [M];exact N
  ·rw [e1,M];exact Nat.gcd_div_gcd_div_gcd_of_pos_left ω
  ·rw [M]
   have k2:bO b xs=bO b (ai (val xs/Nat.gcd (val xs) (val ys)))*(Nat.gcd (val xs) (val ys):Nat):=by have k3:(val xs:Int)=((val xs/Nat.gcd (val xs) (val ys):Nat):Int)*(Nat.gcd (val xs) (val ys):Nat):=by{rw [<-Ś,Wy6 (Ņ (val xs) (val ys))]};unfold bO;rw [e1];cases b;{simpa using k3};simp only [Ï];rw [Wk4,<-k3]
   conv=>lhs;rw [((Wy6 d2).symm),k2]
   exact Rat.mkRat_mul_right i
 ·have O:Nat.gcd (val xs) (val ys)=1:=by{have f:¬(1<dL (Nat.gcd (val xs) (val ys))):=by{simp at A;omega};have:=@jJ (Nat.gcd (val xs) (val ys)) 1;omega};exact ⟨(q,m,e,b,p,n,c),σ,xs,ys,rfl,hx,hy,hm,hn,o,O,rfl⟩
 ·rintro ⟨q,m,e,g,p,n,c⟩ mJ iE ⟨us,d,t,hu,hv,P,k,Q,R,hq⟩;dsimp only at t hu hv ⊢;subst t;rw [hq];have ⟨S,a⟩:=SK (z:=bO g us) Q (by rw [fU];exact R);generalize mkRat (bO g us) (val d)=w at *
  have T:Wd w↔val us<4611686018427387904/\val d<4611686018427387904:=by unfold Wd;rw [S,a,fU]
  have big:∀u:un,mJ.Le u->¬Wd w->À 220 #[hF #[dB g,yG p n c]] u λr V2=>∃(TV:ut)(VW:OA)(Vx T3:Nat),r=hF #[dB TV,yG VW Vx T3] /\
    (∀v:un,V2.Le v->À 221 #[yG q m e] v λr G=>∃(p3_:OA)(n3_ c3_:Nat),r=yG p3_ n3_ c3_ /\
    (∀l:un,G.Le l->∀B:Nat,l.bo B (.cells #[dB TV,yG VW Vx T3,yG p3_ n3_ c3_] 281 (0,0))->RR l (hF #[Ô Ŵ 0,Ô Ŵ 0,qvJ (some ⟨B,0,none⟩)]) w)):=by
   intro u D hw;refine (lM g ra P).s ?_;rintro r V2 E U;obtain ⟨p2,n2,c2,rfl,A⟩:=U;have U:RI V2 (hF #[dB (decide (bO g us<0)),yG p2 n2 c2]) (bO g us):=⟨_,_,_,rfl,A⟩;refine qyK ⟨rfl,λv l3=>(lN ra k).s ?_⟩;rintro r G H ⟨Z,n3,c3,rfl,f⟩;refine ⟨_,_,_,rfl,λl y B W=>.inr ⟨⟨B,0,none⟩,decide (bO g us<0),p2,n2,c2,Z,n3,c3,rfl,?_,?_,?_,?_,?_,hw⟩⟩
   ·rw [add_zero'];exact dM (xs:=[_,_,_]) W rfl
   ·rw [add_zero'];exact dM (xs:=[_,_,_]) W rfl
   ·rw [add_zero'];exact dM (xs:=[_,_,_]) W rfl
   ·rw [S];exact U.le aA
   ·rw [a];exact f.le y
  refine ⟨θ,λko gV=>(ju ra P).s ?_⟩;rintro r nk kf rfl;refine ⟨_,rfl,λf nq iF=>(ju ra k).s ?_,λf TD Nh=>big TD aA ?_⟩
  ·rintro r qM lD rfl;rw [HU,Ñ] at f;refine ⟨_,rfl,λC uJ kN=>?_,λC Na qI=>big Na aA ?_⟩;{rw [HU,Ñ] at C;refine (Ag g ra P f).s ?_;rintro r tM rI rfl;refine ⟨_,_,rfl,λvO oX=>(pI ra k).s ?_⟩;rintro r vP oY rfl;rw [Ä ω];refine ⟨_,_,rfl,λEL tO=>.inl ⟨?_,T.2 ⟨f,C⟩⟩⟩;rw [ay (x:=((val d:Nat):Int)) ω,ay ω,S,a]};rw [HU,Ò] at C;rw [T];omega
  ·rw [HU,Ò] at f;rw [T];omega
def fO (b:ut){x:Nat}(h:RN V p n c x):À 96 #[dB b,yG p n c] V λr W=>RI W r (if b then -(x:Int) else x):=by have f:=iX h.len;refine ML V _ ⟨λa e d=>?_,λa e d=>?_⟩;{rw [Ä a];refine RI.mk ?_ ?_;{rw [ģ,Ñ,Ñ];omega};rw [Ũ,ĩ];exact h.le d};rw [a,Ã φ];refine RI.mk ?_ ?_;{symm;rw [Ò];omega};rw [ĩ];exact h.le d
def mb {b:ut}{x:Nat}{z:Int}(h:RN V p n c x)(N:(if b then -(x:Int) else x)=z):À 96 #[dB b,yG p n c] V λr W=>∃(y:ut)(E:OA)(F M:Nat),r=hF #[dB y,yG E F M]/\∀u:un,W.Le u->RI u (hF #[dB y,yG E F M]) z:=by refine (fO b h).s ?_;rintro r V2 a ⟨d,e,f,rfl,g⟩;rw [N] at g ⊢;exact qyK ⟨rfl,λu i=>⟨_,_,_,rfl,ra⟩⟩
def Gy (n:Int)(u:-9223372036854775808<=n)(y:n<=9223372036854775807:=by omega):À 92 #[Ô Ŵ n] V λr W=>RI W r n:=by refine Ps V _ ⟨λa b c=>?_,λa b c=>?_⟩;{have a:n<0:=by{simpa using a};have e:u64.wrap (0-u64.wrap n)=((-n).toNat:Int):=by{rw [Aw,Aw];omega};rw [e];refine (fg _).s ?_;rintro r V2 d ⟨f,g,h,rfl,i⟩;exact ⟨_,_,_,rfl,λj k=>mb ra (by simp;omega)⟩};have a:0<=n:=by{simpa using a};have e:u64.wrap n=(n.toNat:Int):=by{rw [bw ω];omega};rw [e];refine (fg _).s ?_;rintro r V2 d ⟨f,g,h,rfl,i⟩;exact ⟨_,_,_,rfl,λj k=>mb ra (by simp;omega)⟩
def pK (z:Int)(h:RN V p n c z.natAbs):À 108 #[hF #[dB (decide (z<0)),yG p n c]] V λr W=>r=Ô Ŵ z.sign:=by have f:=iX h.len;refine MP V _ ⟨λb d e=>?_,λb=>⟨λa d e=>?_,λa d e=>?_⟩⟩;{have:z=0:=by{simp at b;omega};rw [this];rfl};{rw [Ñ] at a;rw [Qd1 a]};rw [Ò] at a;have:0<z:=by{simp at b;omega};rw [Qg2 this]
def jZ (z:Int)(h:RN V p n c z.natAbs):À 53 #[hF #[dB (decide (z<0)),yG p n c]] V λr W=>RI W r (-z):=by refine JC V _ λb d=>mb ra ?_;by_cases a:z<0<;>simp [a]<;>omega
def oh (z w:Int){m:Nat}(u:RN V p n c z.natAbs)(y:RN V q m e w.natAbs)(hm:(ai z.natAbs).length+(ai w.natAbs).length<=2^40:=by omega):À 95 #[hF #[dB (decide (z<0)),yG p n c],hF #[dB (decide (w<0)),yG q m e]] V λr W=>RI W r (z*w):=by
 refine Pu V _ λb d=>(dE ra ra hm).s ?_;rintro r V2 f ⟨g,h,i,rfl,a⟩;rw [ag,ag] at a;refine ⟨_,_,_,rfl,λj k=>mb ra ?_⟩
 conv=>rhs;rw [((aM z).symm),((aM w).symm)]
 unfold bO;rw [ag,ag];cases decide (z<0)<;>cases decide (w<0)<;>simp [Wk4,Wx3]
def yo (z w:Int){m:Nat}(E:RN V p n c z.natAbs)(F:RN V q m e w.natAbs)(hm:(ai z.natAbs).length<=2^40)(y:(ai w.natAbs).length<=2^40:=by omega):À 93 #[hF #[dB (decide (z<0)),yG p n c],hF #[dB (decide (w<0)),yG q m e]] V λr W=>RI W r (z+w):=by refine Pp V _ ⟨λf l o=>(R0 ra ra hm y).s ?_,λf l o=>(jw ra ra hm y).s ?_⟩;{rintro r V2 s ⟨g,h,i,rfl,b⟩;rw [ag,ag] at b;refine ⟨_,_,_,rfl,λj k=>mb ra ?_⟩;by_cases d:z<0<;>by_cases hw:w<0<;>simp [d,hw] at f⊢<;> omega};rintro r V2 s rfl;refine ⟨_,rfl,λa j k=>?_,λa j k=>?_⟩;{have a:z.natAbs<w.natAbs:=by{simpa [iV] using a};refine (uU ra ra y (aL (Qs4 a)) (by rw [ag,ag];omega)).s ?_;rintro r t u ⟨g,h,i,rfl,b⟩;rw [ag,ag] at b;refine ⟨_,_,_,rfl,λv x=>mb ra ?_⟩;by_cases d:z<0<;>by_cases hw:w<0<;>simp [d,hw] at f⊢<;> omega};have a:w.natAbs<=z.natAbs:=by{simpa [<-Ww6,iV] using a};refine (uU ra ra hm (aL a) (by rw [ag,ag];omega)).s ?_;rintro r t u ⟨g,h,i,rfl,b⟩;rw [ag,ag] at b;refine ⟨_,_,_,rfl,λv x=>mb ra ?_⟩;by_cases d:z<0<;>by_cases hw:w<0<;>simp [d,hw] at f⊢<;> omega
end Go.Proofs.Tryz
namespace Go.Eng
open Go.Big
def An (d:Nat):List Nat:=if d=1 then [] else ai d
def RQ (V:Ó)(v:Value)(q:Rat):Prop:=∃p n c p' n' c',v=.agg #[.bool (decide (q.num<0)),.slice p n c,.slice p' n' c'] /\
 RD V p n c (ai q.num.natAbs)/\RD V p' n' c' (An q.den)
def RQ.le {V V':un}{v:um}{q:Rat}(h:RQ V v q)(l:V.Le V'):RQ V' v q:=by obtain ⟨p,n,c,a,b,d,e,f,g⟩:=h;exact ⟨p,n,c,a,b,d,e,ra,ra⟩
def KM {q:Rat}:An q.den=[]↔q.den=1:=by unfold An;split;{rename_i h;simp [h]};rename_i h;rw [bG];have:=q.den_nz;omega
end Go.Eng
namespace Go.Proofs.Tryz
open Go.Eng Go.Big
variable{V:Ó}{p p':OA}{c c' n n':Nat}
def rz {q:Rat}(h:RD V p n c (An q.den)):n=0↔q.den=1:=by rw [<-KM,h.len,ĕ]
def dV (q:Rat)(b:ut)(u:RD V p' n' c' (An q.den)):À 97 #[hF #[dB b,yG p n c,yG p' n' c']] V λr W=>∃y z c1,r=yG y z c1/\RN W y z c1 q.den:=by have d:=rz u;refine Pr V _ ⟨λa f h=>oo.s ?_,λa f h=>⟨_,_,_,rfl,?_⟩⟩;{rintro r V2 i ⟨y,z,c1,rfl,g⟩;have:q.den=1:=d.1 (by simp at a;omega);rw [this];exact ⟨_,_,_,rfl,λj k=>⟨_,_,_,rfl,ra⟩⟩};{have:q.den≠1:=λe=>by{have:=d.2 e;simp at a;omega};unfold An at u;rw [Ã this] at u;exact ra}
def uA {q:Rat}{z:Int}{d:Nat}(u:q.num=z)(y:q.den=d)(E:RD V p n c (ai z.natAbs))(F:RD V p' n' c' (An d)){b:ut}(M:b=decide (z<0)):RQ V (hF #[dB b,yG p n c,yG p' n' c']) q:=by subst u y M;exact qyJ ⟨rfl,E,F⟩
def lO (z:Int){d:Nat}{q:OA}{m e:Nat}(hx:RN V p n c z.natAbs)(hy:RN V q m e d)(hm:(ai z.natAbs).length<=2^38)(hn:(ai d).length<=2^38)(hd:d≠0):À 94 #[hF #[dB (decide (z<0)),yG p n c],yG q m e] V λr W=>RQ W r (mkRat z d):=by refine MH V _ λZ D=>(iU ra ra hm hn).s ?_;rintro r V2 E ⟨p1,n1,c1,rfl,F⟩;have s:=Ņ z.natAbs d;have h:0<Nat.gcd z.natAbs d:=Wz9 _ ω;have i:=ÿ (aL (Ww4 ω (Ţ z.natAbs d))) hn;have u:(mkRat z d).num=z/(Nat.gcd d z.natAbs:Nat):=by{rw [Qs8,Ã hd]};have a:(mkRat z d).den=d/Nat.gcd d z.natAbs:=by{rw [Ww3,Ã hd]};rw [ŧ d] at u a;generalize hG:Nat.gcd z.natAbs d=g at *;generalize mkRat z d=w at *;refine ⟨_,_,_,rfl,λV3 v=>oo.s ?_⟩;rintro r V4 x ⟨p2,n2,c2,rfl,h1⟩;refine ⟨_,_,_,rfl,λV5 y=>(jw ra ra ω φ).s ?_⟩;rintro r V6 A rfl;replace hx:=hx.le (D.m (E.m (v.m (x.m (y.m A)))));replace hy:=hy.le (D.m (E.m (v.m (x.m (y.m A)))));replace F:=F.le (v.m (x.m (y.m A)));refine ⟨_,rfl,λG V7 l7=>(gF ra ra hm i h).s ?_,λG qM lD=>oo.s ?_⟩;{rintro r V8 l8 ⟨p4,n4,c4,p5,n5,c5,rfl,H,-⟩;have I:(mkRat z d).num.natAbs=(mkRat z d).num.natAbs:=rfl;obtain ⟨k,B⟩:=s;have C:z.natAbs/g=k:=by{rw [B,Nat.mul_div_cancel_left _ h]};rw [C] at H;have J:z=(g:Int)*(if z<0 then -(k:Int) else k):=by{split;{rw [Wx3,<-Ś,<-B];omega};rw [<-Ś,<-B];omega};have b:w.num=(if z<0 then -(k:Int) else k):=by{rw [u];generalize (if z<0 then -(k:Int) else k)=t at *;rw [J,Qh3 _ ω]};refine qyJ ⟨rfl,λV9 l9=>(fO _ ra).s ?_⟩;have j:(if decide (z<0)=true then -(k:Int) else k)=w.num:=by{rw [b];simp};rw [j];rintro r fD K ⟨p7,n7,c7,rfl,g2⟩;refine qyK ⟨rfl,λeX dq=>(gF ra ra hn i h).s ?_⟩;rintro r gQ eJ ⟨p8,n8,c8,p9,n9,c9,rfl,L,-⟩;rw [<-a] at L;refine qyJ ⟨rfl,λji fk=>oo.s ?_⟩;rintro r lH iL ⟨M,N,O,rfl,P⟩;have Q:(ai w.den).length<=2^38:=by{rw [a];exact ÿ (aL (Qc8 _ _)) hn};refine ⟨_,_,_,rfl,λmJ iE=>(jw ra ra ω φ).s ?_⟩;rintro r ko gV rfl;refine ⟨_,rfl,λf R S=>uA rfl rfl ra ?_ rfl,λf T U=>uA rfl rfl ra ?_ rfl⟩;{have:w.den=1:=lA.1 (by simpa using f);rw [KM.2 this];exact RD.nil};{have:w.den≠1:=λe=>by{rw [lA.2 e] at f;simp at f};unfold An;rw [Ã this];exact ra}};have l:=lA.1 (by simpa using G);have b:w.num=z:=by{rw [u,l];simp};have o:w.den=d:=by{rw [a,l];simp};rintro r uJ kN ⟨W,X,Y,rfl,P⟩;refine ⟨_,_,_,rfl,λtM rI=>(jw ra ra ω φ).s ?_⟩;rintro r vO oX rfl;refine ⟨_,rfl,λf R S=>uA b o ra ?_ rfl,λf T U=>uA b o ra ?_ rfl⟩;{have:d=1:=lA.1 (by simpa using f);unfold An;rw [Ä this];exact RD.nil};{have:d≠1:=λe=>by{rw [lA.2 e] at f;simp at f};unfold An;rw [Ã this];exact ra}
def dN (n:Int)(u:-9223372036854775808<=n)(y:n<=9223372036854775807:=by omega):À 39 #[Ô Ŵ n] V λr W=>RQ W r (n:Rat):=by refine Tn V _ λa b=>(Gy n u y).s ?_;rintro r V2 e ⟨p,m,c,rfl,g⟩;exact qyK ⟨rfl,λf h=>uA (z:=n) (d:=1) rfl rfl ra RD.nil rfl⟩
def sW (q:Rat)(u:RD V p n c (ai q.num.natAbs)):À 48 #[hF #[dB (decide (q.num<0)),yG p n c,yG p' n' c']] V λr W=>r=Ô Ŵ q.num.sign:=by refine Xb V _ λa b=>(pK q.num ra).s ?_;rintro r V2 d rfl;exact ⟨_,rfl,λe f=>rfl⟩
def oq (q:Rat)(y:RD V p n c (ai q.num.natAbs))(u:RD V p' n' c' (An q.den)):À 16 #[hF #[dB (decide (q.num<0)),yG p n c,yG p' n' c']] V λr W=>RQ W r (-q):=by refine Pw V _ λb a=>(jZ q.num ra).s ?_;rintro r V2 e ⟨f,h,i,rfl,g⟩;exact qyK ⟨rfl,λj k=>uA (q:=-q) (z:=-q.num) (d:=q.den) (by rfl) (by rfl) ra ((u.le a).le aA) rfl⟩
end Go.Proofs.Tryz
namespace Go.Eng
open Go.Big
def RI.inv {V:un}{b:ut}{p:OA}{n c:Nat}{z:Int}(h:RI V (hF #[dB b,yG p n c]) z):b=decide (z<0)/\RD V p n c (ai z.natAbs):=by obtain ⟨d,f,g,e,a⟩:=h;simp at e;obtain ⟨rfl,rfl,rfl,rfl⟩:=e;exact ⟨rfl,a⟩
end Go.Eng
namespace Go.Proofs.Tryz
open Go.Eng Go.Big
variable{V:Ó}
def il {v:um}{q:Rat}(h:RR V v q){k:Nat}(E:Sz k q)(F:k<=2^40:=by omega):À 190 #[v] V λr W=>RI W r q.num:=by rcases h with ⟨rfl,hw⟩|⟨a,b,p,n,c,t,u,w,rfl,e,f,x,i,y,hw⟩;{have:=hw.1;refine uH V _ ⟨π,λ_ j l=>(mK _ ω).s ?_⟩;rintro r V2 m ⟨p,n,c,rfl,g⟩;exact qyK ⟨rfl,λo s=>⟨_,_,_,rfl,ra⟩⟩};obtain ⟨rfl,z⟩:=i.inv;refine uH V _ ⟨λ_=>⟨rfl,rfl,decide (q.num<0),p,n,c,a.add 0,rfl,?_,?_,λj l=>(lM _ ra (ÿ (ah E.1) F)).s ?_⟩,λd=>nomatch d⟩;{exact e};{simpa [Addr.add] using f};rintro r V2 m ⟨p,n,c,rfl,g⟩;rw [aM] at g ⊢;exact qyK ⟨rfl,λo s=>⟨_,_,_,rfl,ra⟩⟩
def gC {v:um}{q:Rat}(h:RR V v q){k:Nat}(E:Sz k q)(F:k<=2^40:=by omega):À 226 #[v] V λr W=>∃p n c,r=yG p n c/\RN W p n c q.den:=by rcases h with ⟨rfl,hw⟩|⟨a,b,p,n,c,o,s,t,rfl,u,w,e,x,y,hw⟩;{have:=hw.2;have z:=q.den_nz;refine uE V _ ⟨π,λ_ f i=>?_⟩;rw [ay ω,bw ω];refine (fN _ ω).s ?_;rintro r V2 j ⟨p,n,c,rfl,g⟩;rw [show ((q.den:Int)-1+1).toNat=q.den from by omega] at g;exact ⟨_,_,_,rfl,λl m=>⟨_,_,_,rfl,ra⟩⟩};refine uE V _ ⟨λ_=>⟨rfl,rfl,_,_,_,⟨_,rfl,e⟩,λf i=>(lN ra (ÿ (ah E.2) F)).s ?_⟩,λd=>nomatch d⟩;rintro r V2 j ⟨p,n,c,rfl,g⟩;rw [ag] at g;exact ⟨_,_,_,rfl,λl m=>⟨_,_,_,rfl,ra⟩⟩
def lL (n:Int)(u:-9223372036854775808<n)(y:n<=9223372036854775807:=by omega):À 224 #[Ô Ŵ n] V λr W=>r=Ô .u64 (n.natAbs:Int):=by refine Mu V _ ⟨λa b c=>?_,λa b c=>?_⟩;{have a:n<0:=by{simpa using a};rw [ay ω,bw ω];congr 1;omega};have a:0<=n:=by{simpa using a};rw [bw ω];congr 1;omega
def B5 (x y:Nat)(u:x<18446744073709551616)(E:y<18446744073709551616:=by omega):À 223 #[Ô .u64 (x:Int),Ô .u64 (y:Int)] V λr W=>r=Ô .u64 (Nat.gcd x y:Int):=by
 refine Mv V _ ⟨λz V'=>∃a b:Nat,z=((a:Int),(b:Int))/\Nat.gcd a b=Nat.gcd x y,λz=>z.2.toNat,
  ⟨((x:Int),(y:Int)),σ,x,y,rfl,rfl⟩,?_⟩
 rintro _ g h ⟨a,b,rfl,c⟩;dsimp only;refine ⟨θ,λd=>?_,λd i j=>?_⟩
 ·have d:b≠0:=by{rw [bne_iff_ne] at d;omega};have e:a%b<b:=ę _ ω;have f:(a:Int).tmod (b:Int)=((a%b:Nat):Int):=by{rw [Qk9 ω,<-Wk9]};rw [f];exact ⟨ω,((b:Int),((a%b:Nat):Int)),by (try dsimp only);rw [Ý,Ý];exact e,σ,b,a%b,rfl,by rw [CC,c]⟩
 ·have d:b=0:=by{rw [bne_eq_false_iff_eq] at d;omega};subst d;rw [Qg5] at c;rw [c]
def iT (a b:Int)(y:a.natAbs<4611686018427387904)(E:b.natAbs<4611686018427387904:=by omega):À 256 #[Ô Ŵ a,Ô Ŵ b] V λr W=>∃z:Int,r=å #[Ô Ŵ z,dB (decide ((a*b).natAbs<4611686018427387904))]/\((a*b).natAbs<4611686018427387904->z=a*b):=by refine Fs V _ λj k=>(lL a ω).s ?_;rintro r V2 l rfl;refine ⟨_,rfl,λm n=>(lL b ω).s ?_⟩;rintro r o q rfl;refine ⟨_,rfl,λs t=>(X2 _ _ ω).s ?_⟩;rintro r u v rfl;have f:a*b=if (decide (a<0)==decide (b<0)) then ((a.natAbs*b.natAbs:Nat):Int) else -((a.natAbs*b.natAbs:Nat):Int):=by{rw [Ś];by_cases c:a<0<;>by_cases d:b<0;{rw [Ç c,Ç d,show (a.natAbs:Int)=-a from by omega,show (b.natAbs:Int)=-b from by omega];simp [Wk4,Wx3]};{rw [Ç c,È d,Ã φ,show (a.natAbs:Int)=-a from by omega,show (b.natAbs:Int)=b from by omega];simp [Wk4]};{rw [È c,Ç d,Ã φ,show (a.natAbs:Int)=a from by omega,show (b.natAbs:Int)=-b from by omega];simp [Wx3]};rw [È c,È d,show (a.natAbs:Int)=a from by omega,show (b.natAbs:Int)=b from by omega];simp};rw [(Ń a b)];generalize a.natAbs*b.natAbs=p at *;refine ⟨_,_,rfl,λe g i=>?_,λe=>⟨λc g i=>?_,λc=>⟨λd g i=>?_,λd g i=>?_⟩⟩⟩;{have e:18446744073709551616<=p:=by{rw [bne_iff_ne] at e;omega};rw [È ω];exact ⟨_,rfl,λh=>ω⟩};{have c:4611686018427387904<=p:=by{rw [Ñ] at c;omega};rw [È ω];exact ⟨_,rfl,λh=>ω⟩};{have e:p/18446744073709551616=0:=by{rw [bne_eq_false_iff_eq] at e;omega};have c:p<4611686018427387904:=by{rw [Ò] at c;omega};rw [Ç c,ay (x:=((p%18446744073709551616:Nat):Int)) ω,ay ω];refine ⟨_,rfl,λ_=>?_⟩;have d:(decide (a<0)==decide (b<0))=false:=by{simpa using d};rw [f,d,Ã φ];omega};have e:p/18446744073709551616=0:=by{rw [bne_eq_false_iff_eq] at e;omega};have c:p<4611686018427387904:=by{rw [Ò] at c;omega};rw [Ç c,ay (x:=((p%18446744073709551616:Nat):Int)) ω];refine ⟨_,rfl,λ_=>?_⟩;have d:(decide (a<0)==decide (b<0))=true:=by{simpa using d};rw [f,d,Ä rfl];omega
def ue (n:Int)(d:Nat)(E:n.natAbs<4611686018427387904)(F:d<4611686018427387904)(y:d≠0):À 257 #[Ô Ŵ n,Ô Ŵ (d:Int)] V λr W=>RR W r (mkRat n d):=by refine DY V _ λo p=>(lL n ω).s ?_;rintro r V2 q rfl;rw [bw (x:=(d:Int)) ω];refine ⟨_,rfl,λs t=>(B5 _ _ ω).s ?_⟩;rintro r u v rfl;have g:Nat.gcd n.natAbs d<=d:=Ww4 ω (Ţ _ _);have h:0<Nat.gcd n.natAbs d:=Wz9 _ ω;have c:=Qs8 n d;have a:=Ww3 n d;rw [Ã y,ŧ] at c a;have b:(Nat.gcd n.natAbs d:Int)∣n:=Int.ofNat_dvd_left.2 (Ņ _ _);have i:d/Nat.gcd n.natAbs d<=d:=Qc8 _ _;have j:(n/(Nat.gcd n.natAbs d:Int)).natAbs<=n.natAbs:=by{rw [Qt7 b,ĩ];exact Qc8 _ _};have f:Wd (mkRat n d):=by{unfold Wd;rw [c,a];omega};refine ⟨_,rfl,?_⟩;rw [ay (x:=((Nat.gcd n.natAbs d:Nat):Int)) ω];refine ⟨λe=>⟨ω,ω,λk l=>.inl ⟨?_,f⟩⟩,λe k l=>.inl ⟨?_,f⟩⟩;{rw [c,a];have m:(d:Int).tdiv (Nat.gcd n.natAbs d:Int)=((d/Nat.gcd n.natAbs d:Nat):Int):=by{rw [Qj4 ω,<-Int.natCast_ediv]};rw [(Int.tdiv_eq_ediv_of_dvd b),m];generalize n/(Nat.gcd n.natAbs d:Int)=nn at *;generalize d/Nat.gcd n.natAbs d=z at *;rw [ay ω,ay (x:=(z:Int)) ω,ay ω]};have e:Nat.gcd n.natAbs d=1:=by{rw [Ò] at e;omega};rw [c,a,e,ay ω];simp
end Go.Proofs.Tryz
