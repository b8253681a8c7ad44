import Derived.LaidEql
import Derived.Stop.Asserts
import Derived.RowKitTokens
import Derived.Test.YtmamnfmhdcahmaaGreatDoorW16
set_option linter.all false
open Go.IntKind (i64 u64 u32)
open Go.Value renaming slice→pT,agg→dB,bool→Õ,pointer→qvZ,tuple→æ
open Go.Eng Go.Big
namespace Go.Proofs.Tryz
variable{V:Ó}{xs:List Value}{p:OA}{n:Nat}
theorem To {a b}:cT a b<0↔a<b:=by
 rcases cg a b with ⟨h,e⟩|⟨h,e⟩|⟨h,e⟩<;>rw [e]<;>constructor<;>intro c<;>first|exact h|omega|(exfalso;grind)
theorem rq_one {q}(h:RQ V (.agg xs.toArray) q):∀v∈xs,v.oneCell'=true:=by obtain ⟨p,n,c,a,b,d,ex⟩:=h.shape;have ex:=Æ Array.toList (Value.agg.inj ex);dsimp only at ex;subst ex;intro v hv;simp only [ç,Ġ,Ì] at hv;rcases hv with rfl|rfl|rfl<;>rfl
set_option maxHeartbeats 1000000 in
theorem Hu {c ss}(h:OR V p n ss)(hn:ss.length<100000000){k}(hs:∀s∈ss,s.sz k)(hk:2*k<2^38:=by omega):À 264 #[pT p n c] V λr W=>∃q m e,r=pT q m e/\bM 3 RQ W q m (à ss):=by
 obtain rfl:=h.len
 refine Fp V _ ⟨λz V'=>∃i:Nat,z.2.2.2=(i:Int)/\i<=ss.length/\z.1=(à (ss.take i)).length/\z.1<=z.2.1/\z.2.1*3<=z.2.2.1.length/\é 3 RQ V' z.2.2.1 (à (ss.take i)),λz=>ss.length-z.2.2.2.toNat,
  ⟨(0,0,[],0),σ,0,rfl,ã _,rfl,Ù _,Ù _,é.nil⟩,?_⟩
 rintro ⟨z1,z2,vs,z4⟩ V1 l1 ⟨i,e4,Ws,e1,ic,hv,hx⟩;dsimp only at e4 e1 ic hv hx;subst e4;refine ⟨rfl,λf=>?_,λf kE fw bk hb=>?_⟩
 ·have f:(i:Int)<ss.length:=Á f;have hi:i<ss.length:=ω
  have w:i64.wrap ((i:Int)+1)=(i:Int)+1:=au ω;dsimp only;rw [Ü,w];obtain ⟨ad,I,xs,hf,l⟩:=(h.le l1).at_ i hi;have A:=hs _ (ô hi);have v:=M7 hi
  have b0:(à (ss.take i)).length<300000000:=by have:=F9 (ss.take i);rw [ê] at this;omega
  have a2:∀q∈à (ss.take i),Sz k q:=λq hq=>by have ⟨s,h1,h2⟩:=yf hq;have:=hs s (Qn4 h1);rcases h2 with rfl|rfl;{exact this.1};{exact this.2}
  generalize à (ss.take i)=o at *;generalize ss[i]=s at *;obtain ⟨b,K,L,M,N,P,Q,d,S,T,f1,U,W,f2,ex,b5,b6⟩:=hf;have ex:=Æ Array.toList (Value.agg.inj ex);dsimp only at ex;subst ex
  refine ⟨bj I,ū,b,K,L,M,N,P,Q,d,S,T,f1,U,W,f2,s.a,s.b,ad,I,l 0 _ rfl,l 1 _ rfl,l 2 _ rfl,l 3 _ rfl,l 4 _ rfl,l 5 _ rfl,l 6 _ rfl,l 7 _ rfl,
   λz _=>z=(2,2,[Õ b,pT K L M,pT N P Q,Õ d,pT S T f1,pT U W f2],2,0),⟨(2,2,[Õ b,pT K L M,pT N P Q,Õ d,pT S T f1,pT U W f2],2,0),by and_intros<;>first|rfl|decide,rfl⟩,?_⟩
  rintro z V2 l2 rfl;dsimp only
  refine ⟨rfl,λz V'=>∃y:Nat,z.2.2.2=(y:Int)/\y<=2/\z.1=(eW s o y).length/\z.1<=z.2.1/\z.2.1*3<=z.2.2.1.length/\é 3 RQ V' z.2.2.1 (eW s o y),λz=>2-z.2.2.2.toNat,
   ⟨(z1,z2,vs,0),σ,0,rfl,ω,e1,ic,hv,hx.le λ_ _ g=>g.le l2⟩,?_⟩
  rintro ⟨C,w2,us,w4⟩ V3 l3 ⟨y,f4,X,Y,E,Z,F⟩;dsimp only at f4 Y E Z F;subst f4;refine ⟨rfl,λhy=>?_,λhy=>?_⟩
  ·have hy:(y:Int)<2:=Á hy;have a3:y<2:=ω
   have a0:=Od (s:=s) (o:=o) a3;have b7:=GP (s:=s) (o:=o) X
   have Zo:∀q∈eW s o y,Sz k q:=λq hq=>by rcases GQ X hq with h|h|h;{rw [h];exact A.1};{rw [h];exact A.2};{exact a2 q h}
   have wy:i64.wrap ((y:Int)+1)=(y:Int)+1:=au ω;generalize hO:eW s o y=O at *;generalize Xt:eW s o (y+1)=O' at *
   have el:∃eb ep en ec eq em ee x no,([Õ b,pT K L M,pT N P Q,Õ d,pT S T f1,pT U W f2].drop (y*3)).take 3=[Value.bool eb,pT ep en ec,pT eq em ee]/\RQ V3 (dB #[Õ eb,pT ep en ec,pT eq em ee]) x/\Sz k x/\O'=(if no=true then O else dE x O) /\
     ((y=0/\no=s.a)\/(y=1/\no=s.b)):=by
    have:y=0\/y=1:=ω
    rcases this with rfl|rfl
    ·exact ⟨b,K,L,M,N,P,Q,s.lo,s.a,rfl,ra,A.1,a0,.inl ⟨rfl,rfl⟩⟩
    ·exact ⟨d,S,T,f1,U,W,f2,s.hi,s.b,rfl,ra,A.2,a0,.inr ⟨rfl,rfl⟩⟩
   obtain ⟨eb,ep,en,ec,eq,em,ee,x,no,a4,hq,sx,G,a5⟩:=el;dsimp only;rw [Ü,wy];refine ⟨ū,Ù _,eb,ep,en,ec,eq,em,ee,⟨by simp;omega,a4⟩,λz _=>z=no,?_,?_⟩
   ·rcases a5 with ⟨rfl,rfl⟩|⟨rfl,rfl⟩;{exact ⟨λ_=>⟨λI=>⟨true,σ,I.symm⟩,λI=>⟨(λh=>by simp at h),λ_=>⟨false,σ,I.symm⟩⟩⟩,λh=>by simp at h⟩};{exact ⟨λh=>by simp at h,λ_=>⟨λ_=>⟨s.b,σ,rfl⟩,λh=>by simp at h⟩⟩}
   ·rintro z V4 l4 rfl;refine ⟨rfl,λu=>⟨(C,w2,us,(y:Int)+1),by dsimp only;omega,σ,y+1,rfl,ω,?_,E,Z,?_⟩,λu=>?_⟩;{show C=(eW s o (y+1)).length;rw [Xt,G,Ä u];exact Y};{show é 3 RQ V4 us (eW s o (y+1));rw [Xt,G,Ä u];exact F.le λ_ _ g=>g.le l4};{have H:O'=dE x O:=by{rw [G,u];rfl};refine ⟨λz _=>∃j:Nat,z=(j:Int)/\j<=O.length/\∀(D:Nat)(h:D<O.length),D<j->O[D]<x,λz=>O.length-z.toNat,⟨0,σ,0,rfl,ã _,λD _ h=>Å h (Ş D)⟩,?_⟩;rintro z V5 l5 ⟨j,rfl,yo,jl⟩;have wj:i64.wrap ((j:Int)+1)=(j:Int)+1:=au ω;rw [Ü,wj];refine ⟨rfl,λz _=>z=true↔∃h:j<O.length,O[j]<x,⟨λf=>?_,λf=>⟨false,σ,?_⟩⟩,?_⟩;{have f:=Á f;have B:j<O.length:=ω;have ⟨rb,rp,rn,rc,rq,rm,re,fZ,M9,hr⟩:=Vu F B;refine ⟨ū,E,rb,rp,rn,rc,rq,rm,re,⟨fZ,M9⟩,λV6 l6=>(e_ ra ra (Zo _ (ô B)) sx).s λr V7 l7 rfl=>⟨_,rfl,_,σ,by dsimp only;rw [Ñ,To];exact ⟨λh=>⟨B,h⟩,λ⟨_,h⟩=>h⟩⟩⟩};{have f:=Â f;exact ⟨π,λ⟨h,_⟩=>Å h ω⟩};{rintro z V8 l8 Ua;refine ⟨rfl,λu=>?_,λu=>?_⟩;{have ⟨B,a6⟩:=Ua.1 u;refine ⟨(j:Int)+1,by dsimp only;omega,σ,j+1,rfl,B,λD h b8=>?_⟩;by_cases e:D=j;{subst e;exact a6};{exact jl D h ω}};{have a7:∀h:j<O.length,¬O[j]<x:=λh h'=>by{have:=Ua.2 ⟨h,h'⟩;rw [u] at this;cases this};have t:=XG O j yo jl a7;refine ⟨λz _=>z=true↔¬∃h:j<O.length,O[j]=x,⟨λhe=>⟨true,σ,?_⟩,λhe=>?_⟩,?_⟩;{have he:(j:Int)=(C:Int):=by{simpa using he};exact ⟨λ_ ⟨h,_⟩=>Å h ω,λ_=>rfl⟩};{have he:¬(j:Int)=(C:Int):=by{simpa using he};have B:j<O.length:=ω;obtain ⟨rb,rp,rn,rc,rq,rm,re,fZ,M9,hr⟩:=Vu F B;refine ⟨ū,E,rb,rp,rn,rc,rq,rm,re,⟨fZ,M9⟩,λV6 l6=>(e_ ra ra (Zo _ (ô B)) sx).s λr V7 l7 rfl=>⟨_,rfl,_,σ,by dsimp only;rw [bne_iff_ne,ne_eq,<-iK];exact ⟨λh ⟨_,h'⟩=>h h',λh h'=>h ⟨B,h'⟩⟩⟩⟩};{rintro z fu dM Cn;refine ⟨rfl,λu iD eN bk hb J=>?_,λu=>?_⟩;{have a8:=Cn.1 u;rw [Ã a8] at t;obtain ⟨xs,ys,x1,x2,x3,y1,y2,y3,r1,r2,r3,r4,r5⟩:=Be (V:=iD) (R:=RQ) (GR.s ⟨Y,E,Z,F⟩ λ_ _ g=>g.le ax) φ (λ_ _=>rq_one) hb (es:=[_,_,_]) rfl ra (j:=j);refine ⟨ū,ū,ū,xs,x1,x2,ω,Ù _,Ù _,x2,x3,λb9 J2 sp c' h1 h2=>?_⟩;rw [r1,r2];(refine ⟨ys,y1,y2,Ù _,y3,ω,ω,r3,r4,λa9 a1 h3 h4=>⟨(j+(1+(C-j)),a1,_,(y:Int)+1),by dsimp only;omega,by and_intros<;>first|rfl|omega,y+1,rfl,ω,?_⟩⟩;have r6:=r5 a9 a1 h3 h4;rw [<-t,<-H,<-Xt] at r6;exact ⟨r6.len,r6.le,r6.cap,r6.row⟩)};{have hex:=Qv0 λh=>by{have:=Cn.2 h;rw [u] at this;cases this};rw [Ä hex] at t;refine ⟨(C,w2,us,(y:Int)+1),by dsimp only;omega,σ,y+1,rfl,ω,?_,E,Z,?_⟩;{show C=(eW s o (y+1)).length;rw [Xt,H,t];exact Y};{show é 3 RQ fu us (eW s o (y+1));rw [Xt,H,t];exact F.le λ_ _ g=>g.le ax}}}}}}
  ·have hy:¬(y:Int)<2:=Â hy;obtain rfl:y=2:=ω;exact ⟨(C,w2,us,(i:Int)+1),by dsimp only;omega,σ,i+1,rfl,hi,by dsimp only;rw [v];exact Y,E,Z,by dsimp only;rw [v];exact F⟩
 ·have f:¬(i:Int)<ss.length:=Â f;obtain rfl:i=ss.length:=ω;rw [Ĥ] at e1 hx;subst e1;exact ⟨_,_,_,rfl,bM.bI hb (hx.le λ_ _ g=>g.le fw) φ ic⟩
def dK (cuts:List Rat)(i:Nat):Sp:=⟨if 0<i then cuts.getD (i-1) 0 else 0,if i<cuts.length then cuts.getD i 0 else 0,decide (i=0),decide (i=cuts.length)⟩
def yv (out:List Sp)(s:Sp):List Sp:=out.dropLast++[⟨(out.getLastD Sp.zero).lo,s.hi,(out.getLastD Sp.zero).a,s.b⟩]
def cD (cuts:List Rat)(marks:List Bool):Nat->List Sp
 | 0=>[]
 | i+1=>if marks.getD i false=true then (if 0<i/\marks.getD (i-1) false=true/\0<(cD cuts marks i).length then yv (cD cuts marks i) (dK cuts i) else cD cuts marks i++[dK cuts i]) else cD cuts marks i
def Gh (cuts:List Rat)(marks:List Bool):List Sp:=cD cuts marks marks.length
theorem Cv {out s}(h:0<out.length):(yv out s).length=out.length:=by grind [yv]
theorem Gg (cuts marks i):(cD cuts marks i).length<=i:=by
 induction i with
 | zero=>simp [cD]
 | succ i u=>
  unfold cD;split
  ·split;{rename_i h;rw [Cv h.2.2];omega};grind
  ·omega
theorem Vs {α:Type}{sz}{R:un->um->α->Prop}{vs us ls}(h:é sz R V vs ls)(z:0<ls.length){a}(u:xs.length=sz)(y:R V (.agg xs.toArray) a)(hlow:∀q,q<(ls.length-1)*sz->us[q]?=vs[q]?)(hlast:∀j x,xs[j]?=some x->us[(ls.length-1)*sz+j]?=some x):é sz R V us (ls.dropLast++[a]):=by refine ⟨λi n=>?_⟩;have o:(ls.dropLast++[a]).length=ls.length:=by{rw [î,List.length_dropLast];simp;omega};by_cases e:i=ls.length-1;{subst e;refine ⟨xs,u,?_,hlast⟩;have b:(ls.dropLast++[a])[ls.length-1]=a:=χ;rw [b];exact y};{have c:i<ls.length-1:=ω;have ⟨d,f,g,p⟩:=h.at_ i ω;refine ⟨d,f,?_,λj x k=>?_⟩;{have b:(ls.dropLast++[a])[i]=ls[i]:=χ;rw [b];exact g};{have l:=(Đ.1 k).1;have m:i*sz+j<(ls.length-1)*sz:=by{have:(i+1)*sz<=(ls.length-1)*sz:=Ă _ ω;grind};grind}}
def RBl (_:Ó)(v:Value)(b:Bool):Prop:=v=.agg #[.bool b]
theorem ZP {u}(h:bM 1 RBl V p n u){i:Nat}(hi:i<u.length):∃ad,af p (i*1)=some ad/\V.at ad (Õ u[i]):=by obtain ⟨ad,b,xs,-,e,a⟩:=h.at_ i hi;have e:=Æ Array.toList (Value.agg.inj e);subst e;have:=a 0 _ rfl;grind [Addr.add]
theorem wN {s}(h:qK V (.agg xs.toArray) s):∃b p n c u n' y d q m e z E F,xs=[Õ b,pT p n c,pT u n' y,Õ d,pT q m e,pT z E F,Õ s.a,Õ s.b]/\RQ V (dB #[Õ b,pT p n c,pT u n' y]) s.lo/\RQ V (dB #[Õ d,pT q m e,pT z E F]) s.hi:=by obtain ⟨_,_,_,_,_,_,_,_,_,_,_,_,_,_,ex,f,g⟩:=h;exact qyJ ⟨(Æ Array.toList (Value.agg.inj ex)),f,g⟩
theorem Iz (V):RQ V (dB #[Õ false,pT none 0 0,pT none 0 0]) 0:=by have:=RQ.zero (V:=V);simpa using this
set_option maxHeartbeats 1000000 in
theorem Ht {q c m e cuts marks}(hc:bM 3 RQ V p n cuts)(hm:bM 1 RBl V q m marks)(hlen:marks.length=cuts.length+1)(hn:cuts.length<100000000:=by omega):À 267 #[pT p n c,pT q m e] V λr W=>∃p' n' c',r=pT p' n' c'/\bM 8 qK W p' n' (Gh cuts marks):=by
 obtain rfl:=hc.len;obtain rfl:=hm.len
 refine Fm V _ ⟨λz V'=>∃i:Nat,z.2.2.2=(i:Int)/\i<=marks.length/\z.1=(cD cuts marks i).length/\z.1<=z.2.1/\z.2.1*8<=z.2.2.1.length/\é 8 qK V' z.2.2.1 (cD cuts marks i),λz=>marks.length-z.2.2.2.toNat,
  ⟨(0,0,[],0),σ,0,rfl,ã _,rfl,Ù _,Ù _,é.nil⟩,?_⟩
 rintro ⟨f,z2,vs,z4⟩ V1 R ⟨i,e4,Ws,P,L,hv,hx⟩;dsimp only at e4 P L hv hx;subst e4;refine ⟨rfl,λA=>?_,λA V5 l5 bk E=>?_⟩
 ·have A:(i:Int)<marks.length:=Á A;have hi:i<marks.length:=ω;have w:i64.wrap ((i:Int)+1)=(i:Int)+1:=au ω;have b6:=Gg cuts marks i;have S:marks.getD i false=marks[i]:=by{rw [ĕ,ï hi];rfl};have T:marks[i]=false->cD cuts marks (i+1)=cD cuts marks i:=λh=>by{show (if marks.getD i false=true then _ else _)=_;rw [S,h];rfl};have l:marks[i]=true->cD cuts marks (i+1)=if 0<i/\marks.getD (i-1) false=true/\0<(cD cuts marks i).length then yv (cD cuts marks i) (dK cuts i) else cD cuts marks i++[dK cuts i]:=λh=>by{show (if marks.getD i false=true then _ else _)=_;rw [S,h];rfl};dsimp only;rw [Ü,w];have ⟨ad,ha,a0⟩:=ZP (hm.le R λ_ _ g=>g) hi;refine ⟨bj ha,ū,marks[i],⟨ad,ha,a0⟩,λE=>?_,λE=>?_⟩;{rw [Ł] at E;exact ⟨(f,z2,vs,(i:Int)+1),by dsimp only;omega,σ,i+1,rfl,hi,by dsimp only;rw [T E];exact P,L,hv,by dsimp only;rw [T E];exact hx⟩};{rw [Qn8] at E;have l:=l E;generalize cD cuts marks i=out at *;generalize hO:cD cuts marks (i+1)=out' at *;refine ⟨λz V'=>RQ V' (dB #[Õ z.1,pT z.2.1 z.2.2.1 z.2.2.2.1,pT z.2.2.2.2.1 z.2.2.2.2.2.1 z.2.2.2.2.2.2.1]) ((dK cuts i).lo)/\RQ V' (dB #[Õ z.2.2.2.2.2.2.2.1,pT z.2.2.2.2.2.2.2.2.1 z.2.2.2.2.2.2.2.2.2.1 z.2.2.2.2.2.2.2.2.2.2.1,pT z.2.2.2.2.2.2.2.2.2.2.2.1 z.2.2.2.2.2.2.2.2.2.2.2.2.1 z.2.2.2.2.2.2.2.2.2.2.2.2.2.1]) (0)/\z.2.2.2.2.2.2.2.2.2.2.2.2.2.2.1=decide (i=0)/\z.2.2.2.2.2.2.2.2.2.2.2.2.2.2.2=decide (i=cuts.length),⟨λs=>?_,λs=>⟨(false,none,0,0,none,0,0,false,none,0,0,none,0,0,(i:Int)==0,(i:Int)==(cuts.length:Int)),σ,?_⟩⟩,?_⟩;{have s:=Á s;have k:i-1<cuts.length:=ω;have U:i64.wrap ((i:Int)-1)=((i-1:Nat):Int):=by{rw [au ω];omega};rw [U,Ü];obtain ⟨W,b1,p3,n3,c3,p4,n4,c4,t,B,b0,M,b2⟩:=Da (hc.le R λ_ _ g=>g.le R) k;refine ⟨bj t,ū,_,_,_,_,_,_,_,W,t,b0,M,b2,(b1,p3,n3,c3,p4,n4,c4,false,none,0,0,none,0,0,(i:Int)==0,(i:Int)==(cuts.length:Int)),σ,?_,Iz _,?_,?_⟩;{show RQ V1 _ (if 0<i then cuts.getD (i-1) 0 else 0);rw [Ä ω,jH k];exact B};{show ((i:Int)==0)=decide (i=0);rw [ļ,Ë,Ñ];omega};{show ((i:Int)==(cuts.length:Int))=decide (i=cuts.length);rw [ļ,Ë,Ñ];omega}};{have s:=Â s;refine ⟨?_,Iz _,?_,?_⟩;{show RQ V1 _ (if 0<i then cuts.getD (i-1) 0 else 0);rw [Ã ω];exact Iz _};{show ((i:Int)==0)=decide (i=0);rw [ļ,Ë,Ñ];omega};{show ((i:Int)==(cuts.length:Int))=decide (i=cuts.length);rw [ļ,Ë,Ñ];omega}};{rintro ⟨x1,x2,x3,x4,x5,x6,x7,x8,x9,a1,a2,a3,a4,a5,b7,b8⟩ V2 l2 ⟨hA,hB,hC,hD⟩;dsimp only at hA hB hC hD;subst hC hD;refine ⟨rfl,λz V'=>RQ V' (dB #[Õ z.1,pT z.2.1 z.2.2.1 z.2.2.2.1,pT z.2.2.2.2.1 z.2.2.2.2.2.1 z.2.2.2.2.2.2.1]) ((dK cuts i).lo)/\RQ V' (dB #[Õ z.2.2.2.2.2.2.2.1,pT z.2.2.2.2.2.2.2.2.1 z.2.2.2.2.2.2.2.2.2.1 z.2.2.2.2.2.2.2.2.2.2.1,pT z.2.2.2.2.2.2.2.2.2.2.2.1 z.2.2.2.2.2.2.2.2.2.2.2.2.1 z.2.2.2.2.2.2.2.2.2.2.2.2.2.1]) ((dK cuts i).hi)/\z.2.2.2.2.2.2.2.2.2.2.2.2.2.2.1=decide (i=0)/\z.2.2.2.2.2.2.2.2.2.2.2.2.2.2.2=decide (i=cuts.length),⟨λs=>?_,λs=>⟨(x1,x2,x3,x4,x5,x6,x7,x8,x9,a1,a2,a3,a4,a5,decide (i=0),decide (i=cuts.length)),σ,hA,?_,rfl,rfl⟩⟩,?_⟩;{have s:=Á s;have k:i<cuts.length:=ω;obtain ⟨W,b1,p3,n3,c3,p4,n4,c4,t,B,b0,M,b2⟩:=Da (hc.le ax λ_ _ g=>g.le (R.m l2)) k;refine ⟨bj t,ū,_,_,_,_,_,_,_,W,t,b0,M,b2,(x1,x2,x3,x4,x5,x6,x7,b1,p3,n3,c3,p4,n4,c4,decide (i=0),decide (i=cuts.length)),σ,hA,?_,rfl,rfl⟩;show RQ V2 _ (if i<cuts.length then cuts.getD i 0 else 0);rw [Ä k,jH k];exact B};{have s:=Â s;show RQ V2 _ (if i<cuts.length then cuts.getD i 0 else 0);rw [Ã ω];exact hB};{rintro ⟨y1,y2,y3,y4,y5,y6,y7,F,G,H,I,J,u,y,b9,c0⟩ V3 l3 ⟨kA,kB,kC,kD⟩;dsimp only at kA kB kC kD;subst kC kD;refine ⟨rfl,λz _=>z=decide (0<i/\marks.getD (i-1) false=true/\0<out.length),⟨λs=>?_,λs=>⟨false,σ,?_⟩⟩,?_⟩;{have s:=Á s;have k:i-1<marks.length:=ω;have U:i64.wrap ((i:Int)-1)=((i-1:Nat):Int):=by{rw [au ω];omega};have a6:marks.getD (i-1) false=marks[i-1]:=by{rw [ĕ,ï k];rfl};rw [U,Ü,a6];have ⟨W,t,X⟩:=ZP (hm.le (R.m (l2.m l3)) λ_ _ g=>g) k;refine ⟨bj t,ū,marks[i-1],⟨W,t,X⟩,λN=>⟨_,σ,?_⟩,λN=>⟨false,σ,?_⟩⟩;{dsimp only;rw [N,É];constructor;{intro h;exact ⟨ω,rfl,ω⟩};{rintro ⟨_,_,h⟩;omega}};{dsimp only;rw [N];simp}};{have s:=Â s;dsimp only;rw [È];rintro ⟨h,_⟩;omega};{rintro z V4 l4 rfl;have gA:qK V4 (dB #[Õ y1,pT y2 y3 y4,pT y5 y6 y7,Õ F,pT G H I,pT J u y,Õ (decide (i=0)),Õ (decide (i=cuts.length))]) (dK cuts i):=qyJ ⟨rfl,ra,kB.le l4⟩;have C:=hx.le (V':=V4) λ_ _ g=>qK.le g ax;refine ⟨rfl,λK=>?_,λK=>?_⟩;{have K:=Á K;rw [Ä K] at l;have U:i64.wrap ((f:Int)-1)=((f-1:Nat):Int):=by{rw [au ω];omega};rw [U,Ü];have Y:=K.2.2;have c1:=C.dN φ;have Z:out.length-1<out.length:=ω;have a7:out.getLastD Sp.zero=out[out.length-1]:=by{rw [Wz2,List.getLast?_eq_getElem?,ï Z];rfl};obtain ⟨c2,-,a8,a9⟩:=C.at_ (out.length-1) Z;obtain ⟨b,s1,s2,s3,s4,s5,s6,d,t1,t2,t3,t4,t5,t6,ex,B,c5⟩:=wN a8;subst ex;have sv:=lY (vs:=vs) (xs:=[Õ F,pT G H I,pT J u y]) (o:=(f-1)*8+3) (by simp only [Ā,Ļ];omega);have b5:(bw vs ((f-1)*8+3) [Õ F,pT G H I,pT J u y]).length=vs.length:=by{rw [sv];simp only [î,ê,Į,Ā,Ļ];omega};have sg:∀r,r<(f-1)*8+3\/(f-1)*8+6<=r->(bw vs ((f-1)*8+3) [Õ F,pT G H I,pT J u y])[r]?=vs[r]?:=by{intro r hr;rw [sv,ě];have Q:(vs.take ((f-1)*8+3)).length=(f-1)*8+3:=by{rw [ê];omega};rcases hr with hr|hr;{rw [Ĳ ω,ĩ,Ä hr]};{rw [Ň ω,Ň (by rw [Q];simp only [Ā,Ļ];omega),Qn5,Q];congr 1;simp only [Ā,Ļ];omega}};have sm:∀j x,([Õ F,pT G H I,pT J u y]:zA um)[j]?=some x->(bw vs ((f-1)*8+3) [Õ F,pT G H I,pT J u y])[(f-1)*8+3+j]?=some x:=by{intro j x D;have O:=(Đ.1 D).1;have Q:(vs.take ((f-1)*8+3)).length=(f-1)*8+3:=by{rw [ê];omega};rw [sv,ě,Ň ω,Q,Qn1,Ĳ O];exact D};generalize bw vs ((f-1)*8+3) [Õ F,pT G H I,pT J u y]=us at *;refine ⟨ū,L,ω,ū,L,ω,(f,z2,us.set ((f-1)*8+7) (Õ (decide (i=cuts.length))),(i:Int)+1),by dsimp only;omega,σ,i+1,rfl,hi,?_,L,?_,?_⟩;{dsimp only;rw [hO,l,Cv Y];exact P};{dsimp only;rw [Qc9,b5];exact hv};{dsimp only;rw [hO,l];unfold yv;rw [a7];refine Vs C Y (xs:=[Õ b,pT s1 s2 s3,pT s4 s5 s6,Õ F,pT G H I,pT J u y,Õ out[out.length-1].a,Õ (dK cuts i).b]) rfl (qyJ ⟨rfl,B,ra⟩) ?_ ?_;{intro r hr;rw [Qb3 ω,sg r ω]};{intro j x D;have O:=(Đ.1 D).1;have c6:j<8:=O;by_cases h7:j=7;{subst h7;rw [show (out.length-1)*8+7=(f-1)*8+7 by omega,Qt4 ω];exact D};{rw [Qb3 ω];by_cases h3:j<3\/j=6;{rw [sg _ ω];have hc:=a9 j x;have:j=0\/j=1\/j=2\/j=6:=ω;rcases this with rfl|rfl|rfl|rfl<;>exact hc D};{have:j=3\/j=4\/j=5:=ω;rcases this with rfl|rfl|rfl;{have:=sm 0 x D;rw [show (out.length-1)*8+3=(f-1)*8+3+0 by omega];exact this};{have:=sm 1 x D;rw [show (out.length-1)*8+4=(f-1)*8+3+1 by omega];exact this};{have:=sm 2 x D;rw [show (out.length-1)*8+5=(f-1)*8+3+2 by omega];exact this}}}}}};{have K:=Â K;rw [Ã K] at l;refine ⟨ω,L,hv,rfl,?_,λsp c' h1 h2=>⟨(f+1,c',_,(i:Int)+1),by dsimp only;omega,σ,i+1,rfl,hi,?_,h1,?_,?_⟩⟩;{intro v yk;simp only [ç,Ġ,Ì] at yk;rcases yk with rfl|rfl|rfl|rfl|rfl|rfl|rfl|rfl<;>rfl};{dsimp only;rw [hO,l,î,P];rfl};{dsimp only;have Q:(vs.take (f*8)).length=f*8:=by{rw [ê];omega};rw [î,î,Q];simp only [Ā,Ļ];omega};{dsimp only;rw [hO,l];have:=C.snoc (sp:=sp) rfl gA φ;rw [<-P] at this;exact this}}}}}}
 ·have A:¬(i:Int)<marks.length:=Â A;obtain rfl:i=marks.length:=ω;subst P;exact ⟨_,_,_,rfl,bM.bI E (hx.le λ_ _ g=>qK.le g l5) φ L⟩
end Go.Proofs.Tryz
namespace Go.Proofs.Tryz
def getD_l {a b:zA Rat}{i:Nat}(h:i<a.length:=by omega):(a++b).getD i 0=a.getD i 0:=χ
def asc (c:List Rat):Prop:=c.Pairwise (·< ·)
theorem Cq {x q:Rat}:∀{o:zA Rat},q∈dE x o↔q=x\/q∈o:=by
 intro o
 induction o with
 | nil=>simp [dE]
 | cons y r u=>
  unfold dE;split
  ·grind
  ·split;{rename_i e;subst e;exact ⟨.inr,λh=>h.elim (λe=>by subst e;simp) id⟩};{rw [ç]}
theorem Kz {x}:∀{o:zA Rat},asc o->asc (dE x o):=by
 intro o
 induction o with
 | nil=>intro _;simp [dE,asc]
 | cons y r u=>
  intro h;have ⟨d,a⟩:=Ģ.1 h;unfold dE;split
  ·rename_i c;refine Ģ.2 ⟨λq b=>?_,u a⟩<;>grind [Cq.1]
  ·split;{exact h};{rename_i e f;refine Ģ.2 ⟨λq b=>?_,h⟩<;>grind}
def Sp.cS (s:Sp)(q:Rat):Prop:=(s.a=false/\q=s.lo)\/(s.b=false/\q=s.hi)
theorem VK {s o q}:q∈eW s o 2↔s.cS q\/q∈o:=by show q∈(if s.b=true then (if s.a=true then o else dE s.lo o) else dE s.hi (if s.a=true then o else dE s.lo o))↔_;unfold Sp.cS;cases s.a<;>cases s.b<;>simp [Cq];grind
theorem VJ {s o}(h:asc o):asc (eW s o 2):=by show asc (if s.b=true then (if s.a=true then o else dE s.lo o) else dE s.hi (if s.a=true then o else dE s.lo o));cases s.a<;>cases s.b<;>simp [Kz,h]
def F_:∀(ss:zA Sp)(o:zA Rat),(asc o->asc (ss.foldl (λo s=>eW s o 2) o))/\∀q,q∈(ss.foldl (λo s=>eW s o 2) o)↔q∈o\/∃s∈ss,s.cS q:=by
 intro ss
 induction ss<;>grind [VJ,VK]
def Cc (ss:zA Sp):asc (à ss):=(F_ ss []).1 List.Pairwise.nil
def eQ {ss:zA Sp}{q:Rat}:q∈à ss↔∃s∈ss,s.cS q:=by have:=(F_ ss []).2 q;simpa [à] using this
section
variable {c:List Rat} (h:asc c)
include h
theorem xL {i j}(hij:i<j)(u:j<c.length):c.getD i 0<c.getD j 0:=by rw [jH,jH u];exact Ţ.1 h i j ω u hij
theorem SN {i j}(hij:i<=j)(u:j<c.length):c.getD i 0<=c.getD j 0:=by rcases Ď i j with a|a;{have:=xL h a u;grind};grind
omit h
theorem Xp {i t}:(dK c i).inn t↔(0<i->c.getD (i-1) 0<t)/\(i≠c.length->i<c.length->t<c.getD i 0)/\(i≠c.length->c.length<i->t<0):=by unfold dK Sp.inn;grind
theorem rk {i}(hi:i<=c.length:=by omega){t}:(dK c i).inn t↔(0<i->c.getD (i-1) 0<t)/\(i<c.length->t<c.getD i 0):=by grind [Xp]
include h
theorem TV {i}(hi:i<=c.length):(dK c i).good:=by refine ⟨⟨λe=>?_,λe=>?_⟩,Sp.iL.2 ?_⟩;{have e:=Á e;subst e;rfl};{have e:=Á e;subst e;exact Ã (Ww6 _)};{by_cases a:i=0;{exact .inl (Ç a)};{by_cases b:i=c.length;{exact .inr (.inl (Ç b))};{refine .inr (.inr ?_);show (if 0<i then c.getD (i-1) 0 else 0)<(if i<c.length then c.getD i 0 else 0);grind [xL]}}}
theorem gap_ex {t}(y:t∉c):∃i,i<=c.length/\(dK c i).inn t:=by
 have key:∀k,k<=c.length->(∀j,j<k->c.getD j 0<t)\/∃i,i<=c.length/\(dK c i).inn t:=by
  intro k
  induction k with
  | zero=>exact λ_=>.inl λj b=>Å b (Ş j)
  | succ k u=>
   intro e;rcases u ω with g|g
   ·by_cases d:c.getD k 0<t;{grind};{refine .inr ⟨k,ω,(rk).2 ⟨λa=>g _ ω,λ_=>?_⟩⟩<;>grind}
   ·exact .inr g
 rcases key c.length (Ù _) with g|g
 ·exact ⟨c.length,Ù _,(rk (Ù _)).2 ⟨λa=>g _ ω,λa=>ω⟩⟩
 ·exact g
theorem ru {i}(hi:i<=c.length){t u x:Rat}(y:(dK c i).inn t)(hu:(dK c i).inn u)(z:x∈c):(x<t↔x<u)/\(t<x↔u<x)/\x≠t:=by obtain ⟨t1,t2⟩:=(rk hi).1 y;obtain ⟨d,e⟩:=(rk hi).1 hu;obtain ⟨j,b,rfl⟩:=Qh5 z;rcases Ď j i with a|a;{have:=SN h (show j<=i-1 by omega) ω;grind};{have:=SN h a b;grind}
theorem Va {i}(hi:i<=c.length):(dK c i).inn ((dT c).getD i 0):=by rw [rk hi];unfold dT;by_cases a:c.length=0;{exact ⟨λ_=>ω,λ_=>ω⟩};{rw [Ã a];have b:=CS c (show 1<=c.length by omega);by_cases d:i=c.length;{grind};{rw [getD_l];unfold EJ;by_cases e:i=0;{grind};{obtain ⟨m,rfl⟩:∃m,i=m+1:=⟨i-1,ω⟩;have:=xL h (show m<m+1 by omega) ω;grind}}}
omit h
theorem lR:(dT c).length=c.length+1:=by unfold dT;grind [CS]
end
section
variable {c:List Rat} {ms:List Bool}
structure FI (c:List Rat) (ms:List Bool) (i:Nat):Prop where
 r:uY (cD c ms i)
 mem:∀t,t∉c->(Ah (cD c ms i) t↔∃j,j<i/\ms.getD j false=true/\(dK c j).inn t)
 top:0<i->i<=c.length->∀s∈cD c ms i,s.b=false/\s.hi<=c.getD (i-1) 0
 str:0<i->i<=c.length->ms.getD (i-1) false=false->∀s∈cD c ms i,s.hi<c.getD (i-1) 0
 last:0<i->i<=c.length->ms.getD (i-1) false=true->∃l0 l,cD c ms i=l0++[l]/\l.hi=c.getD (i-1) 0
theorem yA {ss}{s:Sp}{t}:Ah (ss++[s]) t↔Ah ss t\/s.inn t:=by constructor;{rintro ⟨x,a,b⟩;rcases ú.1 a with a|a;{exact .inl ⟨x,a,b⟩};grind};{rintro (⟨x,a,b⟩|b);{exact ⟨x,by simp [a],b⟩};{exact ⟨s,ψ,b⟩}}
theorem wH {ss s}(h:uY ss)(u:s.good)(z:∀x∈ss,x.MF s):uY (ss++[s]):=by refine ⟨λx a=>?_,Qf2.2 ⟨h.2,ψ,λx a y b=>?_⟩⟩;{rcases ú.1 a with a|a;{exact h.1 x a};grind};grind
theorem K_ {ss s}(h:uY (ss++[s])):uY ss/\s.good/\∀x∈ss,x.MF s:=by obtain ⟨b,-,c⟩:=Qf2.1 h.2;exact ⟨⟨λx a=>h.1 x (by simp [a]),b⟩,h.1 s ψ,λx a=>c x a s ψ⟩
theorem HJ {P:Nat->Prop}{i}:(∃j,j<i+1/\P j)↔(∃j,j<i/\P j)\/P i:=χ
theorem Xj (h:asc c){i}(hi:i<=c.length)(F:FI c ms i):FI c ms (i+1):=by have A:=TV h hi;have D:i<c.length->(dK c i).hi=c.getD i 0:=λj=>Ä j;have E:0<i->(dK c i).lo=c.getD (i-1) 0:=λj=>Ä j;have B:0<i->(dK c i).a=false:=λj=>È ω;have I:i<c.length->(dK c i).b=false:=λj=>È ω;by_cases hm:ms.getD i false=true;{have y:¬ms.getD i false=false:=by{rw [hm];decide};by_cases j:0<i/\ms.getD (i-1) false=true;{have ⟨L,l,el,G⟩:=F.last j.1 hi j.2;have e:cD c ms (i+1)=L++[⟨l.lo,(dK c i).hi,l.a,(dK c i).b⟩]:=by{rw [cD,Ä hm,Ä ⟨j.1,j.2,by rw [el];simp⟩,el];simp [yv]};have J:=F.r;rw [el] at J;have ⟨f1,f2,f3⟩:=K_ J;have m:=(F.top j.1 hi l (by rw [el];simp)).1;have q:(⟨l.lo,(dK c i).hi,l.a,(dK c i).b⟩:Sp).good:=by{refine ⟨⟨f2.1.1,A.1.2⟩,Sp.iL.2 ?_⟩;(cases Z:l.a with|true=>exact .inl rfl|false=>{(cases w:(dK c i).b with|true=>exact .inr (.inl rfl)|false=>{have n:=oE f2.2 Z m;have u:=oE A.2 (B j.1) w;exact .inr (.inr χ)})})};refine ⟨?_,λt v=>?_,λ_ d s f=>?_,λ_ d k=>?_,λ_ d _=>?_⟩;{rw [e];exact wH f1 q λx k=>⟨(f3 x k).1,(f3 x k).2.1,(f3 x k).2.2⟩};{rw [e,HJ,<-F.mem t v,yA,el,yA,or_assoc];refine or_congr Wv7 ?_;have M:(dK c i).inn t↔c.getD (i-1) 0<t/\((dK c i).b=true\/t<(dK c i).hi):=by{unfold Sp.inn;rw [B j.1,E j.1];simp};have K:t≠c.getD (i-1) 0:=by{rintro rfl;rw [jH] at v;exact v (ô _)};show (l.a=true\/l.lo<t)/\((dK c i).b=true\/t<(dK c i).hi)↔((l.a=true\/l.lo<t)/\(l.b=true\/t<l.hi))\/_;rw [G,m];have n:l.a=true\/l.lo<c.getD (i-1) 0:=by{(cases Z:l.a with|true=>exact .inl rfl|false=>{have:=oE f2.2 Z m;rw [G] at this;exact .inr this})};have u:(dK c i).b=true\/c.getD (i-1) 0<(dK c i).hi:=by{(cases w:(dK c i).b with|true=>exact .inl rfl|false=>{have:=oE A.2 (B j.1) w;rw [E j.1] at this;exact .inr this})};constructor;{rintro ⟨C,o⟩;by_cases g:t<c.getD (i-1) 0;{exact .inl ⟨C,.inr g⟩};{exact .inr ⟨hm,χ,o⟩}};{rintro (⟨C,o⟩|⟨-,C,o⟩);{have N:t<c.getD (i-1) 0:=by{rcases o with o|o;{cases o};{exact o}};exact ⟨C,u.imp_right λu=>χ⟩};{exact ⟨n.imp_right λn=>χ,o⟩}}};{rw [e] at f;rcases ú.1 f with f|f;{have b:=f3 s f;refine ⟨b.1,?_⟩;have n:l.lo<c.getD (i-1) 0:=by{have:=oE f2.2 b.2.1 m;rwa [G] at this};have u:=xL h (show i-1<i by omega) d;have:=b.2.2;grind};{obtain rfl:s=_:=by{simpa using f};refine ⟨I d,?_⟩;rw [D d];grind}};{rw [Qc8] at k;exact Å k y};grind};{have e:cD c ms (i+1)=cD c ms i++[dK c i]:=by{rw [cD,Ä hm,Ã (λg=>j ⟨g.1,g.2.1⟩)]};have w:∀x∈cD c ms i,x.MF (dK c i):=λx k=>by{by_cases p:0<i;{have H:ms.getD (i-1) false=false:=by{(cases hq:ms.getD (i-1) false with|false=>rfl|true=>exact Å ⟨p,hq⟩ j)};exact ⟨(F.top p hi x k).1,B p,by rw [E p];exact F.str p hi H x k⟩};{obtain rfl:i=0:=ω;cases k}};refine ⟨?_,λt v=>?_,λ_ d s f=>?_,λ_ d k=>?_,λ_ d _=>?_⟩;{rw [e];exact wH F.r A w};{rw [e,HJ,<-F.mem t v,yA];exact or_congr Wv7 ⟨λg=>⟨hm,g⟩,λg=>g.2⟩};{rw [e] at f;rcases ú.1 f with f|f;{refine ⟨(w s f).1,?_⟩;by_cases p:0<i;{have n:=(F.top p hi s f).2;have u:=xL h (show i-1<i by omega) d;grind};{obtain rfl:i=0:=ω;cases f}};{obtain rfl:s=_:=by{simpa using f};refine ⟨I d,?_⟩;rw [D d];grind}};{rw [Qc8] at k;exact Å k y};{rw [Qc8];exact ⟨_,_,e,D d⟩}}};{have e:cD c ms (i+1)=cD c ms i:=by{rw [cD,Ã hm]};have z:i<c.length->∀s∈cD c ms i,s.b=false/\s.hi<c.getD i 0:=λd s f=>by{by_cases p:0<i;{have ⟨n,u⟩:=F.top p hi s f;have O:=xL h (show i-1<i by omega) d;exact ⟨n,χ⟩};{obtain rfl:i=0:=ω;cases f}};refine ⟨by rw [e];exact F.r,λt v=>?_,λ_ d s f=>?_,λ_ d k s f=>?_,λ_ d k=>?_⟩;{rw [e,HJ,F.mem t v];exact ⟨.inl,λg=>g.elim id λg=>Å g.1 hm⟩};{rw [e] at f;have ⟨n,u⟩:=z d s f;exact ⟨n,χ⟩};{rw [e] at f;exact (z d s f).2};{rw [Qc8] at k;exact Å k hm}}
theorem fi (h:asc c):∀{i:Nat},i<=c.length+1->FI c ms i:=by
 intro i
 induction i with
 | zero=>exact λ_=>⟨⟨Ū,List.Pairwise.nil⟩,(λt _=>⟨(λ⟨_,h,_⟩=>by cases h),(λ⟨_,h,_⟩=>Å h (Ş _))⟩),(λh=>Å h (Ww6 _)),(λh=>Å h (Ww6 _)),(λh=>Å h (Ww6 _))⟩
 | succ i u=>exact λa=>Xj h ω (u ω)
end
def Sp.innB (s:Sp)(t:Rat):Bool:=(s.a||decide (s.lo<t))&&(s.b||decide (t<s.hi))
variable{ss:List Sp}
def ë (ss:List Sp)(t:Rat):Bool:=ss.any λs=>s.innB t
theorem innB_iff {s:Sp}{t}:s.innB t=true↔s.inn t:=by unfold Sp.innB Sp.inn;simp
theorem jI {t}:ë ss t=true↔Ah ss t:=by unfold ë Ah;rw [Qh8];exact ⟨λ⟨s,a,b⟩=>⟨s,a,innB_iff.1 b⟩,λ⟨s,a,b⟩=>⟨s,a,innB_iff.2 b⟩⟩
theorem Hh {a b:ut}(h:a=true↔b=true):a=b:=by cases a<;>cases b<;>simp at h<;>rfl
theorem W6 {t}(h:∀s∈ss,¬s.cS t):(tL ss t==2)=ë ss t:=by
 induction ss with
 | nil=>rfl
 | cons s r y=>
  have f:=h s ψ
  have c:s.innB t=decide (Ab (s.la t) (s.lb t)=2)/\(Ab (s.la t) (s.lb t)≠0->Ab (s.la t) (s.lb t)=2):=by unfold Sp.cS at f;unfold Sp.innB Sp.la Sp.lb Ab;rcases cg t s.lo with ⟨g,d⟩|⟨g,d⟩|⟨g,d⟩<;>rcases cg t s.hi with ⟨u,e2⟩|⟨u,e2⟩|⟨u,e2⟩<;>rw [d,e2]<;>cases z:s.a<;>cases c:s.b<;>simp at f⊢<;>grind
  have e:ë (s::r) t=(s.innB t||ë r t):=rfl;rw [e,<-(y λx j=>h x (by simp [j])),c.1];by_cases i:Ab (s.la t) (s.lb t)=0
  ·simp [tL,i]
  ·have:=c.2 i;simp [tL,this]
def ģ (op:Int)(x y:Bool):Bool:=if op=2 then x&&y else if op=3 then x&&!y else if op=4 then x != y else x||y
def jm (op:Int)(a b:List Sp)(c:List Rat):List Bool:=(dT c).map λt=>ģ op (tL a t==2) (tL b t==2)
def Ú (op:Int)(a b:List Sp):List Sp:=Gh (à (a++b)) (jm op a b (à (a++b)))
theorem kW (op a b c):(jm op a b c).length=c.length+1:=by unfold jm;rw [ē,lR]
theorem comb_reg (op a b):uY (Ú op a b):=by unfold Ú Gh;rw [kW];exact (fi (Cc _) (Ù _)).r
theorem Xo {c}(h:asc c)(z:∀s∈ss,∀q,s.cS q->q∈c){i}(hi:i<=c.length){t u}(y:(dK c i).inn t)(hu:(dK c i).inn u):ë ss t=ë ss u:=by
 induction ss with
 | nil=>rfl
 | cons s r M=>
  have e:∀t,ë (s::r) t=(s.innB t||ë r t):=λ_=>rfl;rw [e,e,(M λx f=>z x (by simp [f]))];congr 1;have d:=z s ψ;unfold Sp.innB;cases E:s.a<;>cases F:s.b<;>simp
  ·have g:=ru h hi y hu (d s.lo (.inl ⟨E,rfl⟩));have j:=ru h hi y hu (d s.hi (.inr ⟨F,rfl⟩));grind
  ·exact (ru h hi y hu (d s.lo (.inl ⟨E,rfl⟩))).1
  ·exact (ru h hi y hu (d s.hi (.inr ⟨F,rfl⟩))).2.1
theorem comb_inB (op a b){t}(u:t∉à (a++b)):ë (Ú op a b) t=ģ op (ë a t) (ë b t):=by have e:=Cc (a++b);have f:∀s∈a++b,∀q,s.cS q->q∈à (a++b):=λs d q k=>eQ.2 ⟨s,d,k⟩;unfold Ú Gh;generalize à (a++b)=c at u e f;rw [kW];have l:∀s∈a,∀q,s.cS q->q∈c:=λs d=>f s (by simp [d]);have m:∀s∈b,∀q,s.cS q->q∈c:=λs d=>f s (by simp [d]);have mk:∀j,j<=c.length->(dK c j).inn t->(jm op a b c).getD j false=ģ op (ë a t) (ë b t):=λj g n=>by{have h:=Va e g;have i:(dT c).getD j 0∉c:=λhm=>(ru e g h h hm).2.2 rfl;grind [jm,lR,W6,Xo]};refine Hh ?_;rw [jI,(fi e (Ù _)).mem t u];grind [gap_ex]
theorem reg_eq {xs ys}(E:zA Rat)(u:uY xs)(y:uY ys)(h:∀t,t∉E->ë xs t=ë ys t):xs=ys:=
 NX (E:=E) u y λt a=>by rw [<-jI,<-jI,h t a]
end Go.Proofs.Tryz
namespace Go.Proofs.Tryz
section
variable {α:Type}
structure ņ (c:α->α->Int):Prop where
 asy:∀a b,c a b<0->¬c b a<0
 tr:∀a b d,¬c a b<0->¬c b d<0->¬c a d<0
variable {c:α->α->Int}
theorem ņ.refl (h:ņ c)(a):¬c a a<0:=λl=>h.asy a a l l
def IG (d:α)(l:List α)(i j:Nat):List α:=(l.set i (l.getD j d)).set j (l.getD i d)
variable {d:α}
theorem IH {l i j}:(IG d l i j).length=l.length:=by simp [IG]
theorem vZ {l:zA α}{i k x}(hi:i<l.length):(l.set i x).getD k d=if k=i then x else l.getD k d:=by simp only [ĕ,Qp9];by_cases h:k=i;{subst h;simp [hi]};{have:¬i=k:=λe=>h e.symm;simp [h,this]}
theorem yH {l i j k}(hi:i<l.length)(u:j<l.length:=by omega):(IG d l i j).getD k d=if k=j then l.getD i d else if k=i then l.getD j d else l.getD k d:=by unfold IG;rw [vZ (by simpa using u),vZ hi]
theorem VT {l i j}(hi:i<l.length)(u:j<l.length:=by omega):(IG d l i j).Perm l:=by have e:(l.toArray.swap i j (by simpa using hi) (by simpa using u)).toList=IG d l i j:=by{simp [Array.swap,IG,ĕ,hi,u]};have:=(Array.swap_perm (xs:=l.toArray) (i:=i) (j:=j) (by simpa using hi) (by simpa using u)).toList;rw [e] at this;simpa using this
structure uv (d:α) (l m:List α) (a b:Nat):Prop where
 len:m.length=l.length
 out:∀k,¬(a<=k/\k<b)->m.getD k d=l.getD k d
 mem:∀k,a<=k->k<b->∃k',a<=k'/\k'<b/\m.getD k d=l.getD k' d
 perm:m.Perm l
theorem uv.refl (l a b):uv d l l a b:=⟨rfl,λ_ _=>rfl,λk h c=>⟨k,h,c,rfl⟩,.refl _⟩
theorem uv.m {l m n a b}(h:uv d l m a b)(g:uv d m n a b):uv d l n a b:=
 ⟨g.len.m h.len,λk f=>(g.out k f).m (h.out k f),λk i j=>by
  have ⟨o,p,q,e⟩:=g.mem k i j;have ⟨c,r,s,t⟩:=h.mem o p q;exact ⟨c,r,s,e.m t⟩,g.perm.m h.perm⟩
theorem uv.wide {l m a b u b'}(h:uv d l m a b)(y:u<=a)(z:b<=b'):uv d l m u b':=
 ⟨h.len,λk c=>h.out k ω,λk f g=>by
  by_cases c:a<=k/\k<b
  ·have ⟨i,j,n,e⟩:=h.mem k c.1 c.2;exact ⟨i,ω,ω,e⟩
  ·exact ⟨k,f,g,h.out k c⟩,h.perm⟩
theorem uv.IG {l a b i j}(hi:a<=i)(u:i<b)(z:a<=j)(y:j<b)(E:b<=l.length:=by omega):uv d l (IG d l i j) a b:=by refine ⟨IH,λk f=>?_,λk c e=>?_,VT ω⟩;{rw [yH ω,Ã ω,Ã ω]};{rw [yH ω];split;{exact ⟨i,hi,u,rfl⟩};{split;{exact ⟨j,z,y,rfl⟩};{exact ⟨k,c,e,rfl⟩}}}
def qf (c:α->α->Int)(d:α)(l:List α)(a b:Nat):Prop:=∀p q,a<=p->p<q->q<b->¬c (l.getD q d) (l.getD p d)<0
theorem qf.short {l a b}(h:b<=a+1):qf c d l a b:=λp q e f g=>ω
def YQ (c:α->α->Int)(d:α)(l:List α)(a i j:Nat):Prop:=∀p q,a<=p->p<q->q<=i->q≠j->¬c (l.getD q d) (l.getD p d)<0
theorem YQ.start {l a i}(h:qf c d l a i):YQ c d l a i i:=λp q b e f g=>h p q b e ω
theorem YQ.done (y:ņ c){l a i j}(h:YQ c d l a i j)(hji:j<=i)(u:j<=a\/¬c (l.getD j d) (l.getD (j-1) d)<0):qf c d l a (i+1):=by intro p q b f k;by_cases e:q=j;{subst e;rcases u with u|u;{omega};{by_cases g:p=q-1;{subst g;exact u};{exact y.tr _ _ _ u (h p (q-1) b ω ω ω)}}};{exact h p q b f ω e}
theorem YQ.move (u:ņ c){l a i j}(h:YQ c d l a i j)(z:a<j)(hji:j<=i)(hi:i<l.length)(y:c (l.getD j d) (l.getD (j-1) d)<0):YQ c d (IG d l j (j-1)) a i (j-1):=by intro p q g n f o;have m:=λk=>yH (d:=d) (l:=l) (i:=j) (j:=j-1) (k:=k) ω;rw [m,m];by_cases eq:q=j;{subst eq;rw [Ã ω,Ä rfl];by_cases b:p=q-1;{rw [Ä b];exact u.asy _ _ y};{rw [Ã b,Ã ω];exact h p (q-1) g ω ω ω}};{rw [Ã o,Ã eq];by_cases b:p=j-1;{rw [Ä b];exact h j q ω ω f eq};{rw [Ã b];by_cases e:p=j;{rw [Ä e];exact h (j-1) q ω ω f eq};{rw [Ã e];exact h p q g n f eq}}}
end
end Go.Proofs.Tryz
namespace Go.Proofs.Tryz
variable{k:Int}
abbrev qg:=Rat×Int×Int
def ke (k:Int)(s:Sp):List qg:=(if s.a then [] else [(s.lo,k,1)])++(if s.b then [] else [(s.hi,k,-1)])
def qZ (A B:List Sp):List qg:=A.flatMap (ke 0)++B.flatMap (ke 1)
def nK:List Sp->Int
 | []=>0
 | s::r=>(if s.a then 1 else 0)+nK r
def nq (k:Int):List qg->Rat->Int
 | [],_=>0
 | c::r,t=>(if c.2.1=k/\c.1<t then c.2.2 else 0)+nq k r t
def iR (k:Int):List qg->Int
 | []=>0
 | c::r=>(if c.2.1=k then c.2.2 else 0)+iR k r
theorem R9 {t l m}(h:l.Perm m):nq k l t=nq k m t:=by induction h<;>grind [nq]
theorem oM {t}:∀{l m:zA qg},nq k (l++m) t=nq k l t+nq k m t
 | [],m=>by simp [nq]
 | c::r,m=>by simp only [Qc0,nq,oM (l:=r)];omega
theorem Dp:∀{l m:zA qg},iR k (l++m)=iR k l+iR k m
 | [],m=>by simp [iR]
 | c::r,m=>by simp only [Qc0,iR,Dp (l:=r)];omega
theorem Lr {t}:∀{l:zA qg},(∀c∈l,c.1<t)->nq k l t=iR k l
 | [],_=>rfl
 | c::r,h=>by
  simp only [nq,iR,Lr (l:=r) λx u=>h x (by simp [u]),h c ψ,Í]
theorem GU {t}:∀{l:zA qg},(∀c∈l,¬c.1<t)->nq k l t=0
 | [],_=>rfl
 | c::r,h=>by
  simp only [nq,GU (l:=r) λx u=>h x (by simp [u]),h c ψ,and_false,Ð];omega
theorem vh {k' t}(y:k≠k'):∀{l:zA Sp},nq k (l.flatMap (ke k')) t=0
 | []=>rfl
 | s::r=>by
  rw [Ė,oM,vh y (l:=r)];have u:¬k'=k:=λe=>y e.symm;unfold ke;cases s.a<;>cases s.b<;>simp [nq,u]
theorem Dq {k t}:∀{l:zA Sp},(∀s∈l,s.good)->(∀s∈l,¬s.cS t)->nK l+nq k (l.flatMap (ke k)) t=(l.countP λs=>s.innB t:Nat)
 | [],_,_=>rfl
 | s::r,u,he=>by
  have z:=Dq (k:=k) (t:=t) (l:=r) (λx c=>u x (by simp [c])) λx c=>he x (by simp [c]);have d:=(u s ψ).2;have e:=he s ψ;rw [Ė,oM,List.countP_cons];simp only [nK];rw [Sp.iL] at d;unfold Sp.cS at e
  have key:(if s.a=true then (1:Int) else 0)+nq k (ke k s) t=(if s.innB t=true then 1 else 0:Nat):=by
   unfold ke Sp.innB;cases E:s.a<;>cases y:s.b<;>simp [y] at d e<;>simp [nq]<;>(try (by_cases f:s.lo<t))<;>(try (by_cases g:s.hi<t))<;>(try (by_cases h:t<s.hi))<;>simp_all<;>grind
  omega
theorem J_ {l t}:decide ((0:Int)<(l.countP λs=>s.innB t:Nat))=ë l t:=by refine Hh ⟨λh=>?_,λh=>?_⟩;{have h:=Á h;have:0<l.countP λs=>s.innB t:=ω;have ⟨s,a,h⟩:=Qr9.1 this;exact Qh8.2 ⟨s,a,h⟩};{have ⟨s,a,h⟩:=Qh8.1 h;have:0<l.countP λs=>s.innB t:=Qr9.2 ⟨s,a,h⟩;grind}
theorem W4 {A B}{c:qg}:c∈qZ A B->∃s∈A++B,s.cS c.1:=by intro h;have one:∀{k:Int} {s:Sp},c∈ke k s->s.cS c.1:=λ{k s} h=>by{unfold ke at h;unfold Sp.cS;cases u:s.a<;>cases y:s.b<;>simp [u,y] at h ⊢;{rcases h with rfl|rfl<;>simp};{subst h;rfl};{subst h;rfl}};rcases ú.1 h with h|h<;>grind
def oq (s:Sp):Sp:=⟨s.lo,0,s.a,true⟩
def Ds (was:Bool)(last:Sp)(out:List Sp):List Sp:=out++if was then [oq last] else []
def SG (acc:Bool->Bool->Bool)(A B:List Sp)(t:Rat):Bool:=acc (ë A t) (ë B t)
structure YV (acc:Bool->Bool->Bool) (A B:List Sp) (cs:List qg) (i:Nat) (was:Bool) (last:Sp) (out:List Sp):Prop where
 rg:uY (Ds was last out)
 lo:∀s∈Ds was last out,∀h:i<cs.length,s.a=false->s.lo<cs[i].1
 hi:∀s∈out,s.b=false/\∀h:i<cs.length,s.hi<cs[i].1
 inn:∀t,(∀s∈A++B,¬s.cS t)->(∀h:i<cs.length,t<cs[i].1)->ë (Ds was last out) t=SG acc A B t
 fr:was=true->last.hi=0/\last.b=false
section
variable {acc:Bool->Bool->Bool} {A B:List Sp} {cs:List qg} {i:Nat} {was:Bool} {last:Sp} {out:List Sp}
theorem VQ (E:cs.Perm (qZ A B))(F:∀s∈A,s.good)(M:∀s∈B,s.good)(u:cs.Pairwise λx y=>x.1<=y.1){t}(z:∀s∈A++B,¬s.cS t)(N:∀c∈cs.take i,c.1<t)(O:∀h:i<cs.length,t<cs[i].1):acc (decide ((0:Int)<nK A+iR 0 (cs.take i))) (decide ((0:Int)<nK B+iR 1 (cs.take i)))=SG acc A B t:=by
 have a:∀c∈cs.drop i,¬c.1<t:=by grind [List.getElem_of_mem,List.pairwise_iff_getElem.1]
 have e:∀k,iR k (cs.take i)=nq k (qZ A B) t:=λk=>by
  rw [<-R9 E,<-Lr N]
  conv=>rhs;rw [<-Qj8 i cs]
  rw [oM,GU a];omega
 have b:nq 0 (B.flatMap (ke 1)) t=0:=vh φ;have b2:nq 1 (A.flatMap (ke 0)) t=0:=vh φ;rw [e,e];unfold qZ SG;rw [oM,oM,b,b2,<-J_,<-J_,<-(Dq (k:=0) (t:=t) F λs u=>z s (Ĩ _ u)),<-(Dq (k:=1) (t:=t) M λs u=>z s (Ĺ _ u)),Wy4,Int.zero_add]
theorem Bb {x y t}:ë (x++y) t=(ë x t||ë y t):=by unfold ë;rw [List.any_append]
theorem VS {was}(hw:was=acc (decide ((0:Int)<nK A)) (decide ((0:Int)<nK B)))(u:cs.Perm (qZ A B))(z:∀s∈A,s.good)(E:∀s∈B,s.good)(F:cs.Pairwise λx y=>x.1<=y.1):YV acc A B cs 0 was ⟨0,0,true,false⟩ []:=by refine ⟨?_,λs h _ a=>?_,λs h=>(by cases h),λt b d=>?_,λ_=>⟨rfl,rfl⟩⟩;{unfold Ds;cases was;{exact ⟨λs h=>by simp at h,ψ⟩};{refine ⟨λs h=>?_,ψ⟩;obtain rfl:s=oq ⟨0,0,true,false⟩:=by{simpa using h};exact ⟨⟨λ_=>rfl,λ_=>rfl⟩,rfl⟩}};{unfold Ds at h;cases was<;>simp at h;subst h;cases a};{have:=VQ (acc:=acc) (i:=0) u z E F b (λc e=>by simp at e) d;simp only [Qf4,iR,Wy4] at this;rw [<-this,<-hw];unfold Ds oq ë Sp.innB;cases was<;>simp}
theorem YC (h:YV acc A B cs i was last out)(hi:i+1<cs.length)(he:cs[i].1=cs[i+1].1):YV acc A B cs (i+1) was last out:=
 ⟨h.rg,λs a _ b=>by rw [<-he];exact h.lo s a ω b,λs a=>⟨(h.hi s a).1,λ_=>by rw [<-he];exact (h.hi s a).2 ω⟩,
  λt c d=>h.inn t c λ_=>by rw [he];exact d hi,h.fr⟩
theorem Yb (h:YV acc A B cs i was last out)(hi:i<cs.length){t}(u:cs[i].1<t):ë out t=false:=by refine Bool.eq_false_iff.2 λhe=>?_;have ⟨s,b,a⟩:=Qh8.1 he;have ⟨c,e⟩:=h.hi s b;rw [innB_iff] at a;obtain ⟨-,d⟩:=a;rw [c] at d;grind
def lZ (was now:Bool)(last:Sp)(x:Rat):Sp:=if now&&!was then ⟨x,0,false,false⟩ else if was&&!now then ⟨last.lo,x,last.a,last.b⟩ else last
def Dr (was now:Bool)(last:Sp)(x:Rat)(out:List Sp):List Sp:=if was&&!now then out++[⟨last.lo,x,last.a,last.b⟩] else out
theorem YD (h:YV acc A B cs i was last out)(hi:i<cs.length)(N:∀h:i+1<cs.length,cs[i].1<cs[i+1].1)(O:cs.Perm (qZ A B))(Z:∀s∈A,s.good)(hB:∀s∈B,s.good)(M:cs.Pairwise λx y=>x.1<=y.1){now}(hw:now=acc (decide ((0:Int)<nK A+iR 0 (cs.take (i+1)))) (decide ((0:Int)<nK B+iR 1 (cs.take (i+1))))):YV acc A B cs (i+1) now (lZ was now last cs[i].1) (Dr was now last cs[i].1 out):=by have z:=W4 (O.mem_iff.1 (ô hi));have g:∀t,(∀s∈A++B,¬s.cS t)->cs[i].1<t->(∀h:i+1<cs.length,t<cs[i+1].1)->SG acc A B t=now:=λt f d o=>by{rw [hw,VQ (acc:=acc) O Z hB M f (λc D=>?_) o];obtain ⟨j,E,rfl⟩:=Qh5 D;rw [ê] at E;rw [Qt9];by_cases e:j=i;{subst e;exact d};{have:=Ţ.1 M j i ω hi ω;grind}};have apart:∀t,(∀s∈A++B,¬s.cS t)->t<cs[i].1\/cs[i].1<t:=λt f=>by{obtain ⟨s,d,o⟩:=z;grind};have on:∀{t:Rat},cs[i].1<t->ë out t=false:=λ{t}=>Yb (t:=t) h hi;have m:∀s∈Ds was last out,s.a=false->s.lo<cs[i].1:=λs M l=>h.lo s M hi l;have n:∀s∈out,s.hi<cs[i].1:=λs M=>(h.hi s M).2 hi;have q:∀s∈out,s.b=false:=λs M=>(h.hi s M).1;have inn:∀t,(∀s∈A++B,¬s.cS t)->t<cs[i].1->ë (Ds was last out) t=SG acc A B t:=λt f d=>h.inn t f λ_=>d;have p:=h.rg;have u:=h.fr;generalize cs[i].1=x at *;clear z hw O M h;unfold lZ Dr;cases was<;>cases now<;>simp only [Bool.not_true,Bool.not_false,Bool.and_true,Wv5]<;>unfold Ds at*<;>simp only [Ŏ,Ï,Ð,ą] at *;{refine ⟨by simpa [Ds] using p,λs M d l=>?_,λs M=>⟨q s M,λd=>?_⟩,λt f o=>?_,λh=>nomatch h⟩;{have:=m s (by simpa [Ds] using M) l;have:=N d;grind};{have:=n s M;have:=N d;grind};{simp only [Ds,Ŏ,Ð,ą];rcases apart t f with k|k;{exact inn t f k};{rw [g t f k o,on k]}}};{have e:ë (out++[oq ⟨x,0,false,false⟩])=λt=>ë out t||decide (x<t):=by{funext t;rw [Bb];unfold ë oq Sp.innB;simp};refine ⟨?_,λs M d l=>?_,λs M=>⟨q s M,λd=>?_⟩,λt f o=>?_,λ_=>⟨rfl,rfl⟩⟩;{simp only [Ds,Ï];exact wH p ⟨⟨π,λ_=>rfl⟩,rfl⟩ λy r=>⟨q y r,rfl,n y r⟩};{simp only [Ds,Ï] at M;rcases ú.1 M with M|M;{have:=m s M l;have:=N d;grind};{obtain rfl:s=oq ⟨x,0,false,false⟩:=by{simpa using M};exact N d}};{have:=n s M;have:=N d;grind};{simp only [Ds,Ï];rw [e];dsimp only;rcases apart t f with k|k;{rw [inn t f k,È χ,Bool.or_false]};{rw [g t f k o,Ç k,Bool.or_true]}}};{obtain ⟨f1,f2⟩:last.hi=0/\last.b=false:=by{simpa using u};obtain ⟨F,G,C⟩:=K_ p;have v:last.a=false->last.lo<x:=λl=>m (oq last) ψ l;have e:ë (out++[(⟨last.lo,x,last.a,last.b⟩:Sp)])=λt=>ë out t||((last.a||decide (last.lo<t))&&decide (t<x)):=by{funext t;rw [Bb];unfold ë Sp.innB;simp [f2]};have w:ë (out++[oq last])=λt=>ë out t||(last.a||decide (last.lo<t)):=by{funext t;rw [Bb];unfold ë oq Sp.innB;simp};refine ⟨?_,λs M d l=>?_,λs M=>?_,λt f o=>?_,λh=>nomatch h⟩;{simp only [Ds,Ŏ,Ð,ą];refine wH F ⟨⟨λh=>G.1.1 h,λh=>by rw [f2] at h;cases h⟩,?_⟩ λy r=>⟨q y r,(C y r).2.1,(C y r).2.2⟩;rw [Sp.iL];cases l:last.a;{exact .inr (.inr (v l))};{exact .inl rfl}};{simp only [Ds,Ŏ,Ð,ą] at M;rcases ú.1 M with M|M;{have:=m s (Ĩ _ M) l;grind};{obtain rfl:s=⟨last.lo,x,last.a,last.b⟩:=by{simpa using M};have:=v l;dsimp only;grind}};{rcases ú.1 M with M|M;{exact ⟨q s M,λd=>by have:=n s M;have:=N d;grind⟩};{obtain rfl:s=⟨last.lo,x,last.a,last.b⟩:=by{simpa using M};exact ⟨f2,λd=>N d⟩}};{simp only [Ds,Ŏ,Ð,ą];rw [e];dsimp only;rcases apart t f with k|k;{rw [<-inn t f k,w,Ç k,Bool.and_true]};{rw [g t f k o,on k,È (show ¬t<x by grind),Wv5];rfl}}};{have w:ë (out++[oq last])=λt=>ë out t||(last.a||decide (last.lo<t)):=by{funext t;rw [Bb];unfold ë oq Sp.innB;simp};have v:last.a=false->last.lo<x:=λl=>m (oq last) ψ l;refine ⟨by simpa [Ds] using p,λs M d l=>?_,λs M=>⟨q s M,λd=>?_⟩,λt f o=>?_,λ_=>by simpa using u⟩;{have:=m s (by simpa [Ds] using M) l;have:=N d;grind};{have:=n s M;have:=N d;grind};{simp only [Ds,Ï];rcases apart t f with k|k;{exact inn t f k};{rw [g t f k o,w];dsimp only;cases l:last.a;{have:=v l;rw [Ç (show last.lo<t by grind)];simp};{simp}}}}
end
end Go.Proofs.Tryz
namespace Go.Proofs.Tryz
variable{a b:List Sp}
theorem Dt (k)(u:0<k:=by omega):Sz k (0:Rat):=⟨by show (0:Int).natAbs<_;exact ľ φ (Nat.one_le_two_pow),Qd8 ω⟩
def bV:Sp:=⟨0,0,true,true⟩
def zu (l:List Sp):List Rat:=l.flatMap λs=>s.Jm++s.HT
def fe (l:List Sp):Nat:=(zu l).length
theorem sZ {s:Sp}{r}:fe (s::r)=(s.Jm++s.HT).length+fe r:=by unfold fe zu;rw [Ė,î]
theorem M_:fe (a++b)=fe a+fe b:=by unfold fe zu;rw [Qc1,î]
theorem Hw {A B}:(qZ A B).length=fe A+fe B:=by
 have one:∀(k:Int)(l:zA Sp),(l.flatMap (ke k)).length=fe l:=λk l=>by
  induction l with
  | nil=>rfl
  | cons s r u=>
   rw [Ė,î,sZ,u];unfold ke Sp.Jm Sp.HT;cases s.a<;>cases s.b<;>simp
 unfold qZ;grind
theorem TR:∀(l:zA Sp),fe l<=2*l.length
 | []=>by simp [fe,zu]
 | s::r=>by
  have:=TR r;have h:(s.Jm++s.HT).length<=2:=by unfold Sp.Jm Sp.HT;cases s.a<;>cases s.b<;>simp
  rw [sZ,Ā];omega
theorem tZ:∀(ss:zA Sp)(o:zA Rat),(ss.foldl (λo s=>eW s o 2) o).length<=o.length+fe ss
 | [],o=>by simp [zu]
 | s::r,o=>by
  have u:=tZ r (eW s o 2)
  have:(eW s o 2).length<=o.length+(s.Jm++s.HT).length:=by
   have c:=@oz s.lo o;have d:=@oz s.hi o;have e:=@oz s.hi (dE s.lo o);show (if s.b=true then (if s.a=true then o else dE s.lo o) else dE s.hi (if s.a=true then o else dE s.lo o)).length<=_;unfold Sp.Jm Sp.HT;cases s.a<;>cases s.b<;>simp<;>omega
  grind [sZ]
theorem Kl (ss):(à ss).length<=fe ss:=by have:=tZ ss [];simpa [à] using this
theorem It:∀{l:zA Sp},uY l->asc (zu l)
 | [],_=>List.Pairwise.nil
 | s::r,h=>by
  unfold asc zu;refine Qf2.2 ⟨?_,It h.tail,λx E y u=>?_⟩
  ·refine Qf2.2 ⟨by unfold Sp.Jm;cases s.a<;>simp,by unfold Sp.HT;cases s.b<;>simp,λx E y u=>?_⟩;obtain ⟨F,rfl⟩:=mN E;obtain ⟨c,rfl⟩:=pM u;exact oE (h.1 s ψ).2 F c
  ·have ⟨z,d,u⟩:=ċ.1 u;obtain ⟨b1,b2,b3⟩:=h.MF d
   have e:x<=s.hi:=by
    rcases ú.1 E with E|E
    ·obtain ⟨F,rfl⟩:=mN E;have:=oE (h.1 s ψ).2 F b1;grind
    grind [pM]
   have f:z.lo<=y:=by rcases ú.1 u with u|u;{obtain ⟨F,rfl⟩:=mN u;grind};{obtain ⟨c,rfl⟩:=pM u;have:=oE (h.1 z (by simp [d])).2 b2 c;grind}
   grind
theorem AY:∀{ys xs:zA Rat},asc xs->asc ys->(∀x∈xs,x∈ys)->xs.length<=ys.length
 | [],xs,_,_,h=>by
  cases xs with
  | nil=>simp
  | cons x r=>exact Å (h x ψ) ψ
 | y::r,[],_,_,_=>ψ
 | y::r,x::s,u,E,h=>by
  have ⟨M,F⟩:=Ģ.1 u;have ⟨d,a⟩:=Ģ.1 E;by_cases e:x=y
  ·have:=AY (xs:=s) F a λz b=>χ
   grind
  ·have c:x∈r:=χ
   have:=AY (xs:=x::s) u a λz b=>χ
   grind
theorem TU {c i}(hi:i<=c.length:=by omega):((dK c i).a=false->(dK c i).lo∈c)/\((dK c i).b=false->(dK c i).hi∈c):=by unfold dK;grind
theorem Gi {c ms}:∀(i:Nat),i<=c.length+1->∀s∈cD c ms i,(s.a=false->s.lo∈c)/\(s.b=false->s.hi∈c)
 | 0,_,s,h=>by cases h
 | i+1,hi,s,h=>by
  have u:=Gi (c:=c) (ms:=ms) i ω;have g:=TU (c:=c) (i:=i);unfold cD at h;split at h
  ·split at h
   ·rename_i f;rcases ú.1 h with h|h
    ·exact u s (List.dropLast_subset _ h)
    ·obtain rfl:=õ.1 h;refine ⟨λj=>?_,λk=>g.2 k⟩;have d:cD c ms i≠[]:=λe=>by rw [e] at f;simp at f
     have l:(cD c ms i).getLastD Sp.zero=(cD c ms i).getLast d:=by rw [Wz2,List.getLast?_eq_some_getLast d];rfl
     rw [l] at j ⊢;exact (u _ (List.getLast_mem d)).1 j
   ·rcases ú.1 h with h|h
    ·exact u s h
    ·obtain rfl:=õ.1 h;exact g
  ·exact u s h
theorem n_ {op}:∀s∈Ú op a b,(s.a=false->s.lo∈à (a++b))/\(s.b=false->s.hi∈à (a++b)):=by intro s c;exact Gi _ (by rw [kW];omega) s c
theorem W8 (op a b):fe (Ú op a b)<=fe a+fe b:=by have h:=AY (It (comb_reg op a b)) (Cc (a++b)) λx c=>by{have ⟨s,d,c⟩:=ċ.1 c;rcases ú.1 c with c|c;{obtain ⟨e,rfl⟩:=mN c;exact (n_ s d).1 e};{obtain ⟨f,rfl⟩:=pM c;exact (n_ s d).2 f}};have:=Kl (a++b);rw [M_] at this;unfold fe at *;omega
theorem W9 {op k}(u:1<=k)(y:∀s∈a,s.sz k)(z:∀s∈b,s.sz k):∀s∈Ú op a b,s.sz k:=by intro s d;have f:=(comb_reg op a b).1 s d;have he:∀q∈à (a++b),Sz k q:=λq g=>by{have ⟨x,c,h⟩:=yf g;have:x.sz k:=by{rcases ú.1 c with c|c;{exact y x c};{exact z x c}};rcases h with rfl|rfl;{exact this.1};{exact this.2}};have ⟨i,j⟩:=n_ s d;constructor;{cases e:s.a;{exact he _ (i e)};{rw [f.1.1 e];exact Dt k u}};{cases e:s.b;{exact he _ (j e)};{rw [f.1.2 e];exact Dt k u}}
theorem B5 (op a b):(Ú op a b).length<=fe a+fe b+1:=by have h:=Gg (à (a++b)) (jm op a b (à (a++b))) (jm op a b (à (a++b))).length;have c:=Kl (a++b);rw [M_] at c;rw [kW] at h;unfold Ú Gh;rw [kW];omega
end Go.Proofs.Tryz
namespace Go.Proofs.Tryz.aq
abbrev V2:=Rat×Rat
def cr (u v:V2):Rat:=u.1*v.2-u.2*v.1
def dt (u v:V2):Rat:=u.1*v.1+u.2*v.2
def r_ (u:V2):V2:=(-u.2,u.1)
def up (u:V2):Prop:=u.2>0\/u.2=0/\u.1>0
def dn (u:V2):Prop:=u.2<0\/u.2=0/\u.1<0
def nz (u:V2):Prop:=u.1≠0\/u.2≠0
def Qm (u v:V2):Prop:=(up u/\dn v)\/((up u/\up v\/dn u/\dn v)/\cr u v>0)
def Rp (a:Rat)(u:V2)(b:Rat)(w:V2):V2:=(a*u.1+b*w.1,a*u.2+b*w.2)
def opp (s r:V2):Prop:=∃c:Rat,c>0/\s.1=-(c*r.1)/\s.2=-(c*r.2)
def VY {u:V2}(h:nz u):up u\/dn u:=by unfold nz at h;unfold up dn;grind
def gS {u:V2}(h:up u)(y:dn u):False:=by unfold up at h;unfold dn at y;grind
theorem eA (u v):cr v u=-cr u v:=by unfold cr;grind
def jac1 (u w r:V2):cr u r*w.1+cr r w*u.1=cr u w*r.1:=by unfold cr;grind
def Np (u w r:V2):cr u r*w.2+cr r w*u.2=cr u w*r.2:=by unfold cr;grind
def HD (r:V2)(a:Rat)(u:V2)(b:Rat)(w:V2):cr r (Rp a u b w)=a*cr r u+b*cr r w:=by unfold cr Rp;grind
def HE (r u:V2):cr r (r_ u)=dt r u:=by unfold cr r_ dt;grind
def yD {s r:V2}(h:opp s r)(z:V2):∃c:Rat,c>0/\cr s z=-(c*cr r z)/\cr z s=-(c*cr z r):=by obtain ⟨c,d,a,b⟩:=h;exact ⟨c,d,by unfold cr;rw [a,b];grind,by unfold cr;rw [a,b];grind⟩
def mp {a b:Rat}(u:a>0)(y:b>0):a*b>0:=Œ u y
def mn {a b:Rat}(u:a≥0)(y:b≥0):a*b≥0:=Wv6 u y
def b1 {u w r:V2}(hu:up u)(hw:dn w)(y:up r)(a:cr u r>0)(b:cr r w<=0)(c:cr u w≥0):False:=by have e:=Np u w r;unfold up at hu y;unfold dn at hw;have f:cr u r*(-w.2)≥0:=mn χ χ;have g:(-(cr r w))*u.2≥0:=mn χ χ;have i:cr u w*r.2≥0:=mn c χ;have d:cr u r*w.2=0:=χ;have j:w.2=0:=by{rcases Qm8.1 d with h|h<;>grind};have k:w.1<0:=χ;have l:cr r w=-(r.2*w.1):=by{unfold cr;grind};have m:r.2=0:=by{by_cases h:r.2>0;{have:=mp h (show -w.1>0 by grind);grind};{grind}};have n:r.1>0:=χ;have o:cr u r=-(u.2*r.1):=by{unfold cr;grind};have:=mn (show u.2≥0 by grind) (show r.1≥0 by grind);grind
def b2 {u w r:V2}(hu:up u)(hw:dn w)(y:dn r)(a:cr u r<=0)(b:cr r w>0)(c:cr u w≥0):False:=by have e:=Np u w r;unfold up at hu;unfold dn at hw y;have g:(-(cr u r))*(-w.2)≥0:=mn χ χ;have i:cr r w*u.2≥0:=mn χ χ;have j:cr u w*(-r.2)≥0:=mn c χ;have d:cr r w*u.2=0:=χ;have k:u.2=0:=by{rcases Qm8.1 d with h|h<;>grind};have f:u.1>0:=χ;have l:cr u w=u.1*w.2:=by{unfold cr;grind};have m:w.2=0:=by{by_cases h:w.2<0;{have:=mp f (show -w.2>0 by grind);grind};{grind}};have n:w.1<0:=χ;have o:cr r w=-(r.2*w.1):=by{unfold cr;grind};have:=mn (show -r.2≥0 by grind) (show -w.1≥0 by grind);grind
def b3 {u w r:V2}(hu:dn u)(hw:up w)(y:dn r)(a:cr u r>0)(b:cr r w<=0)(c:cr u w≥0):False:=by have e:=Np u w r;unfold dn at hu y;unfold up at hw;have g:cr u r*w.2≥0:=mn χ χ;have i:(-(cr r w))*(-u.2)≥0:=mn χ χ;have j:cr u w*(-r.2)≥0:=mn c χ;have d:cr u r*w.2=0:=χ;have k:w.2=0:=by{rcases Qm8.1 d with h|h<;>grind};have f:w.1>0:=χ;have l:cr r w=-(r.2*w.1):=by{unfold cr;grind};have m:r.2=0:=by{by_cases h:r.2<0;{have:=mp f (show -r.2>0 by grind);grind};{grind}};have n:r.1<0:=χ;have o:cr u r=-(u.2*r.1):=by{unfold cr;grind};have:=mn (show -u.2≥0 by grind) (show -r.1≥0 by grind);grind
def b4 {u w r:V2}(hu:dn u)(hw:up w)(y:up r)(a:cr u r<=0)(b:cr r w>0)(c:cr u w≥0):False:=by have e:=Np u w r;unfold dn at hu;unfold up at hw y;have f:(-(cr u r))*w.2≥0:=mn χ χ;have g:cr r w*(-u.2)≥0:=mn χ χ;have i:cr u w*r.2≥0:=mn c χ;have d:cr r w*u.2=0:=χ;have j:u.2=0:=by{rcases Qm8.1 d with h|h<;>grind};have k:u.1<0:=χ;have l:cr u w=u.1*w.2:=by{unfold cr;grind};have m:w.2=0:=by{by_cases h:w.2>0;{have:=mp h (show -u.1>0 by grind);grind};{grind}};have n:w.1>0:=χ;have o:cr r w=-(r.2*w.1):=by{unfold cr;grind};have:=mn (show r.2≥0 by grind) (show w.1≥0 by grind);grind
def XZ {u s r v:V2}(E:cr r v>0)(hu:cr u v>0)(F:cr s v>0)(y:cr r u≥0)(z:cr u s≥0):cr r s≥0:=by have e:cr r s*cr u v=cr r u*cr s v+cr u s*cr r v:=by{unfold cr;grind};have a:=mn y (show cr s v≥0 by grind);have b:=mn z (show cr r v≥0 by grind);by_cases h:cr r s≥0;{exact h};{have:=mp (show -(cr r s)>0 by grind) hu;grind}
def near:∀(D:zA V2)(v:V2),(∃r∈D,cr r v>0)->∃u∈D,cr u v>0/\∀r∈D,cr r v>0->cr r u≥0
 | [],v,⟨r,h,_⟩=>by cases h
 | d::D,v,h=>by
  by_cases y:∃r∈D,cr r v>0
  ·have ⟨u,hu,z,E⟩:=near D v y;by_cases c:cr d v>0
   ·by_cases g:cr d u≥0
    ·refine ⟨u,ø _ hu,z,λr a b=>?_⟩;rcases ç.1 a with rfl|a
     ·exact g
     ·exact E r a b
    ·refine ⟨d,Ć ..,c,λr a b=>?_⟩;rcases ç.1 a with rfl|a
     ·unfold cr;grind
     ·have:=eA d u;exact XZ b z c (E r a b) χ
   ·refine ⟨u,ø _ hu,z,λr a b=>?_⟩;rcases ç.1 a with rfl|a
    ·exact Å b c
    ·exact E r a b
  ·obtain ⟨r,a,b⟩:=h;rcases ç.1 a with rfl|a
   ·refine ⟨r,Ć ..,b,λs e f=>?_⟩;rcases ç.1 e with rfl|e
    ·unfold cr;grind
    ·exact Å ⟨s,e,f⟩ y
   ·exact Å ⟨r,a,b⟩ y
structure YU (D:List V2):Prop where
 nz:∀r∈D,nz r
 cl:∀r∈D,∃s∈D,opp s r
 asc:D.Pairwise Qm
def uz {u v:V2}(hu:up u)(hv:up v):Qm u v->cr u v>0:=by rintro (⟨_,h⟩|⟨_,h⟩);{exact (gS hv h).elim};{exact h}
def ux {u v:V2}(hu:dn u)(hv:dn v):Qm u v->cr u v>0:=by rintro (⟨h,_⟩|⟨_,h⟩);{exact (gS h hu).elim};{exact h}
def j8 {u v:V2}(hu:dn u)(hv:up v):¬Qm u v:=by rintro (⟨h,_⟩|⟨⟨h,_⟩|⟨_,h⟩,_⟩);{exact gS h hu};{exact gS h hu};{exact gS hv h}
def btw {u w r v:V2}(F:nz u)(M:nz w)(N:nz r)(o:Qm u r/\Qm r w\/Qm w u/\Qm u r\/Qm r w/\Qm w u)(O:cr r v≠0)(E:cr r v>0->cr u r<=0)(z:cr r v<0->cr r w<=0)(c:cr u w≥0):False:=by have d:=eA u w;have two:cr u r>0->cr r w>0->False:=λa b=>by{by_cases h:cr r v>0;{have:=E h;grind};{have:=z χ;grind}};have f1:cr u r>0->cr r w<=0:=λa=>by{by_cases h:cr r v>0;{have:=E h;grind};{exact z χ}};have f2:cr r w>0->cr u r<=0:=λa=>by{by_cases h:cr r v>0;{exact E h};{have:=z χ;grind}};rcases VY F with hu|hu<;>rcases VY M with hw|hw<;>rcases VY N with y|y;{rcases o with ⟨a,b⟩|⟨a,b⟩|⟨a,b⟩;{exact two (uz hu y a) (uz y hw b)};{have:=uz hw hu a;grind};{have:=uz hw hu b;grind}};{rcases o with ⟨a,b⟩|⟨a,b⟩|⟨a,b⟩;{exact j8 y hw b};{have:=uz hw hu a;grind};{exact j8 y hw a}};{rcases o with ⟨a,b⟩|⟨a,b⟩|⟨a,b⟩;{have:=uz hu y a;exact b1 hu hw y this (f1 this) c};{exact j8 hw hu a};{exact j8 hw hu b}};{rcases o with ⟨a,b⟩|⟨a,b⟩|⟨a,b⟩;{have:=ux y hw b;exact b2 hu hw y (f2 this) this c};{exact j8 hw hu a};{exact j8 hw hu b}};{rcases o with ⟨a,b⟩|⟨a,b⟩|⟨a,b⟩;{exact j8 hu y a};{exact j8 hu y b};{have:=uz y hw a;exact b4 hu hw y (f2 this) this c}};{rcases o with ⟨a,b⟩|⟨a,b⟩|⟨a,b⟩;{exact j8 y hw b};{have:=ux hu y b;exact b3 hu hw y this (f1 this) c};{exact j8 y hw a}};{rcases o with ⟨a,b⟩|⟨a,b⟩|⟨a,b⟩;{exact j8 hu y a};{exact j8 hu y b};{have:=ux hw hu b;grind}};{rcases o with ⟨a,b⟩|⟨a,b⟩|⟨a,b⟩;{exact two (ux hu y a) (ux y hw b)};{have:=ux hw hu a;grind};{have:=ux hw hu b;grind}}
def Gr (u:V2):V2:=(u.1,-u.2)
def xX (u v:V2):cr (Gr u) (Gr v)=-cr u v:=by unfold cr Gr;grind
def near' (D:zA V2)(v:V2)(h:∃r∈D,cr r v<0):∃w∈D,cr w v<0/\∀r∈D,cr r v<0->cr r w<=0:=by obtain ⟨r,a,b⟩:=h;have ⟨w,hw,c,d⟩:=near (D.map Gr) (Gr v) ⟨Gr r,List.mem_map_of_mem a,by rw [xX];grind⟩;obtain ⟨e,f,rfl⟩:=ù.1 hw;rw [xX] at c;refine ⟨e,f,χ,λr a b=>?_⟩;have:=d (Gr r) (List.mem_map_of_mem a) (by rw [xX];grind);rw [xX] at this;grind
section
variable {D:List V2} (h:YU D) {v:V2} (hv:∀r ∈ D,cr r v≠0)
include h hv
theorem sides (y:D≠[]):∃u∈D,∃w∈D,cr u v>0/\cr w v<0/\cr u w≥0/\(∀r∈D,cr r v>0->cr u r<=0/\cr r w≥0)/\(∀r∈D,cr r v<0->cr r w<=0/\cr u r≥0):=by have ⟨d,k⟩:=Wz3 D y;have pos:∃r∈D,cr r v>0:=by{by_cases a:cr d v>0;{exact ⟨d,k,a⟩};{have ⟨s,g,b⟩:=h.cl d k;have ⟨c,i,e,_⟩:=yD b v;have:=hv d k;exact ⟨s,g,by rw [e];have:=mp i (show -(cr d v)>0 by grind);grind⟩}};have ⟨u,hu,l,o⟩:=near D v pos;have neg:∃r∈D,cr r v<0:=by{have ⟨s,g,b⟩:=h.cl u hu;have ⟨c,i,e,_⟩:=yD b v;exact ⟨s,g,by rw [e];have:=mp i l;grind⟩};have ⟨w,hw,q,p⟩:=near' D v neg;have A:∀r∈D,cr r v>0->cr r w≥0:=λr f a=>by{have ⟨s,g,b⟩:=h.cl r f;have ⟨c,i,e,_⟩:=yD b v;have ⟨t,j,m,_⟩:=yD b w;have:=p s g (by rw [e];have:=mp i a;grind);rw [m] at this;by_cases n:cr r w≥0;{exact n};{have:=mp j (show -(cr r w)>0 by grind);grind}};have B:∀r∈D,cr r v<0->cr u r≥0:=λr f a=>by{have ⟨s,g,b⟩:=h.cl r f;have ⟨c,i,e,_⟩:=yD b v;have ⟨t,j,m,_⟩:=yD b u;have:=o s g (by rw [e];have:=mp i (show -(cr r v)>0 by grind);grind);rw [m] at this;have x:=eA r u;by_cases n:cr u r≥0;{exact n};{have:=mp j (show cr r u>0 by grind);grind}};refine ⟨u,hu,w,hw,l,q,A u hu l,λr f a=>⟨?_,A r f a⟩,λr f a=>⟨p r f a,B r f a⟩⟩;have:=o r f a;have x:=eA u r;grind
omit hv in
theorem zF {i j:Nat}{a b}(hi:D[i]?=some a)(u:D[j]?=some b)(hij:i<j):Qm a b:=by have ⟨c,d⟩:=Đ.1 hi;have ⟨e,f⟩:=Đ.1 u;have:=Ţ.1 h.asc i j c e hij;rwa [d,f] at this
theorem sect (y:D≠[]):∃i u w,D[i]?=some u/\D[(i+1)%D.length]?=some w/\cr u v>0/\cr w v<0/\cr u w≥0/\(∀r∈D,cr r v>0->cr u r<=0/\cr r w≥0)/\(∀r∈D,cr r v<0->cr r w<=0/\cr u r≥0):=by have ⟨u,hu,w,hw,l,m,f,g,k⟩:=sides h hv y;have ⟨i,c⟩:=Ww3 hu;have ⟨j,b⟩:=Ww3 hw;have li:i<D.length:=(Đ.1 c).1;have q:j<D.length:=(Đ.1 b).1;have s:i≠j:=λe=>by{subst e;rw [c] at b;cases b;grind};refine ⟨i,u,w,c,?_,l,m,f,g,k⟩;by_cases e:(i+1)%D.length=j;{rw [e];exact b};have n:(i+1)%D.length<D.length:=ė _ ω;obtain ⟨r,d⟩:∃r,D[(i+1)%D.length]?=some r:=⟨_,ï n⟩;have hm:r∈D:=ı d;refine (btw (h.nz u hu) (h.nz w hw) (h.nz r hm) (v:=v) ?_ (hv r hm) (λa=>(g r hm a).1) (λa=>(k r hm a).1) f).elim;by_cases o:i+1<D.length;{rw [Ĕ o] at d e;by_cases p:i<j;{exact .inl ⟨zF h c d ω,zF h d b ω⟩};{exact .inr (.inl ⟨zF h b c ω,zF h c d ω⟩)}};{have:i+1=D.length:=ω;rw [this,Wy5] at d e;exact .inr (.inr ⟨zF h d b ω,zF h b c ω⟩)}
end
theorem ZM {r}(h:nz r){c:Rat}(u:c*r.1=0)(y:c*r.2=0):c=0:=by rcases Qm8.1 u with e|e;{exact e};{rcases Qm8.1 y with a|a;{exact a};{unfold nz at h;grind}}
theorem sq_pos {u}(h:nz u):dt u u>0:=by have a:∀x:Rat,x*x≥0:=λx=>by{by_cases b:x≥0;{exact mn b b};{have:=mn (show -x≥0 by grind) (show -x≥0 by grind);grind}};have:=a u.1;have:=a u.2;by_cases c:u.1*u.1+u.2*u.2>0;{exact c};grind [nz,Rat.mul_eq_zero.1]
def IsSm (u w v':V2):Prop:=cr u w>0/\(∃a b:Rat,a>0/\b>0/\v'=Rp a u b w)\/cr u w<=0/\∃a:Rat,a>0/\v'=Rp a (r_ u) 0 w
section
variable {D:List V2} (h:YU D)
include h
theorem PX {v u w v'}(hu:u∈D)(hw:w∈D)(u1:cr u v>0)(N:cr w v<0)(O:cr u w≥0)(E:∀r∈D,cr r v>0->cr u r<=0/\cr r w≥0)(F:∀r∈D,cr r v<0->cr r w<=0/\cr u r≥0)(M:IsSm u w v'){r}(y:r∈D):(cr r v>0->cr r v'>0)/\(cr r v<0->cr r v'<0):=by rcases M with ⟨c,a,b,d,j,rfl⟩|⟨c,a,d,rfl⟩;{have key:cr r u=0->cr r w=0->False:=λl m=>by{have:=jac1 u w r;have:=Np u w r;have s:=eA u r;have:=ZM (h.nz r y) (c:=cr u w) χ χ;grind};have s:=eA u r;rw [HD];constructor;{intro p;have ⟨g,e⟩:=E r y p;have f:=mn (show a≥0 by grind) (show cr r u≥0 by grind);have i:=mn (show b≥0 by grind) e;by_cases z:cr r u=0;{have:=mp j (show cr r w>0 by grind);grind};{have:=mp d (show cr r u>0 by grind);grind}};{intro p;have ⟨g,e⟩:=F r y p;have f:=mn (show a≥0 by grind) (show -(cr r u)≥0 by grind);have i:=mn (show b≥0 by grind) (show -(cr r w)≥0 by grind);by_cases z:cr r u=0;{have:=mp j (show -(cr r w)>0 by grind);grind};{have:=mp d (show -(cr r u)>0 by grind);grind}}};{have z:cr u w=0:=χ;rw [HD,HE];have k:=sq_pos (h.nz u hu);by_cases n:cr r v=0;{exact ⟨λp=>χ,λp=>χ⟩};have pl:cr u r=0:=by{have l:=jac1 u w v;have m:=Np u w v;have s1:=eA v w;have s2:=eA u r;have o:cr u v*cr r w=cr w v*cr r u:=by{have:cr u v*w.1=cr w v*u.1:=χ;have:cr u v*w.2=cr w v*u.2:=χ;unfold cr at *;grind};by_cases q:cr u r=0;{exact q};{by_cases p:cr r v>0;{have ⟨g,e⟩:=E r y p;have f:=mn (show cr u v≥0 by grind) e;have i:=mp (show -(cr w v)>0 by grind) (show cr r u>0 by grind);grind};{have ⟨g,e⟩:=F r y χ;have f:=mn (show cr u v≥0 by grind) (show -(cr r w)≥0 by grind);have i:=mp (show -(cr w v)>0 by grind) (show -(cr r u)>0 by grind);grind}}};have id:cr r v*dt u u=cr u v*dt r u:=by{have:cr r v*dt u u-cr u v*dt r u=cr u r*(-(dt u v)):=by{unfold cr dt;grind};grind};constructor;{intro p;have f:=mp p k;have:dt r u>0:=by{by_cases q:dt r u>0;{exact q};{have:=mn (show cr u v≥0 by grind) (show -(dt r u)≥0 by grind);grind}};have:=mp d this;grind};{intro p;have f:=mp (show -(cr r v)>0 by grind) k;have:-(dt r u)>0:=by{by_cases q:-(dt r u)>0;{exact q};{have:=mn (show cr u v≥0 by grind) (show dt r u≥0 by grind);grind}};have:=mp d this;grind}}
end
theorem ab_le (x:Rat):∃y:Rat,y≥0/\x<=y/\-x<=y:=by by_cases h:x≥0;{exact ⟨x,h,χ,χ⟩};{exact ⟨-x,χ,χ,χ⟩}
theorem pert1 (v)(hv:nz v)(r)(u:nz r):∃e:Rat,e>0/\∀t:Rat,0<t->t<=e ->(cr r v>0->cr r (Rp 1 v t (r_ v))>0)/\(cr r v<0->cr r (Rp 1 v t (r_ v))<0)/\cr r (Rp 1 v t (r_ v))≠0:=by have key:∀t:Rat,cr r (Rp 1 v t (r_ v))=cr r v+t*dt r v:=λt=>by{rw [HD,HE];grind};by_cases z:cr r v=0;{have d0:dt r v≠0:=λe=>by{have:cr r v*cr r v+dt r v*dt r v=dt r r*dt v v:=by{unfold cr dt;grind};have:=mp (sq_pos u) (sq_pos hv);grind};refine ⟨1,χ,λt t0 _=>?_⟩;rw [key];refine ⟨λh=>χ,λh=>χ,λh=>?_⟩;have:t*dt r v=0:=χ;rcases Qm8.1 this with e|e<;>grind};{have ⟨y,f,g,i⟩:=ab_le (dt r v);obtain ⟨x,c,a,b⟩:∃x:Rat,x>0/\(cr r v>0->x=cr r v)/\(cr r v<0->x=-(cr r v)):=by{by_cases p:cr r v>0;{exact ⟨cr r v,p,λ_=>rfl,λh=>χ⟩};{exact ⟨-(cr r v),χ,λh=>χ,λ_=>rfl⟩}};have d:y+1>0:=χ;have inv:(y+1)⁻¹>0:=Wq0.2 d;refine ⟨x*(y+1)⁻¹,mp c inv,λt t0 j=>?_⟩;have k:t*(y+1)<=x:=by{have:=mn (show x*(y+1)⁻¹-t≥0 by grind) (show y+1≥0 by grind);have e:(y+1)⁻¹*(y+1)=1:=Rat.inv_mul_cancel _ χ;have:x*(y+1)⁻¹*(y+1)=x:=by{rw [Wk4,e,Rat.mul_one]};grind};have l:=mn (show t≥0 by grind) (show y-dt r v≥0 by grind);have m:=mn (show t≥0 by grind) (show y+dt r v≥0 by grind);rw [key];refine ⟨λh=>?_,λh=>?_,λh=>?_⟩;{have:=a h;grind};{have:=b h;grind};{by_cases p:cr r v>0;{have:=a p;grind};{have:=b χ;grind}}}
theorem pert (v)(hv:nz v):∀R:zA V2,(∀r∈R,nz r)->∃e:Rat,e>0/\∀t:Rat,0<t->t<=e->∀r∈R,(cr r v>0->cr r (Rp 1 v t (r_ v))>0)/\(cr r v<0->cr r (Rp 1 v t (r_ v))<0)/\cr r (Rp 1 v t (r_ v))≠0
 | [],_=>⟨1,χ,λt _ _ r u=>by cases u⟩
 | r::R,h=>by
  have ⟨e,y,he⟩:=pert v hv R λr u=>h r (ø _ u);have ⟨f,f0,b⟩:=pert1 v hv r (h r (Ć ..))
  obtain ⟨g,c,d,i⟩:∃g:Rat,g>0/\g<=e/\g<=f:=by
   by_cases q:e<=f
   ·exact ⟨e,y,χ,q⟩
   ·exact ⟨f,f0,χ,χ⟩
  refine ⟨g,c,λt t0 j s a=>?_⟩;rcases ç.1 a with rfl|a
  ·exact b t t0 χ
  ·exact he t t0 χ s a
end Go.Proofs.Tryz.aq
namespace Go.Proofs.Tryz
def qL (V:Ó)(g:Nat)(y:Value):Prop:=V.at ⟨g,0,none⟩ y
theorem qL.le {V V' g y}(h:qL V g y)(l:V.Le V'):qL V' g y:=l.at h
def SErr (y:Value):Prop:=∃a:Addr,y=.iface 371 (.pointer (some a))
end Go.Proofs.Tryz
namespace Go.Proofs.Tryz
variable{V:Ó}{p:OA}{v:Value}{l:L3}
def RT (V:Ó):OA->Tr->Prop
 | p,.leaf i=>∃(b:Nat)(c0 c1 c2 c3 c4 c5 c6 c7 c8:Value)(r:OA),p=some ⟨b,0,none⟩/\V.bh b (.cells #[c0,c1,c2,c3,c4,c5,c6,c7,c8,.pointer none,.pointer r,.bool i] 192 (0,0))
 | p,.node l x y=>∃(b:Nat)(u z:Int)(E:OA)(F M:Int)(N:OA)(O Z:Int)(z3:OA)(pl pr:OA)(i:Bool),p=some ⟨b,0,none⟩ /\
   V.bh b (.cells #[.int .i64 u,.int .i64 z,.pointer E,.int .i64 F,.int .i64 M,.pointer N,.int .i64 O,.int .i64 Z,.pointer z3,.pointer pl,.pointer pr,.bool i] 192 (0,0)) /\
   xB V (.agg #[.int .i64 u,.int .i64 z,.pointer E,.int .i64 F,.int .i64 M,.pointer N,.int .i64 O,.int .i64 Z,.pointer z3]) l.1 l.2.1 l.2.2/\RT V pl x/\RT V pr y
theorem RT.le {V V'}(h:V.Le V'):∀{t:Tr} {p:OA},RT V p t->RT V' p t
 | .leaf i,p,⟨b,z,c1,E,F,M,N,O,Z,c8,r,e,u⟩=>⟨b,z,c1,E,F,M,N,O,Z,c8,r,e,h _ _ u⟩
 | .node l x y,p,⟨b,x1,x2,x3,y1,y2,y3,z1,z2,z3,pl,pr,i,e,u,hl,hx,hy⟩=>⟨b,x1,x2,x3,y1,y2,y3,z1,z2,z3,pl,pr,i,e,h _ _ u,hl.le h,RT.le h hx,RT.le h hy⟩
theorem RT.isS {t}(h:RT V p t):p.isSome=true:=by (cases t with|leaf i=>{obtain ⟨b,a,c,d,e,f,g,j,k,m,r,rfl,n⟩:=h;rfl}|node l x y=>{obtain ⟨b,o,q,s,u,v,w,z,A,B,pl,C,i,rfl,-⟩:=h;rfl})
theorem jg (i):À 173 #[Õ i] V λr W=>∃p,r=qvZ p/\RT W p (.leaf i):=
 LD V _ λc d b a=>⟨_,rfl,b,_,_,_,_,_,_,_,_,_,_,rfl,a⟩
theorem dQ {t}(h:RT V p t):À 104 #[qvZ p] V λr W=>r=Õ t.rB:=by (cases t with|leaf i=>{obtain ⟨b,g,j,k,m,n,o,q,s,u,r,rfl,c⟩:=h;exact qw V _ ⟨rfl,rfl,_,Is c 9 rfl,λd e=>rfl⟩}|node l x y=>{obtain ⟨b,v,w,z,A,B,C,D,E,F,pl,G,i,rfl,c,H,f,I⟩:=h;refine qw V _ ⟨rfl,rfl,_,Is c 9 rfl,λd e=>?_⟩;have:=f.isS;(cases pl with|none=>{cases this}|some a=>rfl)})
theorem Qy {q x y}(u:xB V v l.1 l.2.1 l.2.2)(E:RT V p x)(F:RT V q y):À 175 #[v,qvZ p,qvZ q] V λr W=>∃z,r=qvZ z/\RT W z (.node l x y):=by obtain ⟨d,e,f,g,h,i,j,k,m,rfl,-⟩:=id u;exact Ok V _ λn a b c=>⟨_,rfl,b,_,_,_,_,_,_,_,_,_,_,_,_,rfl,c,u.le a,E.le a,F.le a⟩
def YT (V:Ó)(v:Value)(l:L3):Prop:=RL V v l.1 l.2.1 l.2.2\/bX l=false/\∃b1 p n c xs b2 q m e ys b3 s i j u,v=.agg #[.bool b1,.slice p n c,.bool b2,.slice q m e,.bool b3,.slice s i j]/\RD V p n c xs/\RD V q m e ys/\RD V s i j u /\
 EI b1 xs b2 ys b3 u=false/\(xs.length<=1000000/\ys.length<=1000000/\u.length<=1000000)/\Sz 1000000 (bJ b1 xs:Rat)/\Sz 1000000 (bJ b2 ys:Rat)/\Sz 1000000 (bJ b3 u:Rat)
theorem YT.le {V V'}(h:YT V v l)(e:V.Le V'):YT V' v l:=by rcases h with h|⟨a,b1,p,n,c,xs,b2,q,m,b,d,b3,s,i,j,f,hv,g,k,o,r⟩;{exact .inl (h.le e)};{exact .inr ⟨a,b1,p,n,c,xs,b2,q,m,b,d,b3,s,i,j,f,hv,g.le e,k.le e,o.le e,r⟩}
theorem YT.ok (h:YT V v l)(u:bX l=true):RL V v l.1 l.2.1 l.2.2:=by rcases h with h|⟨h,-⟩;{exact h};{rw [u] at h;cases h}
theorem Hn {x}(h:YT V v x)(E:Bd x):À 174 #[v] V λr W=>∃w,r=æ #[w,Õ (bX x)]/\Wz w/\(bX x=true->xB W w x.1 x.2.1 x.2.2):=by rcases h with h|⟨a,b1,p,n,c,xs,b2,q,m,l,o,b3,s,i,j,t,rfl,b,d,e,f,⟨u,y,z⟩,s1,s2,s3⟩;{exact JS h E};{refine (BP b1 b2 b3 b d e ω ω ω s1 s2 s3).s ?_;rintro r V2 A ⟨w,rfl,g,k⟩;rw [f] at k ⊢;rw [a];exact ⟨w,rfl,g,λh=>by cases h⟩}
def NR (V:Ó)(vs:List Value)(l:List Nd):Prop:=∀(i:Nat)(d:Nd),l[i]?=some d->∃(b1:Bool)(u:OA)(y c1:Nat)(b2:Bool)(z:OA)(E F:Nat)(b3:Bool)(M:OA)(N O:Nat),
 (∀j v,([.bool b1,.slice u y c1,.bool b2,.slice z E F,.bool b3,.slice M N O,.int .i64 d.left,.int .i64 d.right]:List Value)[j]?=some v->vs[i*8+j]?=some v) /\
 YT V (.agg #[.bool b1,.slice u y c1,.bool b2,.slice z E F,.bool b3,.slice M N O]) d.ln
theorem NR.le {V V' vs l}(h:NR V vs l)(u:V.Le V'):NR V' vs l:=λi d a=>by
 obtain ⟨b1,b,c,e,b2,f,g,j,b3,k,m,n,o,p⟩:=h i d a;exact ⟨b1,b,c,e,b2,f,g,j,b3,k,m,n,o,p.le u⟩
structure NS (V:Ó) (p:OA) (n c:Nat) (l:List Nd):Prop where
 len:n=l.length
 cap:n<=c
 row:∃vs,V.sl p vs/\NR V vs l
 KM:p.isNone=true->c=0
theorem NS.le {V V' n c l}(h:NS V p n c l)(u:V.Le V'):NS V' p n c l:=by obtain ⟨a,b,⟨d,e,f⟩,g⟩:=h;exact ⟨a,b,⟨d,u.sl e,f.le u⟩,g⟩
theorem NS.isS {n c l}(h:NS V p n c l)(u:n≠0):p.isSome=true:=by (cases p with|none=>{have:=h.KM rfl;have:=h.cap;omega}|some a=>rfl)
def qP (l:List Bool):List Value:=l.map .bool
theorem Qu {l}{i:Nat}{b}(h:l[i]?=some b):(qP l)[i]?=some (Õ b):=by simp [qP,h]
end Go.Proofs.Tryz
