import Derived.LaidEql
import Derived.Stop.Asserts
import Derived.RowKitTokens
import Derived.Test.YtobpmgpnbbcgjaaGreatDoorG16
set_option linter.all false
open Go.IntKind (i64 u64 u32)
open Go.Value renaming slice→dB,agg→qvK,bool→Õ,pointer→qyQ,tuple→æ,int→Ô
open Go.Eng Go.Big
namespace Go.Proofs.Tryz
variable{V:Ó}{xs:List Value}{p:OA}{n:Nat}
theorem uY {a b:Rat}:cY a b<0↔a<b:=by
 rcases ct a b with ⟨h,e⟩|⟨h,e⟩|⟨h,e⟩<;>rw [e]<;>constructor<;>intro c<;>first|exact h|omega|(exfalso;grind)
theorem TM {q:Rat}(h:RQ V (.agg xs.toArray) q):∀v∈xs,v.oneCell'=true:=by obtain ⟨p,n,c,a,b,d,ex⟩:=h.shape;have ex:=Æ Array.toList (Value.agg.inj ex);dsimp only at ex;subst ex;intro v u;simp only [ê,ę,Ì] at u;rcases u with rfl|rfl|rfl<;>rfl
set_option maxHeartbeats 1000000 in
theorem Gp {c:Nat}{ss:zA Sp}(h:Na V p n ss)(hn:ss.length<100000000){k:Nat}(hs:∀s∈ss,s.sz k)(hk:2*k<2^38:=by omega):À 187 #[dB p n c] V λr W=>∃q m e,r=dB q m e/\bo 3 RQ W q m (à ss):=by
 obtain rfl:=h.len
 refine EB V _ ⟨λz V'=>∃i:Nat,z.2.2.2=(i:Int)/\i<=ss.length/\z.1=(à (ss.take i)).length/\z.1<=z.2.1/\z.2.1*3<=z.2.2.1.length/\é 3 RQ V' z.2.2.1 (à (ss.take i)),λz=>ss.length-z.2.2.2.toNat,
  ⟨(0,0,[],0),σ,0,rfl,á _,rfl,Ù _,Ù _,é.nil⟩,?_⟩
 rintro ⟨z1,z2,vs,z4⟩ V1 l1 ⟨i,e4,NB,e1,ic,hv,hx⟩;dsimp only at e4 e1 ic hv hx;subst e4;refine ⟨rfl,λf=>?_,λf iL dS bk hb=>?_⟩
 ·have f:(i:Int)<ss.length:=Á f;have hi:i<ss.length:=ω
  have w:i64.wrap ((i:Int)+1)=(i:Int)+1:=ao ω;dsimp only;rw [Ü,w];obtain ⟨ad,I,xs,hf,l⟩:=(h.le l1).at_ i hi;have A:=hs _ (ó hi);have v:=Lw hi
  have b0:(à (ss.take i)).length<300000000:=by have:=Fe (ss.take i);rw [è] at this;omega
  have a2:∀q∈à (ss.take i),Sz k q:=λq hq=>by have ⟨s,h1,h2⟩:=xi hq;have:=hs s (Qb3 h1);rcases h2 with rfl|rfl;{exact this.1};{exact this.2}
  generalize à (ss.take i)=o at *;generalize ss[i]=s at *;obtain ⟨b,K,L,M,N,P,Q,d,S,T,f1,U,W,f2,ex,b1,b2⟩:=hf;have ex:=Æ Array.toList (Value.agg.inj ex);dsimp only at ex;subst ex
  refine ⟨aK I,⟨ω,ω⟩,b,K,L,M,N,P,Q,d,S,T,f1,U,W,f2,s.a,s.b,ad,I,l 0 _ rfl,l 1 _ rfl,l 2 _ rfl,l 3 _ rfl,l 4 _ rfl,l 5 _ rfl,l 6 _ rfl,l 7 _ rfl,
   λz _=>z=(2,2,[Õ b,dB K L M,dB N P Q,Õ d,dB S T f1,dB U W f2],2,0),⟨(2,2,[Õ b,dB K L M,dB N P Q,Õ d,dB S T f1,dB U W f2],2,0),by and_intros<;>first|rfl|decide,rfl⟩,?_⟩
  rintro z V2 l2 rfl;dsimp only
  refine ⟨rfl,λz V'=>∃y:Nat,z.2.2.2=(y:Int)/\y<=2/\z.1=(eX s o y).length/\z.1<=z.2.1/\z.2.1*3<=z.2.2.1.length/\é 3 RQ V' z.2.2.1 (eX s o y),λz=>2-z.2.2.2.toNat,
   ⟨(z1,z2,vs,0),σ,0,rfl,ω,e1,ic,hv,hx.le λ_ _ g=>g.le l2⟩,?_⟩
  rintro ⟨C,w2,us,w4⟩ V3 l3 ⟨y,f4,X,Y,E,Z,F⟩;dsimp only at f4 Y E Z F;subst f4;refine ⟨rfl,λhy=>?_,λhy=>?_⟩
  ·have hy:(y:Int)<2:=Á hy;have a3:y<2:=ω
   have a0:=Mz (s:=s) (o:=o) a3;have b3:=FP (s:=s) (o:=o) X
   have Pp:∀q∈eX s o y,Sz k q:=λq hq=>by rcases FQ X hq with h|h|h;{rw [h];exact A.1};{rw [h];exact A.2};{exact a2 q h}
   have wy:i64.wrap ((y:Int)+1)=(y:Int)+1:=ao ω;generalize hO:eX s o y=O at *;generalize Qt:eX s o (y+1)=O' at *
   have el:∃eb ep en ec eq em ee x no,([Õ b,dB K L M,dB N P Q,Õ d,dB S T f1,dB U W f2].drop (y*3)).take 3=[Value.bool eb,dB ep en ec,dB eq em ee]/\RQ V3 (qvK #[Õ eb,dB ep en ec,dB eq em ee]) x/\Sz k x/\O'=(if no=true then O else cT x O) /\
     ((y=0/\no=s.a)\/(y=1/\no=s.b)):=by
    have:y=0\/y=1:=ω
    rcases this with rfl|rfl
    ·exact ⟨b,K,L,M,N,P,Q,s.lo,s.a,rfl,ra,A.1,a0,.inl ⟨rfl,rfl⟩⟩
    ·exact ⟨d,S,T,f1,U,W,f2,s.hi,s.b,rfl,ra,A.2,a0,.inr ⟨rfl,rfl⟩⟩
   obtain ⟨eb,ep,en,ec,eq,em,ee,x,no,a4,hq,sx,G,a5⟩:=el;dsimp only;rw [Ü,wy];refine ⟨⟨ω,ω⟩,Ù _,eb,ep,en,ec,eq,em,ee,⟨by simp;omega,a4⟩,λz _=>z=no,?_,?_⟩
   ·rcases a5 with ⟨rfl,rfl⟩|⟨rfl,rfl⟩;{exact ⟨λ_=>⟨λI=>⟨true,σ,I.symm⟩,λI=>⟨(λh=>by simp at h),λ_=>⟨false,σ,I.symm⟩⟩⟩,λh=>by simp at h⟩};{exact ⟨λh=>by simp at h,λ_=>⟨λ_=>⟨s.b,σ,rfl⟩,λh=>by simp at h⟩⟩}
   ·rintro z V4 l4 rfl;refine ⟨rfl,λu=>⟨(C,w2,us,(y:Int)+1),by dsimp only;omega,σ,y+1,rfl,ω,?_,E,Z,?_⟩,λu=>?_⟩;{show C=(eX s o (y+1)).length;rw [Qt,G,Ä u];exact Y};{show é 3 RQ V4 us (eX s o (y+1));rw [Qt,G,Ä u];exact F.le λ_ _ g=>g.le l4};{have H:O'=cT x O:=by{rw [G,u];rfl};refine ⟨λz _=>∃j:Nat,z=(j:Int)/\j<=O.length/\∀(D:Nat)(h:D<O.length),D<j->O[D]<x,λz=>O.length-z.toNat,⟨0,σ,0,rfl,á _,λD _ h=>Å h (ŋ D)⟩,?_⟩;rintro z V5 l5 ⟨j,rfl,qA,jl⟩;have wj:i64.wrap ((j:Int)+1)=(j:Int)+1:=ao ω;rw [Ü,wj];refine ⟨rfl,λz _=>z=true↔∃h:j<O.length,O[j]<x,⟨λf=>?_,λf=>⟨false,σ,?_⟩⟩,?_⟩;{have f:=Á f;have B:j<O.length:=ω;have ⟨rb,rp,rn,rc,rq,rm,re,eK,yS,hr⟩:=Hh F B;refine ⟨⟨ω,ω⟩,E,rb,rp,rn,rc,rq,rm,re,⟨eK,yS⟩,λV6 l6=>(ew ra ra (Pp _ (ó B)) sx).s λr V7 l7 rfl=>⟨_,rfl,_,σ,by dsimp only;rw [Ñ,uY];exact ⟨λh=>⟨B,h⟩,λ⟨_,h⟩=>h⟩⟩⟩};{have f:=Â f;exact ⟨π,λ⟨h,_⟩=>Å h ω⟩};{rintro z V8 l8 Jc;refine ⟨rfl,λu=>?_,λu=>?_⟩;{have ⟨B,a6⟩:=Jc.1 u;refine ⟨(j:Int)+1,by dsimp only;omega,σ,j+1,rfl,B,λD h b4=>?_⟩;by_cases e:D=j;{subst e;exact a6};{exact jl D h ω}};{have a7:∀h:j<O.length,¬O[j]<x:=λh h'=>by{have:=Jc.2 ⟨h,h'⟩;rw [u] at this;cases this};have t:=NF O j qA jl a7;refine ⟨λz _=>z=true↔¬∃h:j<O.length,O[j]=x,⟨λhe=>⟨true,σ,?_⟩,λhe=>?_⟩,?_⟩;{have he:(j:Int)=(C:Int):=by{simpa using he};exact ⟨λ_ ⟨h,_⟩=>Å h ω,λ_=>rfl⟩};{have he:¬(j:Int)=(C:Int):=by{simpa using he};have B:j<O.length:=ω;have ⟨rb,rp,rn,rc,rq,rm,re,eK,yS,hr⟩:=Hh F B;refine ⟨⟨ω,ω⟩,E,rb,rp,rn,rc,rq,rm,re,⟨eK,yS⟩,λV6 l6=>(ew ra ra (Pp _ (ó B)) sx).s λr V7 l7 rfl=>⟨_,rfl,_,σ,by dsimp only;rw [bne_iff_ne,ne_eq,<-fh];exact ⟨λh ⟨_,h'⟩=>h h',λh h'=>h ⟨B,h'⟩⟩⟩⟩};{rintro z fg dy qp;refine ⟨rfl,λu gT dX bk hb J=>?_,λu=>?_⟩;{have a8:=qp.1 u;rw [Ã a8] at t;obtain ⟨xs,ys,x1,x2,x3,y1,y2,y3,r1,r2,r3,r4,r5⟩:=rM (V:=gT) (R:=RQ) (GR.s ⟨Y,E,Z,F⟩ λ_ _ g=>g.le au) φ (λ_ _=>TM) hb (es:=[_,_,_]) rfl ra (j:=j);refine ⟨⟨ω,ω⟩,⟨ω,ω⟩,⟨ω,ω⟩,xs,x1,x2,ω,Ù _,Ù _,x2,x3,λb5 J2 sp c' h1 h2=>?_⟩;rw [r1,r2];(refine ⟨ys,y1,y2,Ù _,y3,ω,ω,r3,r4,λa9 a1 h3 h4=>⟨(j+(1+(C-j)),a1,_,(y:Int)+1),by dsimp only;omega,by and_intros<;>first|rfl|omega,y+1,rfl,ω,?_⟩⟩;have r6:=r5 a9 a1 h3 h4;rw [<-t,<-H,<-Qt] at r6;exact ⟨r6.len,r6.le,r6.cap,r6.row⟩)};{have hex:=Qj0 λh=>by{have:=qp.2 h;rw [u] at this;cases this};rw [Ä hex] at t;refine ⟨(C,w2,us,(y:Int)+1),by dsimp only;omega,σ,y+1,rfl,ω,?_,E,Z,?_⟩;{show C=(eX s o (y+1)).length;rw [Qt,H,t];exact Y};{show é 3 RQ fg us (eX s o (y+1));rw [Qt,H,t];exact F.le λ_ _ g=>g.le au}}}}}}
  ·have hy:¬(y:Int)<2:=Â hy;obtain rfl:y=2:=ω;exact ⟨(C,w2,us,(i:Int)+1),by dsimp only;omega,σ,i+1,rfl,hi,by dsimp only;rw [v];exact Y,E,Z,by dsimp only;rw [v];exact F⟩
 ·have f:¬(i:Int)<ss.length:=Â f;obtain rfl:i=ss.length:=ω;rw [ď] at e1 hx;subst e1;exact ⟨_,_,_,rfl,bo.bq hb (hx.le λ_ _ g=>g.le dS) φ ic⟩
def dF (cuts:List Rat)(i:Nat):Sp:=⟨if 0<i then cuts.getD (i-1) 0 else 0,if i<cuts.length then cuts.getD i 0 else 0,decide (i=0),decide (i=cuts.length)⟩
def xz (out:List Sp)(s:Sp):List Sp:=out.dropLast++[⟨(out.getLastD Sp.zero).lo,s.hi,(out.getLastD Sp.zero).a,s.b⟩]
def cD (cuts:List Rat)(marks:List Bool):Nat->List Sp
 | 0=>[]
 | i+1=>if marks.getD i false=true then (if 0<i/\marks.getD (i-1) false=true/\0<(cD cuts marks i).length then xz (cD cuts marks i) (dF cuts i) else cD cuts marks i++[dF cuts i]) else cD cuts marks i
def qm (cuts:List Rat)(marks:List Bool):List Sp:=cD cuts marks marks.length
theorem BB {out:zA Sp}{s:Sp}(h:0<out.length):(xz out s).length=out.length:=by grind [xz]
theorem Fm (cuts:zA Rat)(marks:zA md)(i:Nat):(cD cuts marks i).length<=i:=by
 induction i with
 | zero=>simp [cD]
 | succ i u=>
  unfold cD;split
  ·split;{rename_i h;rw [BB h.2.2];omega};grind
  ·omega
theorem TH {α:Type}{sz:Nat}{R:ut->un->α->Prop}{vs us:zA un}{ls:zA α}(h:é sz R V vs ls)(z:0<ls.length){a:α}(u:xs.length=sz)(y:R V (.agg xs.toArray) a)(hlow:∀q,q<(ls.length-1)*sz->us[q]?=vs[q]?)(hlast:∀j x,xs[j]?=some x->us[(ls.length-1)*sz+j]?=some x):é sz R V us (ls.dropLast++[a]):=by refine ⟨λi n=>?_⟩;have o:(ls.dropLast++[a]).length=ls.length:=by{rw [ë,List.length_dropLast];simp;omega};by_cases e:i=ls.length-1;{subst e;refine ⟨xs,u,?_,hlast⟩;have b:(ls.dropLast++[a])[ls.length-1]=a:=χ;rw [b];exact y};{have c:i<ls.length-1:=ω;have ⟨d,f,g,p⟩:=h.at_ i ω;refine ⟨d,f,?_,λj x k=>?_⟩;{have b:(ls.dropLast++[a])[i]=ls[i]:=χ;rw [b];exact g};{have l:=(Ġ.1 k).1;have m:i*sz+j<(ls.length-1)*sz:=by{have:(i+1)*sz<=(ls.length-1)*sz:=Ā _ ω;grind};grind}}
def RBl (_:Ó)(v:Value)(b:Bool):Prop:=v=.agg #[.bool b]
theorem XU {u:zA md}(h:bo 1 RBl V p n u){i:Nat}(hi:i<u.length):∃ad,ae p (i*1)=some ad/\V.at ad (Õ u[i]):=by obtain ⟨ad,b,xs,-,e,a⟩:=h.at_ i hi;have e:=Æ Array.toList (Value.agg.inj e);subst e;have:=a 0 _ rfl;grind [Addr.add]
theorem vN {s:Sp}(h:mb V (.agg xs.toArray) s):∃b p n c u y z d q m e D E F,xs=[Õ b,dB p n c,dB u y z,Õ d,dB q m e,dB D E F,Õ s.a,Õ s.b]/\RQ V (qvK #[Õ b,dB p n c,dB u y z]) s.lo/\RQ V (qvK #[Õ d,dB q m e,dB D E F]) s.hi:=by obtain ⟨_,_,_,_,_,_,_,_,_,_,_,_,_,_,ex,f,g⟩:=h;exact qxZ ⟨(Æ Array.toList (Value.agg.inj ex)),f,g⟩
theorem Hi (V:ut):RQ V (qvK #[Õ false,dB none 0 0,dB none 0 0]) 0:=by have:=RQ.zero (V:=V);simpa using this
set_option maxHeartbeats 1000000 in
theorem uQ {q:OA}{c m e:Nat}{cuts:zA Rat}{marks:zA md}(hc:bo 3 RQ V p n cuts)(hm:bo 1 RBl V q m marks)(hlen:marks.length=cuts.length+1)(hn:cuts.length<100000000:=by omega):À 103 #[dB p n c,dB q m e] V λr W=>∃p' n' c',r=dB p' n' c'/\bo 8 mb W p' n' (qm cuts marks):=by
 obtain rfl:=hc.len;obtain rfl:=hm.len
 refine Ex V _ ⟨λz V'=>∃i:Nat,z.2.2.2=(i:Int)/\i<=marks.length/\z.1=(cD cuts marks i).length/\z.1<=z.2.1/\z.2.1*8<=z.2.2.1.length/\é 8 mb V' z.2.2.1 (cD cuts marks i),λz=>marks.length-z.2.2.2.toNat,
  ⟨(0,0,[],0),σ,0,rfl,á _,rfl,Ù _,Ù _,é.nil⟩,?_⟩
 rintro ⟨f,z2,vs,z4⟩ V1 R ⟨i,e4,NB,P,L,hv,hx⟩;dsimp only at e4 P L hv hx;subst e4;refine ⟨rfl,λy=>?_,λy V5 l5 bk D=>?_⟩
 ·have y:(i:Int)<marks.length:=Á y;have hi:i<marks.length:=ω;have w:i64.wrap ((i:Int)+1)=(i:Int)+1:=ao ω;have b4:=Fm cuts marks i;have S:marks.getD i false=marks[i]:=by{rw [Ė,ñ hi];rfl};have T:marks[i]=false->cD cuts marks (i+1)=cD cuts marks i:=λh=>by{show (if marks.getD i false=true then _ else _)=_;rw [S,h];rfl};have l:marks[i]=true->cD cuts marks (i+1)=if 0<i/\marks.getD (i-1) false=true/\0<(cD cuts marks i).length then xz (cD cuts marks i) (dF cuts i) else cD cuts marks i++[dF cuts i]:=λh=>by{show (if marks.getD i false=true then _ else _)=_;rw [S,h];rfl};dsimp only;rw [Ü,w];have ⟨ad,ha,a0⟩:=XU (hm.le R λ_ _ g=>g) hi;refine ⟨aK ha,⟨ω,ω⟩,marks[i],⟨ad,ha,a0⟩,λD=>?_,λD=>?_⟩;{rw [Ľ] at D;exact ⟨(f,z2,vs,(i:Int)+1),by dsimp only;omega,σ,i+1,rfl,hi,by dsimp only;rw [T D];exact P,L,hv,by dsimp only;rw [T D];exact hx⟩};{rw [š] at D;have l:=l D;generalize cD cuts marks i=out at *;generalize hO:cD cuts marks (i+1)=out' at *;refine ⟨λz V'=>RQ V' (qvK #[Õ z.1,dB z.2.1 z.2.2.1 z.2.2.2.1,dB z.2.2.2.2.1 z.2.2.2.2.2.1 z.2.2.2.2.2.2.1]) ((dF cuts i).lo)/\RQ V' (qvK #[Õ z.2.2.2.2.2.2.2.1,dB z.2.2.2.2.2.2.2.2.1 z.2.2.2.2.2.2.2.2.2.1 z.2.2.2.2.2.2.2.2.2.2.1,dB z.2.2.2.2.2.2.2.2.2.2.2.1 z.2.2.2.2.2.2.2.2.2.2.2.2.1 z.2.2.2.2.2.2.2.2.2.2.2.2.2.1]) (0)/\z.2.2.2.2.2.2.2.2.2.2.2.2.2.2.1=decide (i=0)/\z.2.2.2.2.2.2.2.2.2.2.2.2.2.2.2=decide (i=cuts.length),⟨λs=>?_,λs=>⟨(false,none,0,0,none,0,0,false,none,0,0,none,0,0,(i:Int)==0,(i:Int)==(cuts.length:Int)),σ,?_⟩⟩,?_⟩;{have s:=Á s;have k:i-1<cuts.length:=ω;have U:i64.wrap ((i:Int)-1)=((i-1:Nat):Int):=by{rw [ao ω];omega};rw [U,Ü];have ⟨W,b1,p3,n3,c3,p4,n4,c4,t,A,b0,M,b2⟩:=Cf (hc.le R λ_ _ g=>g.le R) k;refine ⟨aK t,⟨ω,ω⟩,_,_,_,_,_,_,_,W,t,b0,M,b2,(b1,p3,n3,c3,p4,n4,c4,false,none,0,0,none,0,0,(i:Int)==0,(i:Int)==(cuts.length:Int)),σ,?_,Hi _,?_,?_⟩;{show RQ V1 _ (if 0<i then cuts.getD (i-1) 0 else 0);rw [Ä ω,jt k];exact A};{show ((i:Int)==0)=decide (i=0);rw [ķ,Ë,Ñ];omega};{show ((i:Int)==(cuts.length:Int))=decide (i=cuts.length);rw [ķ,Ë,Ñ];omega}};{have s:=Â s;refine ⟨?_,Hi _,?_,?_⟩;{show RQ V1 _ (if 0<i then cuts.getD (i-1) 0 else 0);rw [Ã ω];exact Hi _};{show ((i:Int)==0)=decide (i=0);rw [ķ,Ë,Ñ];omega};{show ((i:Int)==(cuts.length:Int))=decide (i=cuts.length);rw [ķ,Ë,Ñ];omega}};{rintro ⟨x1,x2,x3,x4,x5,x6,x7,x8,x9,a1,a2,a3,a4,a5,b5,b6⟩ V2 l2 ⟨hA,hB,hC,hD⟩;dsimp only at hA hB hC hD;subst hC hD;refine ⟨rfl,λz V'=>RQ V' (qvK #[Õ z.1,dB z.2.1 z.2.2.1 z.2.2.2.1,dB z.2.2.2.2.1 z.2.2.2.2.2.1 z.2.2.2.2.2.2.1]) ((dF cuts i).lo)/\RQ V' (qvK #[Õ z.2.2.2.2.2.2.2.1,dB z.2.2.2.2.2.2.2.2.1 z.2.2.2.2.2.2.2.2.2.1 z.2.2.2.2.2.2.2.2.2.2.1,dB z.2.2.2.2.2.2.2.2.2.2.2.1 z.2.2.2.2.2.2.2.2.2.2.2.2.1 z.2.2.2.2.2.2.2.2.2.2.2.2.2.1]) ((dF cuts i).hi)/\z.2.2.2.2.2.2.2.2.2.2.2.2.2.2.1=decide (i=0)/\z.2.2.2.2.2.2.2.2.2.2.2.2.2.2.2=decide (i=cuts.length),⟨λs=>?_,λs=>⟨(x1,x2,x3,x4,x5,x6,x7,x8,x9,a1,a2,a3,a4,a5,decide (i=0),decide (i=cuts.length)),σ,hA,?_,rfl,rfl⟩⟩,?_⟩;{have s:=Á s;have k:i<cuts.length:=ω;have ⟨W,b1,p3,n3,c3,p4,n4,c4,t,A,b0,M,b2⟩:=Cf (hc.le au λ_ _ g=>g.le (R.m l2)) k;refine ⟨aK t,⟨ω,ω⟩,_,_,_,_,_,_,_,W,t,b0,M,b2,(x1,x2,x3,x4,x5,x6,x7,b1,p3,n3,c3,p4,n4,c4,decide (i=0),decide (i=cuts.length)),σ,hA,?_,rfl,rfl⟩;show RQ V2 _ (if i<cuts.length then cuts.getD i 0 else 0);rw [Ä k,jt k];exact A};{have s:=Â s;show RQ V2 _ (if i<cuts.length then cuts.getD i 0 else 0);rw [Ã ω];exact hB};{rintro ⟨y1,y2,y3,y4,y5,y6,y7,E,F,G,H,I,u,J,b7,b8⟩ V3 l3 ⟨kA,kB,kC,kD⟩;dsimp only at kA kB kC kD;subst kC kD;refine ⟨rfl,λz _=>z=decide (0<i/\marks.getD (i-1) false=true/\0<out.length),⟨λs=>?_,λs=>⟨false,σ,?_⟩⟩,?_⟩;{have s:=Á s;have k:i-1<marks.length:=ω;have U:i64.wrap ((i:Int)-1)=((i-1:Nat):Int):=by{rw [ao ω];omega};have a6:marks.getD (i-1) false=marks[i-1]:=by{rw [Ė,ñ k];rfl};rw [U,Ü,a6];have ⟨W,t,X⟩:=XU (hm.le (R.m (l2.m l3)) λ_ _ g=>g) k;refine ⟨aK t,⟨ω,ω⟩,marks[i-1],⟨W,t,X⟩,λN=>⟨_,σ,?_⟩,λN=>⟨false,σ,?_⟩⟩;{dsimp only;rw [N,É];constructor;{intro h;exact ⟨ω,rfl,ω⟩};{rintro ⟨_,_,h⟩;omega}};{dsimp only;rw [N];simp}};{have s:=Â s;dsimp only;rw [È];rintro ⟨h,_⟩;omega};{rintro z V4 l4 rfl;have gA:mb V4 (qvK #[Õ y1,dB y2 y3 y4,dB y5 y6 y7,Õ E,dB F G H,dB I u J,Õ (decide (i=0)),Õ (decide (i=cuts.length))]) (dF cuts i):=qxZ ⟨rfl,ra,kB.le l4⟩;have B:=hx.le (V':=V4) λ_ _ g=>mb.le g au;refine ⟨rfl,λK=>?_,λK=>?_⟩;{have K:=Á K;rw [Ä K] at l;have U:i64.wrap ((f:Int)-1)=((f-1:Nat):Int):=by{rw [ao ω];omega};rw [U,Ü];have Y:=K.2.2;have b9:=B.eM φ;have Z:out.length-1<out.length:=ω;have a7:out.getLastD Sp.zero=out[out.length-1]:=by{rw [Wy4,List.getLast?_eq_getElem?,ñ Z];rfl};obtain ⟨c0,-,a8,a9⟩:=B.at_ (out.length-1) Z;obtain ⟨b,s1,s2,s3,s4,s5,s6,d,t1,t2,t3,t4,t5,t6,ex,A,c1⟩:=vN a8;subst ex;have sv:=lK (vs:=vs) (xs:=[Õ E,dB F G H,dB I u J]) (o:=(f-1)*8+3) (by simp only [Ą,İ];omega);have b3:(bD vs ((f-1)*8+3) [Õ E,dB F G H,dB I u J]).length=vs.length:=by{rw [sv];simp only [ë,è,ī,Ą,İ];omega};have sg:∀r,r<(f-1)*8+3\/(f-1)*8+6<=r->(bD vs ((f-1)*8+3) [Õ E,dB F G H,dB I u J])[r]?=vs[r]?:=by{intro r hr;rw [sv,Ĕ];have Q:(vs.take ((f-1)*8+3)).length=(f-1)*8+3:=by{rw [è];omega};rcases hr with hr|hr;{rw [į ω,Ħ,Ä hr]};{rw [Ň ω,Ň (by rw [Q];simp only [Ą,İ];omega),Qm4,Q];congr 1;simp only [Ą,İ];omega}};have sm:∀j x,([Õ E,dB F G H,dB I u J]:zA un)[j]?=some x->(bD vs ((f-1)*8+3) [Õ E,dB F G H,dB I u J])[(f-1)*8+3+j]?=some x:=by{intro j x C;have O:=(Ġ.1 C).1;have Q:(vs.take ((f-1)*8+3)).length=(f-1)*8+3:=by{rw [è];omega};rw [sv,Ĕ,Ň ω,Q,Qn6,į O];exact C};generalize bD vs ((f-1)*8+3) [Õ E,dB F G H,dB I u J]=us at *;refine ⟨⟨ω,ω⟩,L,ω,⟨ω,ω⟩,L,ω,(f,z2,us.set ((f-1)*8+7) (Õ (decide (i=cuts.length))),(i:Int)+1),by dsimp only;omega,σ,i+1,rfl,hi,?_,L,?_,?_⟩;{dsimp only;rw [hO,l,BB Y];exact P};{dsimp only;rw [Qf3,b3];exact hv};{dsimp only;rw [hO,l];unfold xz;rw [a7];refine TH B Y (xs:=[Õ b,dB s1 s2 s3,dB s4 s5 s6,Õ E,dB F G H,dB I u J,Õ out[out.length-1].a,Õ (dF cuts i).b]) rfl (qxZ ⟨rfl,A,ra⟩) ?_ ?_;{intro r hr;rw [Qm3 ω,sg r ω]};{intro j x C;have O:=(Ġ.1 C).1;have c2:j<8:=O;by_cases h7:j=7;{subst h7;rw [show (out.length-1)*8+7=(f-1)*8+7 by omega,Qs6 ω];exact C};{rw [Qm3 ω];by_cases h3:j<3\/j=6;{rw [sg _ ω];have hc:=a9 j x;have:j=0\/j=1\/j=2\/j=6:=ω;rcases this with rfl|rfl|rfl|rfl<;>exact hc C};{have:j=3\/j=4\/j=5:=ω;rcases this with rfl|rfl|rfl;{have:=sm 0 x C;rw [show (out.length-1)*8+3=(f-1)*8+3+0 by omega];exact this};{have:=sm 1 x C;rw [show (out.length-1)*8+4=(f-1)*8+3+1 by omega];exact this};{have:=sm 2 x C;rw [show (out.length-1)*8+5=(f-1)*8+3+2 by omega];exact this}}}}}};{have K:=Â K;rw [Ã K] at l;refine ⟨ω,L,hv,rfl,?_,λsp c' h1 h2=>⟨(f+1,c',_,(i:Int)+1),by dsimp only;omega,σ,i+1,rfl,hi,?_,h1,?_,?_⟩⟩;{intro v xr;simp only [ê,ę,Ì] at xr;rcases xr with rfl|rfl|rfl|rfl|rfl|rfl|rfl|rfl<;>rfl};{dsimp only;rw [hO,l,ë,P];rfl};{dsimp only;have Q:(vs.take (f*8)).length=f*8:=by{rw [è];omega};rw [ë,ë,Q];simp only [Ą,İ];omega};{dsimp only;rw [hO,l];have:=B.snoc (sp:=sp) rfl gA φ;rw [<-P] at this;exact this}}}}}}
 ·have y:¬(i:Int)<marks.length:=Â y;obtain rfl:i=marks.length:=ω;subst P;exact ⟨_,_,_,rfl,bo.bq D (hx.le λ_ _ g=>mb.le g l5) φ L⟩
end Go.Proofs.Tryz
namespace Go.Proofs.Tryz
def Y2 {a b:zA Rat}{i:Nat}(h:i<a.length:=by omega):(a++b).getD i 0=a.getD i 0:=χ
def asc (c:List Rat):Prop:=c.Pairwise (·< ·)
theorem qu {x q:Rat}:∀{o:zA Rat},q∈cT x o↔q=x\/q∈o:=by
 intro o
 induction o with
 | nil=>simp [cT]
 | cons y r u=>
  unfold cT;split
  ·grind
  ·split;{rename_i e;subst e;exact ⟨.inr,λh=>h.elim (λe=>by subst e;simp) id⟩};{rw [ê]}
theorem Bu {x:Rat}:∀{o:zA Rat},asc o->asc (cT x o):=by
 intro o
 induction o with
 | nil=>intro _;simp [cT,asc]
 | cons y r u=>
  intro h;have ⟨d,a⟩:=ħ.1 h;unfold cT;split
  ·rename_i c;refine ħ.2 ⟨λq b=>?_,u a⟩<;>grind [qu.1]
  ·split;{exact h};{rename_i e f;refine ħ.2 ⟨λq b=>?_,h⟩<;>grind}
def Sp.cQ (s:Sp)(q:Rat):Prop:=(s.a=false/\q=s.lo)\/(s.b=false/\q=s.hi)
theorem TX {s:Sp}{o:zA Rat}{q:Rat}:q∈eX s o 2↔s.cQ q\/q∈o:=by show q∈(if s.b=true then (if s.a=true then o else cT s.lo o) else cT s.hi (if s.a=true then o else cT s.lo o))↔_;unfold Sp.cQ;cases s.a<;>cases s.b<;>simp [qu];grind
theorem TW {s:Sp}{o:zA Rat}(h:asc o):asc (eX s o 2):=by show asc (if s.b=true then (if s.a=true then o else cT s.lo o) else cT s.hi (if s.a=true then o else cT s.lo o));cases s.a<;>cases s.b<;>simp [Bu,h]
def Ff:∀(ss:zA Sp)(o:zA Rat),(asc o->asc (ss.foldl (λo s=>eX s o 2) o))/\∀q,q∈(ss.foldl (λo s=>eX s o 2) o)↔q∈o\/∃s∈ss,s.cQ q:=by
 intro ss
 induction ss<;>grind [TW,TX]
def Bg (ss:zA Sp):asc (à ss):=(Ff ss []).1 List.Pairwise.nil
def eU {ss:zA Sp}{q:Rat}:q∈à ss↔∃s∈ss,s.cQ q:=by have:=(Ff ss []).2 q;simpa [à] using this
section
variable {c:List Rat} (h:asc c)
include h
theorem wN {i j:Nat}(hij:i<j)(u:j<c.length):c.getD i 0<c.getD j 0:=by rw [jt,jt u];exact Qm2.1 h i j ω u hij
theorem QM {i j:Nat}(hij:i<=j)(u:j<c.length):c.getD i 0<=c.getD j 0:=by rcases Ē i j with a|a;{have:=wN h a u;grind};grind
omit h
theorem Vl {i:Nat}{t:Rat}:(dF c i).inn t↔(0<i->c.getD (i-1) 0<t)/\(i≠c.length->i<c.length->t<c.getD i 0)/\(i≠c.length->c.length<i->t<0):=by unfold dF Sp.inn;grind
theorem qo {i:Nat}(hi:i<=c.length:=by omega){t:Rat}:(dF c i).inn t↔(0<i->c.getD (i-1) 0<t)/\(i<c.length->t<c.getD i 0):=by grind [Vl]
include h
theorem R5 {i:Nat}(hi:i<=c.length):(dF c i).good:=by refine ⟨⟨λe=>?_,λe=>?_⟩,Sp.iu.2 ?_⟩;{have e:=Á e;subst e;rfl};{have e:=Á e;subst e;exact Ã (Wq9 _)};{by_cases a:i=0;{exact .inl (Ç a)};{by_cases b:i=c.length;{exact .inr (.inl (Ç b))};{refine .inr (.inr ?_);show (if 0<i then c.getD (i-1) 0 else 0)<(if i<c.length then c.getD i 0 else 0);grind [wN]}}}
theorem R4 {t:Rat}(y:t∉c):∃i,i<=c.length/\(dF c i).inn t:=by
 have key:∀k,k<=c.length->(∀j,j<k->c.getD j 0<t)\/∃i,i<=c.length/\(dF c i).inn t:=by
  intro k
  induction k with
  | zero=>exact λ_=>.inl λj b=>Å b (ŋ j)
  | succ k u=>
   intro e;rcases u ω with g|g
   ·by_cases d:c.getD k 0<t;{grind};{refine .inr ⟨k,ω,(qo).2 ⟨λa=>g _ ω,λ_=>?_⟩⟩<;>grind}
   ·exact .inr g
 rcases key c.length (Ù _) with g|g
 ·exact ⟨c.length,Ù _,(qo (Ù _)).2 ⟨λa=>g _ ω,λa=>ω⟩⟩
 ·exact g
theorem lg {i:Nat}(hi:i<=c.length){t u x:Rat}(y:(dF c i).inn t)(hu:(dF c i).inn u)(z:x∈c):(x<t↔x<u)/\(t<x↔u<x)/\x≠t:=by obtain ⟨t1,t2⟩:=(qo hi).1 y;obtain ⟨d,e⟩:=(qo hi).1 hu;obtain ⟨j,b,rfl⟩:=Qf4 z;rcases Ē j i with a|a;{have:=QM h (show j<=i-1 by omega) ω;grind};{have:=QM h a b;grind}
theorem JL {i:Nat}(hi:i<=c.length):(dF c i).inn ((aX c).getD i 0):=by rw [qo hi];unfold aX;by_cases a:c.length=0;{exact ⟨λ_=>ω,λ_=>ω⟩};{rw [Ã a];have b:=BV c (show 1<=c.length by omega);by_cases d:i=c.length;{grind};{rw [Y2];unfold DY;by_cases e:i=0;{grind};{obtain ⟨m,rfl⟩:∃m,i=m+1:=⟨i-1,ω⟩;have:=wN h (show m<m+1 by omega) ω;grind}}}
omit h
theorem dZ:(aX c).length=c.length+1:=by unfold aX;grind [BV]
end
section
variable {c:List Rat} {ms:List Bool}
structure FI (c:List Rat) (ms:List Bool) (i:Nat):Prop where
 r:tu (cD c ms i)
 mem:∀t,t∉c->(yX (cD c ms i) t↔∃j,j<i/\ms.getD j false=true/\(dF c j).inn t)
 top:0<i->i<=c.length->∀s∈cD c ms i,s.b=false/\s.hi<=c.getD (i-1) 0
 str:0<i->i<=c.length->ms.getD (i-1) false=false->∀s∈cD c ms i,s.hi<c.getD (i-1) 0
 last:0<i->i<=c.length->ms.getD (i-1) false=true->∃l0 l,cD c ms i=l0++[l]/\l.hi=c.getD (i-1) 0
theorem xC {ss:zA Sp}{s:Sp}{t:Rat}:yX (ss++[s]) t↔yX ss t\/s.inn t:=by constructor;{rintro ⟨x,a,b⟩;rcases ø.1 a with a|a;{exact .inl ⟨x,a,b⟩};grind};{rintro (⟨x,a,b⟩|b);{exact ⟨x,by simp [a],b⟩};{exact ⟨s,ψ,b⟩}}
theorem vI {ss:zA Sp}{s:Sp}(h:tu ss)(u:s.good)(z:∀x∈ss,x.K7 s):tu (ss++[s]):=by refine ⟨λx a=>?_,Qg4.2 ⟨h.2,ψ,λx a y b=>?_⟩⟩;{rcases ø.1 a with a|a;{exact h.1 x a};grind};grind
theorem JV {ss:zA Sp}{s:Sp}(h:tu (ss++[s])):tu ss/\s.good/\∀x∈ss,x.K7 s:=by obtain ⟨b,-,c⟩:=Qg4.1 h.2;exact ⟨⟨λx a=>h.1 x (by simp [a]),b⟩,h.1 s ψ,λx a=>c x a s ψ⟩
theorem Gz {P:Nat->Prop}{i:Nat}:(∃j,j<i+1/\P j)↔(∃j,j<i/\P j)\/P i:=χ
theorem Vf (h:asc c){i:Nat}(hi:i<=c.length)(F:FI c ms i):FI c ms (i+1):=by have A:=R5 h hi;have D:i<c.length->(dF c i).hi=c.getD i 0:=λj=>Ä j;have E:0<i->(dF c i).lo=c.getD (i-1) 0:=λj=>Ä j;have B:0<i->(dF c i).a=false:=λj=>È ω;have I:i<c.length->(dF c i).b=false:=λj=>È ω;by_cases hm:ms.getD i false=true;{have y:¬ms.getD i false=false:=by{rw [hm];decide};by_cases j:0<i/\ms.getD (i-1) false=true;{have ⟨L,l,el,G⟩:=F.last j.1 hi j.2;have e:cD c ms (i+1)=L++[⟨l.lo,(dF c i).hi,l.a,(dF c i).b⟩]:=by{rw [cD,Ä hm,Ä ⟨j.1,j.2,by rw [el];simp⟩,el];simp [xz]};have J:=F.r;rw [el] at J;have ⟨f1,f2,f3⟩:=JV J;have m:=(F.top j.1 hi l (by rw [el];simp)).1;have q:(⟨l.lo,(dF c i).hi,l.a,(dF c i).b⟩:Sp).good:=by{refine ⟨⟨f2.1.1,A.1.2⟩,Sp.iu.2 ?_⟩;(cases Z:l.a with|true=>exact .inl rfl|false=>{(cases w:(dF c i).b with|true=>exact .inr (.inl rfl)|false=>{have n:=nJ f2.2 Z m;have u:=nJ A.2 (B j.1) w;exact .inr (.inr χ)})})};refine ⟨?_,λt v=>?_,λ_ d s f=>?_,λ_ d k=>?_,λ_ d _=>?_⟩;{rw [e];exact vI f1 q λx k=>⟨(f3 x k).1,(f3 x k).2.1,(f3 x k).2.2⟩};{rw [e,Gz,<-F.mem t v,xC,el,xC,or_assoc];refine or_congr Wk0 ?_;have M:(dF c i).inn t↔c.getD (i-1) 0<t/\((dF c i).b=true\/t<(dF c i).hi):=by{unfold Sp.inn;rw [B j.1,E j.1];simp};have K:t≠c.getD (i-1) 0:=by{rintro rfl;rw [jt] at v;exact v (ó _)};show (l.a=true\/l.lo<t)/\((dF c i).b=true\/t<(dF c i).hi)↔((l.a=true\/l.lo<t)/\(l.b=true\/t<l.hi))\/_;rw [G,m];have n:l.a=true\/l.lo<c.getD (i-1) 0:=by{(cases Z:l.a with|true=>exact .inl rfl|false=>{have:=nJ f2.2 Z m;rw [G] at this;exact .inr this})};have u:(dF c i).b=true\/c.getD (i-1) 0<(dF c i).hi:=by{(cases w:(dF c i).b with|true=>exact .inl rfl|false=>{have:=nJ A.2 (B j.1) w;rw [E j.1] at this;exact .inr this})};constructor;{rintro ⟨C,o⟩;by_cases g:t<c.getD (i-1) 0;{exact .inl ⟨C,.inr g⟩};{exact .inr ⟨hm,χ,o⟩}};{rintro (⟨C,o⟩|⟨-,C,o⟩);{have N:t<c.getD (i-1) 0:=by{rcases o with o|o;{cases o};{exact o}};exact ⟨C,u.imp_right λu=>χ⟩};{exact ⟨n.imp_right λn=>χ,o⟩}}};{rw [e] at f;rcases ø.1 f with f|f;{have b:=f3 s f;refine ⟨b.1,?_⟩;have n:l.lo<c.getD (i-1) 0:=by{have:=nJ f2.2 b.2.1 m;rwa [G] at this};have u:=wN h (show i-1<i by omega) d;have:=b.2.2;grind};{obtain rfl:s=_:=by{simpa using f};refine ⟨I d,?_⟩;rw [D d];grind}};{rw [Qc8] at k;exact Å k y};grind};{have e:cD c ms (i+1)=cD c ms i++[dF c i]:=by{rw [cD,Ä hm,Ã (λg=>j ⟨g.1,g.2.1⟩)]};have w:∀x∈cD c ms i,x.K7 (dF c i):=λx k=>by{by_cases p:0<i;{have H:ms.getD (i-1) false=false:=by{(cases hq:ms.getD (i-1) false with|false=>rfl|true=>exact Å ⟨p,hq⟩ j)};exact ⟨(F.top p hi x k).1,B p,by rw [E p];exact F.str p hi H x k⟩};{obtain rfl:i=0:=ω;cases k}};refine ⟨?_,λt v=>?_,λ_ d s f=>?_,λ_ d k=>?_,λ_ d _=>?_⟩;{rw [e];exact vI F.r A w};{rw [e,Gz,<-F.mem t v,xC];exact or_congr Wk0 ⟨λg=>⟨hm,g⟩,λg=>g.2⟩};{rw [e] at f;rcases ø.1 f with f|f;{refine ⟨(w s f).1,?_⟩;by_cases p:0<i;{have n:=(F.top p hi s f).2;have u:=wN h (show i-1<i by omega) d;grind};{obtain rfl:i=0:=ω;cases f}};{obtain rfl:s=_:=by{simpa using f};refine ⟨I d,?_⟩;rw [D d];grind}};{rw [Qc8] at k;exact Å k y};{rw [Qc8];exact ⟨_,_,e,D d⟩}}};{have e:cD c ms (i+1)=cD c ms i:=by{rw [cD,Ã hm]};have z:i<c.length->∀s∈cD c ms i,s.b=false/\s.hi<c.getD i 0:=λd s f=>by{by_cases p:0<i;{have ⟨n,u⟩:=F.top p hi s f;have O:=wN h (show i-1<i by omega) d;exact ⟨n,χ⟩};{obtain rfl:i=0:=ω;cases f}};refine ⟨by rw [e];exact F.r,λt v=>?_,λ_ d s f=>?_,λ_ d k s f=>?_,λ_ d k=>?_⟩;{rw [e,Gz,F.mem t v];exact ⟨.inl,λg=>g.elim id λg=>Å g.1 hm⟩};{rw [e] at f;have ⟨n,u⟩:=z d s f;exact ⟨n,χ⟩};{rw [e] at f;exact (z d s f).2};{rw [Qc8] at k;exact Å k hm}}
theorem fi (h:asc c):∀{i:Nat},i<=c.length+1->FI c ms i:=by
 intro i
 induction i with
 | zero=>exact λ_=>⟨⟨Ū,List.Pairwise.nil⟩,(λt _=>⟨(λ⟨_,h,_⟩=>by cases h),(λ⟨_,h,_⟩=>Å h (ŋ _))⟩),(λh=>Å h (Wq9 _)),(λh=>Å h (Wq9 _)),(λh=>Å h (Wq9 _))⟩
 | succ i u=>exact λa=>Vf h ω (u ω)
end
def Sp.innB (s:Sp)(t:Rat):Bool:=(s.a||decide (s.lo<t))&&(s.b||decide (t<s.hi))
variable{ss:List Sp}
def í (ss:List Sp)(t:Rat):Bool:=ss.any λs=>s.innB t
theorem innB_iff {s:Sp}{t:Rat}:s.innB t=true↔s.inn t:=by unfold Sp.innB Sp.inn;simp
theorem kq {t:Rat}:í ss t=true↔yX ss t:=by unfold í yX;rw [Qh3];exact ⟨λ⟨s,a,b⟩=>⟨s,a,innB_iff.1 b⟩,λ⟨s,a,b⟩=>⟨s,a,innB_iff.2 b⟩⟩
theorem zW {a b:md}(h:a=true↔b=true):a=b:=by cases a<;>cases b<;>simp at h<;>rfl
theorem U5 {t:Rat}(h:∀s∈ss,¬s.cQ t):(sF ss t==2)=í ss t:=by
 induction ss with
 | nil=>rfl
 | cons s r y=>
  have f:=h s ψ
  have c:s.innB t=decide (yQ (s.la t) (s.lb t)=2)/\(yQ (s.la t) (s.lb t)≠0->yQ (s.la t) (s.lb t)=2):=by unfold Sp.cQ at f;unfold Sp.innB Sp.la Sp.lb yQ;rcases ct t s.lo with ⟨g,d⟩|⟨g,d⟩|⟨g,d⟩<;>rcases ct t s.hi with ⟨u,e2⟩|⟨u,e2⟩|⟨u,e2⟩<;>rw [d,e2]<;>cases z:s.a<;>cases c:s.b<;>simp at f⊢<;>grind
  have e:í (s::r) t=(s.innB t||í r t):=rfl;rw [e,<-(y λx j=>h x (by simp [j])),c.1];by_cases i:yQ (s.la t) (s.lb t)=0
  ·simp [sF,i]
  ·have:=c.2 i;simp [sF,this]
def Ğ (op:Int)(x y:Bool):Bool:=if op=2 then x&&y else if op=3 then x&&!y else if op=4 then x != y else x||y
def iU (op:Int)(a b:List Sp)(c:List Rat):List Bool:=(aX c).map λt=>Ğ op (sF a t==2) (sF b t==2)
def Ú (op:Int)(a b:List Sp):List Sp:=qm (à (a++b)) (iU op a b (à (a++b)))
theorem kM (op:Int)(a b:zA Sp)(c:zA Rat):(iU op a b c).length=c.length+1:=by unfold iU;rw [ĉ,dZ]
theorem comb_reg (op:Int)(a b:zA Sp):tu (Ú op a b):=by unfold Ú qm;rw [kM];exact (fi (Bg _) (Ù _)).r
theorem Vk {c:zA Rat}(h:asc c)(z:∀s∈ss,∀q,s.cQ q->q∈c){i:Nat}(hi:i<=c.length){t u:Rat}(y:(dF c i).inn t)(hu:(dF c i).inn u):í ss t=í ss u:=by
 induction ss with
 | nil=>rfl
 | cons s r F=>
  have e:∀t,í (s::r) t=(s.innB t||í r t):=λ_=>rfl;rw [e,e,(F λx f=>z x (by simp [f]))];congr 1;have d:=z s ψ;unfold Sp.innB;cases D:s.a<;>cases E:s.b<;>simp
  ·have g:=lg h hi y hu (d s.lo (.inl ⟨D,rfl⟩));have j:=lg h hi y hu (d s.hi (.inr ⟨E,rfl⟩));grind
  ·exact (lg h hi y hu (d s.lo (.inl ⟨D,rfl⟩))).1
  ·exact (lg h hi y hu (d s.hi (.inr ⟨E,rfl⟩))).2.1
theorem comb_inB (op:Int)(a b:zA Sp){t:Rat}(u:t∉à (a++b)):í (Ú op a b) t=Ğ op (í a t) (í b t):=by have e:=Bg (a++b);have f:∀s∈a++b,∀q,s.cQ q->q∈à (a++b):=λs d q k=>eU.2 ⟨s,d,k⟩;unfold Ú qm;generalize à (a++b)=c at u e f;rw [kM];have l:∀s∈a,∀q,s.cQ q->q∈c:=λs d=>f s (by simp [d]);have m:∀s∈b,∀q,s.cQ q->q∈c:=λs d=>f s (by simp [d]);have mk:∀j,j<=c.length->(dF c j).inn t->(iU op a b c).getD j false=Ğ op (í a t) (í b t):=λj g n=>by{have h:=JL e g;have i:(aX c).getD j 0∉c:=λhm=>(lg e g h h hm).2.2 rfl;grind [iU,dZ,U5,Vk]};refine zW ?_;rw [kq,(fi e (Ù _)).mem t u];grind [R4]
theorem reg_eq {xs ys:zA Sp}(E:zA Rat)(u:tu xs)(y:tu ys)(h:∀t,t∉E->í xs t=í ys t):xs=ys:=
 Mn (E:=E) u y λt a=>by rw [<-kq,<-kq,h t a]
end Go.Proofs.Tryz
namespace Go.Proofs.Tryz
section
variable {α:Type}
structure Ō (c:α->α->Int):Prop where
 Yp:∀a b,c a b<0->¬c b a<0
 tr:∀a b d,¬c a b<0->¬c b d<0->¬c a d<0
variable {c:α->α->Int}
theorem Ō.refl (h:Ō c)(a:α):¬c a a<0:=λl=>h.Yp a a l l
def Hq (d:α)(l:List α)(i j:Nat):List α:=(l.set i (l.getD j d)).set j (l.getD i d)
variable {d:α}
theorem Hr {l:zA α}{i j:Nat}:(Hq d l i j).length=l.length:=by simp [Hq]
theorem vk {l:zA α}{i k:Nat}{x:α}(hi:i<l.length):(l.set i x).getD k d=if k=i then x else l.getD k d:=by simp only [Ė,Qp6];by_cases h:k=i;{subst h;simp [hi]};{have:¬i=k:=λe=>h e.symm;simp [h,this]}
theorem xK {l:zA α}{i j k:Nat}(hi:i<l.length)(u:j<l.length:=by omega):(Hq d l i j).getD k d=if k=j then l.getD i d else if k=i then l.getD j d else l.getD k d:=by unfold Hq;rw [vk (by simpa using u),vk hi]
theorem T4 {l:zA α}{i j:Nat}(hi:i<l.length)(u:j<l.length:=by omega):(Hq d l i j).Perm l:=by have e:(l.toArray.swap i j (by simpa using hi) (by simpa using u)).toList=Hq d l i j:=by{simp [Array.swap,Hq,Ė,hi,u]};have:=(Array.swap_perm (xs:=l.toArray) (i:=i) (j:=j) (by simpa using hi) (by simpa using u)).toList;rw [e] at this;simpa using this
structure tG (d:α) (l m:List α) (a b:Nat):Prop where
 len:m.length=l.length
 out:∀k,¬(a<=k/\k<b)->m.getD k d=l.getD k d
 mem:∀k,a<=k->k<b->∃k',a<=k'/\k'<b/\m.getD k d=l.getD k' d
 perm:m.Perm l
theorem tG.refl (l:zA α)(a b:Nat):tG d l l a b:=⟨rfl,λ_ _=>rfl,λk h c=>⟨k,h,c,rfl⟩,.refl _⟩
theorem tG.m {l m n:zA α}{a b:Nat}(h:tG d l m a b)(g:tG d m n a b):tG d l n a b:=
 ⟨g.len.m h.len,λk f=>(g.out k f).m (h.out k f),λk i j=>by
  have ⟨o,p,q,e⟩:=g.mem k i j;have ⟨c,r,s,t⟩:=h.mem o p q;exact ⟨c,r,s,e.m t⟩,g.perm.m h.perm⟩
theorem tG.wide {l m:zA α}{a b u b':Nat}(h:tG d l m a b)(y:u<=a)(z:b<=b'):tG d l m u b':=
 ⟨h.len,λk c=>h.out k ω,λk f g=>by
  by_cases c:a<=k/\k<b
  ·have ⟨i,j,n,e⟩:=h.mem k c.1 c.2;exact ⟨i,ω,ω,e⟩
  ·exact ⟨k,f,g,h.out k c⟩,h.perm⟩
theorem tG.Hq {l:zA α}{a b i j:Nat}(hi:a<=i)(u:i<b)(z:a<=j)(y:j<b)(D:b<=l.length:=by omega):tG d l (Hq d l i j) a b:=by refine ⟨Hr,λk f=>?_,λk c e=>?_,T4 ω⟩;{rw [xK ω,Ã ω,Ã ω]};{rw [xK ω];split;{exact ⟨i,hi,u,rfl⟩};{split;{exact ⟨j,z,y,rfl⟩};{exact ⟨k,c,e,rfl⟩}}}
def oY (c:α->α->Int)(d:α)(l:List α)(a b:Nat):Prop:=∀p q,a<=p->p<q->q<b->¬c (l.getD q d) (l.getD p d)<0
theorem oY.short {l:zA α}{a b:Nat}(h:b<=a+1):oY c d l a b:=λp q e f g=>ω
def WX (c:α->α->Int)(d:α)(l:List α)(a i j:Nat):Prop:=∀p q,a<=p->p<q->q<=i->q≠j->¬c (l.getD q d) (l.getD p d)<0
theorem WX.start {l:zA α}{a i:Nat}(h:oY c d l a i):WX c d l a i i:=λp q b e f g=>h p q b e ω
theorem WX.done (y:Ō c){l:zA α}{a i j:Nat}(h:WX c d l a i j)(hji:j<=i)(u:j<=a\/¬c (l.getD j d) (l.getD (j-1) d)<0):oY c d l a (i+1):=by intro p q b f k;by_cases e:q=j;{subst e;rcases u with u|u;{omega};{by_cases g:p=q-1;{subst g;exact u};{exact y.tr _ _ _ u (h p (q-1) b ω ω ω)}}};{exact h p q b f ω e}
theorem WX.move (u:Ō c){l:zA α}{a i j:Nat}(h:WX c d l a i j)(z:a<j)(hji:j<=i)(hi:i<l.length)(y:c (l.getD j d) (l.getD (j-1) d)<0):WX c d (Hq d l j (j-1)) a i (j-1):=by intro p q g n f o;have m:=λk=>xK (d:=d) (l:=l) (i:=j) (j:=j-1) (k:=k) ω;rw [m,m];by_cases eq:q=j;{subst eq;rw [Ã ω,Ä rfl];by_cases b:p=q-1;{rw [Ä b];exact u.Yp _ _ y};{rw [Ã b,Ã ω];exact h p (q-1) g ω ω ω}};{rw [Ã o,Ã eq];by_cases b:p=j-1;{rw [Ä b];exact h j q ω ω f eq};{rw [Ã b];by_cases e:p=j;{rw [Ä e];exact h (j-1) q ω ω f eq};{rw [Ã e];exact h p q g n f eq}}}
end
end Go.Proofs.Tryz
namespace Go.Proofs.Tryz
variable{k:Int}
abbrev oZ:=Rat×Int×Int
def jS (k:Int)(s:Sp):List oZ:=(if s.a then [] else [(s.lo,k,1)])++(if s.b then [] else [(s.hi,k,-1)])
def qg (A B:List Sp):List oZ:=A.flatMap (jS 0)++B.flatMap (jS 1)
def mY:List Sp->Int
 | []=>0
 | s::r=>(if s.a then 1 else 0)+mY r
def mR (k:Int):List oZ->Rat->Int
 | [],_=>0
 | c::r,t=>(if c.2.1=k/\c.1<t then c.2.2 else 0)+mR k r t
def iD (k:Int):List oZ->Int
 | []=>0
 | c::r=>(if c.2.1=k then c.2.2 else 0)+iD k r
theorem P9 {t:Rat}{l m:zA oZ}(h:l.Perm m):mR k l t=mR k m t:=by induction h<;>grind [mR]
theorem nR {t:Rat}:∀{l m:zA oZ},mR k (l++m) t=mR k l t+mR k m t
 | [],m=>by simp [mR]
 | c::r,m=>by simp only [Qc2,mR,nR (l:=r)];omega
theorem Cw:∀{l m:zA oZ},iD k (l++m)=iD k l+iD k m
 | [],m=>by simp [iD]
 | c::r,m=>by simp only [Qc2,iD,Cw (l:=r)];omega
theorem Ke {t:Rat}:∀{l:zA oZ},(∀c∈l,c.1<t)->mR k l t=iD k l
 | [],_=>rfl
 | c::r,h=>by
  simp only [mR,iD,Ke (l:=r) λx u=>h x (by simp [u]),h c ψ,Í]
theorem FU {t:Rat}:∀{l:zA oZ},(∀c∈l,¬c.1<t)->mR k l t=0
 | [],_=>rfl
 | c::r,h=>by
  simp only [mR,FU (l:=r) λx u=>h x (by simp [u]),h c ψ,and_false,Ð];omega
theorem uj {k':Int}{t:Rat}(y:k≠k'):∀{l:zA Sp},mR k (l.flatMap (jS k')) t=0
 | []=>rfl
 | s::r=>by
  rw [ē,nR,uj y (l:=r)];have u:¬k'=k:=λe=>y e.symm;unfold jS;cases s.a<;>cases s.b<;>simp [mR,u]
theorem Cx {k:Int}{t:Rat}:∀{l:zA Sp},(∀s∈l,s.good)->(∀s∈l,¬s.cQ t)->mY l+mR k (l.flatMap (jS k)) t=(l.countP λs=>s.innB t:Nat)
 | [],_,_=>rfl
 | s::r,u,he=>by
  have z:=Cx (k:=k) (t:=t) (l:=r) (λx c=>u x (by simp [c])) λx c=>he x (by simp [c]);have d:=(u s ψ).2;have e:=he s ψ;rw [ē,nR,List.countP_cons];simp only [mY];rw [Sp.iu] at d;unfold Sp.cQ at e
  have key:(if s.a=true then (1:Int) else 0)+mR k (jS k s) t=(if s.innB t=true then 1 else 0:Nat):=by
   unfold jS Sp.innB;cases D:s.a<;>cases y:s.b<;>simp [y] at d e<;>simp [mR]<;>(try (by_cases f:s.lo<t))<;>(try (by_cases g:s.hi<t))<;>(try (by_cases h:t<s.hi))<;>simp_all<;>grind
  omega
theorem IQ {l:zA Sp}{t:Rat}:decide ((0:Int)<(l.countP λs=>s.innB t:Nat))=í l t:=by refine zW ⟨λh=>?_,λh=>?_⟩;{have h:=Á h;have:0<l.countP λs=>s.innB t:=ω;have ⟨s,a,h⟩:=Qr4.1 this;exact Qh3.2 ⟨s,a,h⟩};{have ⟨s,a,h⟩:=Qh3.1 h;have:0<l.countP λs=>s.innB t:=Qr4.2 ⟨s,a,h⟩;grind}
theorem U3 {A B:zA Sp}{c:oZ}:c∈qg A B->∃s∈A++B,s.cQ c.1:=by intro h;have one:∀{k:Int} {s:Sp},c∈jS k s->s.cQ c.1:=λ{k s} h=>by{unfold jS at h;unfold Sp.cQ;cases u:s.a<;>cases y:s.b<;>simp [u,y] at h ⊢;{rcases h with rfl|rfl<;>simp};{subst h;rfl};{subst h;rfl}};rcases ø.1 h with h|h<;>grind
def nE (s:Sp):Sp:=⟨s.lo,0,s.a,true⟩
def Cz (was:Bool)(last:Sp)(out:List Sp):List Sp:=out++if was then [nE last] else []
def QG (acc:Bool->Bool->Bool)(A B:List Sp)(t:Rat):Bool:=acc (í A t) (í B t)
structure W0 (acc:Bool->Bool->Bool) (A B:List Sp) (cs:List oZ) (i:Nat) (was:Bool) (last:Sp) (out:List Sp):Prop where
 rg:tu (Cz was last out)
 lo:∀s∈Cz was last out,∀h:i<cs.length,s.a=false->s.lo<cs[i].1
 hi:∀s∈out,s.b=false/\∀h:i<cs.length,s.hi<cs[i].1
 inn:∀t,(∀s∈A++B,¬s.cQ t)->(∀h:i<cs.length,t<cs[i].1)->í (Cz was last out) t=QG acc A B t
 fr:was=true->last.hi=0/\last.b=false
section
variable {acc:Bool->Bool->Bool} {A B:List Sp} {cs:List oZ} {i:Nat} {was:Bool} {last:Sp} {out:List Sp}
theorem T2 (D:cs.Perm (qg A B))(E:∀s∈A,s.good)(F:∀s∈B,s.good)(u:cs.Pairwise λx y=>x.1<=y.1){t:Rat}(z:∀s∈A++B,¬s.cQ t)(M:∀c∈cs.take i,c.1<t)(N:∀h:i<cs.length,t<cs[i].1):acc (decide ((0:Int)<mY A+iD 0 (cs.take i))) (decide ((0:Int)<mY B+iD 1 (cs.take i)))=QG acc A B t:=by
 have a:∀c∈cs.drop i,¬c.1<t:=by grind [List.getElem_of_mem,List.pairwise_iff_getElem.1]
 have e:∀k,iD k (cs.take i)=mR k (qg A B) t:=λk=>by
  rw [<-P9 D,<-Ke M]
  conv=>rhs;rw [<-Qj6 i cs]
  rw [nR,FU a];omega
 have b:mR 0 (B.flatMap (jS 1)) t=0:=uj φ;have d:mR 1 (A.flatMap (jS 0)) t=0:=uj φ;rw [e,e];unfold qg QG;rw [nR,nR,b,d,<-IQ,<-IQ,<-(Cx (k:=0) (t:=t) E λs u=>z s (Ļ _ u)),<-(Cx (k:=1) (t:=t) F λs u=>z s (Œ _ u)),Wy0,Int.zero_add]
theorem Ab {x y:zA Sp}{t:Rat}:í (x++y) t=(í x t||í y t):=by unfold í;rw [List.any_append]
theorem T3 {was:md}(hw:was=acc (decide ((0:Int)<mY A)) (decide ((0:Int)<mY B)))(u:cs.Perm (qg A B))(z:∀s∈A,s.good)(D:∀s∈B,s.good)(E:cs.Pairwise λx y=>x.1<=y.1):W0 acc A B cs 0 was ⟨0,0,true,false⟩ []:=by refine ⟨?_,λs h _ a=>?_,λs h=>(by cases h),λt b d=>?_,λ_=>⟨rfl,rfl⟩⟩;{unfold Cz;cases was;{exact ⟨λs h=>by simp at h,ψ⟩};{refine ⟨λs h=>?_,ψ⟩;obtain rfl:s=nE ⟨0,0,true,false⟩:=by{simpa using h};exact ⟨⟨λ_=>rfl,λ_=>rfl⟩,rfl⟩}};{unfold Cz at h;cases was<;>simp at h;subst h;cases a};{have:=T2 (acc:=acc) (i:=0) u z D E b (λc e=>by simp at e) d;simp only [Qd2,iD,Wy0] at this;rw [<-this,<-hw];unfold Cz nE í Sp.innB;cases was<;>simp}
theorem WG (h:W0 acc A B cs i was last out)(hi:i+1<cs.length)(he:cs[i].1=cs[i+1].1):W0 acc A B cs (i+1) was last out:=
 ⟨h.rg,λs a _ b=>by rw [<-he];exact h.lo s a ω b,λs a=>⟨(h.hi s a).1,λ_=>by rw [<-he];exact (h.hi s a).2 ω⟩,
  λt c d=>h.inn t c λ_=>by rw [he];exact d hi,h.fr⟩
theorem Wg (h:W0 acc A B cs i was last out)(hi:i<cs.length){t:Rat}(u:cs[i].1<t):í out t=false:=by refine Bool.eq_false_iff.2 λhe=>?_;have ⟨s,b,a⟩:=Qh3.1 he;have ⟨c,e⟩:=h.hi s b;rw [innB_iff] at a;obtain ⟨-,d⟩:=a;rw [c] at d;grind
def lL (was now:Bool)(last:Sp)(x:Rat):Sp:=if now&&!was then ⟨x,0,false,false⟩ else if was&&!now then ⟨last.lo,x,last.a,last.b⟩ else last
def Cy (was now:Bool)(last:Sp)(x:Rat)(out:List Sp):List Sp:=if was&&!now then out++[⟨last.lo,x,last.a,last.b⟩] else out
theorem WH (h:W0 acc A B cs i was last out)(hi:i<cs.length)(N:∀h:i+1<cs.length,cs[i].1<cs[i+1].1)(O:cs.Perm (qg A B))(Z:∀s∈A,s.good)(hB:∀s∈B,s.good)(M:cs.Pairwise λx y=>x.1<=y.1){now:md}(hw:now=acc (decide ((0:Int)<mY A+iD 0 (cs.take (i+1)))) (decide ((0:Int)<mY B+iD 1 (cs.take (i+1))))):W0 acc A B cs (i+1) now (lL was now last cs[i].1) (Cy was now last cs[i].1 out):=by have z:=U3 (O.mem_iff.1 (ó hi));have g:∀t,(∀s∈A++B,¬s.cQ t)->cs[i].1<t->(∀h:i+1<cs.length,t<cs[i+1].1)->QG acc A B t=now:=λt f d o=>by{rw [hw,T2 (acc:=acc) O Z hB M f (λc D=>?_) o];obtain ⟨j,E,rfl⟩:=Qf4 D;rw [è] at E;rw [Qt2];by_cases e:j=i;{subst e;exact d};{have:=Qm2.1 M j i ω hi ω;grind}};have apart:∀t,(∀s∈A++B,¬s.cQ t)->t<cs[i].1\/cs[i].1<t:=λt f=>by{obtain ⟨s,d,o⟩:=z;grind};have on:∀{t:Rat},cs[i].1<t->í out t=false:=λ{t}=>Wg (t:=t) h hi;have m:∀s∈Cz was last out,s.a=false->s.lo<cs[i].1:=λs M l=>h.lo s M hi l;have n:∀s∈out,s.hi<cs[i].1:=λs M=>(h.hi s M).2 hi;have q:∀s∈out,s.b=false:=λs M=>(h.hi s M).1;have inn:∀t,(∀s∈A++B,¬s.cQ t)->t<cs[i].1->í (Cz was last out) t=QG acc A B t:=λt f d=>h.inn t f λ_=>d;have p:=h.rg;have u:=h.fr;generalize cs[i].1=x at *;clear z hw O M h;unfold lL Cy;cases was<;>cases now<;>simp only [Bool.not_true,Bool.not_false,Bool.and_true,Wj4]<;>unfold Cz at*<;>simp only [ŕ,Ï,Ð,þ] at *;{refine ⟨by simpa [Cz] using p,λs M d l=>?_,λs M=>⟨q s M,λd=>?_⟩,λt f o=>?_,λh=>nomatch h⟩;{have:=m s (by simpa [Cz] using M) l;have:=N d;grind};{have:=n s M;have:=N d;grind};{simp only [Cz,ŕ,Ð,þ];rcases apart t f with k|k;{exact inn t f k};{rw [g t f k o,on k]}}};{have e:í (out++[nE ⟨x,0,false,false⟩])=λt=>í out t||decide (x<t):=by{funext t;rw [Ab];unfold í nE Sp.innB;simp};refine ⟨?_,λs M d l=>?_,λs M=>⟨q s M,λd=>?_⟩,λt f o=>?_,λ_=>⟨rfl,rfl⟩⟩;{simp only [Cz,Ï];exact vI p ⟨⟨π,λ_=>rfl⟩,rfl⟩ λy r=>⟨q y r,rfl,n y r⟩};{simp only [Cz,Ï] at M;rcases ø.1 M with M|M;{have:=m s M l;have:=N d;grind};{obtain rfl:s=nE ⟨x,0,false,false⟩:=by{simpa using M};exact N d}};{have:=n s M;have:=N d;grind};{simp only [Cz,Ï];rw [e];dsimp only;rcases apart t f with k|k;{rw [inn t f k,È χ,Bool.or_false]};{rw [g t f k o,Ç k,Bool.or_true]}}};{obtain ⟨f1,f2⟩:last.hi=0/\last.b=false:=by{simpa using u};obtain ⟨F,G,C⟩:=JV p;have v:last.a=false->last.lo<x:=λl=>m (nE last) ψ l;have e:í (out++[(⟨last.lo,x,last.a,last.b⟩:Sp)])=λt=>í out t||((last.a||decide (last.lo<t))&&decide (t<x)):=by{funext t;rw [Ab];unfold í Sp.innB;simp [f2]};have w:í (out++[nE last])=λt=>í out t||(last.a||decide (last.lo<t)):=by{funext t;rw [Ab];unfold í nE Sp.innB;simp};refine ⟨?_,λs M d l=>?_,λs M=>?_,λt f o=>?_,λh=>nomatch h⟩;{simp only [Cz,ŕ,Ð,þ];refine vI F ⟨⟨λh=>G.1.1 h,λh=>by rw [f2] at h;cases h⟩,?_⟩ λy r=>⟨q y r,(C y r).2.1,(C y r).2.2⟩;rw [Sp.iu];cases l:last.a;{exact .inr (.inr (v l))};{exact .inl rfl}};{simp only [Cz,ŕ,Ð,þ] at M;rcases ø.1 M with M|M;{have:=m s (Ļ _ M) l;grind};{obtain rfl:s=⟨last.lo,x,last.a,last.b⟩:=by{simpa using M};have:=v l;dsimp only;grind}};{rcases ø.1 M with M|M;{exact ⟨q s M,λd=>by have:=n s M;have:=N d;grind⟩};{obtain rfl:s=⟨last.lo,x,last.a,last.b⟩:=by{simpa using M};exact ⟨f2,λd=>N d⟩}};{simp only [Cz,ŕ,Ð,þ];rw [e];dsimp only;rcases apart t f with k|k;{rw [<-inn t f k,w,Ç k,Bool.and_true]};{rw [g t f k o,on k,È (show ¬t<x by grind),Wj4];rfl}}};{have w:í (out++[nE last])=λt=>í out t||(last.a||decide (last.lo<t)):=by{funext t;rw [Ab];unfold í nE Sp.innB;simp};have v:last.a=false->last.lo<x:=λl=>m (nE last) ψ l;refine ⟨by simpa [Cz] using p,λs M d l=>?_,λs M=>⟨q s M,λd=>?_⟩,λt f o=>?_,λ_=>by simpa using u⟩;{have:=m s (by simpa [Cz] using M) l;have:=N d;grind};{have:=n s M;have:=N d;grind};{simp only [Cz,Ï];rcases apart t f with k|k;{exact inn t f k};{rw [g t f k o,w];dsimp only;cases l:last.a;{have:=v l;rw [Ç (show last.lo<t by grind)];simp};{simp}}}}
end
end Go.Proofs.Tryz
namespace Go.Proofs.Tryz
variable{a b:List Sp}
theorem CB (k:Nat)(u:0<k:=by omega):Sz k (0:Rat):=⟨by show (0:Int).natAbs<_;exact ĺ φ (Nat.one_le_two_pow),Qd7 ω⟩
def bT:Sp:=⟨0,0,true,true⟩
def yo (l:List Sp):List Rat:=l.flatMap λs=>s.H9++s.GJ
def fe (l:List Sp):Nat:=(yo l).length
theorem rK {s:Sp}{r:zA Sp}:fe (s::r)=(s.H9++s.GJ).length+fe r:=by unfold fe yo;rw [ē,ë]
theorem Ly:fe (a++b)=fe a+fe b:=by unfold fe yo;rw [ŧ,ë]
theorem Gr {A B:zA Sp}:(qg A B).length=fe A+fe B:=by
 have one:∀(k:Int)(l:zA Sp),(l.flatMap (jS k)).length=fe l:=λk l=>by
  induction l with
  | nil=>rfl
  | cons s r u=>
   rw [ē,ë,rK,u];unfold jS Sp.H9 Sp.GJ;cases s.a<;>cases s.b<;>simp
 unfold qg;grind
theorem RX:∀(l:zA Sp),fe l<=2*l.length
 | []=>by simp [fe,yo]
 | s::r=>by
  have:=RX r;have h:(s.H9++s.GJ).length<=2:=by unfold Sp.H9 Sp.GJ;cases s.a<;>cases s.b<;>simp
  rw [rK,Ą];omega
theorem s_:∀(ss:zA Sp)(o:zA Rat),(ss.foldl (λo s=>eX s o 2) o).length<=o.length+fe ss
 | [],o=>by simp [yo]
 | s::r,o=>by
  have u:=s_ r (eX s o 2)
  have:(eX s o 2).length<=o.length+(s.H9++s.GJ).length:=by
   have c:=@lu s.lo o;have d:=@lu s.hi o;have e:=@lu s.hi (cT s.lo o);show (if s.b=true then (if s.a=true then o else cT s.lo o) else cT s.hi (if s.a=true then o else cT s.lo o)).length<=_;unfold Sp.H9 Sp.GJ;cases s.a<;>cases s.b<;>simp<;>omega
  grind [rK]
theorem I4 (ss:zA Sp):(à ss).length<=fe ss:=by have:=s_ ss [];simpa [à] using this
theorem Hc:∀{l:zA Sp},tu l->asc (yo l)
 | [],_=>List.Pairwise.nil
 | s::r,h=>by
  unfold asc yo;refine Qg4.2 ⟨?_,Hc h.tail,λx D y u=>?_⟩
  ·refine Qg4.2 ⟨by unfold Sp.H9;cases s.a<;>simp,by unfold Sp.GJ;cases s.b<;>simp,λx D y u=>?_⟩;obtain ⟨E,rfl⟩:=mw D;obtain ⟨c,rfl⟩:=oI u;exact nJ (h.1 s ψ).2 E c
  ·have ⟨z,d,u⟩:=ĕ.1 u;have ⟨e,f,g⟩:=h.K7 d
   have i:x<=s.hi:=by
    rcases ø.1 D with D|D
    ·obtain ⟨E,rfl⟩:=mw D;have:=nJ (h.1 s ψ).2 E e;grind
    grind [oI]
   have j:z.lo<=y:=by rcases ø.1 u with u|u;{obtain ⟨E,rfl⟩:=mw u;grind};{obtain ⟨c,rfl⟩:=oI u;have:=nJ (h.1 z (by simp [d])).2 f c;grind}
   grind
theorem zV:∀{ys xs:zA Rat},asc xs->asc ys->(∀x∈xs,x∈ys)->xs.length<=ys.length
 | [],xs,_,_,h=>by
  cases xs with
  | nil=>simp
  | cons x r=>exact Å (h x ψ) ψ
 | y::r,[],_,_,_=>ψ
 | y::r,x::s,u,D,h=>by
  have ⟨F,E⟩:=ħ.1 u;have ⟨d,a⟩:=ħ.1 D;by_cases e:x=y
  ·have:=zV (xs:=s) E a λz b=>χ
   grind
  ·have c:x∈r:=χ
   have:=zV (xs:=x::s) u a λz b=>χ
   grind
theorem R3 {c:zA Rat}{i:Nat}(hi:i<=c.length:=by omega):((dF c i).a=false->(dF c i).lo∈c)/\((dF c i).b=false->(dF c i).hi∈c):=by unfold dF;grind
theorem Fo {c:zA Rat}{ms:zA md}:∀(i:Nat),i<=c.length+1->∀s∈cD c ms i,(s.a=false->s.lo∈c)/\(s.b=false->s.hi∈c)
 | 0,_,s,h=>by cases h
 | i+1,hi,s,h=>by
  have u:=Fo (c:=c) (ms:=ms) i ω;have g:=R3 (c:=c) (i:=i);unfold cD at h;split at h
  ·split at h
   ·rename_i f;rcases ø.1 h with h|h
    ·exact u s (List.dropLast_subset _ h)
    ·obtain rfl:=ö.1 h;refine ⟨λj=>?_,λk=>g.2 k⟩;have d:cD c ms i≠[]:=λe=>by rw [e] at f;simp at f
     have l:(cD c ms i).getLastD Sp.zero=(cD c ms i).getLast d:=by rw [Wy4,List.getLast?_eq_some_getLast d];rfl
     rw [l] at j ⊢;exact (u _ (List.getLast_mem d)).1 j
   ·rcases ø.1 h with h|h
    ·exact u s h
    ·obtain rfl:=ö.1 h;exact g
  ·exact u s h
theorem ny {op:Int}:∀s∈Ú op a b,(s.a=false->s.lo∈à (a++b))/\(s.b=false->s.hi∈à (a++b)):=by intro s c;exact Fo _ (by rw [kM];omega) s c
theorem U7 (op:Int)(a b:zA Sp):fe (Ú op a b)<=fe a+fe b:=by have h:=zV (Hc (comb_reg op a b)) (Bg (a++b)) λx c=>by{have ⟨s,d,c⟩:=ĕ.1 c;rcases ø.1 c with c|c;{obtain ⟨e,rfl⟩:=mw c;exact (ny s d).1 e};{obtain ⟨f,rfl⟩:=oI c;exact (ny s d).2 f}};have:=I4 (a++b);rw [Ly] at this;unfold fe at *;omega
theorem U8 {op:Int}{k:Nat}(u:1<=k)(y:∀s∈a,s.sz k)(z:∀s∈b,s.sz k):∀s∈Ú op a b,s.sz k:=by intro s d;have f:=(comb_reg op a b).1 s d;have he:∀q∈à (a++b),Sz k q:=λq g=>by{have ⟨x,c,h⟩:=xi g;have:x.sz k:=by{rcases ø.1 c with c|c;{exact y x c};{exact z x c}};rcases h with rfl|rfl;{exact this.1};{exact this.2}};have ⟨i,j⟩:=ny s d;constructor;{cases e:s.a;{exact he _ (i e)};{rw [f.1.1 e];exact CB k u}};{cases e:s.b;{exact he _ (j e)};{rw [f.1.2 e];exact CB k u}}
theorem A9 (op:Int)(a b:zA Sp):(Ú op a b).length<=fe a+fe b+1:=by have h:=Fm (à (a++b)) (iU op a b (à (a++b))) (iU op a b (à (a++b))).length;have c:=I4 (a++b);rw [Ly] at c;rw [kM] at h;unfold Ú qm;rw [kM];omega
end Go.Proofs.Tryz
namespace Go.Proofs.Tryz.aV
abbrev V2:=Rat×Rat
def cr (u v:V2):Rat:=u.1*v.2-u.2*v.1
def mp {a b:Rat}(u:a>0)(y:b>0):a*b>0:=ĩ u y
def mn {a b:Rat}(u:a≥0)(y:b≥0):a*b≥0:=Wj5 u y
end Go.Proofs.Tryz.aV
namespace Go.Proofs.Tryz
def pQ (V:Ó)(g:Nat)(y:Value):Prop:=V.at ⟨g,0,none⟩ y
theorem pQ.le {V V':ut}{g:Nat}{y:un}(h:pQ V g y)(l:V.Le V'):pQ V' g y:=l.at h
def SErr (y:Value):Prop:=∃a:Addr,y=.iface 396 (.pointer (some a))
end Go.Proofs.Tryz
namespace Go.Proofs.Tryz
variable{V:Ó}{p:OA}{v:Value}{l:L3}{vs:List Value}{c k n:Nat}
def RT (V:Ó):OA->Tr->Prop
 | p,.leaf i=>∃(b:Nat)(c0 c1 c2 c3 c4 c5 c6 c7 c8:Value)(r:OA),p=some ⟨b,0,none⟩/\V.aW b (.cells #[c0,c1,c2,c3,c4,c5,c6,c7,c8,.pointer none,.pointer r,.bool i] 240 (0,0))
 | p,.node l x y=>∃(b:Nat)(u z:Int)(D:OA)(E F:Int)(M:OA)(N O:Int)(Z:OA)(pl pr:OA)(i:Bool),p=some ⟨b,0,none⟩ /\
   V.aW b (.cells #[.int .i64 u,.int .i64 z,.pointer D,.int .i64 E,.int .i64 F,.pointer M,.int .i64 N,.int .i64 O,.pointer Z,.pointer pl,.pointer pr,.bool i] 240 (0,0)) /\
   xZ V (.agg #[.int .i64 u,.int .i64 z,.pointer D,.int .i64 E,.int .i64 F,.pointer M,.int .i64 N,.int .i64 O,.pointer Z]) l.1 l.2.1 l.2.2/\RT V pl x/\RT V pr y
theorem RT.le {V V':ut}(h:V.Le V'):∀{t:Tr} {p:OA},RT V p t->RT V' p t
 | .leaf i,p,⟨b,z,c1,D,E,F,M,N,O,Z,r,e,u⟩=>⟨b,z,c1,D,E,F,M,N,O,Z,r,e,h _ _ u⟩
 | .node l x y,p,⟨b,x1,x2,x3,y1,y2,y3,z1,z2,z3,pl,pr,i,e,u,hl,hx,hy⟩=>⟨b,x1,x2,x3,y1,y2,y3,z1,z2,z3,pl,pr,i,e,h _ _ u,hl.le h,RT.le h hx,RT.le h hy⟩
theorem RT.isS {t:Tr}(h:RT V p t):p.isSome=true:=by (cases t with|leaf i=>{obtain ⟨b,a,c,d,e,f,g,j,k,m,r,rfl,n⟩:=h;rfl}|node l x y=>{obtain ⟨b,o,q,s,u,v,w,z,A,B,pl,C,i,rfl,-⟩:=h;rfl})
theorem iO (i:md):À 222 #[Õ i] V λr W=>∃p,r=qyQ p/\RT W p (.leaf i):=
 Kk V _ λc d b a=>⟨_,rfl,b,_,_,_,_,_,_,_,_,_,_,rfl,a⟩
theorem dN {t:Tr}(h:RT V p t):À 153 #[qyQ p] V λr W=>r=Õ t.qw:=by (cases t with|leaf i=>{obtain ⟨b,g,j,k,m,n,o,q,s,u,r,rfl,c⟩:=h;exact pD V _ ⟨rfl,rfl,_,yY c 9 rfl,λd e=>rfl⟩}|node l x y=>{obtain ⟨b,v,w,z,A,B,C,D,E,F,pl,G,i,rfl,c,H,f,I⟩:=h;refine pD V _ ⟨rfl,rfl,_,yY c 9 rfl,λd e=>?_⟩;have:=f.isS;(cases pl with|none=>{cases this}|some a=>rfl)})
theorem OS {q:OA}{x y:Tr}(u:xZ V v l.1 l.2.1 l.2.2)(D:RT V p x)(E:RT V q y):À 224 #[v,qyQ p,qyQ q] V λr W=>∃z,r=qyQ z/\RT W z (.node l x y):=by obtain ⟨d,e,f,g,h,i,j,k,m,rfl,-⟩:=id u;exact MG V _ λn a b c=>⟨_,rfl,b,_,_,_,_,_,_,_,_,_,_,_,_,rfl,c,u.le a,D.le a,E.le a⟩
def WY (V:Ó)(v:Value)(l:L3):Prop:=RL V v l.1 l.2.1 l.2.2\/ch l=false/\∃b1 p n c xs y q m e ys z s i j u,v=.agg #[.bool b1,.slice p n c,.bool y,.slice q m e,.bool z,.slice s i j]/\RD V p n c xs/\RD V q m e ys/\RD V s i j u /\
 DX b1 xs y ys z u=false/\(xs.length<=1000000/\ys.length<=1000000/\u.length<=1000000)/\Sz 1000000 (bI b1 xs:Rat)/\Sz 1000000 (bI y ys:Rat)/\Sz 1000000 (bI z u:Rat)
theorem WY.le {V V':ut}(h:WY V v l)(e:V.Le V'):WY V' v l:=by rcases h with h|⟨a,b,p,n,c,xs,d,q,m,f,g,k,s,i,j,o,y,r,t,u,w⟩;{exact .inl (h.le e)};{exact .inr ⟨a,b,p,n,c,xs,d,q,m,f,g,k,s,i,j,o,y,r.le e,t.le e,u.le e,w⟩}
theorem WY.ok (h:WY V v l)(u:ch l=true):RL V v l.1 l.2.1 l.2.2:=by rcases h with h|⟨h,-⟩;{exact h};{rw [u] at h;cases h}
theorem Gg {x:L3}(h:WY V v x)(E:Bd x):À 223 #[v] V λr W=>∃w,r=æ #[w,Õ (ch x)]/\Uz w/\(ch x=true->xZ W w x.1 x.2.1 x.2.2):=by rcases h with h|⟨a,b,p,n,c,xs,d,q,m,u,y,e,s,i,j,z,rfl,f,g,k,l,⟨A,B,C⟩,s1,s2,s3⟩;{exact IA h E};{refine (AK b d e f g k ω ω ω s1 s2 s3).s ?_;rintro r V2 D ⟨w,rfl,o,t⟩;rw [l] at t ⊢;rw [a];exact ⟨w,rfl,o,λh=>by cases h⟩}
def NR (V:Ó)(vs:List Value)(l:List Nd):Prop:=∀(i:Nat)(d:Nd),l[i]?=some d->∃(b1:Bool)(u:OA)(y c1:Nat)(z:Bool)(D:OA)(E F:Nat)(M:Bool)(N:OA)(O Z:Nat),
 (∀j v,([.bool b1,.slice u y c1,.bool z,.slice D E F,.bool M,.slice N O Z,.int .i64 d.left,.int .i64 d.right]:List Value)[j]?=some v->vs[i*8+j]?=some v) /\
 WY V (.agg #[.bool b1,.slice u y c1,.bool z,.slice D E F,.bool M,.slice N O Z]) d.ln
theorem NR.le {V V':ut}{l:zA Nd}(h:NR V vs l)(u:V.Le V'):NR V' vs l:=λi d a=>by
 have ⟨b,c,e,f,g,j,k,m,n,o,p,q,r,s⟩:=h i d a;exact ⟨b,c,e,f,g,j,k,m,n,o,p,q,r,s.le u⟩
structure NS (V:Ó) (p:OA) (n c:Nat) (l:List Nd):Prop where
 len:n=l.length
 cap:n<=c
 row:∃vs,V.sl p vs/\NR V vs l
 Jv:p.isNone=true->c=0
theorem NS.le {V V':ut}{l:zA Nd}(h:NS V p n c l)(u:V.Le V'):NS V' p n c l:=by obtain ⟨a,b,⟨d,e,f⟩,g⟩:=h;exact ⟨a,b,⟨d,u.sl e,f.le u⟩,g⟩
theorem NS.isS {l:zA Nd}(h:NS V p n c l)(u:n≠0):p.isSome=true:=by (cases p with|none=>{have:=h.Jv rfl;have:=h.cap;omega}|some a=>rfl)
def pT (l:List Bool):List Value:=l.map .bool
theorem OO {l:zA md}{i:Nat}{b:md}(h:l[i]?=some b):(pT l)[i]?=some (Õ b):=by simp [pT,h]
theorem NS.rd {l:zA Nd}(h:NS V p n c l){d:Nd}(hd:l[k]?=some d):∃(b1:md)(u:OA)(y c1:Nat)(z:md)(D:OA)(E F:Nat)(M:md)(N:OA)(O Z:Nat)(a:Addr),ae p (k*8)=some a/\V.at (a.add 0) (Õ b1)/\V.at (a.add 1) (dB u y c1)/\V.at (a.add 2) (Õ z)/\V.at (a.add 3) (dB D E F)/\V.at (a.add 4) (Õ M)/\V.at (a.add 5) (dB N O Z)/\V.at (a.add 6) (Ô .i64 d.left)/\V.at (a.add 7) (Ô .i64 d.right)/\WY V (qvK #[Õ b1,dB u y c1,Õ z,dB D E F,Õ M,dB N O Z]) d.ln:=by obtain ⟨r,b,g⟩:=h.row;have ⟨b1,u,y,c1,z,D,E,F,M,N,O,Z,f,i⟩:=g k d hd;obtain ⟨m,rfl,-⟩:=b _ _ (f 0 _ rfl);have key:∀j v,([Õ b1,dB u y c1,Õ z,dB D E F,Õ M,dB N O Z,Ô .i64 d.left,Ô .i64 d.right]:zA un)[j]?=some v->V.at ((m.add (k*8)).add j) v:=by{intro j v hv;have ⟨o,e,q⟩:=b _ _ (f j v hv);cases e;rw [Au];exact q};exact ⟨b1,u,y,c1,z,D,E,F,M,N,O,Z,_,rfl,key 0 _ rfl,key 1 _ rfl,key 2 _ rfl,key 3 _ rfl,key 4 _ rfl,key 5 _ rfl,key 6 _ rfl,key 7 _ rfl,i⟩
theorem Lf {l:zA Nd}(hb:∀x∈l,Bd x.ln)(hlen:l.length<=65536):∀(f:Nat) (n:Int) (s:RS) {V:ut} {rb sb:Nat} {npp:OA} {nc:Nat},NS V npp l.length nc l ->V.w.heap[rb]?=some (.cells #[dB npp l.length nc,dB (some ⟨sb,0,none⟩) l.length l.length,Ô .i64 (s.pL:Int),Õ s.bad] 237 (0,0))->V.X rb ->V.w.heap[sb]?=some (.cells (pT s.seen).toArray 4 (0,0))->V.X sb->rb≠sb->s.seen.length=l.length->s.seen.count false<f->s.pL+s.seen.count false<=l.length ->À 152 #[qyQ (some ⟨rb,0,none⟩),Ô .i64 n] V λr W=>∃p,r=qyQ p/\RT W p (iW l f n s).1/\W.w.heap[rb]?=some (.cells #[dB npp l.length nc,dB (some ⟨sb,0,none⟩) l.length l.length,Ô .i64 ((iW l f n s).2.pL:Int),Õ (iW l f n s).2.bad] 237 (0,0))/\W.w.heap[sb]?=some (.cells (pT (iW l f n s).2.seen).toArray 4 (0,0)):=by
 intro f
 induction f with
 | zero=>intro n s V rb sb npp nc _ _ _ _ _ _ _ h;omega
 | succ f ih=>
  intro n s V rb sb npp nc D Q R S T W E b6 b7;refine uq rb sb npp l.length nc l.length l.length s.pL s.bad (pT s.seen) n V _ Q R S T W ⟨λt V1 l1=>(iO _).s ?_,λt=>⟨λC V4 l4=>(iO _).s ?_,λC=>⟨λF V7 l7=>(iO _).s ?_,λF=>⟨λL fo b8=>(iO _).s ?_,λL=>?_⟩⟩⟩⟩
  ·rintro r V2 G ⟨p,rfl,d⟩;have Y:n=-2:=by{simpa using t};have e:iW l (f+1) n s=(.leaf true,s):=by{simp [iW,Y]};rw [t] at d;exact ⟨p,rfl,λI j g c=>⟨p,rfl,by rw [e];exact d.le j,by rw [e];exact g,by rw [e];exact c⟩⟩
  ·rintro r V2 G ⟨p,rfl,d⟩;have Y:n=-1:=by{simpa using C};have e:iW l (f+1) n s=(.leaf false,s):=by{simp [iW,Y]};rw [t] at d;exact ⟨p,rfl,λI j g c=>⟨p,rfl,by rw [e];exact d.le j,by rw [e];exact g,by rw [e];exact c⟩⟩
  ·rintro r V2 G ⟨p,rfl,d⟩;have A:¬n=-2:=by{simpa using t};have B:¬n=-1:=by{simpa using C};have y:n<0:=by{simpa using F};have e:iW l (f+1) n s=(.leaf false,{ s with bad:=true }):=by{simp [iW,A,B,y]};exact ⟨p,rfl,λI j g c=>⟨p,rfl,by rw [e];exact d.le j,by rw [e];exact g,by rw [e];exact c⟩⟩
  ·rintro r V2 G ⟨p,rfl,d⟩;have A:¬n=-2:=by{simpa using t};have B:¬n=-1:=by{simpa using C};have y:¬n<0:=by{simpa using F};have M:(l.length:Int)<=n:=by{simpa using L};have e:iW l (f+1) n s=(.leaf false,{ s with bad:=true }):=by{simp only [iW,A,B,y,Ð];rw [ţ ω]};exact ⟨p,rfl,λI j g c=>⟨p,rfl,by rw [e];exact d.le j,by rw [e];exact g,by rw [e];exact c⟩⟩
  ·have A:¬n=-2:=by{simpa using t};have B:¬n=-1:=by{simpa using C};have y:¬n<0:=by{simpa using F};have M:n<(l.length:Int):=by{simpa using L};clear t C F L;obtain ⟨k,rfl⟩:=ċ (Ww0.1 y);have hk:k<l.length:=ω;have Z:k<s.seen.length:=ω;simp only [Ü,Ĝ,Ĉ];have i:=ñ Z;have m:=ñ hk;refine ⟨⟨ω,M⟩,s.seen[k],OO i,λh4 iL dS=>(iO _).s ?_,λh4=>⟨⟨ω,M⟩,by simp [pT];omega,D.isS ω,⟨ω,M⟩,?_⟩⟩;{rintro r V2 G ⟨p,rfl,d⟩;have e:iW l (f+1) (k:Int) s=(.leaf false,{ s with bad:=true }):=by{simp only [iW,A,B,y,Ð,Ü];rw [i,h4,m]};exact ⟨p,rfl,λI j g c=>⟨p,rfl,by rw [e];exact d.le j,by rw [e];exact g,by rw [e];exact c⟩⟩};{have ⟨b1,p1,m1,c1,b2,p2,m2,c2,b3,p3,m3,c3,a,ha,a0,a1,a2,a3,a4,a5,a6,a7,hL⟩:=D.rd m;refine ⟨b1,p1,m1,c1,b2,p2,m2,c2,b3,p3,m3,c3,_,_,a,ha,a0,a1,a2,a3,a4,a5,a6,a7,λkH fy=>(Gg ra (hb _ (ó hk))).s ?_⟩;rintro r lT ij ⟨w,rfl,⟨x1,x2,x3,y1,y2,y3,z1,z2,z3,rfl⟩,hw⟩;rw [h4] at i;have J:(pT s.seen).set k (Õ true)=pT (s.seen.set k true):=by{simp [pT,List.map_set]};have N:=count_set i;have w1:i64.wrap ((s.pL:Int)+1)=((s.pL+1:Nat):Int):=by{rw [ao ω];omega};rw [J,w1];refine ⟨_,_,_,_,_,_,_,_,_,_,rfl,λz mZ hU=>(iO _).s ?_,λz sE qB a8 a9 g c g3 g4 g5=>?_⟩;{rintro r V2 G ⟨p,rfl,d⟩;have z:ch l[k].ln=false:=by{simpa using z};have e:iW l (f+1) (k:Int) s=(.leaf false,⟨s.seen.set k true,s.pL+1,true⟩):=by{simp only [iW,A,B,y,Ð,Ü];rw [i,m];simp [z]};exact ⟨p,rfl,λI j g c=>⟨p,rfl,by rw [e];exact d.le j,by rw [e];exact g,by rw [e];exact c⟩⟩};{have z:ch l[k].ln=true:=by{simpa using z};have O:∀(U:ut)(u v:Nat),U.H u->U.H v->(U.ar [u,v]).X u/\(U.ar [u,v]).X v:=λU u v hu hv=>⟨⟨ψ,hu⟩,⟨ψ,hv⟩⟩;have i1:=ih l[k].left ⟨s.seen.set k true,s.pL+1,s.bad⟩ (V:=sE.ar [a8,a9]) ra g (O _ _ _ c g4).1 g3 (O _ _ _ c g4).2 g5 (by simp [E]) (by dsimp only;omega) (by dsimp only;omega);have hm:=B5 l f l[k].left ⟨s.seen.set k true,s.pL+1,s.bad⟩;have b0:=G6 l f l[k].left ⟨s.seen.set k true,s.pL+1,s.bad⟩;have e:iW l (f+1) (k:Int) s=(.node l[k].ln (iW l f l[k].left ⟨s.seen.set k true,s.pL+1,s.bad⟩).1 (iW l f l[k].right (iW l f l[k].left ⟨s.seen.set k true,s.pL+1,s.bad⟩).2).1,(iW l f l[k].right (iW l f l[k].left ⟨s.seen.set k true,s.pL+1,s.bad⟩).2).2):=by{simp only [iW,A,B,y,Ð,Ü];rw [i,m];simp [z]};rw [e];clear e;dsimp only;generalize iW l f l[k].left ⟨s.seen.set k true,s.pL+1,s.bad⟩=q1 at *;obtain ⟨t1,s1⟩:=q1;dsimp only at i1 hm b0 ⊢;refine i1.s ?_;rintro r sN nH ⟨p,rfl,d,e1,e2⟩;refine ⟨p,rfl,_,_,_,_,_,e1,_,e2,λP pk UN QS f1 f2 f3 f4 f5=>?_⟩;have b9:sE.Le P:=λb o h=>pk b o (nH b o h);have i2:=ih l[k].right s1 (V:=P.ar [UN,QS]) ra f1 (O _ _ _ f2 f4).1 f3 (O _ _ _ f2 f4).2 f5 (by rw [hm.2];simp [E]) ω ω;generalize iW l f l[k].right s1=q2 at *;obtain ⟨t2,s2⟩:=q2;dsimp only at i2 ⊢;refine i2.s ?_;rintro r Dx pM ⟨q,rfl,hq,e3,e4⟩;refine ⟨q,rfl,_,_,_,_,_,e3,_,e4,λHZ Bz=>?_⟩;have b4:P.Le Dx:=λb o h=>pM b o h;have K:Dx.Le HZ:=λb o h=>Bz b o h;have b5:sN.Le P:=λb o h=>pk b o h;refine (OS ((hw z).le (qB.m au)) (d.le au) (hq.le K)).s ?_;rintro r Nb Jl ⟨u,rfl,hu⟩;exact ⟨u,rfl,λUB GN g c=>⟨u,rfl,hu.le GN,g,c⟩⟩}}
theorem Rk {l:zA Nd}(Z:∀x∈l,Bd x.ln)(root:Int)(h:NS V p n c l):À 83 #[qvK #[Ô .i64 root,dB p n c]] V λr W=>(Fx l root=none->∃q,r=æ #[qyQ q,Õ false])/\(∀t,Fx l root=some t->∃q,r=æ #[qyQ q,Õ true]/\RT W q t):=by have v:=h.len;subst v;refine Qj V _ ⟨λa I J=>?_,λa=>⟨ω,Wx3 _,?_,λV2 K j k u w m y z=>?_⟩⟩;{have a:65536<l.length:=by{simp at a;omega};have e:Fx l root=none:=by{unfold Fx;rw [Ä a]};exact ⟨λ_=>⟨_,rfl⟩,λt d=>by rw [e] at d;cases d⟩};{have a:¬65536<l.length:=by{simp at a;omega};omega};{have a:¬65536<l.length:=by{simp at a;omega};simp only [Ü] at u m ⊢;have A:List.replicate l.length (Value.bool false)=pT (List.replicate l.length false):=by{simp [pT]};rw [A] at m;have B:(List.replicate l.length false).count false=l.length:=ψ;refine (Lf Z ω (l.length+1) root ⟨List.replicate l.length false,0,false⟩ (V:=V2.ar [j,k]) ra u ⟨ψ,w⟩ m ⟨ψ,y⟩ z ψ (by dsimp only;omega) (by dsimp only;omega)).s ?_;rintro r C L ⟨q,rfl,D,E,F⟩;have g:Fx l root=if (iW l (l.length+1) root ⟨List.replicate l.length false,0,false⟩).2.bad=true\/(iW l (l.length+1) root ⟨List.replicate l.length false,0,false⟩).2.pL≠l.length then none else some (iW l (l.length+1) root ⟨List.replicate l.length false,0,false⟩).1:=by{unfold Fx;rw [Ã a]};rw [g];clear g;generalize iW l (l.length+1) root ⟨List.replicate l.length false,0,false⟩=r0 at *;obtain ⟨t,s⟩:=r0;refine ⟨q,rfl,_,_,_,_,_,E,_,F,λi M N=>?_,λi=>⟨λf O P=>?_,λf G H=>?_⟩⟩;{rw [Ä (.inl i)];exact ⟨λ_=>⟨_,rfl⟩,λt d=>by cases d⟩};{have f:s.pL≠l.length:=by{simp at f;omega};rw [Ä (.inr f)];exact ⟨λ_=>⟨_,rfl⟩,λt d=>by cases d⟩};{have f:s.pL=l.length:=by{simp at f;omega};dsimp only at i ⊢;rw [Ã (by rw [i,f];simp)];exact ⟨λe=>(by cases e),λt1 d=>by cases d;exact ⟨q,rfl,RT.le (V:=C) (V':=G) (λb o h=>H b o h) D⟩⟩}}
theorem aa.monoH {f:FuncId}{args:Array un}{R u:un->ut->Prop}(h:À f args V R)(y:∀r V',V.Le V'->(∀b,V'.H b->V.H b)->R r V'->u r V'):À f args V u:=
 ⟨h.1,h.2.s λ_ c ⟨r,he,a,d⟩=>⟨r,he,a,y r _ (V.Sx c a) (λ_ e=>e) d⟩⟩
theorem pC {b:Nat}(h:vs≠[]):vb vs n b=b:=by cases vs with|nil=>exact Å rfl h|cons v r=>rfl
theorem NR.push {vs sp:zA un}{l:zA Nd}(h:NR V vs l)(hl:l.length*8<=vs.length){ln:L3}{x y:Int}{b1:md}{D:OA}{E c1:Nat}{F:md}{M:OA}{N O:Nat}{Z:md}{p3:OA}{n3 c3:Nat}(hL:RL V (qvK #[Õ b1,dB D E c1,Õ F,dB M N O,Õ Z,dB p3 n3 c3]) ln.1 ln.2.1 ln.2.2):NR V (vs.take (l.length*8)++[Õ b1,dB D E c1,Õ F,dB M N O,Õ Z,dB p3 n3 c3,Ô .i64 x,Ô .i64 y]++sp) (l++[⟨ln,x,y⟩]):=by intro i d a;rcases Ē i l.length with b|b;{rw [į b] at a;have ⟨c,p,e,f,g,q,r,k,m,s,t,n,w,u⟩:=h i d a;refine ⟨c,p,e,f,g,q,r,k,m,s,t,n,λj v hv=>?_,u⟩;have z:j<8:=χ;grind};{rw [Ň b] at a;have o:i=l.length:=χ;subst o;simp only [Nat.sub_self,List.getElem?_cons_zero,ÿ] at a;subst a;refine ⟨b1,D,E,c1,F,M,N,O,Z,p3,n3,c3,λj v hv=>?_,.inl hL⟩<;>grind [Nat.add_sub_cancel_left]}
theorem NR.set6 {l:zA Nd}(h:NR V vs l){d:Nd}(D:l[k]?=some d){x:Int}:NR V (vs.set (k*8+6) (Ô .i64 x)) (l.set k ⟨d.ln,x,d.right⟩):=by intro i y a;rw [Qp6] at a;split at a;{rename_i e;subst e;split at a;{cases a;have ⟨b,c,f,g,m,n,o,p,q,r,s,t,w,u⟩:=h k d D;refine ⟨b,c,f,g,m,n,o,p,q,r,s,t,λj v E=>?_,u⟩;rw [Qp6];by_cases z:j=6;{subst z;have:=w 6 _ rfl;grind};grind};{cases a}};{rename_i e;have ⟨b,c,f,g,m,n,o,p,q,r,s,t,w,u⟩:=h i y a;refine ⟨b,c,f,g,m,n,o,p,q,r,s,t,λj v E=>?_,u⟩<;>grind}
theorem NR.set7 {l:zA Nd}(h:NR V vs l){d:Nd}(E:l[k]?=some d){x:Int}:NR V (vs.set (k*8+7) (Ô .i64 x)) (l.set k ⟨d.ln,d.left,x⟩):=by intro i z a;rw [Qp6] at a;split at a;{rename_i e;subst e;split at a;{cases a;have ⟨b,c,f,g,m,n,o,p,q,r,s,t,y,u⟩:=h k d E;refine ⟨b,c,f,g,m,n,o,p,q,r,s,t,λj v D=>?_,u⟩;rw [Qp6];by_cases A:j=7;{subst A;have:=y 7 _ rfl;have w:k*8+7<vs.length:=by{rcases Ē (k*8+7) vs.length with h|h;{exact h};{rw [ţ h] at this;cases this}};rw [Ä rfl,Ä w];exact D};grind};{cases a}};{rename_i e;have ⟨b,c,f,g,m,n,o,p,q,r,s,t,y,u⟩:=h i z a;refine ⟨b,c,f,g,m,n,o,p,q,r,s,t,λj v D=>?_,u⟩<;>grind}
theorem NR.kids {V:ut}{l r:zA Nd}{ln:L3}{u v x y:Int}(h:NR V vs (l++⟨ln,u,v⟩::r)):NR V ((vs.set (l.length*8+6) (Ô .i64 x)).set (l.length*8+7) (Ô .i64 y)) (l++⟨ln,x,y⟩::r):=by have b:(l++(⟨ln,u,v⟩:Nd)::r)[l.length]?=some ⟨ln,u,v⟩:=ψ;have a:=h.set6 b (x:=x);have c:(l++(⟨ln,u,v⟩:Nd)::r).set l.length ⟨ln,x,v⟩=l++⟨ln,x,v⟩::r:=ψ;rw [c] at a;have d:(l++(⟨ln,x,v⟩:Nd)::r)[l.length]?=some ⟨ln,x,v⟩:=ψ;have e:=a.set7 d (x:=y);grind
theorem NR.take {l:zA Nd}(h:NR V vs l):NR V (vs.take (l.length*8)) l:=by intro i d a;have ⟨b,c,e,f,g,k,m,n,o,p,q,r,t,s⟩:=h i d a;refine ⟨b,c,e,f,g,k,m,n,o,p,q,r,λj v u=>?_,s⟩<;>grind
theorem NS.ofRow {V:ut}{b c:Nat}{vm:zA un}{l:zA Nd}{ty:TypeId}(D:vm≠[]->V.aW b (.cells vm.toArray ty (0,0)))(y:l.length<=c)(z:NR V vm l):NS V (mA b c) l.length c l:=by refine ⟨rfl,y,⟨_,?_,z.take⟩,?_⟩;{intro i v u;rw [Ħ] at u;split at u;{rename_i d;have a:vm≠[]:=λe=>by{rw [e] at u;simp at u};refine ⟨⟨b,0,none⟩,by unfold mA;rw [Ã ω],?_⟩<;>grind [add_zero',dD]};{cases u}};{intro e;unfold mA at e;grind}
def KY:List Tr->Nat
 | []=>0
 | t::r=>2*t.size+1+KY r
theorem BQ (a b:zA Tr):KY (a++b)=KY a+KY b:=by
 induction a with
 | nil=>simp [KY]
 | cons t r u=>simp only [Qc2,KY];omega
def Yh (V:Ó)(vs:List Value)(ts:List Tr):Prop:=∀(i:Nat)(t:Tr),ts[i]?=some t->∃p,vs[i]?=some (.pointer p)/\RT V p t
theorem Yh.le {V V':ut}{ts:zA Tr}(h:Yh V vs ts)(l:V.Le V'):Yh V' vs ts:=λi t a=>by
 have ⟨p,b,c⟩:=h i t a;exact ⟨p,b,c.le l⟩
theorem VT (ts:zA Tr):ts.length<=KY ts:=by
 induction ts with
 | nil=>simp
 | cons t r u=>simp only [KY,Ą];omega
theorem Yh.Wl {sp:zA un}{ts:zA Tr}{x y:Tr}{q:OA}{m:Nat}(h:Yh V vs ts)(hm:m<=ts.length)(u:m<=vs.length)(z:RT V p x)(D:RT V q y):Yh V (vs.take m++[qyQ p,qyQ q]++sp) (ts.take m++[x,y]):=by intro i t a;rcases Ē i m with b|b;{rw [į (by rw [è];omega),Ħ,Ä b] at a;have ⟨r,c,d⟩:=h i t a;grind};{rw [Ň (by rw [è];omega),è,ğ hm] at a;obtain ⟨j,rfl⟩:∃j,i=m+j:=⟨i-m,ω⟩;rw [Qn6] at a;have e:∀v,([qyQ p,qyQ q]:zA un)[j]?=some v->(vs.take m++[qyQ p,qyQ q]++sp)[m+j]?=some v:=χ;grind}
def AT (V:Ó)(v:Value)(root:Int)(l:List Nd):Prop:=∃q n c,v=.agg #[.int .i64 root,.slice q n c]/\NS V q n c l
theorem AT.le {V V':ut}{root:Int}{l:zA Nd}(h:AT V v root l)(u:V.Le V'):AT V' v root l:=by obtain ⟨q,n,c,e,h⟩:=h;exact ⟨q,n,c,e,h.le u⟩
theorem OT {l:zA Nd}(u:∀x∈l,Bd x.ln){root:Int}(h:AT V v root l):À 83 #[v] V λr W=>∃q,r=æ #[qyQ q,Õ (Fx l root).isSome]/\∀t,Fx l root=some t->RT W q t:=by obtain ⟨p,n,c,rfl,h⟩:=h;refine (Rk u root h).s ?_;rintro r V' _ ⟨b,d⟩;(cases e:Fx l root with|none=>{obtain ⟨q,rfl⟩:=b e;exact ⟨q,rfl,λt a=>by cases a⟩}|some t=>{obtain ⟨q,rfl,f⟩:=d t e;exact ⟨q,rfl,λg a=>by cases a;exact f⟩})
def RW (V:Ó):OA->Tr->Prop
 | p,.leaf i=>∃(b:Nat)(u z c4 c5 c6 c7 c8 c9:Value),p=some ⟨b,0,none⟩/\V.aW b (.cells #[.bool true,.bool i,u,z,c4,c5,c6,c7,c8,c9] 80 (0,0))
 | p,.node l x y=>∃(b:Nat)(i:Bool)(b1:Bool)(D:OA)(E c1:Nat)(F:Bool)(M:OA)(N u:Nat)(O:Bool)(Z:OA)(n3 z:Nat)(pl pr:OA),p=some ⟨b,0,none⟩ /\
   V.aW b (.cells #[.bool false,.bool i,.bool b1,.slice D E c1,.bool F,.slice M N u,.bool O,.slice Z n3 z,.pointer pl,.pointer pr] 80 (0,0)) /\
   RL V (.agg #[.bool b1,.slice D E c1,.bool F,.slice M N u,.bool O,.slice Z n3 z]) l.1 l.2.1 l.2.2/\RW V pl x/\RW V pr y
theorem RW.le {V V':ut}(h:V.Le V'):∀{t:Tr} {p:OA},RW V p t->RW V' p t
 | .leaf i,p,⟨b,u,z,E,F,M,N,O,Z,e,D⟩=>⟨b,u,z,E,F,M,N,O,Z,e,h _ _ D⟩
 | .node l x y,p,⟨b,i,b1,p1,n1,c1,b2,p2,n2,u,b3,p3,n3,z,pl,pr,e,D,hl,hx,hy⟩=>⟨b,i,b1,p1,n1,c1,b2,p2,n2,u,b3,p3,n3,z,pl,pr,e,h _ _ D,hl.le h,RW.le h hx,RW.le h hy⟩
theorem cO (i:md):À 26 #[Õ i] V λr W=>∃p,r=qyQ p/\RW W p (.leaf i):=
 EH V _ λc d b a=>⟨_,rfl,b,_,_,_,_,_,_,_,_,rfl,a⟩
def jO (x:L3):Prop:=ch x=true/\Bd x
theorem Rj:∀(k:Nat) {V:ut} {tb:Nat} {p:OA} {n c:Nat} {at_:Int},k<=10->K0 V p n->n<=400->ka V tb p n c at_->V.X tb->0<=at_ ->À 8 #[qyQ (some ⟨tb,0,none⟩),Ô .i64 (k:Int)] V λr W=>∃q t at',r=qyQ q/\RW W q t/\t.dJ jO/\t.size<2^k/\0<=at'/\ka W tb p n c at':=by
 intro k
 induction k with
 | zero=>
  intro V tb p n c at_ _ d e hw v w;refine lP tb p n c at_ _ V _ hw v ⟨λg V1 l1 y e1 h1=>(fC (V:=V1.ar [y]) 2 (d.le λb o h=>l1 b o h) e e1 ⟨ψ,h1⟩ w ω).s ?_,λg=>by simp at g⟩;rintro r V2 l2 ⟨x,Y,rfl,-,-,t1,f⟩;refine ⟨_,rfl,_,_,_,_,f,λV3 l3=>(cO _).s ?_⟩;rintro r V4 l4 ⟨q,rfl,z⟩;exact ⟨_,rfl,λV5 l5 e5=>⟨_,_,Y,rfl,z.le l5,trivial,by simp [Tr.size],t1,e5⟩⟩
 | succ k ih=>
  intro V tb p n c at_ hk d e hw v w;refine lP tb p n c at_ _ V _ hw v ⟨λg=>by rw [Ë] at g;omega,λ_ V6 Z A e6 h6=>(fC (V:=V6.ar [A]) 4 (d.le λb o h=>Z b o h) e e6 ⟨ψ,h6⟩ w ω).s ?_⟩;rintro r V7 l7 ⟨x,Y,rfl,-,-,t1,f⟩;have i:V.Le V7:=λb o h=>l7 b o (Z b o h);refine ⟨_,rfl,_,_,_,_,f,λg V8 l8 UJ e8 h8=>(fC (V:=V8.ar [UJ]) 2 (d.le λb o h=>l8 b o (i b o h)) e e8 ⟨ψ,h8⟩ t1 ω).s ?_,λg iL dS l B C=>(c_L (V:=iL.ar [l]) (d.le λb o h=>dS b o (i b o h)) e B ⟨ψ,C⟩ t1).s ?_⟩
  ·rintro r V9 l9 ⟨x,m,rfl,-,-,t2,j⟩;refine ⟨_,rfl,_,_,_,_,j,λfo a0=>(cO _).s ?_⟩;rintro r fg dy ⟨q,rfl,z⟩;exact ⟨_,rfl,λgT dX D=>⟨_,_,m,rfl,z.le dX,trivial,by simpa [Tr.size] using ı _,t2,D⟩⟩
  ·rintro r lR gj ⟨ln,m,hl,E,F,t2,j⟩;obtain ⟨b1,u1,v1,w1,b2,u2,v2,w2,b3,u3,v3,w3,rfl⟩:=(wI hl);have a:V.Le lR:=λb o h=>gj b o (dS b o (i b o h));have wk:i64.wrap (((k+1:Nat):Int)-1)=(k:Int):=by{rw [ao ω];omega};refine wqQ ⟨rfl,_,_,_,_,j,λlS G UM H I=>?_⟩;rw [wk];refine ((ih (V:=lS.ar [UM]) ω (d.le λb o h=>G b o (a b o h)) e H ⟨ψ,I⟩ t2).s ?_);rintro r kH fy ⟨qa,ta,a1,rfl,J,K,a2,t3,L⟩;have Zi:V.Le kH:=λb o h=>fy b o (G b o (a b o h));refine ⟨_,rfl,_,_,_,_,L,λlT M s N O=>(ih (V:=lT.ar [s]) ω (d.le λb o h=>M b o (Zi b o h)) e N ⟨ψ,O⟩ t3).s ?_⟩;rintro r mZ hU ⟨qb,P,Q,rfl,R,S,a3,t4,T⟩;refine ⟨_,rfl,_,_,_,_,T,λpS U u W hb=>⟨_,.node ln ta P,Q,rfl,⟨u,_,_,_,_,_,_,_,_,_,_,_,_,_,_,_,rfl,hb,?_,?_,?_⟩,⟨⟨E,F⟩,K,S⟩,?_,t4,W⟩⟩;{exact hl.le λb o h=>U b o (hU b o (M b o (fy b o (G b o h))))};{exact RW.le (V:=kH) (V':=pS) (λb o h=>U b o (hU b o (M b o h))) J};{exact RW.le (V:=mZ) (V':=pS) (λb o h=>U b o h) R};{simp only [Tr.size];rw [ġ];omega}
def Tr.depth:Tr->Nat
 | .leaf _=>0
 | .node _ a b=>1+max a.depth b.depth
theorem kZ:∀t:Tr,t.depth<=t.size
 | .leaf _=>Ù _
 | .node _ a b=>by have:=kZ a;have:=kZ b;simp only [Tr.depth,Tr.size];omega
theorem SI {a b:Nat}(u:a<=1000000)(y:b<=1000000:=by omega):i64.wrap ((1:Int)+b_ (a:Int) (b:Int))=((1+max a b:Nat):Int):=by have:b_ (a:Int) (b:Int)=((max a b:Nat):Int):=by{unfold b_;split<;>omega};rw [this,ao ω];omega
theorem pX:∀(t:Tr) {V:ut} {p:OA},RT V p t->t.size<=1000000->À 84 #[qyQ p] V λr W=>r=Ô .i64 (t.depth:Int)
 | .leaf i,V,p,h,u=>by
  refine ru V _ λD l1=>(dN (h.le l1)).s ?_;rintro r V2 y rfl;exact ⟨_,rfl,λ_ M N=>rfl,π⟩
 | .node ln a b,V,p,h,u=>by
  refine ru V _ λD l1=>(dN (h.le l1)).s ?_;rintro r V2 y rfl;obtain ⟨O,Z,x2,x3,y1,y2,y3,z1,z2,z3,pl,E,i,rfl,z,hl,F,hbb⟩:=h.le (l1.m y);have s1:=kZ a;have s2:=kZ b;simp only [Tr.size] at u;refine ⟨_,rfl,π,λ_=>⟨rfl,rfl,pl,yY z 9 rfl,rfl,rfl,E,yY z 10 rfl,λd c=>(pX a (F.le c) ω).s λr e f rfl=>⟨_,rfl,λg j=>(pX b (hbb.le au) ω).s λr k l rfl=>⟨_,rfl,λm n=>by rw [SI ω];rfl⟩⟩⟩⟩
def lo1:Tr->Int
 | .leaf i=>if i then 0 else 1
 | .node ..=>0
theorem ku {i:md}(h:RW V p (.leaf i)):p.isSome=true/\(∃a,ae p 0=some a/\V.at a (Õ true))/\∃a,ae p 1=some a/\V.at a (Õ i):=by obtain ⟨b,d,e,f,g,j,k,l,m,rfl,c⟩:=h;exact ⟨rfl,yY c 0 rfl,yY c 1 rfl⟩
end Go.Proofs.Tryz
