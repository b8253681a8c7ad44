import Derived.Test.YtdfckdifmjeieaaGreatDoorC18
set_option linter.all false
open Go.IntKind (i64 u64 u32)
namespace Go.Proofs.Tryz
open Go.Eng Go.Big
section
open Go.Value renaming slice→yG,agg→hF,bool→dB
variable{V:Ó}{xs:List Value}{p:OA}{n:Nat}
theorem Uk {a b:Rat}:dw a b<0↔a<b:=by
 rcases cz a b with ⟨h,e⟩|⟨h,e⟩|⟨h,e⟩<;>rw [e]<;>constructor<;>intro c<;>first|exact h|omega|(exfalso;grind)
def rq_one {q:Rat}(h:RQ V (.agg xs.toArray) q):∀v∈xs,v.oneCell'=true:=by obtain ⟨p,n,c,b,d,e,ex⟩:=h.shape;have ex:=Æ Array.toList (Value.agg.inj ex);dsimp only at ex;subst ex;intro v a;simp only [ç,ě,Ì] at a;rcases a with rfl|rfl|rfl<;>rfl
set_option maxHeartbeats 1000000 in
def H_ {c:Nat}{ss:zA Sp}(h:PH V p n ss)(hn:ss.length<100000000){k:Nat}(hs:∀s∈ss,s.sz k)(hk:2*k<2^38:=by omega):À 274 #[yG p n c] V λr W=>∃q m e,r=yG q m e/\bP 3 RQ W q m (à ss):=by
 obtain rfl:=h.len
 refine FY V _ ⟨λz V'=>∃i:Nat,z.2.2.2=(i:Int)/\i<=ss.length/\z.1=(à (ss.take i)).length/\z.1<=z.2.1/\z.2.1*3<=z.2.2.1.length/\è 3 RQ V' z.2.2.1 (à (ss.take i)),λz=>ss.length-z.2.2.2.toNat,
  ⟨(0,0,[],0),σ,0,rfl,ä _,rfl,Ù _,Ù _,è.nil⟩,?_⟩
 rintro ⟨z1,z2,vs,z4⟩ V1 l1 ⟨i,e4,Xu,e1,ic,hv,hx⟩;dsimp only at e4 e1 ic hv hx;subst e4;refine ⟨rfl,λf=>?_,λf ji fk bk hb=>?_⟩
 ·have f:(i:Int)<ss.length:=Á f;have hi:i<ss.length:=ω
  have w:i64.wrap ((i:Int)+1)=(i:Int)+1:=ay ω;dsimp only;rw [Ý,w];obtain ⟨ad,I,xs,hf,l⟩:=(h.le l1).at_ i hi;have A:=hs _ (ú hi);have v:=NX hi
  have b5:(à (ss.take i)).length<300000000:=by have:=GU (ss.take i);rw [ë] at this;omega
  have a3:∀q∈à (ss.take i),Sz k q:=λq hq=>by have ⟨s,h1,h2⟩:=yB hq;have:=hs s (Qn7 h1);rcases h2 with rfl|rfl;{exact this.1};exact this.2
  generalize à (ss.take i)=o at *;generalize ss[i]=s at *;obtain ⟨b,K,L,M,N,P,Q,d,S,T,f1,U,W,f2,ex,b6,b7⟩:=hf;have ex:=Æ Array.toList (Value.agg.inj ex);dsimp only at ex;subst ex
  refine ⟨bf I,ų,b,K,L,M,N,P,Q,d,S,T,f1,U,W,f2,s.a,s.b,ad,I,l 0 _ rfl,l 1 _ rfl,l 2 _ rfl,l 3 _ rfl,l 4 _ rfl,l 5 _ rfl,l 6 _ rfl,l 7 _ rfl,
   λz _=>z=(2,2,[dB b,yG K L M,yG N P Q,dB d,yG S T f1,yG U W f2],2,0),⟨(2,2,[dB b,yG K L M,yG N P Q,dB d,yG S T f1,yG U W f2],2,0),by and_intros<;>first|rfl|decide,rfl⟩,?_⟩
  rintro z V2 l2 rfl;dsimp only
  refine ⟨rfl,λz V'=>∃y:Nat,z.2.2.2=(y:Int)/\y<=2/\z.1=(fA s o y).length/\z.1<=z.2.1/\z.2.1*3<=z.2.2.1.length/\è 3 RQ V' z.2.2.1 (fA s o y),λz=>2-z.2.2.2.toNat,
   ⟨(z1,z2,vs,0),σ,0,rfl,ω,e1,ic,hv,hx.le λ_ _ g=>g.le l2⟩,?_⟩
  rintro ⟨C,w2,us,w4⟩ V3 l3 ⟨y,f4,X,Y,E,Z,F⟩;dsimp only at f4 Y E Z F;subst f4;refine ⟨rfl,λhy=>?_,λhy=>?_⟩
  ·have hy:(y:Int)<2:=Á hy;have a4:y<2:=ω
   have a0:=O5 (s:=s) (o:=o) a4;have b8:=Hw (s:=s) (o:=o) X
   have a1:∀q∈fA s o y,Sz k q:=λq hq=>by rcases Hx X hq with h|h|h;{rw [h];exact A.1};{rw [h];exact A.2};exact a3 q h
   have wy:i64.wrap ((y:Int)+1)=(y:Int)+1:=ay ω;generalize hO:fA s o y=O at *;generalize Yw:fA s o (y+1)=O' at *
   have el:∃eb ep en ec eq em ee x no,([dB b,yG K L M,yG N P Q,dB d,yG S T f1,yG U W f2].drop (y*3)).take 3=[Value.bool eb,yG ep en ec,yG eq em ee]/\RQ V3 (hF #[dB eb,yG ep en ec,yG eq em ee]) x/\Sz k x/\O'=(if no=true then O else dJ x O) /\
     ((y=0/\no=s.a)\/(y=1/\no=s.b)):=by
    have:y=0\/y=1:=ω
    rcases this with rfl|rfl
    ·exact ⟨b,K,L,M,N,P,Q,s.lo,s.a,rfl,ra,A.1,a0,.inl ⟨rfl,rfl⟩⟩
    ·exact ⟨d,S,T,f1,U,W,f2,s.hi,s.b,rfl,ra,A.2,a0,.inr ⟨rfl,rfl⟩⟩
   obtain ⟨eb,ep,en,ec,eq,em,ee,x,no,a5,hq,sx,G,a6⟩:=el;dsimp only;rw [Ý,wy];refine ⟨ų,Ù _,eb,ep,en,ec,eq,em,ee,⟨by simp;omega,a5⟩,λz _=>z=no,?_,?_⟩
   ·rcases a6 with ⟨rfl,rfl⟩|⟨rfl,rfl⟩;{exact ⟨λ_=>⟨λI=>⟨true,σ,I.symm⟩,λI=>⟨(λh=>by simp at h),λ_=>⟨false,σ,I.symm⟩⟩⟩,λh=>by simp at h⟩};exact ⟨λh=>by simp at h,λ_=>⟨λ_=>⟨s.b,σ,rfl⟩,λh=>by simp at h⟩⟩
   ·rintro z V4 l4 rfl;refine ⟨rfl,λu=>⟨(C,w2,us,(y:Int)+1),ω,σ,y+1,rfl,ω,?_,E,Z,?_⟩,λu=>?_⟩;{show C=(fA s o (y+1)).length;rw [Yw,G,Ä u];exact Y};{show è 3 RQ V4 us (fA s o (y+1));rw [Yw,G,Ä u];exact F.le λ_ _ g=>g.le l4};have H:O'=dJ x O:=by{rw [G,u];rfl};refine ⟨λz _=>∃j:Nat,z=(j:Int)/\j<=O.length/\∀(D:Nat)(h:D<O.length),D<j->O[D]<x,λz=>O.length-z.toNat,⟨0,σ,0,rfl,ä _,λD _ h=>Å h (ţ D)⟩,?_⟩;rintro z V5 l5 ⟨j,rfl,yH,jl⟩;have wj:i64.wrap ((j:Int)+1)=(j:Int)+1:=ay ω;rw [Ý,wj];refine ⟨rfl,λz _=>z=true↔∃h:j<O.length,O[j]<x,⟨λf=>?_,λf=>⟨false,σ,?_⟩⟩,?_⟩;{have f:=Á f;have B:j<O.length:=ω;have ⟨rb,rp,rn,rc,rq,rm,re,gH,NZ,hr⟩:=Wx F B;refine ⟨ų,E,rb,rp,rn,rc,rq,rm,re,⟨gH,NZ⟩,λV6 l6=>(e_ ra ra (a1 _ (ú B)) sx).s λr V7 l7 rfl=>⟨_,rfl,_,σ,by dsimp only;rw [Ñ,Uk];exact ⟨λh=>⟨B,h⟩,λ⟨_,h⟩=>h⟩⟩⟩};{have f:=Â f;exact ⟨π,λ⟨h,_⟩=>Å h ω⟩};rintro z V8 l8 U1;refine ⟨rfl,λu=>?_,λu=>?_⟩;{have ⟨B,a7⟩:=U1.1 u;refine ⟨(j:Int)+1,ω,σ,j+1,rfl,B,λD h b9=>?_⟩;by_cases e:D=j;{subst e;exact a7};exact jl D h ω};have a8:∀h:j<O.length,¬O[j]<x:=λh h'=>by{have:=U1.2 ⟨h,h'⟩;rw [u] at this;cases this};have t:=YK O j yH jl a8;refine ⟨λz _=>z=true↔¬∃h:j<O.length,O[j]=x,⟨λhe=>⟨true,σ,?_⟩,λhe=>?_⟩,?_⟩;{have he:(j:Int)=(C:Int):=by{simpa using he};exact ⟨λ_ ⟨h,_⟩=>Å h ω,λ_=>rfl⟩};{have he:¬(j:Int)=(C:Int):=by{simpa using he};have B:j<O.length:=ω;have ⟨rb,rp,rn,rc,rq,rm,re,gH,NZ,hr⟩:=Wx F B;refine ⟨ų,E,rb,rp,rn,rc,rq,rm,re,⟨gH,NZ⟩,λV6 l6=>(e_ ra ra (a1 _ (ú B)) sx).s λr V7 l7 rfl=>⟨_,rfl,_,σ,by dsimp only;rw [bne_iff_ne,ne_eq,<-iW];exact ⟨λh ⟨_,h'⟩=>h h',λh h'=>h ⟨B,h'⟩⟩⟩⟩};rintro z eX dq CG;refine ⟨rfl,λu gQ eJ bk hb J=>?_,λu=>?_⟩;{have a9:=CG.1 u;rw [Ã a9] at t;obtain ⟨xs,ys,x1,x2,x3,y1,y2,y3,r1,r2,r3,r4,r5⟩:=Bo (V:=gQ) (R:=RQ) (GR.s ⟨Y,E,Z,F⟩ λ_ _ g=>g.le aA) φ (λ_ _=>rq_one) hb (es:=[_,_,_]) rfl ra (j:=j);refine ⟨ų,ų,ų,xs,x1,x2,ω,Ù _,Ù _,x2,x3,λc0 J2 sp c' h1 h2=>?_⟩;show ∃_,_;rw [r1,r2];(refine ⟨ys,y1,y2,Ù _,y3,ω,ω,r3,r4,λb0 a2 h3 h4=>⟨(j+(1+(C-j)),a2,_,(y:Int)+1),ω,Ų,y+1,rfl,ω,?_⟩⟩;have r6:=r5 b0 a2 h3 h4;rw [<-t,<-H,<-Yw] at r6;exact ⟨r6.len,r6.le,r6.cap,r6.row⟩)};have hex:=Qv0 λh=>by{have:=CG.2 h;rw [u] at this;cases this};rw [Ä hex] at t;refine ⟨(C,w2,us,(y:Int)+1),ω,σ,y+1,rfl,ω,?_,E,Z,?_⟩;{show C=(fA s o (y+1)).length;rw [Yw,H,t];exact Y};show è 3 RQ eX us (fA s o (y+1));rw [Yw,H,t];exact F.le λ_ _ g=>g.le aA
  ·have hy:¬(y:Int)<2:=Â hy;obtain rfl:y=2:=ω;exact ⟨(C,w2,us,(i:Int)+1),ω,σ,i+1,rfl,hi,by dsimp only;rw [v];exact Y,E,Z,by dsimp only;rw [v];exact F⟩
 ·have f:¬(i:Int)<ss.length:=Â f;obtain rfl:i=ss.length:=ω;rw [Ī] at e1 hx;subst e1;exact ⟨_,_,_,rfl,bP.bR hb (hx.le λ_ _ g=>g.le fk) φ ic⟩
def dS (cuts:List Rat)(i:Nat):Sp:=⟨if 0<i then cuts.getD (i-1) 0 else 0,if i<cuts.length then cuts.getD i 0 else 0,decide (i=0),decide (i=cuts.length)⟩
def yJ (out:List Sp)(s:Sp):List Sp:=out.dropLast++[⟨(out.getLastD Sp.zero).lo,s.hi,(out.getLastD Sp.zero).a,s.b⟩]
def cH (cuts:List Rat)(marks:List Bool):Nat->List Sp
 | 0=>[]
 | i+1=>if marks.getD i false=true then (if 0<i/\marks.getD (i-1) false=true/\0<(cH cuts marks i).length then yJ (cH cuts marks i) (dS cuts i) else cH cuts marks i++[dS cuts i]) else cH cuts marks i
def G3 (cuts:List Rat)(marks:List Bool):List Sp:=cH cuts marks marks.length
theorem CP {out:zA Sp}{s:Sp}(h:0<out.length):(yJ out s).length=out.length:=by grind [yJ]
theorem G2 (cuts:zA Rat)(marks:zA ut)(i:Nat):(cH cuts marks i).length<=i:=by
 induction i with
 | zero=>simp [cH]
 | succ i u=>
  unfold cH;split
  ·split;{rename_i h;rw [CP h.2.2];omega};grind
  ·omega
theorem Wv {α:Type}{sz:Nat}{R:un->um->α->Prop}{vs us:zA um}{ls:zA α}(h:è sz R V vs ls)(z:0<ls.length){a:α}(u:xs.length=sz)(y:R V (.agg xs.toArray) a)(hlow:∀q,q<(ls.length-1)*sz->us[q]?=vs[q]?)(hlast:∀j x,xs[j]?=some x->us[(ls.length-1)*sz+j]?=some x):è sz R V us (ls.dropLast++[a]):=by refine ⟨λi n=>?_⟩;have o:(ls.dropLast++[a]).length=ls.length:=by{rw [í,List.length_dropLast];simp;omega};by_cases e:i=ls.length-1;{subst e;refine ⟨xs,u,?_,hlast⟩;have b:(ls.dropLast++[a])[ls.length-1]=a:=χ;rw [b];exact y};have c:i<ls.length-1:=ω;have ⟨d,f,g,p⟩:=h.at_ i ω;refine ⟨d,f,?_,λj x k=>?_⟩;{have b:(ls.dropLast++[a])[i]=ls[i]:=χ;rw [b];exact g};have l:=(đ.1 k).1;have m:i*sz+j<(ls.length-1)*sz:=by{have:(i+1)*sz<=(ls.length-1)*sz:=Ă _ ω;grind};grind
def RBl (_:Ó)(v:Value)(b:Bool):Prop:=v=.agg #[.bool b]
theorem rb_at {u:zA ut}(h:bP 1 RBl V p n u){i:Nat}(hi:i<u.length):∃ad,af p (i*1)=some ad/\V.at ad (dB u[i]):=by obtain ⟨ad,b,xs,-,e,a⟩:=h.at_ i hi;have e:=Æ Array.toList (Value.agg.inj e);subst e;have:=a 0 _ rfl;grind [Addr.add]
def xl {s:Sp}(h:t_ V (.agg xs.toArray) s):∃b p n c u n' y d q m e z E F,xs=[dB b,yG p n c,yG u n' y,dB d,yG q m e,yG z E F,dB s.a,dB s.b]/\RQ V (hF #[dB b,yG p n c,yG u n' y]) s.lo/\RQ V (hF #[dB d,yG q m e,yG z E F]) s.hi:=by obtain ⟨_,_,_,_,_,_,_,_,_,_,_,_,_,_,ex,f,g⟩:=h;exact qxW ⟨(Æ Array.toList (Value.agg.inj ex)),f,g⟩
def Je (V:un):RQ V (hF #[dB false,yG none 0 0,yG none 0 0]) 0:=by have:=RQ.zero (V:=V);simpa using this
set_option maxHeartbeats 1000000 in
def H9 {q:OA}{c m e:Nat}{cuts:zA Rat}{marks:zA ut}(hc:bP 3 RQ V p n cuts)(hm:bP 1 RBl V q m marks)(hlen:marks.length=cuts.length+1)(hn:cuts.length<100000000:=by omega):À 277 #[yG p n c,yG q m e] V λr W=>∃p' n' c',r=yG p' n' c'/\bP 8 t_ W p' n' (G3 cuts marks):=by
 obtain rfl:=hc.len;obtain rfl:=hm.len
 refine FV V _ ⟨λz V'=>∃i:Nat,z.2.2.2=(i:Int)/\i<=marks.length/\z.1=(cH cuts marks i).length/\z.1<=z.2.1/\z.2.1*8<=z.2.2.1.length/\è 8 t_ V' z.2.2.1 (cH cuts marks i),λz=>marks.length-z.2.2.2.toNat,
  ⟨(0,0,[],0),σ,0,rfl,ä _,rfl,Ù _,Ù _,è.nil⟩,?_⟩
 rintro ⟨f,z2,vs,z4⟩ V1 Z ⟨i,e4,Xu,O,K,hv,hx⟩;dsimp only at e4 O K hv hx;subst e4;refine ⟨rfl,λD=>?_,λD V5 l5 bk hb=>?_⟩
 ·have D:(i:Int)<marks.length:=Á D;have hi:i<marks.length:=ω;have w:i64.wrap ((i:Int)+1)=(i:Int)+1:=ay ω;have a8:=G2 cuts marks i;have Q:marks.getD i false=marks[i]:=by{rw [Ę,ñ hi];rfl};have R:marks[i]=false->cH cuts marks (i+1)=cH cuts marks i:=λh=>by{show (if marks.getD i false=true then _ else _)=_;rw [Q,h];rfl};have l:marks[i]=true->cH cuts marks (i+1)=if 0<i/\marks.getD (i-1) false=true/\0<(cH cuts marks i).length then yJ (cH cuts marks i) (dS cuts i) else cH cuts marks i++[dS cuts i]:=λh=>by{show (if marks.getD i false=true then _ else _)=_;rw [Q,h];rfl};dsimp only;rw [Ý,w];have ⟨ad,ha,a0⟩:=rb_at (hm.le Z λ_ _ g=>g) hi;refine ⟨bf ha,ų,marks[i],⟨ad,ha,a0⟩,λhb=>?_,λhb=>?_⟩;{rw [Į] at hb;exact ⟨(f,z2,vs,(i:Int)+1),ω,σ,i+1,rfl,hi,by dsimp only;rw [R hb];exact O,K,hv,by dsimp only;rw [R hb];exact hx⟩};rw [ŏ] at hb;have l:=l hb;generalize cH cuts marks i=out at *;generalize hO:cH cuts marks (i+1)=out' at *;refine ⟨λz V'=>RQ V' (hF #[dB z.1,yG z.2.1 z.2.2.1 z.2.2.2.1,yG z.2.2.2.2.1 z.2.2.2.2.2.1 z.2.2.2.2.2.2.1]) ((dS cuts i).lo)/\RQ V' (hF #[dB z.2.2.2.2.2.2.2.1,yG z.2.2.2.2.2.2.2.2.1 z.2.2.2.2.2.2.2.2.2.1 z.2.2.2.2.2.2.2.2.2.2.1,yG z.2.2.2.2.2.2.2.2.2.2.2.1 z.2.2.2.2.2.2.2.2.2.2.2.2.1 z.2.2.2.2.2.2.2.2.2.2.2.2.2.1]) (0)/\z.2.2.2.2.2.2.2.2.2.2.2.2.2.2.1=decide (i=0)/\z.2.2.2.2.2.2.2.2.2.2.2.2.2.2.2=decide (i=cuts.length),⟨λs=>?_,λs=>⟨(false,none,0,0,none,0,0,false,none,0,0,none,0,0,(i:Int)==0,(i:Int)==(cuts.length:Int)),σ,?_⟩⟩,?_⟩;{have s:=Á s;have k:i-1<cuts.length:=ω;have S:i64.wrap ((i:Int)-1)=((i-1:Nat):Int):=ŵ;rw [S,Ý];obtain ⟨T,b1,p3,n3,c3,p4,n4,c4,t,E,b0,L,b2⟩:=Ds (hc.le Z) k;refine ⟨bf t,ų,_,_,_,_,_,_,_,T,t,b0,L,b2,(b1,p3,n3,c3,p4,n4,c4,false,none,0,0,none,0,0,(i:Int)==0,(i:Int)==(cuts.length:Int)),σ,?_,Je _,?_,?_⟩;{show RQ V1 _ (if 0<i then cuts.getD (i-1) 0 else 0);rw [Ä ω,jQ k];exact E};{show ((i:Int)==0)=decide (i=0);rw [ģ,Ë,Ñ];omega};show ((i:Int)==(cuts.length:Int))=decide (i=cuts.length);rw [ģ,Ë,Ñ];omega};{have s:=Â s;refine ⟨?_,Je _,?_,?_⟩;{show RQ V1 _ (if 0<i then cuts.getD (i-1) 0 else 0);rw [Ã ω];exact Je _};{show ((i:Int)==0)=decide (i=0);rw [ģ,Ë,Ñ];omega};show ((i:Int)==(cuts.length:Int))=decide (i=cuts.length);rw [ģ,Ë,Ñ];omega};rintro ⟨x1,x2,x3,x4,x5,x6,x7,x8,x9,a1,A_,M5,M6,a2,a9,b5⟩ V2 l2 ⟨hA,hB,hC,hD⟩;dsimp only at hA hB hC hD;subst hC hD;refine ⟨rfl,λz V'=>RQ V' (hF #[dB z.1,yG z.2.1 z.2.2.1 z.2.2.2.1,yG z.2.2.2.2.1 z.2.2.2.2.2.1 z.2.2.2.2.2.2.1]) ((dS cuts i).lo)/\RQ V' (hF #[dB z.2.2.2.2.2.2.2.1,yG z.2.2.2.2.2.2.2.2.1 z.2.2.2.2.2.2.2.2.2.1 z.2.2.2.2.2.2.2.2.2.2.1,yG z.2.2.2.2.2.2.2.2.2.2.2.1 z.2.2.2.2.2.2.2.2.2.2.2.2.1 z.2.2.2.2.2.2.2.2.2.2.2.2.2.1]) ((dS cuts i).hi)/\z.2.2.2.2.2.2.2.2.2.2.2.2.2.2.1=decide (i=0)/\z.2.2.2.2.2.2.2.2.2.2.2.2.2.2.2=decide (i=cuts.length),⟨λs=>?_,λs=>⟨(x1,x2,x3,x4,x5,x6,x7,x8,x9,a1,A_,M5,M6,a2,decide (i=0),decide (i=cuts.length)),σ,hA,?_,rfl,rfl⟩⟩,?_⟩;{have s:=Á s;have k:i<cuts.length:=ω;obtain ⟨T,b1,p3,n3,c3,p4,n4,c4,t,E,b0,L,b2⟩:=Ds (hc.le (Z.m l2)) k;refine ⟨bf t,ų,_,_,_,_,_,_,_,T,t,b0,L,b2,(x1,x2,x3,x4,x5,x6,x7,b1,p3,n3,c3,p4,n4,c4,decide (i=0),decide (i=cuts.length)),σ,hA,?_,rfl,rfl⟩;show RQ V2 _ (if i<cuts.length then cuts.getD i 0 else 0);rw [Ä k,jQ k];exact E};{have s:=Â s;show RQ V2 _ (if i<cuts.length then cuts.getD i 0 else 0);rw [Ã ω];exact hB};rintro ⟨y1,y2,y3,y4,y5,y6,y7,H,I,u,y,A,B,C,b6,b7⟩ V3 l3 ⟨kA,kB,kC,kD⟩;dsimp only at kA kB kC kD;subst kC kD;refine ⟨rfl,λz _=>z=decide (0<i/\marks.getD (i-1) false=true/\0<out.length),⟨λs=>?_,λs=>⟨false,σ,?_⟩⟩,?_⟩;{have s:=Á s;have k:i-1<marks.length:=ω;have S:i64.wrap ((i:Int)-1)=((i-1:Nat):Int):=ŵ;have a3:marks.getD (i-1) false=marks[i-1]:=by{rw [Ę,ñ k];rfl};rw [S,Ý,a3];have ⟨T,t,U⟩:=rb_at (hm.le (Z.m (l2.m l3)) λ_ _ g=>g) k;refine ⟨bf t,ų,marks[i-1],⟨T,t,U⟩,λM=>⟨_,σ,?_⟩,λM=>⟨false,σ,?_⟩⟩;{dsimp only;rw [M,É];constructor;{intro h;exact ⟨ω,rfl,ω⟩};rintro ⟨_,_,h⟩;omega};dsimp only;rw [M];simp};{have s:=Â s;dsimp only;rw [È];rintro ⟨h,_⟩;omega};rintro z V4 l4 rfl;have gA:t_ V4 (hF #[dB y1,yG y2 y3 y4,yG y5 y6 y7,dB H,yG I u y,yG A B C,dB (decide (i=0)),dB (decide (i=cuts.length))]) (dS cuts i):=qxW ⟨rfl,ra,kB.le l4⟩;have F:=hx.le (V':=V4);refine ⟨rfl,λJ=>?_,λJ=>?_⟩;{have J:=Á J;rw [Ä J] at l;have S:i64.wrap ((f:Int)-1)=((f-1:Nat):Int):=ŵ;rw [S,Ý];have W:=J.2.2;have b8:=F.eH φ;have X:out.length-1<out.length:=ω;have a4:out.getLastD Sp.zero=out[out.length-1]:=by{rw [Wz6,List.getLast?_eq_getElem?,ñ X];rfl};obtain ⟨b9,-,a5,a6⟩:=F.at_ (out.length-1) X;obtain ⟨b,s1,s2,s3,s4,s5,s6,d,t1,t2,t3,t4,t5,t6,ex,E,c0⟩:=xl a5;subst ex;have sv:=mq (vs:=vs) (xs:=[dB H,yG I u y,yG A B C]) (o:=(f-1)*8+3) (by simp only [Ċ,Ŀ];omega);have a7:(bI vs ((f-1)*8+3) [dB H,yG I u y,yG A B C]).length=vs.length:=by{rw [sv];simp only [í,ë,Ĵ,Ċ,Ŀ];omega};have sg:∀r,r<(f-1)*8+3\/(f-1)*8+6<=r->(bI vs ((f-1)*8+3) [dB H,yG I u y,yG A B C])[r]?=vs[r]?:=by{intro r Y;rw [sv,Ĝ];have P:(vs.take ((f-1)*8+3)).length=(f-1)*8+3:=by{rw [ë];omega};rcases Y with Y|Y;{rw [ĳ ω,Ĳ,Ä Y]};rw [ň ω,ň (by rw [P];simp only [Ċ,Ŀ];omega),Qn9,P];congr 1;simp only [Ċ,Ŀ];omega};have sm:∀j x,([dB H,yG I u y,yG A B C]:zA um)[j]?=some x->(bI vs ((f-1)*8+3) [dB H,yG I u y,yG A B C])[(f-1)*8+3+j]?=some x:=by{intro j x G;have N:=(đ.1 G).1;have P:(vs.take ((f-1)*8+3)).length=(f-1)*8+3:=by{rw [ë];omega};rw [sv,Ĝ,ň ω,P,Qn2,ĳ N];exact G};generalize bI vs ((f-1)*8+3) [dB H,yG I u y,yG A B C]=us at *;refine ⟨ų,K,ω,ų,K,ω,(f,z2,us.set ((f-1)*8+7) (dB (decide (i=cuts.length))),(i:Int)+1),ω,σ,i+1,rfl,hi,?_,K,?_,?_⟩;{dsimp only;rw [hO,l,CP W];exact O};{dsimp only;rw [Qg1,a7];exact hv};dsimp only;rw [hO,l];unfold yJ;rw [a4];refine Wv F W (xs:=[dB b,yG s1 s2 s3,yG s4 s5 s6,dB H,yG I u y,yG A B C,dB out[out.length-1].a,dB (dS cuts i).b]) rfl (qxW ⟨rfl,E,ra⟩) ?_ ?_;{intro r Y;rw [Qn8 ω,sg r ω]};intro j x G;have N:=(đ.1 G).1;have c1:j<8:=N;by_cases h7:j=7;{subst h7;rw [show (out.length-1)*8+7=(f-1)*8+7 by omega,Qt5 ω];exact G};rw [Qn8 ω];by_cases h3:j<3\/j=6;{rw [sg _ ω];have hc:=a6 j x;have:j=0\/j=1\/j=2\/j=6:=ω;rcases this with rfl|rfl|rfl|rfl<;>exact hc G};{have:j=3\/j=4\/j=5:=ω;rcases this with rfl|rfl|rfl;{have:=sm 0 x G;rw [show (out.length-1)*8+3=(f-1)*8+3+0 by omega];exact this};{have:=sm 1 x G;rw [show (out.length-1)*8+4=(f-1)*8+3+1 by omega];exact this};{have:=sm 2 x G;rw [show (out.length-1)*8+5=(f-1)*8+3+2 by omega];exact this}}};have J:=Â J;rw [Ã J] at l;refine ⟨ω,K,hv,rfl,?_,λsp c' h1 h2=>⟨(f+1,c',_,(i:Int)+1),ω,σ,i+1,rfl,hi,?_,h1,?_,?_⟩⟩;{intro v CF;simp only [ç,ě,Ì] at CF;rcases CF with rfl|rfl|rfl|rfl|rfl|rfl|rfl|rfl<;>rfl};{dsimp only;rw [hO,l,í,O];rfl};{dsimp only;have P:(vs.take (f*8)).length=f*8:=by{rw [ë];omega};rw [í,í,P];simp only [Ċ,Ŀ];omega};dsimp only;rw [hO,l];have:=F.snoc (sp:=sp) rfl gA φ;rw [<-O] at this;exact this
 ·have D:¬(i:Int)<marks.length:=Â D;obtain rfl:i=marks.length:=ω;subst O;exact ⟨_,_,_,rfl,bP.bR hb (hx.le λ_ _ g=>t_.le g l5) φ K⟩
end
section
def getD_l {a b:zA Rat}{i:Nat}(h:i<a.length:=by omega):(a++b).getD i 0=a.getD i 0:=χ
def asc (c:List Rat):Prop:=c.Pairwise (·< ·)
theorem CJ {x q:Rat}:∀{o:zA Rat},q∈dJ x o↔q=x\/q∈o:=by
 intro o
 induction o with
 | nil=>simp [dJ]
 | cons y r u=>
  unfold dJ;split
  ·grind
  ·split;{rename_i e;subst e;exact ⟨.inr,λh=>h.elim (λe=>by subst e;simp) id⟩};rw [ç]
theorem K6 {x:Rat}:∀{o:zA Rat},asc o->asc (dJ x o):=by
 intro o
 induction o with
 | nil=>intro _;simp [dJ,asc]
 | cons y r u=>
  intro h;have ⟨d,a⟩:=į.1 h;unfold dJ;split
  ·rename_i c;refine į.2 ⟨λq b=>?_,u a⟩<;>grind [CJ.1]
  ·split;{exact h};rename_i e f;refine į.2 ⟨λq b=>?_,h⟩<;>grind
def Sp.cT (s:Sp)(q:Rat):Prop:=(s.a=false/\q=s.lo)\/(s.b=false/\q=s.hi)
theorem WR {s:Sp}{o:zA Rat}{q:Rat}:q∈fA s o 2↔s.cT q\/q∈o:=by show q∈(if s.b=true then (if s.a=true then o else dJ s.lo o) else dJ s.hi (if s.a=true then o else dJ s.lo o))↔_;unfold Sp.cT;cases s.a<;>cases s.b<;>simp [CJ];grind
theorem WQ {s:Sp}{o:zA Rat}(h:asc o):asc (fA s o 2):=by show asc (if s.b=true then (if s.a=true then o else dJ s.lo o) else dJ s.hi (if s.a=true then o else dJ s.lo o));cases s.a<;>cases s.b<;>simp [K6,h]
def GV:∀(ss:zA Sp)(o:zA Rat),(asc o->asc (ss.foldl (λo s=>fA s o 2) o))/\∀q,q∈(ss.foldl (λo s=>fA s o 2) o)↔q∈o\/∃s∈ss,s.cT q:=by
 intro ss
 induction ss<;>grind [WQ,WR]
def Cs (ss:zA Sp):asc (à ss):=(GV ss []).1 List.Pairwise.nil
def fw {ss:zA Sp}{q:Rat}:q∈à ss↔∃s∈ss,s.cT q:=by have:=(GV ss []).2 q;simpa [à] using this
section
variable{c:List Rat}(h:asc c)
include h
theorem xZ {i j:Nat}(hij:i<j)(u:j<c.length):c.getD i 0<c.getD j 0:=by rw [jQ,jQ u];exact Qb2.1 h i j ω u hij
theorem TT {i j:Nat}(hij:i<=j)(u:j<c.length):c.getD i 0<=c.getD j 0:=by rcases ē i j with a|a;{have:=xZ h a u;grind};grind
omit h
theorem Yt {i:Nat}{t:Rat}:(dS c i).inn t↔(0<i->c.getD (i-1) 0<t)/\(i≠c.length->i<c.length->t<c.getD i 0)/\(i≠c.length->c.length<i->t<0):=by unfold dS Sp.inn;grind
theorem rC {i:Nat}(hi:i<=c.length:=by omega){t:Rat}:(dS c i).inn t↔(0<i->c.getD (i-1) 0<t)/\(i<c.length->t<c.getD i 0):=by grind [Yt]
include h
theorem UL {i:Nat}(hi:i<=c.length):(dS c i).good:=by refine ⟨⟨λe=>?_,λe=>?_⟩,Sp.im.2 ?_⟩;{have e:=Á e;subst e;rfl};{have e:=Á e;subst e;exact Ã (Ww5 _)};by_cases a:i=0;{exact .inl (Ç a)};by_cases b:i=c.length;{exact .inr (.inl (Ç b))};refine .inr (.inr ?_);show (if 0<i then c.getD (i-1) 0 else 0)<(if i<c.length then c.getD i 0 else 0);grind [xZ]
theorem gap_ex {t:Rat}(y:t∉c):∃i,i<=c.length/\(dS c i).inn t:=by
 have key:∀k,k<=c.length->(∀j,j<k->c.getD j 0<t)\/∃i,i<=c.length/\(dS c i).inn t:=by
  intro k
  induction k with
  | zero=>exact λ_=>.inl λj b=>Å b (ţ j)
  | succ k u=>
   intro z;rcases u ω with g|g
   ·by_cases d:c.getD k 0<t;{grind};refine .inr ⟨k,ω,(rC).2 ⟨λa=>g _ ω,λ_=>?_⟩⟩<;>grind
   ·exact .inr g
 rcases key c.length (Ù _) with g|g
 ·exact ⟨c.length,Ù _,(rC (Ù _)).2 ⟨λa=>g _ ω,λa=>ω⟩⟩
 ·exact g
theorem rD {i:Nat}(hi:i<=c.length){t u x:Rat}(y:(dS c i).inn t)(hu:(dS c i).inn u)(z:x∈c):(x<t↔x<u)/\(t<x↔u<x)/\x≠t:=by obtain ⟨t1,t2⟩:=(rC hi).1 y;obtain ⟨d,e⟩:=(rC hi).1 hu;obtain ⟨j,b,rfl⟩:=Qh9 z;rcases ē j i with a|a;{have:=TT h (show j<=i-1 by omega) ω;grind};{have:=TT h a b;grind}
theorem Wc {i:Nat}(hi:i<=c.length):(dS c i).inn ((dY c).getD i 0):=by rw [rC hi];unfold dY;by_cases a:c.length=0;{exact ⟨λ_=>ω,λ_=>ω⟩};rw [Ã a];have b:=Dc c (show 1<=c.length by omega);by_cases d:i=c.length;{grind};rw [getD_l];unfold Fg;by_cases e:i=0;{grind};obtain ⟨m,rfl⟩:∃m,i=m+1:=⟨i-1,ω⟩;have:=xZ h (show m<m+1 by omega) ω;grind
omit h
theorem mg:(dY c).length=c.length+1:=by unfold dY;grind [Dc]
end
section
variable{c:List Rat}{ms:List Bool}
structure FI (c:List Rat) (ms:List Bool) (i:Nat):Prop where
 r:vr (cH c ms i)
 mem:∀t,t∉c->(At (cH c ms i) t↔∃j,j<i/\ms.getD j false=true/\(dS c j).inn t)
 top:0<i->i<=c.length->∀s∈cH c ms i,s.b=false/\s.hi<=c.getD (i-1) 0
 str:0<i->i<=c.length->ms.getD (i-1) false=false->∀s∈cH c ms i,s.hi<c.getD (i-1) 0
 last:0<i->i<=c.length->ms.getD (i-1) false=true->∃l0 l,cH c ms i=l0++[l]/\l.hi=c.getD (i-1) 0
theorem yM {ss:zA Sp}{s:Sp}{t:Rat}:At (ss++[s]) t↔At ss t\/s.inn t:=by constructor;{rintro ⟨x,a,b⟩;rcases ü.1 a with a|a;{exact .inl ⟨x,a,b⟩};grind};rintro (⟨x,a,b⟩|b);{exact ⟨x,by simp [a],b⟩};exact ⟨s,ψ,b⟩
theorem xf {ss:zA Sp}{s:Sp}(h:vr ss)(u:s.good)(z:∀x∈ss,x.Nu s):vr (ss++[s]):=by refine ⟨λx a=>?_,Qf4.2 ⟨h.2,ψ,λx a y b=>?_⟩⟩;{rcases ü.1 a with a|a;{exact h.1 x a};grind};grind
def LR {ss:zA Sp}{s:Sp}(h:vr (ss++[s])):vr ss/\s.good/\∀x∈ss,x.Nu s:=by obtain ⟨b,-,c⟩:=Qf4.1 h.2;exact ⟨⟨λx a=>h.1 x (by simp [a]),b⟩,h.1 s ψ,λx a=>c x a s ψ⟩
theorem Im {P:Nat->Prop}{i:Nat}:(∃j,j<i+1/\P j)↔(∃j,j<i/\P j)\/P i:=χ
theorem Ym (h:asc c){i:Nat}(hi:i<=c.length)(F:FI c ms i):FI c ms (i+1):=by have B:=UL h hi;have q:i<c.length->(dS c i).hi=c.getD i 0:=λj=>Ä j;have u:0<i->(dS c i).lo=c.getD (i-1) 0:=λj=>Ä j;have C:0<i->(dS c i).a=false:=λj=>È ω;have H:i<c.length->(dS c i).b=false:=λj=>È ω;by_cases hm:ms.getD i false=true;{have z:¬ms.getD i false=false:=by{rw [hm];decide};by_cases j:0<i/\ms.getD (i-1) false=true;{have ⟨K,l,el,E⟩:=F.last j.1 hi j.2;have e:cH c ms (i+1)=K++[⟨l.lo,(dS c i).hi,l.a,(dS c i).b⟩]:=by{rw [cH,Ä hm,Ä ⟨j.1,j.2,by rw [el];simp⟩,el];simp [yJ]};have I:=F.r;rw [el] at I;have ⟨f1,f2,f3⟩:=LR I;have m:=(F.top j.1 hi l (by rw [el];simp)).1;have v:(⟨l.lo,(dS c i).hi,l.a,(dS c i).b⟩:Sp).good:=by{refine ⟨⟨f2.1.1,B.1.2⟩,Sp.im.2 ?_⟩;(cases O:l.a with|true=>exact .inl rfl|false=>{(cases N:(dS c i).b with|true=>exact .inr (.inl rfl)|false=>{have n:=oH f2.2 O m;have w:=oH B.2 (C j.1) N;exact .inr (.inr χ)})})};refine ⟨?_,λt y=>?_,λ_ d s f=>?_,λ_ d k=>?_,λ_ d _=>?_⟩;{rw [e];exact xf f1 v λx k=>⟨(f3 x k).1,(f3 x k).2.1,(f3 x k).2.2⟩};{rw [e,Im,<-F.mem t y,yM,el,yM,or_assoc];refine or_congr Iff.rfl ?_;have hk:(dS c i).inn t↔c.getD (i-1) 0<t/\((dS c i).b=true\/t<(dS c i).hi):=by{unfold Sp.inn;rw [C j.1,u j.1];simp};have J:t≠c.getD (i-1) 0:=by{rintro rfl;rw [jQ] at y;exact y (ú _)};show (l.a=true\/l.lo<t)/\((dS c i).b=true\/t<(dS c i).hi)↔((l.a=true\/l.lo<t)/\(l.b=true\/t<l.hi))\/_;rw [E,m];have n:l.a=true\/l.lo<c.getD (i-1) 0:=by{(cases O:l.a with|true=>exact .inl rfl|false=>{have:=oH f2.2 O m;rw [E] at this;exact .inr this})};have w:(dS c i).b=true\/c.getD (i-1) 0<(dS c i).hi:=by{(cases N:(dS c i).b with|true=>exact .inl rfl|false=>{have:=oH B.2 (C j.1) N;rw [u j.1] at this;exact .inr this})};constructor;{rintro ⟨D,o⟩;by_cases g:t<c.getD (i-1) 0;{exact .inl ⟨D,.inr g⟩};exact .inr ⟨hm,χ,o⟩};rintro (⟨D,o⟩|⟨-,D,o⟩);{have L:t<c.getD (i-1) 0:=by{rcases o with o|o;{cases o};exact o};exact ⟨D,w.imp_right λw=>χ⟩};exact ⟨n.imp_right λn=>χ,o⟩};{rw [e] at f;rcases ü.1 f with f|f;{have b:=f3 s f;refine ⟨b.1,?_⟩;have n:l.lo<c.getD (i-1) 0:=by{have:=oH f2.2 b.2.1 m;rwa [E] at this};have w:=xZ h (show i-1<i by omega) d;have:=b.2.2;grind};obtain rfl:s=_:=by{simpa using f};refine ⟨H d,?_⟩;rw [q d];grind};{rw [Qc9] at k;exact Å k z};grind};have e:cH c ms (i+1)=cH c ms i++[dS c i]:=by{rw [cH,Ä hm,Ã (λg=>j ⟨g.1,g.2.1⟩)]};have N:∀x∈cH c ms i,x.Nu (dS c i):=λx k=>by{by_cases p:0<i;{have G:ms.getD (i-1) false=false:=by{(cases Z:ms.getD (i-1) false with|false=>rfl|true=>exact Å ⟨p,Z⟩ j)};exact ⟨(F.top p hi x k).1,C p,by rw [u p];exact F.str p hi G x k⟩};obtain rfl:i=0:=ω;cases k};refine ⟨?_,λt y=>?_,λ_ d s f=>?_,λ_ d k=>?_,λ_ d _=>?_⟩;{rw [e];exact xf F.r B N};{rw [e,Im,<-F.mem t y,yM];exact or_congr Iff.rfl ⟨λg=>⟨hm,g⟩,λg=>g.2⟩};{rw [e] at f;rcases ü.1 f with f|f;{refine ⟨(N s f).1,?_⟩;by_cases p:0<i;{have n:=(F.top p hi s f).2;have w:=xZ h (show i-1<i by omega) d;grind};obtain rfl:i=0:=ω;cases f};obtain rfl:s=_:=by{simpa using f};refine ⟨H d,?_⟩;rw [q d];grind};{rw [Qc9] at k;exact Å k z};rw [Qc9];exact ⟨_,_,e,q d⟩};have e:cH c ms (i+1)=cH c ms i:=by{rw [cH,Ã hm]};have A:i<c.length->∀s∈cH c ms i,s.b=false/\s.hi<c.getD i 0:=λd s f=>by{by_cases p:0<i;{have ⟨n,w⟩:=F.top p hi s f;have M:=xZ h (show i-1<i by omega) d;exact ⟨n,χ⟩};obtain rfl:i=0:=ω;cases f};refine ⟨by rw [e];exact F.r,λt y=>?_,λ_ d s f=>?_,λ_ d k s f=>?_,λ_ d k=>?_⟩;{rw [e,Im,F.mem t y];exact ⟨.inl,λg=>g.elim id λg=>Å g.1 hm⟩};{rw [e] at f;have ⟨n,w⟩:=A d s f;exact ⟨n,χ⟩};{rw [e] at f;exact (A d s f).2};rw [Qc9] at k;exact Å k hm
def fi (h:asc c):∀{i:Nat},i<=c.length+1->FI c ms i:=by
 intro i
 induction i with
 | zero=>exact λ_=>⟨⟨Ŭ,List.Pairwise.nil⟩,(λt _=>⟨(λ⟨_,h,_⟩=>by cases h),(λ⟨_,h,_⟩=>Å h (ţ _))⟩),(λh=>Å h (Ww5 _)),(λh=>Å h (Ww5 _)),(λh=>Å h (Ww5 _))⟩
 | succ i u=>exact λa=>Ym h ω (u ω)
end
def Sp.innB (s:Sp)(t:Rat):Bool:=(s.a||decide (s.lo<t))&&(s.b||decide (t<s.hi))
variable{t:Rat}{ss:List Sp}
def ì (ss:List Sp)(t:Rat):Bool:=ss.any λs=>s.innB t
theorem innB_iff {s:Sp}:s.innB t=true↔s.inn t:=by unfold Sp.innB Sp.inn;simp
def jR:ì ss t=true↔At ss t:=by unfold ì At;rw [Qc2];exact ⟨λ⟨s,a,b⟩=>⟨s,a,innB_iff.1 b⟩,λ⟨s,a,b⟩=>⟨s,a,innB_iff.2 b⟩⟩
def HV {a b:ut}(h:a=true↔b=true):a=b:=by cases a<;>cases b<;>simp at h<;>rfl
theorem Yc (h:∀s∈ss,¬s.cT t):(tN ss t==2)=ì ss t:=by
 induction ss with
 | nil=>rfl
 | cons s r z=>
  have d:=h s ψ
  have u:s.innB t=decide (Am (s.la t) (s.lb t)=2)/\(Am (s.la t) (s.lb t)≠0->Am (s.la t) (s.lb t)=2):=by unfold Sp.cT at d;unfold Sp.innB Sp.la Sp.lb Am;rcases cz t s.lo with ⟨f,c⟩|⟨f,c⟩|⟨f,c⟩<;>rcases cz t s.hi with ⟨y,e2⟩|⟨y,e2⟩|⟨y,e2⟩<;>rw [c,e2]<;>cases E:s.a<;>cases u:s.b<;>simp at d⊢<;>grind
  have e:ì (s::r) t=(s.innB t||ì r t):=rfl;rw [e,<-(z λx i=>h x (by simp [i])),u.1];by_cases g:Am (s.la t) (s.lb t)=0
  ·simp [tN,g]
  ·have:=u.2 g;simp [tN,this]
def ĥ (op:Int)(x y:Bool):Bool:=if op=2 then x&&y else if op=3 then x&&!y else if op=4 then x != y else x||y
def jy (op:Int)(a b:List Sp)(c:List Rat):List Bool:=(dY c).map λt=>ĥ op (tN a t==2) (tN b t==2)
def Û (op:Int)(a b:List Sp):List Sp:=G3 (à (a++b)) (jy op a b (à (a++b)))
def lE (op:Int)(a b:zA Sp)(c:zA Rat):(jy op a b c).length=c.length+1:=by unfold jy;rw [Ě,mg]
def comb_reg (op:Int)(a b:zA Sp):vr (Û op a b):=by unfold Û G3;rw [lE];exact (fi (Cs _) (Ù _)).r
theorem Ys {c:zA Rat}(h:asc c)(z:∀s∈ss,∀q,s.cT q->q∈c){i:Nat}(hi:i<=c.length){u:Rat}(y:(dS c i).inn t)(hu:(dS c i).inn u):ì ss t=ì ss u:=by
 induction ss with
 | nil=>rfl
 | cons s r M=>
  have e:∀t,ì (s::r) t=(s.innB t||ì r t):=λ_=>rfl;rw [e,e,(M λx f=>z x (by simp [f]))];congr 1;have d:=z s ψ;unfold Sp.innB;cases E:s.a<;>cases F:s.b<;>simp
  ·have g:=rD h hi y hu (d s.lo (.inl ⟨E,rfl⟩));have j:=rD h hi y hu (d s.hi (.inr ⟨F,rfl⟩));grind
  ·exact (rD h hi y hu (d s.lo (.inl ⟨E,rfl⟩))).1
  ·exact (rD h hi y hu (d s.hi (.inr ⟨F,rfl⟩))).2.1
theorem comb_inB (op:Int)(a b:zA Sp)(u:t∉à (a++b)):ì (Û op a b) t=ĥ op (ì a t) (ì b t):=by have e:=Cs (a++b);have f:∀s∈a++b,∀q,s.cT q->q∈à (a++b):=λs d q k=>fw.2 ⟨s,d,k⟩;unfold Û G3;generalize à (a++b)=c at u e f;rw [lE];have l:∀s∈a,∀q,s.cT q->q∈c:=λs d=>f s (by simp [d]);have y:∀s∈b,∀q,s.cT q->q∈c:=λs d=>f s (by simp [d]);have mk:∀j,j<=c.length->(dS c j).inn t->(jy op a b c).getD j false=ĥ op (ì a t) (ì b t):=λj g m=>by{have h:=Wc e g;have i:(dY c).getD j 0∉c:=λhm=>(rD e g h h hm).2.2 rfl;grind [jy,mg,Yc,Ys]};refine HV ?_;rw [jR,(fi e (Ù _)).mem t u];grind [gap_ex]
def reg_eq {xs ys:zA Sp}(E:zA Rat)(u:vr xs)(y:vr ys)(h:∀t,t∉E->ì xs t=ì ys t):xs=ys:=
 OS (E:=E) u y λt a=>by rw [<-jR,<-jR,h t a]
end
section
variable{k:Int}{t:Rat}
abbrev qp:=Rat×Int×Int
def kF (k:Int)(s:Sp):List qp:=(if s.a then [] else [(s.lo,k,1)])++(if s.b then [] else [(s.hi,k,-1)])
def ru (A B:List Sp):List qp:=A.flatMap (kF 0)++B.flatMap (kF 1)
def nV:List Sp->Int
 | []=>0
 | s::r=>(if s.a then 1 else 0)+nV r
def nO (k:Int):List qp->Rat->Int
 | [],_=>0
 | c::r,t=>(if c.2.1=k/\c.1<t then c.2.2 else 0)+nO k r t
def i_ (k:Int):List qp->Int
 | []=>0
 | c::r=>(if c.2.1=k then c.2.2 else 0)+i_ k r
theorem Te {l m:zA qp}(h:l.Perm m):nO k l t=nO k m t:=by induction h<;>grind [nO]
def oQ:∀{l m:zA qp},nO k (l++m) t=nO k l t+nO k m t
 | [],m=>by simp [nO]
 | c::r,m=>by simp only [Qc1,nO,oQ (l:=r)];omega
def DH:∀{l m:zA qp},i_ k (l++m)=i_ k l+i_ k m
 | [],m=>by simp [i_]
 | c::r,m=>by simp only [Qc1,i_,DH (l:=r)];omega
def Mh:∀{l:zA qp},(∀c∈l,c.1<t)->nO k l t=i_ k l
 | [],_=>rfl
 | c::r,h=>by
  simp only [nO,i_,Mh (l:=r) λx u=>h x (by simp [u]),h c ψ,Í]
def Hz:∀{l:zA qp},(∀c∈l,¬c.1<t)->nO k l t=0
 | [],_=>rfl
 | c::r,h=>by
  simp only [nO,Hz (l:=r) λx u=>h x (by simp [u]),h c ψ,and_false,Ð];omega
def vC {k':Int}(y:k≠k'):∀{l:zA Sp},nO k (l.flatMap (kF k')) t=0
 | []=>rfl
 | s::r=>by
  rw [Ġ,oQ,vC y (l:=r)];have u:¬k'=k:=λe=>y e.symm;unfold kF;cases s.a<;>cases s.b<;>simp [nO,u]
theorem DI {k:Int}{t:Rat}:∀{l:zA Sp},(∀s∈l,s.good)->(∀s∈l,¬s.cT t)->nV l+nO k (l.flatMap (kF k)) t=(l.countP λs=>s.innB t:Nat)
 | [],_,_=>rfl
 | s::r,u,he=>by
  have z:=DI (k:=k) (t:=t) (l:=r) (λx c=>u x (by simp [c])) λx c=>he x (by simp [c]);have d:=(u s ψ).2;have e:=he s ψ;rw [Ġ,oQ,List.countP_cons];simp only [nV];rw [Sp.im] at d;unfold Sp.cT at e
  have key:(if s.a=true then (1:Int) else 0)+nO k (kF k s) t=(if s.innB t=true then 1 else 0:Nat):=by
   unfold kF Sp.innB;cases E:s.a<;>cases y:s.b<;>simp [y] at d e<;>simp [nO]<;>(try (by_cases f:s.lo<t))<;>(try (by_cases g:s.hi<t))<;>(try (by_cases h:t<s.hi))<;>simp_all<;>grind
  omega
theorem KF {l:zA Sp}:decide ((0:Int)<(l.countP λs=>s.innB t:Nat))=ì l t:=by refine HV ⟨λh=>?_,λh=>?_⟩;{have h:=Á h;have:0<l.countP λs=>s.innB t:=ω;have ⟨s,a,h⟩:=Qs1.1 this;exact Qc2.2 ⟨s,a,h⟩};have ⟨s,a,h⟩:=Qc2.1 h;have:0<l.countP λs=>s.innB t:=Qs1.2 ⟨s,a,h⟩;grind
theorem Ya {A B:zA Sp}{c:qp}:c∈ru A B->∃s∈A++B,s.cT c.1:=by intro h;have one:∀{k:Int} {s:Sp},c∈kF k s->s.cT c.1:=λ{k s} h=>by{unfold kF at h;unfold Sp.cT;cases u:s.a<;>cases y:s.b<;>simp [u,y] at h ⊢;{rcases h with rfl|rfl<;>simp};{subst h;rfl};subst h;rfl};rcases ü.1 h with h|h<;>grind
def oD (s:Sp):Sp:=⟨s.lo,0,s.a,true⟩
def DL (was:Bool)(last:Sp)(out:List Sp):List Sp:=out++if was then [oD last] else []
def TJ (acc:Bool->Bool->Bool)(A B:List Sp)(t:Rat):Bool:=acc (ì A t) (ì B t)
structure Z8 (acc:Bool->Bool->Bool) (A B:List Sp) (cs:List qp) (i:Nat) (was:Bool) (last:Sp) (out:List Sp):Prop where
 rg:vr (DL was last out)
 lo:∀s∈DL was last out,∀h:i<cs.length,s.a=false->s.lo<cs[i].1
 hi:∀s∈out,s.b=false/\∀h:i<cs.length,s.hi<cs[i].1
 inn:∀t,(∀s∈A++B,¬s.cT t)->(∀h:i<cs.length,t<cs[i].1)->ì (DL was last out) t=TJ acc A B t
 fr:was=true->last.hi=0/\last.b=false
section
variable{acc:Bool->Bool->Bool}{A B:List Sp}{cs:List qp}{i:Nat}{was:Bool}{last:Sp}{out:List Sp}
theorem WW (E:cs.Perm (ru A B))(F:∀s∈A,s.good)(M:∀s∈B,s.good)(u:cs.Pairwise λx y=>x.1<=y.1){t:Rat}(z:∀s∈A++B,¬s.cT t)(N:∀c∈cs.take i,c.1<t)(O:∀h:i<cs.length,t<cs[i].1):acc (decide ((0:Int)<nV A+i_ 0 (cs.take i))) (decide ((0:Int)<nV B+i_ 1 (cs.take i)))=TJ acc A B t:=by
 have a:∀c∈cs.drop i,¬c.1<t:=by grind [List.getElem_of_mem,List.pairwise_iff_getElem.1]
 have e:∀k,i_ k (cs.take i)=nO k (ru A B) t:=λk=>by
  rw [<-Te E,<-Mh N]
  conv=>rhs;rw [<-Qj8 i cs]
  rw [oQ,Hz a];omega
 have b:nO 0 (B.flatMap (kF 1)) t=0:=vC φ;have b2:nO 1 (A.flatMap (kF 0)) t=0:=vC φ;rw [e,e];unfold ru TJ;rw [oQ,oQ,b,b2,<-KF,<-KF,<-(DI (k:=0) (t:=t) F λs u=>z s (Ĕ _ u)),<-(DI (k:=1) (t:=t) M λs u=>z s (ĝ _ u)),Wy7,Int.zero_add]
def Bl {x y:zA Sp}{t:Rat}:ì (x++y) t=(ì x t||ì y t):=by unfold ì;rw [Wy0]
def WX {was:ut}(hw:was=acc (decide ((0:Int)<nV A)) (decide ((0:Int)<nV B)))(u:cs.Perm (ru A B))(z:∀s∈A,s.good)(E:∀s∈B,s.good)(F:cs.Pairwise λx y=>x.1<=y.1):Z8 acc A B cs 0 was ⟨0,0,true,false⟩ []:=by refine ⟨?_,λs h _ a=>?_,λs h=>(by cases h),λt b d=>?_,λ_=>⟨rfl,rfl⟩⟩;{unfold DL;cases was;{exact ⟨λs h=>by simp at h,ψ⟩};refine ⟨λs h=>?_,ψ⟩;obtain rfl:s=oD ⟨0,0,true,false⟩:=by{simpa using h};exact ⟨⟨λ_=>rfl,λ_=>rfl⟩,rfl⟩};{unfold DL at h;cases was<;>simp at h;subst h;cases a};{have:=WW (acc:=acc) (i:=0) u z E F b (λc e=>by simp at e) d;simp only [Qf6,i_,Wy7] at this;rw [<-this,<-hw];unfold DL oD ì Sp.innB;cases was<;>simp}
def ZK (h:Z8 acc A B cs i was last out)(hi:i+1<cs.length)(he:cs[i].1=cs[i+1].1):Z8 acc A B cs (i+1) was last out:=
 ⟨h.rg,λs a _ b=>by rw [<-he];exact h.lo s a ω b,λs a=>⟨(h.hi s a).1,λ_=>by rw [<-he];exact (h.hi s a).2 ω⟩,
  λt c d=>h.inn t c λ_=>by rw [he];exact d hi,h.fr⟩
theorem Zf (h:Z8 acc A B cs i was last out)(hi:i<cs.length){t:Rat}(u:cs[i].1<t):ì out t=false:=by refine Bool.eq_false_iff.2 λhe=>?_;have ⟨s,b,a⟩:=Qc2.1 he;have ⟨c,e⟩:=h.hi s b;rw [innB_iff] at a;obtain ⟨-,d⟩:=a;rw [c] at d;grind
def mu (was now:Bool)(last:Sp)(x:Rat):Sp:=if now&&!was then ⟨x,0,false,false⟩ else if was&&!now then ⟨last.lo,x,last.a,last.b⟩ else last
def DJ (was now:Bool)(last:Sp)(x:Rat)(out:List Sp):List Sp:=if was&&!now then out++[⟨last.lo,x,last.a,last.b⟩] else out
theorem ZL (h:Z8 acc A B cs i was last out)(hi:i<cs.length)(N:∀h:i+1<cs.length,cs[i].1<cs[i+1].1)(Z:cs.Perm (ru A B))(hA:∀s∈A,s.good)(hB:∀s∈B,s.good)(M:cs.Pairwise λx y=>x.1<=y.1){now:ut}(hw:now=acc (decide ((0:Int)<nV A+i_ 0 (cs.take (i+1)))) (decide ((0:Int)<nV B+i_ 1 (cs.take (i+1))))):Z8 acc A B cs (i+1) now (mu was now last cs[i].1) (DJ was now last cs[i].1 out):=by have w:=Ya (Z.mem_iff.1 (ú hi));have g:∀t,(∀s∈A++B,¬s.cT t)->cs[i].1<t->(∀h:i+1<cs.length,t<cs[i+1].1)->TJ acc A B t=now:=λt f d o=>by{rw [hw,WW (acc:=acc) Z hA hB M f (λc C=>?_) o];obtain ⟨j,D,rfl⟩:=Qh9 C;rw [ë] at D;rw [Qt9];by_cases e:j=i;{subst e;exact d};{have:=Qb2.1 M j i ω hi ω;grind}};have apart:∀t,(∀s∈A++B,¬s.cT t)->t<cs[i].1\/cs[i].1<t:=λt f=>by{obtain ⟨s,d,o⟩:=w;grind};have on:∀{t:Rat},cs[i].1<t->ì out t=false:=λ{t}=>Zf (t:=t) h hi;have m:∀s∈DL was last out,s.a=false->s.lo<cs[i].1:=λs M l=>h.lo s M hi l;have n:∀s∈out,s.hi<cs[i].1:=λs M=>(h.hi s M).2 hi;have O:∀s∈out,s.b=false:=λs M=>(h.hi s M).1;have inn:∀t,(∀s∈A++B,¬s.cT t)->t<cs[i].1->ì (DL was last out) t=TJ acc A B t:=λt f d=>h.inn t f λ_=>d;have p:=h.rg;have r:=h.fr;generalize cs[i].1=x at *;clear w hw Z M h;unfold mu DJ;cases was<;>cases now<;>simp only [Bool.not_true,Bool.not_false,Wk6,Wz2]<;>unfold DL at*<;>simp only [Ő,Ï,Ð,ć] at *;{refine ⟨by simpa [DL] using p,λs M d l=>?_,λs M=>⟨O s M,λd=>?_⟩,λt f o=>?_,λh=>nomatch h⟩;{have:=m s (by simpa [DL] using M) l;have:=N d;grind};{have:=n s M;have:=N d;grind};simp only [DL,Ő,Ð,ć];rcases apart t f with k|k;{exact inn t f k};rw [g t f k o,on k]};{have e:ì (out++[oD ⟨x,0,false,false⟩])=λt=>ì out t||decide (x<t):=by{funext t;rw [Bl];unfold ì oD Sp.innB;simp};refine ⟨?_,λs M d l=>?_,λs M=>⟨O s M,λd=>?_⟩,λt f o=>?_,λ_=>⟨rfl,rfl⟩⟩;{simp only [DL,Ï];exact xf p ⟨⟨π,λ_=>rfl⟩,rfl⟩ λy q=>⟨O y q,rfl,n y q⟩};{simp only [DL,Ï] at M;rcases ü.1 M with M|M;{have:=m s M l;have:=N d;grind};obtain rfl:s=oD ⟨x,0,false,false⟩:=by{simpa using M};exact N d};{have:=n s M;have:=N d;grind};simp only [DL,Ï];rw [e];dsimp only;rcases apart t f with k|k;{rw [inn t f k,È χ,Bool.or_false]};rw [g t f k o,Ç k,Bool.or_true]};{obtain ⟨f1,f2⟩:last.hi=0/\last.b=false:=by{simpa using r};have ⟨E,F,z⟩:=LR p;have u:last.a=false->last.lo<x:=λl=>m (oD last) ψ l;have e:ì (out++[(⟨last.lo,x,last.a,last.b⟩:Sp)])=λt=>ì out t||((last.a||decide (last.lo<t))&&decide (t<x)):=by{funext t;rw [Bl];unfold ì Sp.innB;simp [f2]};have v:ì (out++[oD last])=λt=>ì out t||(last.a||decide (last.lo<t)):=by{funext t;rw [Bl];unfold ì oD Sp.innB;simp};refine ⟨?_,λs M d l=>?_,λs M=>?_,λt f o=>?_,λh=>nomatch h⟩;{simp only [DL,Ő,Ð,ć];refine xf E ⟨⟨λh=>F.1.1 h,λh=>by rw [f2] at h;cases h⟩,?_⟩ λy q=>⟨O y q,(z y q).2.1,(z y q).2.2⟩;rw [Sp.im];cases l:last.a;{exact .inr (.inr (u l))};exact .inl rfl};{simp only [DL,Ő,Ð,ć] at M;rcases ü.1 M with M|M;{have:=m s (Ĕ _ M) l;grind};obtain rfl:s=⟨last.lo,x,last.a,last.b⟩:=by{simpa using M};have:=u l;dsimp only;grind};{rcases ü.1 M with M|M;{exact ⟨O s M,λd=>by have:=n s M;have:=N d;grind⟩};obtain rfl:s=⟨last.lo,x,last.a,last.b⟩:=by{simpa using M};exact ⟨f2,λd=>N d⟩};simp only [DL,Ő,Ð,ć];rw [e];dsimp only;rcases apart t f with k|k;{rw [<-inn t f k,v,Ç k,Wk6]};rw [g t f k o,on k,È (show ¬t<x by grind),Wz2];rfl};have v:ì (out++[oD last])=λt=>ì out t||(last.a||decide (last.lo<t)):=by{funext t;rw [Bl];unfold ì oD Sp.innB;simp};have u:last.a=false->last.lo<x:=λl=>m (oD last) ψ l;refine ⟨by simpa [DL] using p,λs M d l=>?_,λs M=>⟨O s M,λd=>?_⟩,λt f o=>?_,λ_=>by simpa using r⟩;{have:=m s (by simpa [DL] using M) l;have:=N d;grind};{have:=n s M;have:=N d;grind};simp only [DL,Ï];rcases apart t f with k|k;{exact inn t f k};rw [g t f k o,v];dsimp only;cases l:last.a;{have:=u l;rw [Ç (show last.lo<t by grind)];simp};simp
end
end
section
variable{a b:List Sp}
def bW:Sp:=⟨0,0,true,true⟩
def zL (l:List Sp):List Rat:=l.flatMap λs=>s.JY++s.Iv
def fe (l:List Sp):Nat:=(zL l).length
theorem tj {s:Sp}{r:zA Sp}:fe (s::r)=(s.JY++s.Iv).length+fe r:=by unfold fe zL;rw [Ġ,í]
def N0:fe (a++b)=fe a+fe b:=by unfold fe zL;rw [Qc3,í]
theorem Ib {A B:zA Sp}:(ru A B).length=fe A+fe B:=by
 have one:∀(k:Int)(l:zA Sp),(l.flatMap (kF k)).length=fe l:=λk l=>by
  induction l with
  | nil=>rfl
  | cons s r u=>
   rw [Ġ,í,tj,u];unfold kF Sp.JY Sp.Iv;cases s.a<;>cases s.b<;>simp
 unfold ru;grind
def UH:∀(l:zA Sp),fe l<=2*l.length
 | []=>by simp [fe,zL]
 | s::r=>by
  have:=UH r;have h:(s.JY++s.Iv).length<=2:=by unfold Sp.JY Sp.Iv;cases s.a<;>cases s.b<;>simp
  rw [tj,Ċ];omega
theorem uq:∀(ss:zA Sp)(o:zA Rat),(ss.foldl (λo s=>fA s o 2) o).length<=o.length+fe ss
 | [],o=>by simp [zL]
 | s::r,o=>by
  have u:=uq r (fA s o 2)
  have:(fA s o 2).length<=o.length+(s.JY++s.Iv).length:=by
   have c:=@oE s.lo o;have d:=@oE s.hi o;have e:=@oE s.hi (dJ s.lo o);show (if s.b=true then (if s.a=true then o else dJ s.lo o) else dJ s.hi (if s.a=true then o else dJ s.lo o)).length<=_;unfold Sp.JY Sp.Iv;cases s.a<;>cases s.b<;>simp<;>omega
  grind [tj]
def KS (ss:zA Sp):(à ss).length<=fe ss:=by have:=uq ss [];simpa [à] using this
theorem I_:∀{l:zA Sp},vr l->asc (zL l)
 | [],_=>List.Pairwise.nil
 | s::r,h=>by
  unfold asc zL;refine Qf4.2 ⟨?_,I_ h.tail,λx E y u=>?_⟩
  ·refine Qf4.2 ⟨by unfold Sp.JY;cases s.a<;>simp,by unfold Sp.Iv;cases s.b<;>simp,λx E y u=>?_⟩;obtain ⟨F,rfl⟩:=mT E;obtain ⟨M,rfl⟩:=pU u;exact oH (h.1 s ψ).2 F M
  ·have ⟨z,c,u⟩:=č.1 u;obtain ⟨b1,b2,b3⟩:=h.Nu c
   have d:x<=s.hi:=by
    rcases ü.1 E with E|E
    ·obtain ⟨F,rfl⟩:=mT E;have:=oH (h.1 s ψ).2 F b1;grind
    grind [pU]
   have e:z.lo<=y:=by rcases ü.1 u with u|u;{obtain ⟨F,rfl⟩:=mT u;grind};obtain ⟨M,rfl⟩:=pU u;have:=oH (h.1 z (by simp [c])).2 b2 M;grind
   grind
theorem Bc:∀{ys xs:zA Rat},asc xs->asc ys->(∀x∈xs,x∈ys)->xs.length<=ys.length
 | [],xs,_,_,h=>by
  cases xs with
  | nil=>simp
  | cons x r=>exact Å (h x ψ) ψ
 | y::r,[],_,_,_=>ψ
 | y::r,x::s,u,E,h=>by
  have ⟨M,F⟩:=į.1 u;have ⟨d,a⟩:=į.1 E;by_cases e:x=y
  ·have:=Bc (xs:=s) F a λz b=>χ
   grind
  ·have c:x∈r:=χ
   have:=Bc (xs:=x::s) u a λz b=>χ
   grind
theorem UK {c:zA Rat}{i:Nat}(hi:i<=c.length:=by omega):((dS c i).a=false->(dS c i).lo∈c)/\((dS c i).b=false->(dS c i).hi∈c):=by unfold dS;grind
def G4 {c:zA Rat}{ms:zA ut}:∀(i:Nat),i<=c.length+1->∀s∈cH c ms i,(s.a=false->s.lo∈c)/\(s.b=false->s.hi∈c)
 | 0,_,s,h=>by cases h
 | i+1,hi,s,h=>by
  have u:=G4 (c:=c) (ms:=ms) i ω;have g:=UK (c:=c) (i:=i);unfold cH at h;split at h
  ·split at h
   ·rename_i f;rcases ü.1 h with h|h
    ·exact u s (List.dropLast_subset _ h)
    ·obtain rfl:=õ.1 h;refine ⟨λj=>?_,λy=>g.2 y⟩;have d:cH c ms i≠[]:=λe=>by rw [e] at f;simp at f
     have k:(cH c ms i).getLastD Sp.zero=(cH c ms i).getLast d:=by rw [Wz6,List.getLast?_eq_some_getLast d];rfl
     rw [k] at j ⊢;exact (u _ (List.getLast_mem d)).1 j
   ·rcases ü.1 h with h|h
    ·exact u s h
    ·obtain rfl:=õ.1 h;exact g
  ·exact u s h
def oz {op:Int}:∀s∈Û op a b,(s.a=false->s.lo∈à (a++b))/\(s.b=false->s.hi∈à (a++b)):=by intro s c;exact G4 _ (by rw [lE];omega) s c
def Ye (op:Int)(a b:zA Sp):fe (Û op a b)<=fe a+fe b:=by have h:=Bc (I_ (comb_reg op a b)) (Cs (a++b)) λx c=>by{have ⟨s,d,c⟩:=č.1 c;rcases ü.1 c with c|c;{obtain ⟨e,rfl⟩:=mT c;exact (oz s d).1 e};obtain ⟨u,rfl⟩:=pU c;exact (oz s d).2 u};have:=KS (a++b);rw [N0] at this;unfold fe at *;omega
def P6 {op:Int}{k:Nat}(u:1<=k)(y:∀s∈a,s.sz k)(z:∀s∈b,s.sz k):∀s∈Û op a b,s.sz k:=by intro s d;have f:=(comb_reg op a b).1 s d;have he:∀q∈à (a++b),Sz k q:=λq g=>by{have ⟨x,c,h⟩:=yB g;have:x.sz k:=by{rcases ü.1 c with c|c;{exact y x c};exact z x c};rcases h with rfl|rfl;{exact this.1};exact this.2};have ⟨i,j⟩:=oz s d;constructor;{cases e:s.a;{exact he _ (i e)};rw [f.1.1 e];exact DP k u};cases e:s.b;{exact he _ (j e)};rw [f.1.2 e];exact DP k u
def Cj (op:Int)(a b:zA Sp):(Û op a b).length<=fe a+fe b+1:=by have h:=G2 (à (a++b)) (jy op a b (à (a++b))) (jy op a b (à (a++b))).length;have c:=KS (a++b);rw [N0] at c;rw [lE] at h;unfold Û G3;rw [lE];omega
end
end Go.Proofs.Tryz
namespace Go.Proofs.Tryz.ao
def mx (x:Rat×Rat)(t:Rat):Rat:=x.1+t*(x.2-x.1)
def Vw {x:Rat×Rat}{t:Rat}(y:x.1>0)(u:x.2>0)(t0:t>0)(t1:t<=1):mx x t>0:=by have a:=mn (show 1-t≥0 by grind) (show x.1≥0 by grind);have b:=mp t0 u;unfold mx;grind
def Rf {y:Rat×Rat}(z:y.1>0){s:Rat}(E:s>0)(u:mx y s<=0):∃t,t>0/\t<=s/\mx y t=0:=by have a:y.1-y.2>0:=by{by_cases c:y.1-y.2>0;{exact c};{have:=mn (show s≥0 by grind) (show y.2-y.1≥0 by grind);unfold mx at u;grind}};have e:=inv_mul (show y.1-y.2≠0 by grind) y.1;refine ⟨y.1*(y.1-y.2)⁻¹,(mp z (Qt8.2 a)),?_,?_⟩;{generalize y.1*(y.1-y.2)⁻¹=t at *;by_cases c:t<=s;{exact c};{have:=mp (show t-s>0 by grind) a;unfold mx at u;grind}};grind [mx]
def O1:∀(L:zA (Rat×Rat)),(∀x∈L,x.1>0)->∃s,s>0/\∀x∈L,x.1+s*x.2>0
 | [],_=>⟨1,φ,λx h=>by cases h⟩
 | y::L,u=>by
  have ⟨s,E,h⟩:=O1 L λx d=>u x (ø y d);by_cases c:y.1+s*y.2>0
  ·exact ⟨s,E,λz a=>by rcases ç.1 a with rfl|a;exact c;exact h z a⟩
  ·have b:-y.2>0:=by
    by_cases q:y.2<0
    ·grind
    ·have:=mn (show s≥0 by grind) (show y.2≥0 by grind);grind
   have e:=inv_mul (show -y.2≠0 by grind) y.1;have p:=mp (u y (ą ..)) (Qt8.2 b);generalize y.1*(-y.2)⁻¹=r at *
   have g:r<=s:=by by_cases q:r<=s;{exact q};{have:=mp (show r-s>0 by grind) b;grind}
   refine ⟨r*(1/2),χ,λz a=>?_⟩;rcases ç.1 a with rfl|a
   ·grind
   ·have f:=u z (ø _ a);by_cases q:z.2≥0;{have:=mn (show r*(1/2)≥0 by grind) q;grind};{have:=mn (show s-r*(1/2)≥0 by grind) (show -z.2≥0 by grind);grind}
def pos (M:List L3)(p:V2):Prop:=∀m∈M,aw m p.1 p.2>0
def Es (M:List L3)(l:L3):Prop:=∃p:V2,aw l p.1 p.2=0/\∀m∈M,m≠l->aw m p.1 p.2>0
def Dif (M:List L3):Prop:=∀l∈M,∀m∈M,l≠m->∀p:V2,aw l p.1 p.2=0->aw m p.1 p.2=0->cr (aD l) (aD m)≠0
def Yg (u:V2):cr u u=0:=by unfold cr;grind
def BB (m:L3)(q p:V2)(t:Rat):aw m (q.1+t*(p.1-q.1)) (q.2+t*(p.2-q.2))=aw m q.1 q.2+t*(aw m p.1 p.2-aw m q.1 q.2):=by unfold aw;grind
def ess {M:zA L3}(O:Dif M){q p:V2}(E:pos M q)(Z:∀m∈M,Es M m->aw m p.1 p.2>0):pos M p:=by
 have key:∀(n:Nat)(N:zA L3),N.length<=n->(∀m∈N,m∈M)->(∀z,pos N z->pos M z)->pos M p:=by
  intro n
  induction n with
  | zero=>exact λN b a h=>h p λm hm=>by rw [ĕ.1 (Nat.le_zero.1 b)] at hm;cases hm
  | succ n ih=>
   intro N b a h;by_cases all:∀l∈N,Es N l
   ·refine h p λl b=>Z l (a l b) ?_;have ⟨x,d,j⟩:=all l b
    have u:∀x:V2,aw l x.1 x.2=0->(∀m∈N,m≠l->aw m x.1 x.2>0)->∀m∈M,aw m x.1 x.2≥0:=λx d j m hm=>by
     by_cases c:aw m x.1 x.2≥0
     ·exact c
     exfalso;have ⟨t,t0,t1,e⟩:=Rf (y:=(aw m q.1 q.2,aw m x.1 x.2)) (E m hm) (s:=1) φ (by unfold mx;grind)
     have:=h (q.1+t*(x.1-q.1),q.2+t*(x.2-q.2)) (λk F=>by
      rw [BB];by_cases g:k=l
      ·subst g;rw [d];have B:t≠1:=λg=>c (by unfold mx at e;dsimp only at e;rw [g] at e;grind);have:=mp (show 1-t>0 by grind) (E k (a k F));grind
      ·exact Vw (x:=(aw k q.1 q.2,aw k x.1 x.2)) (E k (a k F)) (j k F g) t0 t1) m hm
     rw [BB] at this;unfold mx at e;grind
    refine ⟨x,d,λm hm ne=>?_⟩;by_cases c:aw m x.1 x.2>0
    ·exact c
    have z:aw m x.1 x.2=0:=by have:=u x d j m hm;grind
    have sl:=O l (a l b) m hm (λe=>ne e.symm) x d z
    obtain ⟨w,v,C⟩:∃w:V2,nv l w=0/\nv m w<0:=by by_cases g:nv m (aD l)<0;{exact ⟨aD l,by rw [Lq];exact Yg _,g⟩};refine ⟨(-(aD l).1,-(aD l).2),?_,?_⟩<;>rw [Lq] at*<;>unfold cr at*<;>grind
    have ⟨s,A,o⟩:=O1 ((N.filter λk=>decide (k≠l)).map λk=>(aw k x.1 x.2,nv k w)) χ
    have:=u (x.1+s*w.1,x.2+s*w.2) (by rw [jX,d,v];grind) (λk F ne=>by
     rw [jX];exact o _ (þ.2 ⟨k,ń.2 ⟨F,by simpa using ne⟩,rfl⟩)) m hm
    rw [jX,z] at this;have:=mp A (show -nv m w>0 by grind);grind
   ·obtain ⟨l,i,ne⟩:∃l∈N,¬Es N l:=by{simpa using all};have:=(List.length_filter_lt_length_iff_exists (p:=λk=>decide (k≠l))).2 ⟨l,i,ψ⟩;refine ih (N.filter λk=>decide (k≠l)) ω (λm hm=>a m (ń.1 hm).1) λz f=>h z ?_;have f:∀m∈N,m≠l->aw m z.1 z.2>0:=λm hm e=>f m (ń.2 ⟨hm,by simpa using e⟩);by_cases c:aw l z.1 z.2>0;{intro m hm;by_cases e:m=l;{exact e▸c};exact f m hm e};exfalso;have ⟨t,t0,t1,e⟩:=Rf (y:=(aw l q.1 q.2,aw l z.1 z.2)) (E l (a l i)) (s:=1) φ (by unfold mx;grind);refine ne ⟨(q.1+t*(z.1-q.1),q.2+t*(z.2-q.2)),?_,λm hm r=>?_⟩;{rw [BB];exact e};rw [BB];exact Vw (x:=(aw m q.1 q.2,aw m z.1 z.2)) (E m (a m hm)) (f m hm r) t0 t1
 exact key M.length M (Ù _) (λm hm=>hm) λz f=>f
def SO (l:L3):V2:=((l.1:Rat),(l.2.1:Rat))
def sq_p {x y:Rat}(h:x≠0\/y≠0):x*x+y*y>0:=by have p:∀z:Rat,z≠0->z*z>0:=λz a=>by{by_cases c:z>0;{exact mp c c};{have:=mp (show -z>0 by grind) (show -z>0 by grind);grind}};have q:∀z:Rat,z*z≥0:=λz=>by{by_cases c:z≥0;{exact mn c c};{have:=mn (show -z≥0 by grind) (show -z≥0 by grind);grind}};rcases h with h|h;{have:=p x h;have:=q y;grind};{have:=p y h;have:=q x;grind}
def nv_nrm {l:L3}(h:(aD l).1≠0\/(aD l).2≠0):nv l (SO l)>0:=by have:nv l (SO l)=(l.1:Rat)*(l.1:Rat)+(l.2.1:Rat)*(l.2.1:Rat):=rfl;refine sq_p ?_;rcases h with h|h;{exact .inr h};left;intro e;apply h;show -(l.1:Rat)=0;rw [e];grind
def es_pos {M:zA L3}{l:L3}(u:(aD l).1≠0\/(aD l).2≠0){x:V2}(z:aw l x.1 x.2=0)(h:∀m∈M,m≠l->aw m x.1 x.2>0)(L:zA L3)(E:∀m∈L,aw m x.1 x.2>0):∃q:V2,pos M q/\aw l q.1 q.2>0/\pos L q:=by
 have ⟨s,c,a⟩:=O1 (((M.filter λm=>decide (m≠l))++L).map λm=>(aw m x.1 x.2,nv m (SO l))) (λy d=>by
  obtain ⟨m,hm,rfl⟩:=þ.1 d;rcases ü.1 hm with hm|hm
  ·have:=ń.1 hm;exact h m this.1 (by simpa using this.2)
  ·exact E m hm)
 have b:aw l (x.1+s*(SO l).1) (x.2+s*(SO l).2)>0:=by rw [jX,z];have:=mp c (nv_nrm u);grind
 refine ⟨(x.1+s*(SO l).1,x.2+s*(SO l).2),λm hm=>?_,b,λm hm=>?_⟩
 ·by_cases e:m=l;{rw [e];exact b};rw [jX];exact a (aw m x.1 x.2,nv m (SO l)) (þ.2 ⟨m,Ĕ _ (ń.2 ⟨hm,by simpa using e⟩),rfl⟩)
 ·rw [jX];exact a (aw m x.1 x.2,nv m (SO l)) (þ.2 ⟨m,ĝ _ hm,rfl⟩)
end Go.Proofs.Tryz.ao
namespace Go.Proofs.Tryz
open Go.Eng Go.Big
section
variable{s:Sp}{l m:L3}
theorem wQ {u:Sp}{t:Rat}:(s.meet u).inn t↔s.inn t/\u.inn t:=by have c:vk s.lo u.lo<t↔s.lo<t/\u.lo<t:=by{unfold vk;rcases cz u.lo s.lo with ⟨h,e⟩|⟨h,e⟩|⟨h,e⟩<;>rw [e]<;>simp<;>grind};have d:t<vl s.hi u.hi↔t<s.hi/\t<u.hi:=by{unfold vl;rcases cz u.hi s.hi with ⟨h,e⟩|⟨h,e⟩|⟨h,e⟩<;>rw [e]<;>simp<;>grind};unfold Sp.inn Sp.meet;cases s.a<;>cases s.b<;>cases u.a<;>cases u.b<;>simp<;>grind
def reg_one (h:s.good):vr [s]:=⟨λx a=>(show x=s by simpa using a)▸h,ψ⟩
theorem wq {u:Sp}(z:s.can)(hu:u.can):Û 2 [s] [u]=if (s.meet u).emp=true then [] else [s.meet u]:=by have key:∀t,ì (Û 2 [s] [u]) t=true->t∉à ([s]++[u])->(s.meet u).inn t:=λt h a=>by{rw [comb_inB _ _ _ a] at h;have h:(ì [s] t&&ì [u] t)=true:=h;rw [Č] at h;have e:∀x:Sp,ì [x] t=x.innB t:=λx=>by{unfold ì;simp};grind [innB_iff,wQ.2]};refine reg_eq (à ([s]++[u])) (comb_reg _ _ _) ?_ λt a=>?_;{split;{exact ⟨Ŭ,List.Pairwise.nil⟩};rename_i h;exact reg_one ⟨Sp.CW z hu,by simpa using h⟩};refine HV ⟨λh=>?_,λh=>?_⟩;{have y:=key t h a;split;{rename_i he;obtain ⟨b,c⟩:=y;generalize s.meet u=m at he b c;unfold Sp.emp at he;rw [Č,Č,Į,Į,Ñ] at he;obtain ⟨⟨d,E⟩,g⟩:=he;rw [d] at b;rw [E] at c;rcases cz m.lo m.hi with ⟨h,e⟩|⟨h,e⟩|⟨h,e⟩<;>grind};exact jR.2 ⟨_,ψ,y⟩};rw [comb_inB _ _ _ a];show (ì [s] t&&ì [u] t)=true;split at h;{cases h};have ⟨x,f,hi⟩:=jR.1 h;obtain rfl:x=s.meet u:=by{simpa using f};have ⟨b,c⟩:=wQ.1 hi;rw [Č];exact ⟨jR.2 ⟨s,ψ,b⟩,jR.2 ⟨u,ψ,c⟩⟩
theorem Yz {t:Rat}:s.has t=true↔(s.a=true\/s.lo<=t)/\(s.b=true\/t<=s.hi):=by unfold Sp.has;rcases cz s.lo t with ⟨d,c⟩|⟨d,c⟩|⟨d,c⟩<;>rcases cz s.hi t with ⟨u,e2⟩|⟨u,e2⟩|⟨u,e2⟩<;>rw [c,e2]<;>cases s.a<;>cases s.b<;>simp<;>grind
theorem uM (h:Nz l)(t:Rat):aw l (dm l t) (du l t)=0/\ig l (dm l t) (du l t)=t:=by have a:=h.norm;unfold aw ig dm du;unfold gP at *;constructor<;>grind
theorem val_me (h:Þ l m≠0):aw l (meX l m) (meY l m)=0/\aw m (meX l m) (meY l m)=0:=by have a:=Qm1 _ h;unfold aw meX meY;constructor;{have e:(l.1:Rat)*(((l.2.1:Rat)*(m.2.2:Rat)-(l.2.2:Rat)*(m.2.1:Rat))*(Þ l m)⁻¹)+(l.2.1:Rat)*(((l.2.2:Rat)*(m.1:Rat)-(l.1:Rat)*(m.2.2:Rat))*(Þ l m)⁻¹)+(l.2.2:Rat)=(l.2.2:Rat)*(1-Þ l m*(Þ l m)⁻¹):=by{unfold Þ;grind};rw [e,a];grind};have e:(m.1:Rat)*(((l.2.1:Rat)*(m.2.2:Rat)-(l.2.2:Rat)*(m.2.1:Rat))*(Þ l m)⁻¹)+(m.2.1:Rat)*(((l.2.2:Rat)*(m.1:Rat)-(l.1:Rat)*(m.2.2:Rat))*(Þ l m)⁻¹)+(m.2.2:Rat)=(m.2.2:Rat)*(1-Þ l m*(Þ l m)⁻¹):=by{unfold Þ;grind};rw [e,a];grind
theorem X_ (l:L3):bF (bF l)=bF l:=by unfold bF;by_cases h:l.1<0\/l.1=0/\l.2.1<0;{rw [Ä h,Ã];unfold Õ;dsimp only;omega};rw [Ã h,Ã h]
theorem ok_can (h:bY l=true):bY (bF l)=true:=by unfold bF;split;{unfold bY Õ cj at *;grind};exact h
def ok_ne (h:bY l=true):¬(l.1=0/\l.2.1=0):=by unfold bY at h;rw [Č,decide_eq_true_iff] at h;exact h.1
theorem Bi:s.emp=false↔∃t,s.inn t:=by constructor;{intro h;have ⟨c,d⟩:=Sp.QQ h;refine ⟨s.oO,?_,?_⟩;{cases u:s.a;{exact .inr (c u)};exact .inl rfl};cases y:s.b;{exact .inr (d y)};exact .inl rfl};rintro ⟨t,c,d⟩;grind [Sp.im]
theorem pP {l:L3}{s:Sp}{m:L3}:(cU l s m=true->∀t,(bH l s m).inn t↔s.inn t/\0<aw m (dm l t) (du l t))/\(s.emp=false->cU l s m=false->∀t,s.inn t->¬0<aw m (dm l t) (du l t)):=by have key:Ü m l≠0->∀t,(bH l s m).inn t↔s.inn t/\0<ku m l+Ü m l*t:=λa t=>by{unfold bH;rcases cY (Ü m l) with ⟨h,e⟩|⟨h,e⟩|⟨h,e⟩;{exact Å h a};{rw [e];show (s.meet ⟨Ö m l,0,false,true⟩).inn t↔_;rw [wQ];have b:Ü m l*(t-Ö m l)=ku m l+Ü m l*t:=by{unfold Ö;grind};have:(⟨Ö m l,0,false,true⟩:Sp).inn t↔Ö m l<t:=by{unfold Sp.inn;simp};rw [this,<-b];refine and_congr_right λ_=>⟨λd=>ŕ h χ,λd=>?_⟩;by_cases c:Ö m l<t;{exact c};{have:=Wv4 (show 0<=Ü m l by grind) (show 0<=Ö m l-t by grind);grind}};rw [e];show (s.meet ⟨0,Ö m l,true,false⟩).inn t↔_;rw [wQ];have b:-Ü m l*(Ö m l-t)=ku m l+Ü m l*t:=by{unfold Ö;grind};have:(⟨0,Ö m l,true,false⟩:Sp).inn t↔t<Ö m l:=by{unfold Sp.inn;simp};rw [this,<-b];refine and_congr_right λ_=>⟨λd=>ŕ χ χ,λd=>?_⟩;by_cases c:t<Ö m l;{exact c};{have:=Wv4 (show 0<=-Ü m l by grind) (show 0<=t-Ö m l by grind);grind}};by_cases a:Ü m l=0;{have g:bH l s m=s:=by{unfold bH;rw [a];rfl};have f:cU l s m=decide ((ku m l).num.sign>0):=by{unfold cU;rw [a];rfl};grind [qk,cY]};have f:cU l s m=!(bH l s m).emp:=by{unfold cU;grind [cY]};grind [qk,Bi.2]
theorem lR (u:s.good)(y:cU l s m=true):(bH l s m).good:=⟨Uw u.1,Uv u.2 y⟩
theorem rk (l:L3):bF l=l\/bF l=Õ l:=by unfold bF;split;exact .inr rfl;exact .inl rfl
theorem rev_rev (l:L3):Õ (Õ l)=l:=by unfold Õ;simp
def Bg (l:L3):ao.aD (Õ l)=(-(ao.aD l).1,-(ao.aD l).2):=by unfold ao.aD Õ;simp only [Qd6]
theorem nz_d (h:bY l=true):(ao.aD l).1≠0\/(ao.aD l).2≠0:=by unfold ao.aD;by_cases e:l.2.1=0;{right;intro a;have:(l.1:Rat)=0:=χ;exact ok_ne h ⟨by exact_mod_cast this,e⟩};left;show (l.2.1:Rat)≠0;exact_mod_cast e
theorem same2 (ol:bY l=true)(y:bY m=true){p:ao.V2}(z:aw l p.1 p.2=0)(E:aw m p.1 p.2=0)(F:ao.cr (ao.aD l) (ao.aD m)=0):l=m\/l=Õ m:=by have a:∀{x:L3},aw x p.1 p.2=0->aw (bF x) p.1 p.2=0:=λ{x} h=>by{grind [rk,val_rev]};have b:ao.cr (ao.aD (bF l)) (ao.aD (bF m))=0:=by{unfold ao.cr at *;rcases rk l with e|e<;>rcases rk m with u|u<;>rw [e,u]<;>(try rw [Bg l])<;>(try rw [Bg m])<;>(try dsimp only)<;>grind};grind [ao.Ho,ok_can,X_,rk,rev_rev]
theorem dif_of {M:zA L3}(u:∀m∈M,bY m=true){q:ao.V2}(y:ao.pos M q):ao.Dif M:=by intro l d m hm c p f g h;rcases same2 (u l d) (u m hm) f g h with e|e;{exact c e};have a:=y l d;have b:=y m hm;grind [val_rev]
theorem Qx (h:Nz l){x y:Rat}(u:aw l x y=0):∃t,x=dm l t/\y=du l t:=by have a:=Qm1 _ h.norm;unfold aw at u;refine ⟨ig l x y,?_,?_⟩;{unfold dm ig gP at *;grind};unfold du ig gP at *;grind
def ã:Sp:=⟨0,0,true,true⟩
theorem iJ:ã.good:=⟨⟨λ_=>rfl,λ_=>rfl⟩,rfl⟩
def full_inn (t:Rat):ã.inn t:=⟨.inl rfl,.inl rfl⟩
end
section
variable{l:L3}
theorem cross_dot (l m:L3):Þ l m=-Ü m l:=by unfold Þ Ü;grind
theorem Uq (m l:L3):ao.cr (ao.aD m) (ao.aD l)=Ü m l:=by unfold ao.cr ao.aD Ü;grind
def qc (l m:L3):Rat:=ig l (meX l m) (meY l m)
theorem De {m:L3}(u:Nz l)(h:Þ l m≠0):qc l m=Ö m l:=by have ⟨v1,v2⟩:=val_me h;have ⟨t,a,b⟩:=Qx u v1;have c:qc l m=t:=by{unfold qc;rw [a,b];exact (uM u t).2};rw [a,b,qk] at v2;have d:Ü m l≠0:=λe=>h (by rw [cross_dot,e];grind);unfold Ö;grind
def wB (l m:L3)(s:Sp):Option Sp:=
 if Þ l m=0 then (if (aw m (dm l 0) (du l 0)).num.sign<=0 then none else some s)
 else
  let s':Sp:=if 0<(Ü m l).num.sign then (if s.a=true\/s.lo<qc l m then ⟨qc l m,s.hi,false,s.b⟩ else s) else (if s.b=true\/qc l m<s.hi then ⟨s.lo,qc l m,s.a,false⟩ else s)
  if s'.a=false/\s'.b=false/\s'.hi<=s'.lo then none else some s'
theorem UD {s:Sp}:s.emp=true↔s.a=false/\s.b=false/\s.hi<=s.lo:=by cases h:s.emp;{grind [Sp.im.1]};refine ⟨λ_=>?_,λ_=>rfl⟩;have d:¬(s.a=true\/s.b=true\/s.lo<s.hi):=λg=>by{rw [<-Sp.im] at g;rw [h] at g;cases g};refine ⟨?_,?_,?_⟩;{cases e:s.a;{rfl};grind};{cases e:s.b;{rfl};grind};by_cases c:s.lo<s.hi<;>grind
theorem Cq {m:L3}{s:Sp}(u:Nz l)(y:s.good):wB l m s=if cU l s m=true then some (bH l s m) else none:=by unfold wB;by_cases c:Þ l m=0;{have d:Ü m l=0:=by{rw [cross_dot] at c;grind};have g:bH l s m=s:=by{unfold bH;rw [d];rfl};have f:cU l s m=decide ((ku m l).num.sign>0):=by{unfold cU;rw [d];rfl};rw [Ä c,g,f];show (if (ku m l).num.sign<=0 then none else some s)=_;grind};have d:Ü m l≠0:=λe=>c (by rw [cross_dot,e];grind);rw [Ã c,De u c];have es:(if 0<(Ü m l).num.sign then (if s.a=true\/s.lo<Ö m l then (⟨Ö m l,s.hi,false,s.b⟩:Sp) else s) else (if s.b=true\/Ö m l<s.hi then ⟨s.lo,Ö m l,s.a,false⟩ else s))=bH l s m:=by{obtain ⟨i,j⟩:=y.1;obtain ⟨lo,hi,a,b⟩:=s;unfold bH;rcases cY (Ü m l) with ⟨h,e⟩|⟨h,e⟩|⟨h,e⟩;{exact Å h d};{rw [e,Ä φ];unfold Sp.meet vk;grind [cz]};rw [e,Ã φ];unfold Sp.meet vl;grind [cz]};have f:cU l s m=!(bH l s m).emp:=by{unfold cU;grind [cY]};grind [UD.2,UD.1]
def eY (l:L3):List L3->Sp->Option Sp
 | [],s=>some s
 | m::r,s=>if m=l then eY l r s else match wB l m s with
  | some s'=>eY l r s'
  | none=>none
theorem yA (u:Nz l):∀{c:zA L3} {s w:Sp},s.good->eY l c s=some w->w.good/\∀t,w.inn t↔s.inn t/\∀m∈c,m≠l->0<aw m (dm l t) (du l t)
 | [],s,w,h,e=>by cases e;exact ⟨h,λt=>⟨λg=>⟨g,λm hm=>by cases hm⟩,λg=>g.1⟩⟩
 | m::c,s,w,h,e=>by
  unfold eY at e;by_cases hm:m=l
  ·rw [Ä hm] at e;have ⟨g1,g2⟩:=yA u h e;grind
  ·rw [Ã hm,Cq u h] at e;by_cases y:cU l s m=true
   ·rw [Ä y] at e;have ⟨g1,g2⟩:=yA u (lR h y) e;grind [pP.1]
   grind
def yz (y:Nz l):∀{c:zA L3} {s:Sp},s.good->eY l c s=none->∀t,s.inn t->¬∀m∈c,m≠l->0<aw m (dm l t) (du l t)
 | [],s,h,e=>by cases e
 | m::c,s,h,e=>by
  intro t z hall;have ⟨E,F⟩:=List.forall_mem_cons.1 hall;unfold eY at e;by_cases hm:m=l
  ·rw [Ä hm] at e;exact yz y h e t z F
  ·rw [Ã hm,Cq y h] at e;by_cases u:cU l s m=true
   ·rw [Ä u] at e;exact yz y (lR h u) e t ((pP.1 u t).2 ⟨z,E hm⟩) F
   ·exact pP.2 h.2 (by simpa using u) t z (E hm)
def P8 (u:Nz l){c:zA L3}:(eY l c ã).isSome=true↔ao.Es c l:=by constructor;{intro h;have ⟨w,hw⟩:=Qd7.1 h;have ⟨b,d⟩:=yA u iJ hw;have ⟨t,e⟩:=Bi.1 b.2;exact ⟨(dm l t,du l t),(uM u t).1,((d t).1 e).2⟩};rintro ⟨p,f,a⟩;have ⟨t,g,i⟩:=Qx u f;(cases h:eY l c ã with|some w=>rfl|none=>{rw [g,i] at a;exact Å a (yz u iJ h t (full_inn t))})
def rE (l:L3):List L3->List L3
 | []=>[l]
 | u::r=>if ao.iB (ao.aD u) (ao.aD l)<0 then u::rE l r else if u=l then u::r else l::u::r
def rU (c:List L3):List L3->List L3->List L3
 | [],out=>out
 | l::r,out=>rU c r (if (eY l c ã).isSome=true then rE l out else out)
theorem wJ {x:L3}:∀{r:zA L3},x∈rE l r↔x=l\/x∈r
 | []=>by simp [rE]
 | u::r=>by
  unfold rE;split
  ·rw [ç,wJ,ç];exact or_left_comm
  split
  ·rename_i e;subst e;rw [ç];exact ⟨.inr,λh=>h.elim .inl id⟩
  ·rw [ç]
theorem yO (h:bY l=true):bY (Õ l)=true:=by unfold bY Õ cj at *;grind
end
section
theorem dot_rev (l m:L3):Ü (Õ l) m=-Ü l m:=by unfold Ü Õ;simp only [Qd6];grind
theorem PN (l m:L3):ku (Õ l) m=-ku l m:=by unfold ku;exact val_rev ..
theorem cutP_rev {l m:L3}(h:Ü l m≠0):Ö (Õ l) m=Ö l m:=by unfold Ö;rw [dot_rev,PN];grind
end
section
def rev_ne {l:L3}(h:bY l=true):Õ l≠l:=λe=>by
 have b:=nz_d h;rw [<-e,Bg] at b;have a:=Æ ao.aD e;rw [Bg] at a;have c:=Æ Prod.fst a;have d:=Æ Prod.snd a;dsimp only at c d b;grind
def TU:∀(L:zA Rat) {lo hi:Rat},lo<hi->∃t,lo<t/\t<hi/\∀r∈L,t≠r
 | [],lo,hi,h=>⟨(lo+hi)/2,χ,χ,(λr u=>by cases u)⟩
 | r::L,lo,hi,h=>by
  by_cases c:lo<r/\r<hi
  ·have ⟨t,y,z,E⟩:=TU L c.1;grind
  ·have ⟨t,y,z,E⟩:=TU L h;grind
def UQ {s:Sp}(h:s.good):∃lo hi,lo<hi/\∀t,lo<t->t<hi->s.inn t:=by have ⟨t,e⟩:=Bi.1 h.2;obtain ⟨lo,hi,a,b⟩:=s;unfold Sp.inn at *;cases a<;>cases b<;>simp at e ⊢;{exact ⟨lo,hi,χ,λt c d=>⟨c,d⟩⟩};{exact ⟨lo,lo+1,χ,λt c d=>c⟩};{exact ⟨hi-1,hi,χ,λt c d=>d⟩};exact ⟨0,1,φ⟩
theorem IM {m l:L3}(hm:bY m=true)(u:bY l=true){t:Rat}(y:t≠Ö m l):m=l\/m=Õ l\/aw m (dm l t) (du l t)≠0:=by by_cases b:Ü m l=0;{by_cases a:aw m (dm l t) (du l t)=0;{have c:=(uM (ok_ne u) t).1;have d:ao.cr (ao.aD m) (ao.aD l)=0:=by{rw [Uq];exact b};rcases same2 (p:=(dm l t,du l t)) hm u a c d with g|g<;>grind};exact .inr (.inr a)};refine .inr (.inr λa=>y ?_);rw [qk] at a;unfold Ö;grind
def Tr.lu {P:L3->Prop}:∀{t:Tr},(∀l∈t.cQ,P l)->t.dG P
 | .leaf _,_=>trivial
 | .node l x y,h=>⟨h l (ą ..),lu λm hm=>h m (ø _ (Ĕ _ hm)),lu λm hm=>h m (ø _ (ĝ _ hm))⟩
end
end Go.Proofs.Tryz
