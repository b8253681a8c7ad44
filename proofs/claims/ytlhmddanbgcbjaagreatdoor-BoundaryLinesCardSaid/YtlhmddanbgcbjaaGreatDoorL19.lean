import Derived.Test.YtlhmddanbgcbjaaGreatDoorL18
import Derived.Test.YtlhmddanbgcbjaaGreatDoorL17
import Derived.Test.YtlhmddanbgcbjaaGreatDoorL8
import Derived.Test.YtlhmddanbgcbjaaGreatDoorL16
import Derived.Test.YtlhmddanbgcbjaaGreatDoorL15
import Derived.Test.YtlhmddanbgcbjaaGreatDoorL5
import Derived.Test.YtlhmddanbgcbjaaGreatDoorL11
import Derived.Laws.IdiomCopy
import Derived.Lib.Overlaps
import Derived.Lib.JoinLaws
import Derived.Lib.AppendZerosOnto
import Derived.Shelf.RegionOpenPlain
import Derived.Lib.Walk
import Derived.Lib.SliceRun
import Derived.Laws.NewBlocks
import Derived.Test.YtlhmddanbgcbjaaGreatDoorL13
import Derived.Test.YtlhmddanbgcbjaaGreatDoorL14
import Derived.Test.YtlhmddanbgcbjaaGreatDoorL9
set_option linter.all false
open Go.IntKind (i64 u64 u32)
namespace Go.Proofs.Tryz
open Go.Eng Go.Big
open Go.Value renaming slice→qD,agg→hF,bool→dQ,pointer→dZ,int→qvZ
variable{A B l ss:List Sp}{c k n:Nat}{V:View}{vs:List Value}{p q:OA}{x1 x2 y1 y2:Int}{v:Value}
theorem Ej {V:ut}{ab ob fa:Nat}{x y:Int}{acc:md->md->md}(hw:V.w.heap[ab]?=some (.cells #[.func (.func fa) #[] #[]] 251 (0,0)))(hx:V.X ab)
  (hw':V.w.heap[ob]?=some (.cells #[qvZ .i64 x,qvZ .i64 y] 300 (0,0)))(hx':V.X ob)(hne:ab≠ob)(hf:∀a b (W:ut),aa prog fa #[dQ a,dQ b] W λr _=>r=dQ (acc a b)) :
  aa prog 204 #[dZ (some ⟨ab,0,none⟩),dZ (some ⟨ob,0,none⟩)] V λr V'=>r=dQ (acc (decide ((0:Int)<x)) (decide ((0:Int)<y))) /\
   V'.w.heap[ab]?=some (.cells #[.func (.func fa) #[] #[]] 251 (0,0))/\V'.w.heap[ob]?=some (.cells #[qvZ .i64 x,qvZ .i64 y] 300 (0,0)):=by refine B7 ab ob fa x y V _ hw hx hw' hx' hne ⟨by decide,by decide,λc f=>(hf _ _ c).s ?_⟩;rintro r V2 g rfl;exact ⟨_,rfl,λh i d e=>⟨rfl,d,e⟩⟩
def MR (A:List Sp)(k:Nat)(m:Int):List Value:=if k=0 then [.int .i64 m,.int .i64 0] else if k=1 then [.int .i64 (mN A),.int .i64 m] else []
theorem UO {m:Int}(hk:k<2):(MR A k m)[0+k*1]?=some (qvZ .i64 m):=by obtain rfl|rfl:k=0\/k=1:=by{omega};{rfl};{rfl}
theorem UP {m:Int}(hk:k<2):(MR A k m).length=2:=by obtain rfl|rfl:k=0\/k=1:=by{omega};{rfl};{rfl}
theorem UQ {m m':Int}(hk:k<2):(MR A k m).set (0+k*1) (qvZ .i64 m')=MR A k m':=by obtain rfl|rfl:k=0\/k=1:=by{omega};{rfl};{rfl}
theorem UL {a b:pz Sp}:mN (a++b)=mN a+mN b:=by
 induction a with
 | nil=>simp [mN]
 | cons s r ih=>simp only [Qd0,mN];omega
theorem F6:∀{a:pz Sp},0<=mN a/\mN a<=a.length
 | []=>⟨Ww5 _,Ww5 _⟩
 | s::r=>by
  have ⟨h1,h2⟩:=F6 (a:=r);simp only [mN,Qw6];split<;>omega
theorem TT {c:oL}:c∈oY A B->(c.2.1=0\/c.2.1=1)/\(c.2.2=1\/c.2.2=-1):=by intro h;have one:∀{k:Int} {s:Sp},c∈jN k s->c.2.1=k/\(c.2.2=1\/c.2.2=-1):=λ{k s} h=>by{rcases Qw3.1 h with h|h;{split at h;{cases h};{rw [Qq6.1 h];exact ⟨rfl,.inl rfl⟩}};{split at h;{cases h};{rw [Qq6.1 h];exact ⟨rfl,.inr rfl⟩}}};rcases Qw3.1 h with h|h<;>grind
theorem Gt {k:Int}:∀{l:pz oL},(∀c∈l,c.2.2=1\/c.2.2=-1)->-(l.length:Int)<=iK k l/\iK k l<=l.length
 | [],_=>⟨Ww5 _,Ww5 _⟩
 | c::r,h=>by
  have ⟨h1,h2⟩:=Gt (k:=k) (l:=r) λx a=>h x (by simp [a]);have:=h c (by simp);simp only [iK,Qw6];split<;>omega
def IP (A B:List Sp)(l:List oL):List Value:=[.int .i64 (mN A+iK 0 l),.int .i64 (mN B+iK 1 l)]
def YP (A B:List Sp)(l:List oL)(k:Int):Int:=if k=0 then mN A+iK 0 l else mN B+iK 1 l
theorem UR {l:pz oL}{k:Int}(hk:k=0\/k=1):(IP A B l)[0+k.toNat*1]?=some (qvZ .i64 (YP A B l k)):=by rcases hk with rfl|rfl<;>rfl
theorem US {l:pz oL}{c:oL}(hk:c.2.1=0\/c.2.1=1):(IP A B l).set (0+c.2.1.toNat*1) (qvZ .i64 (YP A B l c.2.1+c.2.2))=IP A B (l++[c]):=by unfold IP YP;rw [BK,BK];simp only [iK];rcases hk with h|h<;>rw [h];{simp [Int.add_assoc]};{simp [Int.add_assoc]}
structure CR (V:View) (n c:Nat) (vs:List Value) (l:List oL):Prop where
 len:n=l.length
 le:n<=c
 cap:c*5<=vs.length
 row:Row 5 RC V vs l
 ne:vs≠[]->l≠[]
theorem CR.snoc {l:pz oL}(h:CR V n c vs l){x y:Int}{q:Rat}(hr:RR V (hF #[qvZ .i64 x,qvZ .i64 y,dZ p]) q)(hs:Sz 1000000 q)(k d:Int){sp:pz un}{c':Nat}(h1:n+1<=c')(h2:c'*5<=(n+1)*5+sp.length) :
  CR V (n+1) c' (vs.take (n*5)++([qvZ .i64 x,qvZ .i64 y,dZ p,qvZ .i64 k,qvZ .i64 d]:pz un)++sp) (l++[(q,k,d)]):=by have b:=h.len;have e:=h.cap;have f:=h.le;refine ⟨by rw [Qq3,b];rfl,h1,?_,?_,λ_=>by simp⟩;{have g:(vs.take (n*5)).length=n*5:=by{rw [Qq7];omega};grind};{have:=h.row.snoc (sp:=sp) (xs:=[qvZ .i64 x,qvZ .i64 y,dZ p,qvZ .i64 k,qvZ .i64 d]) (a:=(q,k,d)) rfl ⟨x,y,p,rfl,hr,hs⟩ (by decide);grind}
structure IR (V:View) (n c:Nat) (vs:List Value) (l:List Sp):Prop where
 len:n=l.length
 le:n<=c
 cap:c*8<=vs.length
 row:Row 8 eM V vs l
theorem IR.s {V':ut}(h:IR V n c vs l)(e:V.Le V'):IR V' n c vs l:=⟨h.len,h.le,h.cap,h.row.le λ_ _ g=>eM.le g e⟩
theorem IR.nil:IR V 0 0 [] []:=⟨rfl,Qq2 _,Qq2 _,Row.nil⟩
theorem IR.snoc (h:IR V n c vs l){s:Sp}(hr:RR V (hF #[qvZ .i64 x1,qvZ .i64 x2,dZ p]) s.lo)(hr':RR V (hF #[qvZ .i64 y1,qvZ .i64 y2,dZ q]) s.hi){sp:pz un}{c':Nat}(h1:n+1<=c')(h2:c'*8<=(n+1)*8+sp.length) :
  IR V (n+1) c' (vs.take (n*8)++([qvZ .i64 x1,qvZ .i64 x2,dZ p,qvZ .i64 y1,qvZ .i64 y2,dZ q,dQ s.a,dQ s.b]:pz un)++sp) (l++[s]):=by have d:=h.len;have e:=h.cap;have f:=h.le;refine ⟨by rw [Qq3,d];rfl,h1,?_,?_⟩;{have g:(vs.take (n*8)).length=n*8:=by{rw [Qq7];omega};grind [List.length_cons]};{have:=h.row.snoc (sp:=sp) (xs:=[qvZ .i64 x1,qvZ .i64 x2,dZ p,qvZ .i64 y1,qvZ .i64 y2,dZ q,dQ s.a,dQ s.b]) (a:=s) rfl (qyQ ⟨rfl,hr,hr'⟩) (by decide);grind}
theorem one5 {x y:Int}{a b:Int}:∀v∈([qvZ .i64 x,qvZ .i64 y,dZ p,qvZ .i64 a,qvZ .i64 b]:pz un),v.oneCell'=true:=by intro v hm;simp only [Qq5,Qx7,or_false] at hm;rcases hm with rfl|rfl|rfl|rfl|rfl<;>rfl
theorem UK {a b:md}:∀v∈([qvZ .i64 x1,qvZ .i64 x2,dZ p,qvZ .i64 y1,qvZ .i64 y2,dZ q,dQ a,dQ b]:pz un),v.oneCell'=true:=by intro v hm;simp only [Qq5,Qx7,or_false] at hm;rcases hm with rfl|rfl|rfl|rfl|rfl|rfl|rfl|rfl<;>rfl
def LK (A B:List Sp)(k:Nat):List Sp:=if k=0 then A else B
def VZ (A B:List Sp)(k:Nat):List oL:=if k=0 then [] else if k=1 then A.flatMap (jN 0) else oY A B
def Zp (A B:List Sp)(k:Nat):List Value:=if k=2 then IP A B [] else MR A k 0
theorem Hr {A B:pz Sp}(hk:k<2):VZ A B k++(LK A B k).flatMap (jN k)=VZ A B (k+1):=by obtain rfl|rfl:k=0\/k=1:=by{omega};{rfl};{rfl}
theorem R8 (hk:k<2):MR A k (mN (LK A B k))=Zp A B (k+1):=by obtain rfl|rfl:k=0\/k=1:=by{omega};{rfl};{simp [MR,Zp,IP,LK,iK]}
theorem YB {b:Nat}(h:0<c):mA b c=some ⟨b,0,none⟩:=by unfold mA;rw [if_neg (by omega)]
theorem Oa {f:Sp->pz oL}{j:Nat}(h:j<l.length):(l.take (j+1)).flatMap f=(l.take j).flatMap f++f l[j]:=by rw [Qz0,Qq1 h,Qc1];simp
theorem R4 {j:Nat}(h:j<l.length):mN (l.take (j+1))=mN (l.take j)+if l[j].a then 1 else 0:=by rw [Qz0,Qq1 h,UL];simp [mN]
theorem TG {A B:pz Sp}{k j:Nat}(hk:k<2):(VZ A B k++((LK A B k).take j).flatMap (jN k)).length<=fe A+fe B:=by
 have c:((LK A B k).flatMap (jN k)).length=(((LK A B k).take j).flatMap (jN k)).length+(((LK A B k).drop j).flatMap (jN k)).length:=by
  conv=>lhs;rw [←Qb1 j (LK A B k),Qc1]
  rw [Qq3]
 have a:=congrArg List.length (Hr (A:=A) (B:=B) hk);rw [Qq3] at a
 have b:(VZ A B (k+1)).length<=(oY A B).length:=by obtain rfl|rfl:k=0\/k=1:=by{omega};{unfold oY;rw [Qq3];exact Qp6 _ _};{exact Qq2 _}
 rw [FA] at b;rw [Qq3];omega
theorem Vi {acc:md->md->md}{cs:pz oL}{was:md}{last:Sp}{out:pz Sp}(h:VM acc A B cs cs.length was last out){op:Int}(ha:∀t,acc (inB A t) (inB B t)=opB op (inB A t) (inB B t)):BN was last out=combL op A B:=by refine reg_eq (endsL (A++B)) h.rg (comb_reg _ _ _) λt a=>?_;rw [comb_inB _ _ _ a,h.inn t (λs b he=>a (eZ.2 ⟨s,b,he⟩)) λh=>absurd h (Wq3 _)];exact ha t
theorem HK {p0 p1:OA}{n0 c0 n1 c1 fa:Nat}{op:Int}{acc:md->md->md}(hacc:∀t,acc (inB A t) (inB B t)=opB op (inB A t) (inB B t))(hA:bE 8 eM V p0 n0 A)(hB:bE 8 eM V p1 n1 B)(gA:∀s∈A,s.good)(gB:∀s∈B,s.good)(sA:∀s∈A,s.sz 1000000)(sB:∀s∈B,s.sz 1000000)
  (nA:A.length<=1000)(nB:B.length<=1000)(G9:fe A+fe B<200)(so:ph (fe A+fe B))(hf:∀a b (W:ut),aa prog fa #[dQ a,dQ b] W λr _=>r=dQ (acc a b)) :
  aa prog 154 #[hF #[qD p0 n0 c0,qD p1 n1 c1],.func (.func fa) #[] #[]] V λr V'=>∃q m e,r=qD q m e/\bE 8 eM V' q m (combL op A B):=by
 obtain rfl:=hA.len;obtain rfl:=hB.len
 refine GH p0 _ c0 p1 _ c1 fa V _ ⟨λz V'=>∃k:Nat,z.2.2.2.1=(k:Int)/\k<=2/\CR V' z.1 z.2.1 z.2.2.1 (VZ A B k)/\z.2.2.2.2=Zp A B k,λz=>2-z.2.2.2.1.toNat,
  ⟨(0,0,[],0,[qvZ .i64 0,qvZ .i64 0]),by and_intros<;>rfl,0,rfl,by decide,⟨rfl,Qq2 _,Qq2 _,Row.nil,λh=>absurd rfl h⟩,rfl⟩,?_⟩
 rintro ⟨Q,z2,vs,z4,os⟩ V1 l1 ⟨k,e4,d5,G,K⟩;dsimp only at e4 G K;subst e4 K;dsimp only;refine ⟨rfl,λN=>?_,λN=>?_⟩
 ·have N:(k:Int)<2:=of_decide_eq_true N;have hk:k<2:=by omega
  have X:i64.wrap ((k:Int)+1)=((k+1:Nat):Int):=by rw [aw (by omega)];rfl
  rw [X,Qq0]
  obtain ⟨p,n,c,el,hL⟩:∃p n c,([(p0,A.length,c0),(p1,B.length,c1)]:pz (OA×Nat×Nat)).getD k (none,0,0)=(p,n,c)/\bE 8 eM V p n (LK A B k):=by obtain rfl|rfl:k=0\/k=1:=by{omega};{exact ⟨_,_,_,rfl,hA⟩};{exact ⟨_,_,_,rfl,hB⟩}
  rw [el];dsimp only
  have c4:(∀s∈LK A B k,s.sz 1000000)/\(LK A B k).length<=1000:=by obtain rfl|rfl:k=0\/k=1:=by{omega};{exact ⟨sA,nA⟩};{exact ⟨sB,nB⟩}
  obtain ⟨sL,nL⟩:=c4;obtain rfl:=hL.len
  refine ⟨⟨by omega,by omega⟩,λz V'=>∃j:Nat,z.2.2.2.1=(j:Int)/\j<=(LK A B k).length/\CR V' z.1 z.2.1 z.2.2.1 (VZ A B k++((LK A B k).take j).flatMap (jN k))/\z.2.2.2.2=MR A k (mN ((LK A B k).take j)),λz=>(LK A B k).length-z.2.2.2.1.toNat,
   ⟨(Q,z2,vs,0,Zp A B k),by and_intros<;>rfl,0,rfl,Qq4 _,by simpa using G,by rw [Qd4];unfold Zp;rw [if_neg (by omega)];rfl⟩,?_⟩
  rintro ⟨X,w2,us,w4,os⟩ V2 l2 ⟨j,e4,uw,E,K⟩;dsimp only at e4 E K;subst e4 K;dsimp only;refine ⟨rfl,λhj=>?_,λhj=>?_⟩
  ·have hj:(j:Int)<(LK A B k).length:=of_decide_eq_true hj;have R:j<(LK A B k).length:=by omega
   have w3:i64.wrap ((j:Int)+1)=((j+1:Nat):Int):=by rw [aw (by omega)];rfl
   rw [Qq0,w3];obtain ⟨ad,ha,xs,-,hv,D⟩:=(hL.le (l1.m l2) λ_ _ g=>eM.le g (l1.m l2)).at_ j R;obtain ⟨x1,x2,q,y1,y2,q',ex,Y,r2⟩:=hv;have ex:=congrArg Array.toList (Value.agg.inj ex);dsimp only at ex;subst ex;have hs:=sL _ (Qq9 R);have ft:=Oa (f:=jN (k:Int)) R;have ot:=R4 R;have ob:=F6 (a:=(LK A B k).take j);rw [Qq7] at ob;have cn:=E.len;have bl:=TG (A:=A) (B:=B) (j:=j) hk;rw [←cn] at bl;have c1:jN (k:Int) (LK A B k)[j]=(if (LK A B k)[j].a then [] else [((LK A B k)[j].lo,(k:Int),1)])++(if (LK A B k)[j].b then [] else [((LK A B k)[j].hi,(k:Int),-1)]):=rfl;rw [c1] at ft;generalize (LK A B k)[j]=s at *
   refine ⟨aF ha,⟨by omega,by omega⟩,_,_,_,_,_,_,_,_,ad,ha,D 0 _ rfl,D 1 _ rfl,D 2 _ rfl,D 3 _ rfl,D 4 _ rfl,D 5 _ rfl,D 6 _ rfl,D 7 _ rfl,
    λz V'=>CR V' z.1 z.2.1 z.2.2.1 (VZ A B k++((LK A B k).take j).flatMap (jN k)++(if s.a then [] else [(s.lo,(k:Int),1)]))/\z.2.2.2=MR A k (mN ((LK A B k).take (j+1))),⟨λF=>?_,λF=>?_⟩,?_⟩
   ·rw [F,if_pos rfl] at ot;rw [F,if_pos rfl,Qx2];refine ⟨⟨by omega,by omega⟩,_,UO hk,⟨by omega,by omega⟩,by rw [UP hk];omega,(X,w2,us,MR A k (mN ((LK A B k).take (j+1)))),?_,E,rfl⟩;have e:(MR A k (mN ((LK A B k).take j))).set (0+k*1) (qvZ .i64 (i64.wrap (mN ((LK A B k).take j)+1)))=MR A k (mN ((LK A B k).take (j+1))):=by{rw [UQ hk,aw (by omega),ot]};(and_intros<;>first|rfl|exact e)
   ·rw [F,if_neg (by decide),Wx0] at ot;rw [F,if_neg (by decide)];refine ⟨by omega,E.le,E.cap,rfl,one5,λsp c' C S=>⟨(X+1,c',_,MR A k (mN ((LK A B k).take j))),by and_intros<;>rfl,E.snoc Y hs.1 _ _ C S,by dsimp only;rw [ot]⟩⟩
   ·rintro ⟨k1,k2,ks,os⟩ V3 l3 ⟨H,K⟩;dsimp only at H K;subst K;dsimp only;have c5:=H.len;have d6:k1<=X+1:=by{rw [c5,cn,Qq3];split<;>simp};refine ⟨rfl,λz V'=>CR V' z.1 z.2.1 z.2.2 (VZ A B k++((LK A B k).take (j+1)).flatMap (jN k)),⟨λF=>?_,λF=>?_⟩,?_⟩;{have F:s.b=false:=by{simpa using F};simp only [F,Qj0,if_false] at ft;rw [ft,←Qy3,←Qy3];refine ⟨by omega,H.le,H.cap,rfl,one5,λsp c' C S=>⟨(k1+1,c',_),by and_intros<;>rfl,H.snoc (r2.le l3) hs.2 _ _ C S⟩⟩};{have F:s.b=true:=by{simpa using F};simp only [F,if_true,Qx2] at ft;rw [ft,←Qy3];exact ⟨(k1,k2,ks),by and_intros<;>rfl,H⟩};{rintro ⟨P,Z,ms⟩ V4 l4 a5;dsimp only at a5;exact ⟨rfl,(P,Z,ms,((j+1:Nat):Int),_),by dsimp only;omega,by and_intros<;>rfl,j+1,rfl,by omega,a5,rfl⟩}
  ·have hj:¬(j:Int)<(LK A B k).length:=of_decide_eq_false hj;obtain rfl:j=(LK A B k).length:=by{omega};rw [Qy2] at *;refine ⟨(X,w2,us,((k+1:Nat):Int),MR A k (mN (LK A B k))),by dsimp only;omega,by and_intros<;>rfl,k+1,rfl,by omega,?_,R8 hk⟩;rw [←Hr hk];exact E
 have N:¬(k:Int)<2:=of_decide_eq_false N;obtain rfl:k=2:=by omega
 have G:CR V1 Q z2 vs (oY A B):=G;have cl:(oY A B).length<4000:=by rw [FA];omega
 have c6:=G.len;have d7:=G.le;rw [show Zp A B 2=IP A B [] from rfl];have M:∀l:pz oL,IP A B l≠[]:=λl h=>by cases h
 refine ⟨λz V'=>∃cs:pz oL,SR V' Q z cs/\cs.Perm (oY A B)/\cs.Pairwise (λx y=>x.1<=y.1),⟨λh0=>?_,λh0 V7 l7 bk e7 h7=>?_⟩,?_⟩
 ·subst h0;have C:=G.cap;rw [Qk9] at C;obtain rfl:z2=0:=by{omega};obtain rfl:Q=0:=by{omega};have a6:oY A B=[]:=List.eq_nil_of_length_eq_zero (by omega);exact ⟨rfl,λV5 l5=>zU.s λr V6 l6 hr=>⟨hr,[],by and_intros<;>rfl,[],⟨Row.nil,rfl,by simp⟩,by rw [a6],List.Pairwise.nil⟩⟩
 ·have d8:0<(oY A B).length:=Qh2.2 (G.ne h0);rw [rR h0,YB (show 0<z2 by omega)];refine (so (V7.ar [bk]) bk _ _ _ (oY A B) FA (e7 h0) ⟨by simp,h7 h0⟩ ⟨G.row.le λ_ _ g=>RC.le g λb o h=>l7 b o h,c6,cl⟩).s ?_;rintro r V8 l8 ⟨rfl,a7,cs,e8,a8,hp,O⟩;refine ⟨rfl,h0,a7,λe=>?_,e8,a7,by and_intros<;>rfl,cs,a8.le (Ri _),hp,O⟩;have C:=a8.row.jR (by decide);rw [e,hp.length_eq,Qk9] at C;omega
 rintro c7 V9 l9 ⟨cs,a9,hp,O⟩;have zl:=a9.len;have a3:=λc (h:c∈cs)=>TT (hp.mem_iff.1 h);refine ⟨rfl,λfy c8 ab ob ea ha K ho c9=>?_⟩;rw [rR (M [])];refine (Ej (V:=fy.ar [ab,ob]) (x:=mN A+iK 0 []) (y:=mN B+iK 1 []) (acc:=acc) ea ⟨by simp,ha⟩ (K (M _)) ⟨by simp,ho (M _)⟩ (c9 (M _)) hf).s ?_;rintro r fC bo ⟨rfl,e1,e2⟩
 refine ⟨_,rfl,e1,M _,IP A B [],M _,e2,λz V'=>∃(i:Nat)(last:Sp)(out:pz Sp),z.2.2.2.2.1=(i:Int)/\i<=cs.length/\out.length<=i/\VM acc A B cs i z.2.2.2.1 last out/\z.2.2.2.2.2.1=IP A B (cs.take i)/\IR V' z.1 z.2.1 z.2.2.1 out /\
   RR V' (hF #[qvZ .i64 z.2.2.2.2.2.2.1,qvZ .i64 z.2.2.2.2.2.2.2.1,dZ z.2.2.2.2.2.2.2.2.1]) last.lo/\RR V' (hF #[qvZ .i64 z.2.2.2.2.2.2.2.2.2.1,qvZ .i64 z.2.2.2.2.2.2.2.2.2.2.1,dZ z.2.2.2.2.2.2.2.2.2.2.2.1]) last.hi/\last.a=z.2.2.2.2.2.2.2.2.2.2.2.2.1/\last.b=z.2.2.2.2.2.2.2.2.2.2.2.2.2,
  λz=>cs.length-z.2.2.2.2.1.toNat,⟨(0,0,[],_,0,IP A B [],0,0,none,0,0,none,true,false),by and_intros<;>rfl,0,⟨0,0,true,false⟩,[],rfl,Qq4 _,Qq4 _,SX (acc:=acc) (by show acc (decide ((0:Int)<mN A+0)) (decide ((0:Int)<mN B+0))=_;rw [Wx0,Wx0]) hp gA gB O,rfl,IR.nil,RR.zero _,RR.zero _,rfl,rfl⟩,?_⟩
 rintro ⟨P,Z,us,d,iz,ov,x1,x2,p,y1,y2,q,la,lb⟩ gI bW ⟨i,last,out,e5,Pl,oi,hI,b0,v,Y,r2,f1,f2⟩;dsimp only at e5 hI b0 v Y r2 f1 f2;subst e5 b0 f1 f2;dsimp only;have ml:=v.len;refine ⟨rfl,λhi=>?_,λhi=>?_⟩
 ·have hi:(i:Int)<Q:=of_decide_eq_true hi;have I:i<cs.length:=by omega
  have a0:SR gI Q c7 cs:=a9.le λb o h=>bW b o (bo b o (c8 b o h));have gd:∀j (h:j<cs.length),cs.getD j dC=cs[j]:=λj h=>by rw [Qx3,Qq1 h];rfl
  have ⟨x,y,pp,a,b,g,x',y',p',ev,hr,b6⟩:=a0.get I;rw [gd i I] at ev hr b6;rw [Qz2] at g;have ev:=congrArg Array.toList (Value.agg.inj ev);simp only [Qk4,Value.int.injEq,Value.pointer.injEq,true_and,and_true] at ev;obtain ⟨rfl,rfl,rfl,rfl,rfl⟩:=ev;have ⟨ck,cd⟩:=a3 _ (Qq9 I);have X:i64.wrap ((i:Int)+1)=((i+1:Nat):Int):=by rw [aw (by omega)];rfl
  have tk:cs.take (i+1)=cs.take i++[cs[i]]:=by rw [Qz0,Qq1 I];rfl
  have b7:(IP A B (cs.take i)).set (0+cs[i].2.1.toNat*1) (qvZ .i64 (i64.wrap (YP A B (cs.take i) cs[i].2.1+cs[i].2.2)))=IP A B (cs.take (i+1)):=by have b1:=F6 (a:=A);have b2:=F6 (a:=B);have b3:=Gt (k:=0) (l:=cs.take i) λc G=>(a3 c (Qn6 G)).2;have b4:=Gt (k:=1) (l:=cs.take i) λc G=>(a3 c (Qn6 G)).2;rw [Qq7] at b3 b4;have b5:-9000<=YP A B (cs.take i) cs[i].2.1/\YP A B (cs.take i) cs[i].2.1<=9000:=by{unfold YP;split<;>omega};rw [aw (by omega),US ck,tk]
  rw [X,Qq0,Qq0];refine ⟨⟨by omega,by omega⟩,by omega,x,y,pp,_,_,g,⟨by omega,by omega⟩,_,UR ck,⟨by omega,by omega⟩,by rw [show (IP A B (cs.take i)).length=2 from rfl];omega,?_⟩;rw [b7];refine ⟨λt V'=>(t=true->∃h:i+1<cs.length,cs[i].1=cs[i+1].1)/\(t=false->∀h:i+1<cs.length,cs[i].1<cs[i+1].1),⟨λC=>?_,λC=>?_⟩,?_⟩
  ·have C:((i+1:Nat):Int)<Q:=of_decide_eq_true C;have T:i+1<cs.length:=by{omega};have ⟨u,w,pw,a',b',g',x',y',p',U,b8,a1⟩:=a0.get T;rw [gd _ T] at b8 a1;rw [Qz2] at g';have U:=congrArg Array.toList (Value.agg.inj U);simp only [Qk4,Value.int.injEq,Value.pointer.injEq,true_and] at U;obtain ⟨rfl,rfl,rfl,-⟩:=U;refine ⟨⟨by omega,by omega⟩,by omega,u,w,pw,⟨by omega,?_⟩,λiT bP=>(vT (b8.le bP) (hr.le bP) a1 b6 (by decide)).s ?_⟩;{have:∀l:pz un,l.take 3=(l.take 5).take 3:=λl=>by{rw [Wk1];rfl};rw [this,Qj1,g'.2];rfl};{rintro r lP cN rfl;refine ⟨_,rfl,_,by and_intros<;>rfl,λh=>⟨T,Eq.symm (of_decide_eq_true h)⟩,λh _=>?_⟩;have h:=of_decide_eq_false h;have:=Qc2.1 O i (i+1) I T (by omega);grind}
  ·have C:¬((i+1:Nat):Int)<Q:=of_decide_eq_false C;exact ⟨false,by and_intros<;>rfl,(λh=>nomatch h),λ_ h=>absurd h (by omega)⟩
  rintro t jJ cF ⟨ht,d0⟩;refine ⟨rfl,λe=>?_,λe kI cB d1 d2 ea ha K ho b9=>?_⟩
  ·obtain ⟨C,S⟩:=ht e;exact ⟨(P,Z,us,d,((i+1:Nat):Int),IP A B (cs.take (i+1)),x1,x2,p,y1,y2,q,last.a,last.b),by dsimp only;omega,by and_intros<;>rfl,i+1,last,out,rfl,by omega,by omega,Vj hI C S,rfl,v.s cF,Y.le cF,r2.le cF,rfl,rfl⟩
  rw [rR (M _)];refine (Ej (V:=kI.ar [d1,d2]) (x:=mN A+iK 0 (cs.take (i+1))) (y:=mN B+iK 1 (cs.take (i+1))) (acc:=acc) ea ⟨by simp,ha⟩ (K (M _)) ⟨by simp,ho (M _)⟩ (b9 (M _)) hf).s ?_;rintro r lQ cG ⟨rfl,d3,d4⟩;have st:=Vk hI I (d0 e) hp gA gB O rfl;generalize acc (decide ((0:Int)<mN A+iK 0 (cs.take (i+1)))) (decide ((0:Int)<mN B+iK 1 (cs.take (i+1))))=now at st ⊢;have L:gI.Le lQ.shut:=λb o h=>cG b o (cB b o (cF b o h))
  have same:now=d->IR lQ.shut P Z us (BM d now last cs[i].1 out)/\RR lQ.shut (hF #[qvZ .i64 x1,qvZ .i64 x2,dZ p]) (lI d now last cs[i].1).lo/\RR lQ.shut (hF #[qvZ .i64 y1,qvZ .i64 y2,dZ q]) (lI d now last cs[i].1).hi /\
    last.a=(lI d now last cs[i].1).a/\last.b=(lI d now last cs[i].1).b:=λh=>by
   subst h;unfold BM lI;cases now<;>exact ⟨v.s L,Y.le L,r2.le L,rfl,rfl⟩
  refine ⟨_,rfl,d3,M _,IP A B (cs.take (i+1)),M _,d4,λz V'=>IR V' z.1 z.2.1 z.2.2.1 (BM d now last cs[i].1 out)/\RR V' (hF #[qvZ .i64 z.2.2.2.1,qvZ .i64 z.2.2.2.2.1,dZ z.2.2.2.2.2.1]) (lI d now last cs[i].1).lo /\
   RR V' (hF #[qvZ .i64 z.2.2.2.2.2.2.1,qvZ .i64 z.2.2.2.2.2.2.2.1,dZ z.2.2.2.2.2.2.2.2.1]) (lI d now last cs[i].1).hi/\z.2.2.2.2.2.2.2.2.2.1=(lI d now last cs[i].1).a/\z.2.2.2.2.2.2.2.2.2.2=(lI d now last cs[i].1).b,
   ⟨λhn=>⟨λhw=>?_,λhw=>⟨λa4=>⟨λJ=>?_,λ_=>?_⟩,λa4=>?_⟩⟩,λhn=>⟨λhw=>⟨λJ=>?_,λJ=>?_⟩,λhw=>?_⟩⟩,?_⟩
  ·have hw:d=false:=by{simpa using hw};subst hn hw;exact ⟨(P,Z,us,x,y,pp,0,0,none,false,false),by and_intros<;>rfl,v.s L,hr.le L,RR.zero _,rfl,rfl⟩
  ·rw [hn] at J;cases J
  ·exact ⟨(P,Z,us,x1,x2,p,y1,y2,q,last.a,last.b),by and_intros<;>rfl,same (hn.m a4.symm)⟩
  ·rw [a4] at hw;cases hw
  ·subst hn hw;exact ⟨by omega,v.le,v.cap,rfl,UK,λsp c' C S=>⟨(P+1,c',_,x1,x2,p,x,y,pp,last.a,last.b),by and_intros<;>rfl,(v.s L).snoc (s:=⟨last.lo,cs[i].1,last.a,last.b⟩) (Y.le L) (hr.le L) C S,Y.le L,hr.le L,rfl,rfl⟩⟩
  ·rw [hn] at J;cases J
  ·exact ⟨(P,Z,us,x1,x2,p,y1,y2,q,last.a,last.b),by and_intros<;>rfl,same (hn.m hw.symm)⟩
  ·rintro ⟨k1,k2,ks,u1,u2,pu,t1,t2,pt,ua,ub⟩ mM cq ⟨a2,c2,c3,g1,g2⟩;dsimp only at a2 c2 c3 g1 g2;subst g1 g2;dsimp only;have ol:(BM d now last cs[i].1 out).length<=i+1:=by{unfold BM;split;{rw [Qq3];simp;omega};{omega}};exact ⟨rfl,(k1,k2,ks,now,((i+1:Nat):Int),IP A B (cs.take (i+1)),u1,u2,pu,t1,t2,pt,_,_),by dsimp only;omega,by and_intros<;>rfl,i+1,_,_,rfl,by omega,ol,st,rfl,a2,c2,c3,rfl,rfl⟩
 ·have hi:¬(i:Int)<Q:=of_decide_eq_false hi;obtain rfl:i=cs.length:=by{omega};have fin:=Vi hI hacc;refine ⟨λz V'=>IR V' z.1 z.2.1 z.2.2 (combL op A B),⟨λhw=>?_,λhw=>?_⟩,?_⟩;{subst hw;refine ⟨by omega,v.le,v.cap,rfl,UK,λsp c' C S=>⟨(P+1,c',_),by and_intros<;>rfl,?_⟩⟩;rw [←fin];have:=hI.fr rfl;rw [this.1] at r2;exact v.snoc (s:=mZ last) Y r2 C S};{subst hw;refine ⟨(P,Z,us),by and_intros<;>rfl,?_⟩;rw [←fin];simpa [BN] using v};{rintro ⟨k1,k2,ks⟩ pf dE h;dsimp only at h;obtain rfl:=h.len;exact ⟨rfl,λvG e_ bk F=>⟨_,_,_,rfl,bE.bJ F (h.row.le λ_ _ g=>eM.le g e_) (by decide) h.le⟩⟩}
theorem c_J1 (a b:md)(W:ut):aa prog 172 #[dQ a,dQ b] W λr _=>r=dQ ((λx _=>x:md->md->md) a b):=
 Dt W _ λV l=>rfl
theorem zY (hA:bE 8 eM V p n A)(hg:∀s∈A,s.good)(hs:∀s∈A,s.sz 1000000)(hn:A.length<=1000)(hf:fe A<200)(so:ph (fe A)) :
  aa prog 124 #[qD p n c] V λr V'=>∃q m e,r=qD q m e/\bE 8 eM V' q m (combL 1 A []):=by refine JB V _ λd a=>(HK (op:=1) (acc:=λx _=>x) (λt=>by simp [opB,inB]) (hA.le a λ_ _ g=>eM.le g a) (bE.nil (p:=none)) hg (λs h=>by cases h) hs (λs h=>by cases h) hn (by decide) (by have:fe []=0:=rfl;omega) so c_J1).s ?_;rintro r V2 f ⟨q,m,e,rfl,g⟩;exact ⟨_,_,_,rfl,λi b=>⟨_,_,_,rfl,g.le b λ_ _ g=>eM.le g b⟩⟩
theorem Mb.lst (h:Mb V p n ss):bE 8 mO V p n ss:=by refine ⟨h.len,λi c=>?_⟩;have ⟨d,f,xs,b,g⟩:=h.at_ i c;have a:=b;obtain ⟨_,_,_,_,_,_,_,_,_,_,_,_,_,_,e,-,-⟩:=uQ b;exact ⟨d,f,xs,by rw [e];rfl,a,g⟩
theorem uC (h:bE 8 mO V p n ss):Mb V p n ss:=
 ⟨h.len,λi a=>by obtain ⟨b,c,xs,-,d,e⟩:=h.at_ i a;exact ⟨b,c,xs,d,e⟩⟩
theorem Jc (h:Row 8 mO V vs ss){m:Nat}(hm:m<ss.length*8)(hv:vs[m]?=some v):v.oneCell'=true:=by have c:m / 8<ss.length:=by{omega};have ⟨xs,d,f,g⟩:=h.at_ (m / 8) c;obtain ⟨_,_,_,_,_,_,_,_,_,_,_,_,_,_,e,-,-⟩:=uQ f;have b:m%8<xs.length:=by{rw [d];exact Qj7 _ (by decide)};have i:m=m / 8*8+m%8:=by{omega};have:=g (m%8) _ (Qq1 b);rw [←i,hv] at this;obtain rfl:=Qb8 this;have a:=Qq9 b;generalize xs[m%8]=v at a;subst e;simp only [Qq5,Qx7,or_false] at a;rcases a with rfl|rfl|rfl|rfl|rfl|rfl|rfl|rfl<;>rfl
theorem Y0 {x:Rat}(h:Sz k x):Sz (k+3) (x*((2:Int):Rat)⁻¹):=by have a:Sz 2 (((2:Int):Rat))⁻¹:=by{unfold Sz;decide +kernel};exact (h.mul a).s (by omega)
theorem EP {c:pz Rat}(h:∀q∈c,Sz k q){q:Rat}(hq:q∈aV c):Sz (2*k+4) q:=by have g:∀i,i<c.length->Sz k (c.getD i 0):=λi a=>by{rw [jv a];exact h _ (Qq9 a)};have z:Sz (2*k+4) 0:=by{have b:(1:Nat)<2^(2*k+4):=Qc8 (by omega);exact ⟨Qm0 (Qq4 _) b,b⟩};unfold aV at hq;by_cases d:c.length=0;{rw [if_pos d] at hq;obtain rfl:q=0:=by{simpa using hq};exact z};{rw [if_neg d] at hq;rcases Qw3.1 hq with hq|hq;{unfold Df at hq;rcases Qq5.1 hq with rfl|hq;{exact ((g 0 (by omega)).sub jA).s (by omega)};{obtain ⟨i,a,rfl⟩:=Qz1.1 hq;rw [Wk0] at a;exact (Y0 ((g i (by omega)).add (g (i+1) (by omega)))).s (by omega)}};{obtain rfl:q=_:=by{simpa using hq};exact ((g _ (by omega)).add jA).s (by omega)}}
theorem oP {op:Int}{ap bp:OA}{an ac bn bc:Nat}{la' lb':pz Sp}(ha:Mb V ap an la')(hb:Mb V bp bn lb')(hl:la'.length+lb'.length<10000000)(sa:∀s∈la',s.sz k)(sb:∀s∈lb',s.sz k)(hk:4*k+8<274877906944) :
  aa prog 217 #[qvZ .i64 op,qD ap an ac,qD bp bn bc] V λr V'=>∃p n c,r=qD p n c/\Mb V' p n (combL op la' lb'):=by
 have la:=ha.len;have lb:=hb.len;have ⟨xs,x1,x2,x3⟩:=dF ha.lst (by decide);have ⟨ys,y1,y2,y3⟩:=dF hb.lst (by decide);refine wV V _ ⟨xs,x1,by omega,by omega,Qq2 _,Qq4 _,by omega,?_,λPK J5 D c3 h1 u=>⟨ys,y1,by omega,by omega,by omega,?_,by omega,?_,λZc a6 M c8 w A V1 l1 E N=>?_⟩⟩
 ·intro v B;obtain ⟨m,hm,rfl⟩:=Qh1 B;exact Jc x3 (by omega) (Qq1 hm)
 ·rw [List.take_nil,Qm1,Qq3];omega
 ·intro v B;obtain ⟨m,hm,rfl⟩:=Qh1 B;exact Jc y3 (by omega) (Qq1 hm)
 have F:Row 8 mO V1 ((([]:pz un).take (0*8)++xs++D).take ((0+an)*8)++ys++M) (la'++lb'):=by have e:(([]:pz un).take (0*8)++xs++D).take ((0+an)*8)=xs.take (la'.length*8):=by{rw [List.take_nil,Qm1,la,Qz2,Qt5 (by omega)]};rw [e];exact (eF x3 y3 (by decide)).le λ_ _ h=>h.le l1
 have hL:Mb V1 (some ⟨E,0,none⟩) (0+an+bn) (la'++lb'):=by have:=uC (bE.gF N F);rwa [show (la'++lb').length=0+an+bn by rw [Qq3];omega] at this
 have f:∀s∈la'++lb',s.sz k:=λs f=>by rcases Qw3.1 f with f|f;{exact sa s f};{exact sb s f}
 refine (Fy hL (by rw [Qq3];omega) f).s ?_;rintro r V2 l2 ⟨O,P,Q,rfl,R⟩;have cl:=Ep (la'++lb');rw [Qq3] at cl
 have cs:∀q∈endsL (la'++lb'),Sz k q:=λq L=>by have ⟨s,G,e⟩:=Er L;rcases e with rfl|rfl;{exact (f s G).1};{exact (f s G).2}
 have o:combL op la' lb'=pM (endsL (la'++lb')) (i_ op la' lb' (endsL (la'++lb'))):=rfl;rw [o];generalize endsL (la'++lb')=cuts at R cl cs;refine ⟨O,P,Q,rfl,λa7 V3 H=>(pI (R.le H λ_ _ h=>h.le H) (by omega) cs).s ?_⟩;rintro r V4 S ⟨T,t,U,rfl,hp⟩;have W:=hp.len;rw [eE] at W;have ml:=kz op la' lb' cuts
 have X:∀i (C:i<(aV cuts).length),(i_ op la' lb' cuts).take (i+1)=(i_ op la' lb' cuts).take i++[opB op (q_ la' (aV cuts)[i]==2) (q_ lb' (aV cuts)[i]==2)]:=λi C=>by rw [eE] at C;rw [Qz0,Qq1 (by omega)];unfold i_;rw [Qp8];rfl
 refine ⟨T,t,U,rfl,λz V'=>∃i:Nat,z.2.2.2=(i:Int)/\i<=cuts.length+1/\z.1=i/\z.1<=z.2.1/\z.2.1*1<=z.2.2.1.length/\Row 1 Y8 V' z.2.2.1 ((i_ op la' lb' cuts).take i),λz=>cuts.length+1-z.2.2.2.toNat,
  ⟨(0,0,[],0),by and_intros<;>rfl,0,rfl,Qq4 _,rfl,Qq2 _,Qq2 _,Row.nil⟩,?_⟩
 rintro ⟨g,z2,vs,z4⟩ V5 I ⟨i,e4,Pl,e1,ic,B,d⟩;dsimp only at e4 e1 ic B d;subst e4 e1;refine ⟨rfl,λj=>?_,λj gI bW ZR l=>?_⟩
 ·have j:(g:Int)<t:=of_decide_eq_true j;have C:g<(aV cuts).length:=by{rw [eE];omega};dsimp only;rw [Qq0];have ⟨ad,b,p1,n1,c1,p2,n2,c2,J,L,a0,a1,a2⟩:=Bx (hp.le I λ_ _ h=>h.le I) C;have sq:=EP cs (Qq9 C);have L5:V.Le V5:=l1.m (l2.m (H.m (S.m I)));have Y:∀s∈la',s.sz (2*k+4):=λs f=>⟨(sa s f).1.s (by omega),(sa s f).2.s (by omega)⟩;have Z:∀s∈lb',s.sz (2*k+4):=λs f=>⟨(sb s f).1.s (by omega),(sb s f).2.s (by omega)⟩;refine ⟨aF J,⟨by omega,by omega⟩,b,p1,n1,c1,p2,n2,c2,ad,J,a0,a1,a2,λV6 K=>(Ae (ha.le (L5.m K)) (L.le K) Y sq (by omega)).s ?_⟩;rintro r V7 l7 rfl;refine ⟨_,rfl,λV8 l8=>(Ae (hb.le (L5.m (K.m (l7.m l8)))) (L.le (K.m (l7.m l8))) Z sq (by omega)).s ?_⟩;rintro r V9 l9 rfl;have L9:=K.m (l7.m (l8.m l9));have hm:=X g C;generalize (q_ la' (aV cuts)[g]==2)=x at hm;generalize (q_ lb' (aV cuts)[g]==2)=y at hm;refine ⟨_,rfl,λz V'=>V9.Le V'/\z=(x||y),⟨λd=>⟨true,by and_intros<;>rfl,View.Le.refl _,by rw [d];rfl⟩,λd=>⟨y,by and_intros<;>rfl,View.Le.refl _,by rw [d];rfl⟩⟩,?_⟩;rintro a8 fy a9 ⟨b0,rfl⟩;refine ⟨rfl,λz V'=>fy.Le V'/\z=opB op x y,⟨λu=>?_,λu=>⟨λw=>?_,λw=>⟨λA=>?_,λA=>?_⟩⟩⟩,?_⟩;{obtain rfl:=eq_of_beq u;exact ⟨λd=>⟨y,by and_intros<;>rfl,View.Le.refl _,by rw [d];rfl⟩,λd=>⟨false,by and_intros<;>rfl,View.Le.refl _,by rw [d];rfl⟩⟩};{obtain rfl:=eq_of_beq w;exact ⟨λd=>⟨!y,by and_intros<;>rfl,View.Le.refl _,by rw [d];rfl⟩,λd=>⟨false,by and_intros<;>rfl,View.Le.refl _,by rw [d];rfl⟩⟩};{obtain rfl:=eq_of_beq A;exact ⟨_,by and_intros<;>rfl,View.Le.refl _,rfl⟩};{refine ⟨_,by and_intros<;>rfl,View.Le.refl _,?_⟩;have u:¬op=2:=λe=>by{subst e;cases u};have w:¬op=3:=λe=>by{subst e;cases w};have A:¬op=4:=λe=>by{subst e;cases A};unfold opB;rw [if_neg u,if_neg w,if_neg A]};{rintro b1 fC bo ⟨b2,rfl⟩;(refine ⟨rfl,by omega,ic,B,rfl,?_,λsp c' h5 h6=>⟨(g+1,c',_,(g:Int)+1),by dsimp only;omega,by and_intros<;>first|rfl|exact aw (by omega),g+1,rfl,by omega,rfl,h5,?_,?_⟩⟩);{intro v hm;obtain rfl:v=_:=by{simpa using hm};rfl};{dsimp only;have ht:(vs.take (g*1)).length=g*1:=by{rw [Qq7];omega};rw [Qq3,Qq3,ht];simp only [Qw6,Qk9];omega};{dsimp only;have hlen:((i_ op la' lb' cuts).take g).length=g:=by{rw [Qq7];omega};rw [hm];have:=(d.le (V':=fC) λ_ _ h=>h).snoc (sp:=sp) (xs:=[dQ (opB op x y)]) (a:=opB op x y) rfl rfl (by decide);rw [hlen] at this;exact this}}
 ·have j:¬(g:Int)<t:=of_decide_eq_false j;obtain rfl:g=cuts.length+1:=by{omega};(try dsimp only at l ⊢);rw [Qv4 (by omega)] at d;have hM:=bE.bJ (c:=z2) l (d.le (V':=gI) λ_ _ h=>h) (by decide);rw [ml] at hM;refine (tT (R.le (H.m (S.m (I.m bW))) λ_ _ h=>h.le (H.m (S.m (I.m bW)))) hM ml).s ?_;rintro r iT bP ⟨a3,a4,a5,rfl,hr⟩;exact ⟨a3,a4,a5,rfl,λb3 lP cN=>⟨_,_,_,rfl,uC (hr.le cN λ_ _ h=>h.le cN)⟩⟩
theorem uY {s:Sp}(h:xU V v s):∃b p n c p' n' c' d q m e q' m' e',v=hF #[dQ b,qD p n c,qD p' n' c',dQ d,qD q m e,qD q' m' e',dQ s.a,dQ s.b]:=by obtain ⟨_,_,_,_,_,_,_,_,_,_,_,_,_,_,e,-⟩:=h;exact qyZ e
theorem QP {s:Sp}(h:eM V v s):∃(x1 x2:Int)(p:OA)(y1 y2:Int)(q:OA),v=hF #[qvZ .i64 x1,qvZ .i64 x2,dZ p,qvZ .i64 y1,qvZ .i64 y2,dZ q,dQ s.a,dQ s.b]:=by obtain ⟨_,_,_,_,_,_,e,-⟩:=h;exact qyQ e
theorem vZ {ls:pz Sp}(h:bE 8 mO V p n ls)(hn:ls.length<=1000)(hs:∀s∈ls,s.sz k)(hk:k<=1099511627776:=by omega) :
  aa prog 16 #[qD p n c] V λr V'=>∃q m e,r=qD q m e/\bE 8 xU V' q m ls:=by
 obtain rfl:=h.len
 refine vA V _ ⟨λz V'=>∃j:Nat,z.2.2.2=(j:Int)/\j<=ls.length/\z.1=j/\j<=z.2.1/\z.2.1*8<=z.2.2.1.length/\Row 8 xU V' z.2.2.1 (ls.take j),
  λz=>ls.length-z.2.2.2.toNat,⟨(0,0,[],0),by and_intros<;>rfl,0,rfl,Qq4 _,rfl,Qq2 _,Qq2 _,Row.nil⟩,?_⟩
 rintro ⟨b,O,D,P⟩ Q t ⟨j,u,R,x,l,y,f⟩;dsimp only at u x l y f;subst u x;refine ⟨rfl,λd=>?_,λd S E T F=>?_⟩
 ·have d:(b:Int)<ls.length:=of_decide_eq_true d;have i:b<ls.length:=by{omega};obtain ⟨G,A,xs,-,B,a⟩:=(h.le t λ_ _ g=>mO.le g t).at_ b i;have w:i64.wrap ((b:Int)+1)=(b:Int)+1:=aw (by omega);dsimp only;rw [Qq0,w];have o:=B;obtain ⟨_,_,_,_,_,_,_,_,_,_,_,_,_,_,ex,-⟩:=B;have ex:=congrArg Array.toList (Value.agg.inj ex);dsimp only at ex;subst ex;refine ⟨aF A,⟨by omega,by omega⟩,_,_,_,_,_,_,_,_,_,_,_,_,_,_,_,_,G,A,a 0 _ rfl,a 1 _ rfl,a 2 _ rfl,a 3 _ rfl,a 4 _ rfl,a 5 _ rfl,a 6 _ rfl,a 7 _ rfl,λV2 C=>(C0 (o.le C) (hs _ (Qq9 i)) hk).s ?_⟩;rintro r H I g;have J:=g;obtain ⟨_,_,_,_,_,_,_,_,_,_,_,_,_,_,rfl⟩:=uY g;have K:(ls.take b).length=b:=by{rw [Qq7];omega};refine ⟨_,_,_,_,_,_,_,_,_,_,_,_,_,_,_,_,rfl,by omega,l,y,rfl,?_,λsp L M U=>⟨(b+1,L,_,(b:Int)+1),by dsimp only;omega,by and_intros<;>rfl,b+1,rfl,i,rfl,M,?_,?_⟩⟩;{intro v hm;simp only [Qq5,Qx7,or_false] at hm;rcases hm with rfl|rfl|rfl|rfl|rfl|rfl|rfl|rfl<;>rfl};{dsimp only;have N:(D.take (b*8)).length=b*8:=by{rw [Qq7];omega};rw [Qq3,Qq3,N];simp only [Qw6,Qk9];omega};{dsimp only;rw [Qz0,Qq1 i];have:=(f.le (V':=H) λ_ _ g=>xU.le g (C.m I)).snoc (sp:=sp) rfl J (by decide);rw [K] at this;exact this}
 ·have d:¬(b:Int)<ls.length:=of_decide_eq_false d;obtain rfl:b=ls.length:=by{omega};rw [Qy2] at f;exact ⟨_,_,_,rfl,bE.bJ F (f.le λ_ _ g=>xU.le g E) (by decide) l⟩
theorem NG {ls:pz Sp}(h:bE 8 eM V p n ls)(hn:ls.length<=1000)(hs:∀s∈ls,s.sz k)(hk:k<=1099511627776:=by omega) :
  aa prog 40 #[qD p n c] V λr V'=>∃q m e,r=qD q m e/\bE 8 xU V' q m ls:=by
 obtain rfl:=h.len
 refine B5 V _ ⟨λz V'=>∃j:Nat,z.2.2.2=(j:Int)/\j<=ls.length/\z.1=j/\j<=z.2.1/\z.2.1*8<=z.2.2.1.length/\Row 8 xU V' z.2.2.1 (ls.take j),
  λz=>ls.length-z.2.2.2.toNat,⟨(0,0,[],0),by and_intros<;>rfl,0,rfl,Qq4 _,rfl,Qq2 _,Qq2 _,Row.nil⟩,?_⟩
 rintro ⟨b,O,D,P⟩ Q t ⟨j,u,R,x,l,y,f⟩;dsimp only at u x l y f;subst u x;refine ⟨rfl,λd=>?_,λd S E T F=>?_⟩
 ·have d:(b:Int)<ls.length:=of_decide_eq_true d;have i:b<ls.length:=by{omega};obtain ⟨G,A,xs,-,B,a⟩:=(h.le t λ_ _ g=>eM.le g t).at_ b i;have w:i64.wrap ((b:Int)+1)=(b:Int)+1:=aw (by omega);dsimp only;rw [Qq0,w];have o:=B;have ⟨_,_,_,_,_,_,ex⟩:=QP B;have ex:=congrArg Array.toList (Value.agg.inj ex);dsimp only at ex;subst ex;refine ⟨aF A,⟨by omega,by omega⟩,_,_,_,_,_,_,_,_,G,A,a 0 _ rfl,a 1 _ rfl,a 2 _ rfl,a 3 _ rfl,a 4 _ rfl,a 5 _ rfl,a 6 _ rfl,a 7 _ rfl,λV2 C=>(Ht (o.le C) (hs _ (Qq9 i)) hk).s ?_⟩;rintro r H I g;have J:=g;obtain ⟨_,_,_,_,_,_,_,_,_,_,_,_,_,_,rfl⟩:=uY g;have K:(ls.take b).length=b:=by{rw [Qq7];omega};refine ⟨_,_,_,_,_,_,_,_,_,_,_,_,_,_,_,_,rfl,by omega,l,y,rfl,?_,λsp L M U=>⟨(b+1,L,_,(b:Int)+1),by dsimp only;omega,by and_intros<;>rfl,b+1,rfl,i,rfl,M,?_,?_⟩⟩;{intro v hm;simp only [Qq5,Qx7,or_false] at hm;rcases hm with rfl|rfl|rfl|rfl|rfl|rfl|rfl|rfl<;>rfl};{dsimp only;have N:(D.take (b*8)).length=b*8:=by{rw [Qq7];omega};rw [Qq3,Qq3,N];simp only [Qw6,Qk9];omega};{dsimp only;rw [Qz0,Qq1 i];have:=(f.le (V':=H) λ_ _ g=>xU.le g (C.m I)).snoc (sp:=sp) rfl J (by decide);rw [K] at this;exact this}
 ·have d:¬(b:Int)<ls.length:=of_decide_eq_false d;obtain rfl:b=ls.length:=by{omega};rw [Qy2] at f;exact ⟨_,_,_,rfl,bE.bJ F (f.le λ_ _ g=>xU.le g E) (by decide) l⟩
theorem V_:aa prog 153 #[] V λr V'=>r=hF #[qvZ .i64 0,qvZ .i64 0,dZ none,qvZ .i64 0,qvZ .i64 0,dZ none,dQ true,dQ true]:=
 Lw V _ λa b=>rfl
theorem c_D1 (a b:md)(W:ut):aa prog 155 #[dQ a,dQ b] W λr _=>r=dQ (opB 3 a b):=
 o_ W _ ⟨λh V l=>by subst h;simp [opB],λh V l=>by subst h;simp [opB]⟩
theorem NF {m d:Nat}(hA:bE 8 xU V p n A)(hB:bE 8 xU V q m A)(hn:A.length<=1000)(hs:∀s∈A,s.sz k)(hk:k<=1099511627776:=by omega) :
  aa prog 15 #[qD p n c,qD q m d] V λr V'=>r=dQ true:=by obtain rfl:=hA.len;obtain rfl:=hB.len;refine wW V _ ⟨λh=>by simp at h,λ_=>⟨λz V'=>∃j:Nat,z=(j:Int)/\j<=A.length,λz=>A.length-z.toNat,⟨0,by and_intros<;>rfl,0,rfl,Qq4 _⟩,?_⟩⟩;rintro z V2 o ⟨j,rfl,E⟩;refine ⟨rfl,λe=>?_,λe F G=>rfl⟩;have e:(j:Int)<A.length:=of_decide_eq_true e;have t:j<A.length:=by{omega};obtain ⟨C,x,xs,-,y,b⟩:=(hA.le o λ_ _ g=>xU.le g o).at_ j t;obtain ⟨D,f,H,-,i,a⟩:=(hB.le o λ_ _ g=>xU.le g o).at_ j t;have v:=y;have l:=i;have ⟨_,_,_,_,_,_,_,_,_,_,_,_,_,_,ex⟩:=uY y;have ⟨_,_,_,_,_,_,_,_,_,_,_,_,_,_,u⟩:=uY i;have ex:=congrArg Array.toList (Value.agg.inj ex);have u:=congrArg Array.toList (Value.agg.inj u);dsimp only at ex u;subst ex u;have w:i64.wrap ((j:Int)+1)=((j+1:Nat):Int):=by{rw [aw (by omega)];rfl};rw [Qq0,w];refine ⟨aF x,⟨by omega,by omega⟩,_,_,_,_,_,_,_,_,_,_,_,_,_,_,_,_,C,x,b 0 _ rfl,b 1 _ rfl,b 2 _ rfl,b 3 _ rfl,b 4 _ rfl,b 5 _ rfl,b 6 _ rfl,b 7 _ rfl,aF f,⟨by omega,by omega⟩,_,_,_,_,_,_,_,_,_,_,_,_,_,_,_,_,D,f,a 0 _ rfl,a 1 _ rfl,a 2 _ rfl,a 3 _ rfl,a 4 _ rfl,a 5 _ rfl,a 6 _ rfl,a 7 _ rfl,λI B=>(tV (v.le B) (l.le B) (hs _ (Qq9 t)) hk).s ?_⟩;rintro r J K rfl;exact ⟨_,rfl,(λh=>nomatch h),λ_=>⟨((j+1:Nat):Int),by dsimp only;omega,by and_intros<;>rfl,j+1,rfl,t⟩⟩
theorem kH.up {k K:Nat}{l:L3}(h:kH k l)(hk:k<=K):kH K l:=⟨h.1.s hk,h.2.1.s hk,h.2.2.s hk⟩
theorem zy {L M:L3}{s:Sp}{K:Nat}(sl:kH k L)(sm:kH k M)(hs:s.sz K)(hk:60*k+60<=K:=by omega):(bj L s M).sz K:=by have z:=Di K;have c:=(kj sl sm).s hk;unfold bj;split;{exact hs};{split;{exact Sp.FX hs ⟨c,z⟩};{exact Sp.FX hs ⟨z,c⟩}}
theorem T9 (hk:0<k:=by omega):fullSp.sz k:=⟨Di k hk,Di k hk⟩
theorem one17 {z1:Int}{z2:Int}{r:OA}{u1:Int}{u2:Int}{t:OA}{w1:Int}{w2:Int}{o:OA}{c d:md}:∀v∈([qvZ .i64 x1,qvZ .i64 x2,dZ p,qvZ .i64 y1,qvZ .i64 y2,dZ q,qvZ .i64 z1,qvZ .i64 z2,dZ r,qvZ .i64 u1,qvZ .i64 u2,dZ t,qvZ .i64 w1,qvZ .i64 w2,dZ o,dQ c,dQ d]:pz un),v.oneCell'=true:=by intro v hm;simp only [Qq5,Qx7,or_false] at hm;rcases hm with rfl|rfl|rfl|rfl|rfl|rfl|rfl|rfl|rfl|rfl|rfl|rfl|rfl|rfl|rfl|rfl|rfl<;>rfl
end Go.Proofs.Tryz
namespace Go.Proofs.Tryz
open Go.Eng Go.Big
open Go.Value renaming slice→qD,agg→hF,bool→dQ,pointer→dZ,tuple→dB,int→qvZ
variable{L a l x:L3}{b:Bool}{V:View}{lv v:Value}{p q:OA}{P:List Rat}{c i n:Nat}
theorem BO (hb:Bd l):Sz 1000 (au.aM l).1/\Sz 1000 (au.aM l).2:=⟨hb.fF.2.1,hb.fF.1.neg⟩
theorem Rh {V V':ut}{P:Prop}{b:Nat}(l:V.Le V')(h:P->V.w.heap.size<=b\/V.H b):V.Le (V'.shut.bu P b):=λx o a=>by
 have c:=l x o a;refine ⟨λd=>d.elim c.1 ?_,c.2⟩;rintro ⟨e,rfl,-⟩;rcases h e with h|h
 ·have:=(Qp2.1 a.2).1;omega
 ·exact a.1 h
theorem ND {w:un}{M:L3}(hl:qE V v L)(hm:qE V w M)(bl:Bd L)(bm:Bd M) :
  aa prog 200 #[v,w] V λr V'=>r=dQ (decide (L=M\/L=revL M)):=by have a:=hl;have b:=hm;obtain ⟨_,_,_,_,_,_,_,_,_,rfl,-,-,-⟩:=hl;obtain ⟨_,_,_,_,_,_,_,_,_,rfl,-,-,-⟩:=hm;refine B4 V _ λn c=>(qN (a.le c) (b.le c) bl.fF bm.fF).s ?_;rintro r V2 j rfl;have d:=c.m j;refine ⟨_,rfl,λe o p=>?_,λe q f=>(kv (b.le (d.m f)) bm.fF).s ?_⟩;{rw [decide_eq_true (.inl (of_decide_eq_true e))]};{have e:=of_decide_eq_false e;rintro r k l g;have m:qE k r (revL M):=g;obtain ⟨_,_,_,_,_,_,_,_,_,rfl,-,-,-⟩:=g;refine ⟨_,_,_,_,_,_,_,_,_,rfl,λs i=>(qN (a.le (d.m (f.m (l.m i)))) (m.le i) bl.fF bm.fF.rev).s λr t u rfl=>⟨_,rfl,λx y=>congrArg Value.bool (decide_eq_decide.2 ⟨.inr,λh=>h.resolve_left e⟩)⟩⟩}
theorem one8i {x1 x2:Int}{y1 y2:Int}{a:md}:∀v∈([qvZ .i64 x1,qvZ .i64 x2,dZ p,qvZ .i64 y1,qvZ .i64 y2,dZ q,dQ a,dQ b]:pz un),v.oneCell'=true:=λv c=>by
 simp only [Qq5,Qx7,or_false] at c;rcases c with rfl|rfl|rfl|rfl|rfl|rfl|rfl|rfl<;>rfl
theorem Kk {e:md}{k:Int}(h1:decide (k>0)=e)(h2:decide (k<0)=!e)(hb:Bd L):∀(t:Tr) {V:ut} {q:OA} {lv v:un} {s:Sp} {lb n m:Nat} {vs:pz un} {o:pz Sp},RT V q t->t.dT Bd->qE V lv L->eM V v s->s.sz 100000 ->
  (vs≠[]->V.w.heap[lb]?=some (.cells vs.toArray 135 (0,0)))->(vs≠[]->V.X lb)->GR 8 eM V n m vs o->n+(a_ L e t s).length<=1000000 ->
  aa prog 152 #[dZ q,lv,v,qvZ .i64 k,qD (mA lb m) n m] V λr V'=>∃(bm:Nat)(vm:pz un)(n' c':Nat),(vm≠[]->V'.w.heap[bm]?=some (.cells vm.toArray 135 (0,0)))/\(vm≠[]->V.w.heap.size<=bm\/(vs≠[]/\bm=lb)) /\
   r=qD (mA bm c') n' c'/\GR 8 eM (V'.bu (vm≠[]) bm) n' c' vm (o++a_ L e t s):=by
 intro t;have UN:∀{A B:Prop},A\/B\/False->A\/B:=λh=>h.imp id λh=>h.elim id False.elim
 induction t with
 | leaf i=>
  intro V q lv v s lb n m vs o h ha hl hv sz hw hx K D;have y:=hv;obtain ⟨_,_,_,_,_,_,_,_,_,rfl,-,-,-⟩:=hl;obtain ⟨_,_,_,_,_,_,rfl,-,-⟩:=hv;refine rS q _ _ _ _ _ _ _ _ _ _ _ _ _ _ _ _ _ k lb n m vs V _ hw hx ⟨λz _=>z=i,λV1 l1=>(dU (h.le l1)).s ?_,?_⟩
  ·rintro r V2 l2 rfl;obtain ⟨b,c0,c1,T,c3,c4,c5,c6,c7,c8,r,rfl,hb⟩:=h.le (l1.m l2);exact ⟨_,rfl,λ_=>⟨rfl,rfl,i,yk hb 11 rfl,_,by and_intros<;>rfl,rfl⟩,(λh=>nomatch h)⟩
  rintro z V3 l3 rfl;refine ⟨rfl,λhz=>?_,λhz V5 l5=>(dU (h.le (l3.m l5))).s ?_⟩
  ·subst hz;refine ⟨by omega,K.le,K.cap,rfl,one8i,λsp c k1 k2 V4 l hle E F=>⟨l,_,n+1,c,E,λh=>UN (F h),rfl,?_⟩⟩;exact (K.s λ_ _ g=>eM.le g (l3.m hle)).snoc rfl (y.le (l3.m hle)) (by decide) k1 k2
  ·rintro r V6 l6 rfl;subst hz;refine ⟨_,rfl,λ_ V7 l hle E F=>⟨l,vs,n,m,E,λh=>UN (F h),rfl,?_⟩,(λh=>nomatch h)⟩;show GR 8 eM _ n m vs (o++[]);rw [Qx2];exact K.s λ_ _ g=>eM.le g (l3.m (l5.m (l6.m hle)))
 | node ln a b iha ihb=>
  intro V q lv v s lb n m vs o h ha hl hv sz hw hx K D;have p:=hl;have y:=hv;obtain ⟨_,_,_,_,_,_,_,_,_,rfl,-,-,-⟩:=hl;obtain ⟨_,_,_,_,_,_,rfl,-,-⟩:=hv;obtain ⟨u,a7,a8⟩:=ha;refine rS q _ _ _ _ _ _ _ _ _ _ _ _ _ _ _ _ _ k lb n m vs V _ hw hx ⟨λz _=>z=false,λV1 l1=>(dU (h.le l1)).s ?_,?_⟩
  ·rintro r V2 l2 rfl;exact ⟨_,rfl,(λh=>nomatch h),λ_=>⟨_,by and_intros<;>rfl,rfl⟩⟩
  rintro z V3 l3 rfl;refine ⟨rfl,(λh=>nomatch h),λ_ V5 l5=>(dU (h.le (l3.m l5))).s ?_⟩;rintro r V6 l6 rfl;have zg:=l3.m (l5.m l6);obtain ⟨M,u1,u2,u3,v1,v2,v3,w1,w2,w3,pl,pr,i,rfl,a5,C,a9,b0⟩:=h.le zg
  have d:∀{W:ut},V6.Le W->∀j v,([qvZ .i64 u1,qvZ .i64 u2,dZ u3,qvZ .i64 v1,qvZ .i64 v2,dZ v3,qvZ .i64 w1,qvZ .i64 w2,dZ w3,dZ pl,dZ pr,dQ i]:pz un)[j]?=some v->W.at ((⟨M,0,none⟩:Addr).add j) v:=by intro W hW j v hv;rw [add_zero'];exact dH (xs:=[_,_,_,_,_,_,_,_,_,_,_,_]) (hW _ _ a5) hv
  have N:=View.Le.refl V6;have hp:∀{W:ut},V6.Le W->(∃a,ae (some ⟨M,0,none⟩) 9=some a/\W.at a (dZ pl))/\∃a,ae (some ⟨M,0,none⟩) 10=some a/\W.at a (dZ pr):=λhW=>⟨yk (hW _ _ a5) 9 rfl,yk (hW _ _ a5) 10 rfl⟩;refine ⟨_,rfl,(λh=>nomatch h),λ_=>⟨λz _=>z=decide (ln=L/\e=true\/ln=revL L/\e=false),⟨rfl,rfl,_,_,_,_,_,_,_,_,_,⟨M,0,none⟩,rfl,d N 0 _ rfl,d N 1 _ rfl,d N 2 _ rfl,d N 3 _ rfl,d N 4 _ rfl,d N 5 _ rfl,d N 6 _ rfl,d N 7 _ rfl,d N 8 _ rfl,λV8 l8=>(qN (C.le l8) (p.le (zg.m l8)) u.fF hb.fF).s ?_⟩,?_⟩⟩
  ·rintro r V9 l9 rfl;have f:=l8.m l9;have rv:∀{P:md->Prop},(decide (ln=revL L)=true->P (decide (k<0)))->(decide (ln=revL L)=false->P false)->P (decide (ln=revL L)&&!e):=λa b=>by{cases g:decide (ln=revL L);{exact b g};{rw [h2] at a;exact a g}};have eqv:∀{c:md},(c=true->(ln=L/\e=true\/ln=revL L/\e=false))->((ln=L/\e=true\/ln=revL L/\e=false)->c=true)->c=decide (ln=L/\e=true\/ln=revL L/\e=false):=λ{c} a b=>by{cases c;{exact (decide_eq_false λh=>by have:=b h;cases this).symm};{exact (decide_eq_true (a rfl)).symm}};refine ⟨_,rfl,λg=>⟨λgk=>⟨_,by and_intros<;>rfl,?_⟩,λgk=>?_⟩,λg=>?_⟩;{rw [h1] at gk;exact eqv (λ_=>.inl ⟨of_decide_eq_true g,gk⟩) λ_=>rfl};{rw [h1] at gk;refine ⟨rfl,rfl,_,_,_,_,_,_,_,_,_,⟨M,0,none⟩,rfl,d f 0 _ rfl,d f 1 _ rfl,d f 2 _ rfl,d f 3 _ rfl,d f 4 _ rfl,d f 5 _ rfl,d f 6 _ rfl,d f 7 _ rfl,d f 8 _ rfl,λfy b3=>(kv (p.le (zg.m (f.m b3))) hb.fF).s ?_⟩;rintro r fC bo U;have xu:qE fC r (revL L):=U;obtain ⟨_,_,_,_,_,_,_,_,_,rfl,-,-,-⟩:=U;refine ⟨_,_,_,_,_,_,_,_,_,rfl,λgI bW=>(qN (C.le (f.m (b3.m (bo.m bW)))) (xu.le bW) u.fF hb.fF.rev).s ?_⟩;rintro r iT bP rfl;refine ⟨_,rfl,λg2=>⟨_,by and_intros<;>rfl,?_⟩,λg2=>⟨_,by and_intros<;>rfl,?_⟩⟩;{rw [h2,show (!e)=true by rw [gk];rfl];exact eqv (λ_=>.inr ⟨of_decide_eq_true g2,gk⟩) λ_=>rfl};{exact eqv (λh=>nomatch h) λh=>(of_decide_eq_false g2 (h.elim (λh=>by rw [gk] at h;exact nomatch h.2) λh=>h.1)).elim}};{refine ⟨rfl,rfl,_,_,_,_,_,_,_,_,_,⟨M,0,none⟩,rfl,d f 0 _ rfl,d f 1 _ rfl,d f 2 _ rfl,d f 3 _ rfl,d f 4 _ rfl,d f 5 _ rfl,d f 6 _ rfl,d f 7 _ rfl,d f 8 _ rfl,λlP cN=>(kv (p.le (zg.m (f.m cN))) hb.fF).s ?_⟩;rintro r jJ cF U;have xu:qE jJ r (revL L):=U;obtain ⟨_,_,_,_,_,_,_,_,_,rfl,-,-,-⟩:=U;refine ⟨_,_,_,_,_,_,_,_,_,rfl,λkI cB=>(qN (C.le (f.m (cN.m (cF.m cB)))) (xu.le cB) u.fF hb.fF.rev).s ?_⟩;rintro r lQ cG rfl;refine ⟨_,rfl,λg2=>⟨_,by and_intros<;>rfl,?_⟩,λg2=>⟨_,by and_intros<;>rfl,?_⟩⟩;{rw [h2];exact eqv (λh=>.inr ⟨of_decide_eq_true g2,by simpa using h⟩) λh=>by{rcases h with h|h;exact absurd h.1 (of_decide_eq_false g);rw [h.2];rfl}};{exact eqv (λh=>nomatch h) λh=>(h.elim (λh=>of_decide_eq_false g h.1) λh=>of_decide_eq_false g2 h.1).elim}}
  rintro z mM x rfl;have O:=zg.m x;have X8:GR 8 eM mM n m vs o:=K.s λ_ _ g=>eM.le g O
  have go:∀{lw:un},qE V lw L->∀{Q:Tr} {q':OA} {W:ut} (l:Nat),mM.Le W->RT V6 q' Q->(∀{V:ut} {q:OA} {lv v:un} {s:Sp} {lb n m:Nat} {vs:pz un} {o:pz Sp},RT V q Q->Q.dT Bd->qE V lv L->eM V v s->s.sz 100000 ->
    (vs≠[]->V.w.heap[lb]?=some (.cells vs.toArray 135 (0,0)))->(vs≠[]->V.X lb)->GR 8 eM V n m vs o->n+(a_ L e Q s).length<=1000000 ->
    aa prog 152 #[dZ q,lv,v,qvZ .i64 k,qD (mA lb m) n m] V λr V'=>∃(bm:Nat)(vm:pz un)(n' c':Nat),(vm≠[]->V'.w.heap[bm]?=some (.cells vm.toArray 135 (0,0)))/\(vm≠[]->V.w.heap.size<=bm\/(vs≠[]/\bm=lb)) /\
     r=qD (mA bm c') n' c'/\GR 8 eM (V'.bu (vm≠[]) bm) n' c' vm (o++a_ L e Q s))->Q.dT Bd->∀{v':un} {s':Sp},eM W v' s'->s'.sz 100000->∀{n m:Nat} {vs:pz un} {o:pz Sp},(vs≠[]->W.w.heap[l]?=some (.cells vs.toArray 135 (0,0)))->(vs≠[]->W.H l)->GR 8 eM W n m vs o->n+(a_ L e Q s').length<=1000000 ->
    aa prog 152 #[dZ q',lw,v',qvZ .i64 k,qD (mA l m) n m] (W.ar [vb vs W.w.heap.size l]) λr V'=>∃(bm:Nat)(vm:pz un)(n' c':Nat),(vm≠[]->V'.w.heap[bm]?=some (.cells vm.toArray 135 (0,0)))/\(vm≠[]->W.w.heap.size<=bm\/(vs≠[]/\bm=l)) /\
     r=qD (mA bm c') n' c'/\W.Le (V'.shut.bu (vm≠[]) bm)/\GR 8 eM (V'.shut.bu (vm≠[]) bm) n' c' vm (o++a_ L e Q s'):=by
   intro lw b4 Q q' W l lW hq ih ha v' s' tM b5 n m vs o f1 f2 K D;refine (ih (V:=W.ar [vb vs W.w.heap.size l]) (lb:=l) (RT.le (V:=V6) (V':=W.ar _) (λb o h=>(x.m lW) b o h) hq) ha (qE.le (V:=V) (V':=W.ar _) b4 λb o h=>(O.m lW) b o h) (eM.le (V:=W) (V':=W.ar _) tM λb o h=>h) b5 f1 (λh=>⟨by simp [rR h],f2 h⟩) (K.s (V':=W.ar _) λ_ _ g=>eM.le (V:=W) g λb o h=>h) D).s ?_;rintro r V' l' ⟨bm,vm,n',c',R,I,a3,S⟩;exact ⟨bm,vm,n',c',R,I,a3,Rh (V:=W) (V':=V') (λb o h=>l' b o h) λh=>(I h).imp id λ(g:vs≠[]/\bm=l)=>by rw [g.2];exact f2 g.1,S.s λ_ _ g=>eM.le g λb o h=>h⟩
  refine ⟨rfl,λc=>?_,λc=>?_⟩
  ·have c:=of_decide_eq_true c;have eP:a_ L e (.node ln a b) s=a_ L e a s:=by{rw [a_,if_pos c]};rw [eP] at D ⊢;refine ⟨rfl,rfl,pl,(hp x).1,λpf dE l f1 f2=>(go p l dE a9 iha a7 (y.le (O.m dE)) sz f1 f2 (X8.s λ_ _ g=>eM.le g dE) D).s ?_⟩;rintro r vG e_ ⟨bm,vm,n',c',R,I,rfl,a3,S⟩;exact ⟨bm,vm,R,I,none,n',c',rfl,λqF VW hle E F=>⟨VW,vm,n',c',E,λh=>UN (F h),rfl,S.s λ_ _ g=>eM.le g hle⟩⟩
  have c:=of_decide_eq_false c;refine ⟨rfl,rfl,_,_,_,_,_,_,_,_,_,⟨M,0,none⟩,rfl,d x 0 _ rfl,d x 1 _ rfl,d x 2 _ rfl,d x 3 _ rfl,d x 4 _ rfl,d x 5 _ rfl,d x 6 _ rfl,d x 7 _ rfl,d x 8 _ rfl,λtK gR=>(ND (C.le (x.m gR)) (p.le (O.m gR)) u hb).s ?_⟩;rintro r vH iu rfl;have AL:=gR.m iu;have G:=x.m AL;refine ⟨_,rfl,λT=>?_,λT=>?_⟩
  ·have T:=of_decide_eq_true T;have eP:a_ L e (.node ln a b) s=a_ L e b s:=by{rw [a_,if_neg c,if_pos T]};rw [eP] at D ⊢;refine ⟨rfl,rfl,pr,(hp G).2,λHg jX l f1 f2=>(go p l (AL.m jX) b0 ihb a8 (y.le (O.m (AL.m jX))) sz f1 f2 (X8.s λ_ _ g=>eM.le g (AL.m jX)) D).s ?_⟩;rintro r Hh mi ⟨bm,vm,n',c',R,I,rfl,a3,S⟩;exact ⟨bm,vm,R,I,none,n',c',rfl,λPa VW hle E F=>⟨VW,vm,n',c',E,λh=>UN (F h),rfl,S.s λ_ _ g=>eM.le g hle⟩⟩
  have T:=of_decide_eq_false T;have eP:a_ L e (.node ln a b) s=(if cH L s ln=true then a_ L e a (bj L s ln) else [])++(if cH L s (revL ln)=true then a_ L e b (bj L s (revL ln)) else []):=by rw [a_,if_neg c,if_neg T]
  rw [eP] at D ⊢;rw [Qq3] at D;have sK:kH 100000 L:=hb.fF.up (by omega);have b6:(bj L s ln).sz 100000:=zy hb.fF u.fF sz;have b7:(bj L s (revL ln)).sz 100000:=zy hb.fF u.fF.rev sz;refine ⟨rfl,rfl,_,_,_,_,_,_,_,_,_,⟨M,0,none⟩,rfl,d G 0 _ rfl,d G 1 _ rfl,d G 2 _ rfl,d G 3 _ rfl,d G 4 _ rfl,d G 5 _ rfl,d G 6 _ rfl,d G 7 _ rfl,d G 8 _ rfl,λTw oo=>(Hu (p.le (O.m (AL.m oo))) (y.le (O.m (AL.m oo))) (C.le (G.m oo)) (k:=100000) sK sz (u.fF.up (by omega))).s ?_⟩;rintro r Pb rj ⟨w,rfl,gw⟩;have b8:=gw;obtain ⟨_,_,_,_,_,_,rfl,-,-⟩:=gw;have MA:=AL.m (oo.m rj);have Y:=x.m MA;have Z:GR 8 eM Pb n m vs o:=X8.s λ_ _ g=>eM.le g MA;refine ⟨_,_,_,_,_,_,_,_,_,rfl,λz V'=>GR 8 eM V' z.1 z.2.1 z.2.2 (o++(if cH L s ln=true then a_ L e a (bj L s ln) else [])),⟨λb1=>?_,λb1=>?_⟩,?_⟩
  ·rw [if_pos b1] at D ⊢;refine ⟨rfl,rfl,pl,(hp Y).1,λVN xB l f1 f2=>(go p l (MA.m xB) a9 iha a7 (b8.le xB) b6 f1 f2 (Z.s λ_ _ g=>eM.le g xB) (by omega)).s ?_⟩;rintro r Pc uz ⟨bm,vm,n',c',R,I,rfl,a3,S⟩;exact ⟨bm,vm,R,I,none,n',c',rfl,(n',c',vm),by and_intros<;>rfl,S⟩
  ·rw [if_neg (by rw [b1];simp)];refine ⟨(n,m,vs),by and_intros<;>rfl,?_⟩;rw [Qx2];exact Z
  rintro ⟨z1,z2,us⟩ Xe zj hz;have zl:=hz.len;have ol:=K.len;rw [Qq3] at zl;have J:=Y.m zj;have a6:=MA.m zj;refine ⟨rfl,rfl,rfl,_,_,_,_,_,_,_,_,_,⟨M,0,none⟩,rfl,d J 0 _ rfl,d J 1 _ rfl,d J 2 _ rfl,d J 3 _ rfl,d J 4 _ rfl,d J 5 _ rfl,d J 6 _ rfl,d J 7 _ rfl,d J 8 _ rfl,λXf wD=>(kv (C.le (J.m wD)) u.fF).s ?_⟩;rintro r Px xC U;have xu:qE Px r (revL ln):=U;obtain ⟨_,_,_,_,_,_,_,_,_,rfl,-,-,-⟩:=U;have QW:=a6.m (wD.m xC);refine ⟨_,_,_,_,_,_,_,_,_,rfl,λY9 EH=>(Hu (p.le (O.m (QW.m EH))) (y.le (O.m (QW.m EH))) (xu.le EH) (k:=100000) sK sz (u.fF.rev.up (by omega))).s ?_⟩;rintro r ZA zk ⟨w,rfl,gw⟩;obtain ⟨_,_,_,_,_,_,rfl,-,-⟩:=id gw;have Wz:=QW.m (EH.m zk);have Iv:=wD.m (xC.m (EH.m zk));have a0:GR 8 eM ZA z1 z2 us _:=hz.s λ_ _ g=>eM.le g Iv;refine ⟨_,_,_,_,_,_,_,_,_,rfl,λb2=>?_,λb2 b9 VW hle E F=>⟨VW,us,z1,z2,E,λh=>UN (F h),rfl,?_⟩⟩
  ·rw [if_pos b2] at D ⊢;refine ⟨rfl,rfl,pr,(hp (x.m Wz)).2,λc9 MD l f1 f2=>(go p l (Wz.m MD) b0 ihb a8 (gw.le MD) b7 f1 f2 (a0.s λ_ _ g=>eM.le g MD) (by omega)).s ?_⟩;rintro r d0 Pn ⟨bm,vm,n',c',R,I,rfl,a3,S⟩;refine ⟨bm,vm,R,I,none,n',c',rfl,λd1 VW hle E F=>⟨VW,vm,n',c',E,λh=>UN (F h),rfl,?_⟩⟩;rw [←Qy3];exact S.s λ_ _ g=>eM.le g hle
  ·rw [if_neg (c:=cH L s (revL ln)=true) (by rw [b2];simp),Qx2];exact a0.s λ_ _ g=>eM.le g hle
theorem Mi {e:md}{k:Int}(h1:decide (k>0)=e)(h2:decide (k<0)=!e)(hb:Bd L){t:Tr}{s:Sp}(h:RT V q t)(ha:t.dT Bd)(hl:qE V lv L)(hv:eM V v s)(hs:s.sz 100000)(hn:(a_ L e t s).length<=1000000) :
  aa prog 152 #[dZ q,lv,v,qvZ .i64 k,qD none 0 0] V λr V'=>∃p n c,r=qD p n c/\bE 8 eM V' p n (a_ L e t s):=by
 have own:∀{f:FuncId} {args:Array un} {V:ut} {R:un->ut->Prop},aa prog f args V R->aa prog f args V λr V'=>R r V'/\∀b,V.w.heap.size<=b->¬V'.H b:=λ{f args V R} h=>
  ⟨h.1,h.2.s λ_ C ⟨r,he,a,u⟩=>⟨r,he,a,u,λb hb d=>absurd (V.hH b d) (by omega)⟩⟩
 refine (own (Kk h1 h2 hb t (lb:=0) (n:=0) (m:=0) (vs:=[]) (o:=[]) h ha hl hv hs (λh=>absurd rfl h) (λh=>absurd rfl h) GR.nil (by omega))).s ?_;rintro r V' l ⟨⟨y,D,E,F,z,A,rfl,i⟩,B⟩;have j:=i.len;rw [j];exact ⟨_,_,_,rfl,bE.bJ (λh=>⟨B y ((A h).elim id λg=>absurd rfl g.1),z h⟩) (i.row.le λ_ _ g=>eM.le g λx o a=>⟨λd=>a.1 (.inl d),a.2⟩) (by decide) (by rw [←j];exact i.le)⟩
theorem Am (hs:∀x∈P,Sz 1000000 x){l:pz Sp}(hg:∀s∈l,s.good/\∀q,s.cQ q->q∈P):∀s∈l,s.sz 1000000:=λs h=>by
 have ⟨g,e⟩:=hg s h;refine ⟨?_,?_⟩
 ·cases ha:s.a
  ·exact hs _ (e _ (.inl ⟨ha,rfl⟩))
  ·rw [g.1.1 ha];exact Di _
 ·cases hb:s.b
  ·exact hs _ (e _ (.inr ⟨hb,rfl⟩))
  ·rw [g.1.2 hb];exact Di _
structure LZ (L:L3) (P:List Rat) (t:Tr):Prop where
 crs:Y6 L P t
 asc:asc P
 len:P.length<=30
 sz:∀x∈P,Sz 1000000 x
def nh (L:L3)(e:Bool)(t:Tr):List Sp:=combL 1 (a_ L e t bF) []
theorem Fq {t:Tr}(h:RT V q t)(ha:t.dT Bd)(hl:qE V lv L)(hb:Bd L)(hc:LZ L P t)(so:∀i,i<=60->ph i) :
  aa prog 91 #[dZ q,lv] V λr V'=>∃p n c p' n' c',r=dB #[qD p n c,qD p' n' c']/\bE 8 eM V' p n (nh L true t)/\bE 8 eM V' p' n' (nh L false t):=by obtain ⟨_,_,_,_,_,_,_,_,_,rfl,-,-,-⟩:=id hl;have z:∀W:ut,eM W (hF #[qvZ .i64 0,qvZ .i64 0,dZ none,qvZ .i64 0,qvZ .i64 0,dZ none,dQ true,dQ true]) bF:=λW=>⟨0,0,none,0,0,none,rfl,RR.zero W,RR.zero W⟩;have C:=hc.len;have go:∀e:md,(∀s∈a_ L e t bF,s.good)/\(∀s∈a_ L e t bF,s.sz 1000000)/\fe (a_ L e t bF)<=60/\(a_ L e t bF).length<=1000:=λe=>by{have ⟨a,b,c⟩:=MU (e:=e) hc.crs;exact ⟨λs h=>(a s h).1,Am hc.sz a,by omega,by omega⟩};have join:∀(e:md) {W:ut} {p:OA} {n c:Nat},bE 8 eM W p n (a_ L e t bF)->aa prog 124 #[qD p n c] W λr V'=>∃q m e',r=qD q m e'/\bE 8 eM V' q m (nh L e t):=λe W p n c g=>by{have ⟨a,b,c,d⟩:=go e;exact zY g a b d (by omega) (so _ c)};refine yy V _ λV1 D=>V_.s ?_;rintro r V2 E rfl;have k:=D.m E;refine ⟨_,_,_,_,_,_,_,_,rfl,λV3 o=>(Mi (e:=true) rfl rfl hb (RT.le (k.m o) h) ha (hl.le (k.m o)) (z _) ⟨Di _,Di _⟩ (by have:=(go true).2.2.2;omega)).s ?_⟩;rintro r V4 F ⟨p,n,c,rfl,G⟩;refine ⟨p,n,c,rfl,λV5 u=>(join true (G.le u λ_ _ g=>eM.le g u)).s ?_⟩;rintro r H I ⟨J,K,M,rfl,N⟩;refine ⟨J,K,M,rfl,λV7 O=>V_.s ?_⟩;rintro r V8 Q rfl;have A:=O.m Q;have B:=k.m (o.m (F.m (u.m (I.m A))));refine ⟨_,_,_,_,_,_,_,_,rfl,λV9 v=>(Mi (e:=false) rfl rfl hb (RT.le (B.m v) h) ha (hl.le (B.m v)) (z _) ⟨Di _,Di _⟩ (by have:=(go false).2.2.2;omega)).s ?_⟩;rintro r fy w ⟨R,S,T,rfl,U⟩;refine ⟨R,S,T,rfl,λfC x=>(join false (U.le x λ_ _ g=>eM.le g x)).s ?_⟩;rintro r X Y ⟨Z,n3,c3,rfl,g4⟩;have f:∀{y:ut},X.Le y->H.Le y:=λl=>A.m (v.m (w.m (x.m (Y.m l))));exact ⟨Z,n3,c3,rfl,λy j=>⟨_,_,_,_,_,_,rfl,N.le (f j) λ_ _ g=>eM.le g (f j),g4.le j λ_ _ g=>eM.le g j⟩⟩
theorem ux {t:Tr}(hc:LZ L P t)(e:md):vJ (nh L e t)/\(∀s∈nh L e t,s.sz 1000000)/\fe (nh L e t)<=30/\(nh L e t).length<=1000:=by have f:=hc.len;have ⟨a,b,c⟩:=MU (e:=e) hc.crs;have r:vJ (nh L e t):=comb_reg _ _ _;refine ⟨r,Am hc.sz λs d=>⟨r.1 s d,λq g=>nu hc.crs q (eZ.2 ⟨s,d,g⟩)⟩,Qw7 (Si hc.crs hc.asc) hc.len,?_⟩;have:=HQ 1 (a_ L e t bF) [];have h:fe ([]:pz Sp)=0:=rfl;unfold nh;omega
theorem Hy {t:Tr}(h:RT V q t)(ha:t.dT Bd)(hl:qE V lv L)(hb:Bd L)(hc:LZ L P t)(so:∀i,i<=60->ph i) :
  aa prog 39 #[dZ q,lv] V λr V'=>∃p n c,r=qD p n c/\bE 8 eM V' p n (tL L t):=by obtain ⟨_,_,_,_,_,_,_,_,_,rfl,-,-,-⟩:=id hl;refine Jv V _ λF j=>(Fq (h.le j) ha (hl.le j) hb hc so).s ?_;rintro r V2 G ⟨p,n,c,l,o,s,rfl,u,v⟩;have ⟨w,s1,f1,z⟩:=ux hc true;have ⟨A,s2,f2,B⟩:=ux hc false;refine qyQ ⟨rfl,λC d=>?_⟩;refine aa.s (R:=λr V'=>∃q m e,r=qD q m e/\bE 8 eM V' q m (tL L t)) ?_ ?_;{refine ru C _ λH f=>(HK (op:=3) (acc:=λx y=>x&&!y) (λt=>by simp [opB]) (u.le (d.m f) λ_ _ g=>eM.le g (d.m f)) (v.le (d.m f) λ_ _ g=>eM.le g (d.m f)) w.1 A.1 s1 s2 z B (by omega) (so _ (by omega)) λa b W=>(c_D1 a b W).s λr _ _ e=>by rw [e];simp [opB]).s ?_;rintro r D E ⟨q,m,e,rfl,g⟩;exact ⟨_,_,_,rfl,λI k=>⟨_,_,_,rfl,g.le k λ_ _ g=>eM.le g k⟩⟩};{rintro r D E ⟨q,m,e,rfl,g⟩;grind [g.le,eM.le]}
def bM (V:View)(v:Value)(l:L3):Prop:=RL V v l.1 l.2.1 l.2.2
theorem bM.le {V V':ut}(h:bM V v l)(e:V.Le V'):bM V' v l:=RL.le h e
theorem bD (h:bM V v l):∃(b1:md)(p1:OA)(n1 c1:Nat)(b2:md)(p2:OA)(n2 c2:Nat)(b3:md)(p3:OA)(n3 c3:Nat),v=hF #[dQ b1,qD p1 n1 c1,dQ b2,qD p2 n2 c2,dQ b3,qD p3 n3 c3]:=by obtain ⟨_,_,_,_,_,_,_,_,_,e,-⟩:=h;exact qxQ e
theorem uO {xs:pz un}(h:bM V (.agg (List.toArray xs)) l):∀v∈xs,v.oneCell'=true:=by have ⟨_,_,_,_,_,_,_,_,_,_,_,_,e⟩:=bD h;have e:=congrArg Array.toList (Value.agg.inj e);dsimp only at e;subst e;intro v hm;simp only [Qq5,Qx7,or_false] at hm;rcases hm with rfl|rfl|rfl|rfl|rfl|rfl<;>rfl
theorem OD {b':md}{p':OA}{n' c':Nat}{b'':md}{p'':OA}{n'' c'':Nat}:∀v∈([dQ b,qD p n c,dQ b',qD p' n' c',dQ b'',qD p'' n'' c'']:pz un),v.oneCell'=true:=by intro v hm;simp only [Qq5,Qx7,or_false] at hm;rcases hm with rfl|rfl|rfl|rfl|rfl|rfl<;>rfl
theorem mB:∀(t:Tr) {V:ut} {p:OA},RW V p t->t.size<=1000000->aa prog 35 #[dZ p] V λr V'=>∃q n c,r=qD q n c/\bE 6 bM V' q n t.gS
 | .leaf i,V,p,h,hs=>by
  obtain ⟨s,e0,-⟩:=kh h;exact qA V _ ⟨s,s,_,e0,λ_ V1 l1=>⟨_,_,_,rfl,bE.nil⟩,(λh=>nomatch h)⟩
 | .node ln a b,V,p,h,hs=>by
  have h0:=h;obtain ⟨l,i,o,u,w,x,y,z,A,B,C,D,E,F,pl,R,rfl,k,hl,ha,G⟩:=h
  have H:∀j v,([dQ false,dQ i,dQ o,qD u w x,dQ y,qD z A B,dQ C,qD D E F,dZ pl,dZ R]:pz un)[j]?=some v->V.at ((⟨l,0,none⟩:Addr).add j) v:=by
   intro j v e;rw [add_zero'];exact dH (xs:=[_,_,_,_,_,_,_,_,_,_]) k e
  have d:∀j v,([dQ o,qD u w x,dQ y,qD z A B,dQ C,qD D E F]:pz un)[j]?=some v->V.at (((⟨l,0,none⟩:Addr).add 2).add j) v:=by
   intro j v e;rw [zM];refine H (2+j) v ?_;have hj:j<6:=(Qw9.1 e).1
   match j,hj,e with
   | 0,_,h=>exact h
   | 1,_,h=>exact h
   | 2,_,h=>exact h
   | 3,_,h=>exact h
   | 4,_,h=>exact h
   | 5,_,h=>exact h
  simp only [Tr.size] at hs;have la:=jw a;have lb:=jw b;refine qA V _ ⟨rfl,rfl,false,yk k 0 rfl,(λh=>nomatch h),λ_=>⟨rfl,rfl,_,_,_,_,_,_,_,_,_,_,_,_,(⟨l,0,none⟩:Addr).add 2,rfl,d 0 _ rfl,d 1 _ rfl,d 2 _ rfl,d 3 _ rfl,d 4 _ rfl,d 5 _ rfl,rfl,rfl,pl,yk k 8 rfl,rfl,rfl,R,yk k 9 rfl,λV2 I=>(mB a (ha.le I) (by omega)).s ?_⟩⟩;rintro r V3 S ⟨q,n,c,rfl,g⟩;obtain rfl:=g.len;have ⟨xs,x1,K,T⟩:=dF g (by decide)
  have oc:∀v∈xs,v.oneCell'=true:=λv e=>by obtain ⟨m,hm,rfl⟩:=Qm9.1 e;exact gg T (by decide) (λ_ _=>uO) (by omega) (Qq1 hm)
  have r1:Row 6 bM V3 ([dQ o,qD u w x,dQ y,qD z A B,dQ C,qD D E F]:pz un) [ln]:=row_one rfl (hl.le (I.m S));refine ⟨_,_,_,rfl,xs,x1,K,by omega,Qq2 _,Qq2 6,K,oc,λbk J sp c' h1 h2 V4 L=>(mB b (G.le (I.m (S.m L))) (by omega)).s ?_⟩;rintro r V5 U ⟨q',n',a0,rfl,W⟩;obtain rfl:=W.len;have ⟨X,y1,Y,M⟩:=dF W (by decide)
  have N:∀v∈X,v.oneCell'=true:=λv e=>by obtain ⟨m,hm,rfl⟩:=Qm9.1 e;exact gg M (by decide) (λ_ _=>uO) (by omega) (Qq1 hm)
  have Z:=eF (sp:=sp) r1 T (by decide);have f:([ln]++a.gS).length=1+a.gS.length:=by simp;omega
  have r3:=eF (sp:=[]) (Z.le λ_ _ g=>bM.le g (L.m U)) M (by decide);rw [f] at r3;refine ⟨_,_,_,rfl,X,y1,Y,by omega,h1,?_,Y,N,λa1 J2 O a2 h3 h4 V6 l6 TE P=>⟨_,_,_,rfl,?_⟩⟩
  ·simp only [Qq3,Qq7,Qw6,Qk9,K];omega
  ·have r4:=eF (sp:=O) (Z.le λ_ _ g=>bM.le g (L.m U)) M (by decide);rw [f] at r4;have:=bE.gF P (r4.le λ_ _ g=>bM.le g l6);have Q:([ln]++a.gS++b.gS).length=1+a.gS.length+b.gS.length:=by{rw [Qq3,f]};rw [Q] at this;exact this
theorem UC {al:pz L3}(h:bE 9 nI V p n al)(hi:i<al.length) :
  p.isSome=true/\∃(x1 x2:Int)(q1:OA)(y1 y2:Int)(q2:OA)(z1 z2:Int)(q3:OA)(a:Addr),ae p (i*9)=some a/\V.at (a.add 0) (qvZ .i64 x1)/\V.at (a.add 1) (qvZ .i64 x2)/\V.at (a.add 2) (dZ q1)/\V.at (a.add 3) (qvZ .i64 y1)/\V.at (a.add 4) (qvZ .i64 y2)/\V.at (a.add 5) (dZ q2)/\V.at (a.add 6) (qvZ .i64 z1)/\V.at (a.add 7) (qvZ .i64 z2)/\V.at (a.add 8) (dZ q3) /\
   nI V (hF #[qvZ .i64 x1,qvZ .i64 x2,dZ q1,qvZ .i64 y1,qvZ .i64 y2,dZ q2,qvZ .i64 z1,qvZ .i64 z2,dZ q3]) al[i]:=by have ⟨f,c,xs,g,d,b⟩:=h.at_ i hi;obtain ⟨_,_,_,_,_,_,_,_,_,e⟩:=d.shape;have e:=congrArg Array.toList (Value.agg.inj e);subst e;refine ⟨?_,_,_,_,_,_,_,_,_,_,f,c,b 0 _ rfl,b 1 _ rfl,b 2 _ rfl,b 3 _ rfl,b 4 _ rfl,b 5 _ rfl,b 6 _ rfl,b 7 _ rfl,b 8 _ rfl,d⟩;(cases p with|none=>{cases c}|some a=>rfl)
def cO (V:View)(v:Value)(c:Rat×Rat):Prop:=RP V v c.1 c.2
theorem cO.le {V V':ut}{c:Rat×Rat}(h:cO V v c)(l:V.Le V'):cO V' v c:=RP.le h l
theorem cO.shape {c:Rat×Rat}(h:cO V v c):∃(b:md)(p:OA)(n c:Nat)(p':OA)(n' c':Nat)(d:md)(q:OA)(m e:Nat)(q':OA)(m' e':Nat),v=hF #[dQ b,qD p n c,qD p' n' c',dQ d,qD q m e,qD q' m' e']:=by obtain ⟨p,n,c,p',n',c',q,m,e,q',m',e',h,-⟩:=h;grind
theorem sQ {R:ut->un->Rat×Rat->Prop}(sh:∀{V v c},R V v c->∃(b:md)(p:OA)(n c:Nat)(p':OA)(n' c':Nat)(d:md)(q:OA)(m e:Nat)(q':OA)(m' e':Nat),v=hF #[dQ b,qD p n c,qD p' n' c',dQ d,qD q m e,qD q' m' e']) {al:pz (Rat×Rat)}(h:bE 6 R V p n al)(hi:i<al.length) :
  p.isSome=true/\∃(b1:md)(p1:OA)(n1 c1:Nat)(p2:OA)(n2 c2:Nat)(b2:md)(p3:OA)(n3 c3:Nat)(p4:OA)(n4 c4:Nat)(a:Addr),ae p (i*6)=some a/\V.at (a.add 0) (dQ b1)/\V.at (a.add 1) (qD p1 n1 c1)/\V.at (a.add 2) (qD p2 n2 c2)/\V.at (a.add 3) (dQ b2)/\V.at (a.add 4) (qD p3 n3 c3)/\V.at (a.add 5) (qD p4 n4 c4) /\
   R V (hF #[dQ b1,qD p1 n1 c1,qD p2 n2 c2,dQ b2,qD p3 n3 c3,qD p4 n4 c4]) al[i]:=by have ⟨l,j,xs,o,k,f⟩:=h.at_ i hi;have g:=k;have ⟨_,_,_,_,_,_,_,_,_,_,_,_,_,_,e⟩:=sh k;have e:=congrArg Array.toList (Value.agg.inj e);subst e;refine ⟨?_,_,_,_,_,_,_,_,_,_,_,_,_,_,_,l,j,f 0 _ rfl,f 1 _ rfl,f 2 _ rfl,f 3 _ rfl,f 4 _ rfl,f 5 _ rfl,g⟩;(cases p with|none=>{cases j}|some a=>rfl)
def kG (V:View)(v:Value)(c:Rat×Rat):Prop:=Xa V v c.1 c.2
theorem kG.le {V V':ut}{c:Rat×Rat}(h:kG V v c)(l:V.Le V'):kG V' v c:=Xa.le h l
theorem R0 {p':OA}{n' c':Nat}{d:md}{m e:Nat}{q':OA}{m' e':Nat}:∀v∈([dQ b,qD p n c,qD p' n' c',dQ d,qD q m e,qD q' m' e']:pz un),v.oneCell'=true:=by intro v hm;simp only [Qq5,Qx7,or_false] at hm;rcases hm with rfl|rfl|rfl|rfl|rfl|rfl<;>rfl
theorem kG.shape {c:Rat×Rat}(h:kG V v c):∃(b:md)(p:OA)(n c:Nat)(p':OA)(n' c':Nat)(d:md)(q:OA)(m e:Nat)(q':OA)(m' e':Nat),v=hF #[dQ b,qD p n c,qD p' n' c',dQ d,qD q m e,qD q' m' e']:=by obtain ⟨_,_,_,_,_,_,_,_,_,_,_,_,_,_,h,-⟩:=h;exact qyZ h
theorem Lh {R:ut->un->Rat×Rat->Prop}(sh:∀{V v c},R V v c->∃(b:md)(p:OA)(n c:Nat)(p':OA)(n' c':Nat)(d:md)(q:OA)(m e:Nat)(q':OA)(m' e':Nat),v=hF #[dQ b,qD p n c,qD p' n' c',dQ d,qD q m e,qD q' m' e']) {vs:pz un}{al:pz (Rat×Rat)}(h:Row 6 R V vs al)(hi:i<al.length) :
  ∃(b1:md)(p1:OA)(n1 c1:Nat)(p2:OA)(n2 c2:Nat)(b2:md)(p3:OA)(n3 c3:Nat)(p4:OA)(n4 c4:Nat),i*6+6<=vs.length/\(vs.drop (i*6)).take 6=[dQ b1,qD p1 n1 c1,qD p2 n2 c2,dQ b2,qD p3 n3 c3,qD p4 n4 c4] /\
   R V (hF #[dQ b1,qD p1 n1 c1,qD p2 n2 c2,dQ b2,qD p3 n3 c3,qD p4 n4 c4]) al[i]:=by have ⟨xs,g,f,k⟩:=h.at_ i hi;have l:=h.jR (by decide);have a:=f;have ⟨_,_,_,_,_,_,_,_,_,_,_,_,_,_,e⟩:=sh f;have e:=congrArg Array.toList (Value.agg.inj e);subst e;refine qyZ ⟨by omega,?_,a⟩;apply Qg2;intro j;rw [Qy7];split;{grind};{grind}
theorem PY {q:Rat}(h:RA V v q){k:Nat}(hs:Sz k q)(hk:k<=274877906944):aa prog 218 #[v] V λr V'=>RQ V' r q:=by obtain ⟨b,xs,a,c,-,e,d⟩:=RE.raw (no:=false) ⟨(λh=>nomatch h),λ_=>h⟩ (λh=>nomatch h);have ⟨f,g⟩:=d k hs;have e:OT b xs a=q:=e;rw [←e];exact NU c (by omega)
def ng (x:L3):List L3->List L3
 | []=>[x]
 | y::r=>if mC y x<0 then y::ng x r else if y=x then y::r else x::y::r
theorem Uq:∀(o:pz L3)(k:Nat),k<=o.length->(∀j (h:j<o.length),j<k->mC o[j] x<0)->(∀h:k<o.length,¬mC o[k] x<0) ->
  ng x o=if (∃h:k<o.length,o[k]=x) then o else o.take k++x::o.drop k:=by
 intro o
 induction o with
 | nil=>
  intro k d _ _;simp [ng]
 | cons y r ih=>
  intro k d a b
  cases k with
  | zero=>
   have c:¬mC y x<0:=b (by simp);unfold ng;rw [if_neg c];by_cases e:y=x
   ·rw [if_pos e,if_pos ⟨by simp,e⟩]
   grind
  | succ k=>
   have c:mC y x<0:=a 0 (by simp) (by omega);unfold ng;rw [if_pos c,ih k (by simpa using d) (λj h i=>a (j+1) (by simpa using h) (by omega)) (λh=>b (by simpa using h))];by_cases e:∃h:k<r.length,r[k]=x
   ·obtain ⟨f,g⟩:=e;rw [if_pos ⟨f,g⟩,if_pos ⟨by simpa using f,g⟩]
   grind
def bV (l:List L3):List L3:=l.foldl (λo x=>ng (cJ x) o) []
theorem Ky {l:pz L3}(h:i<l.length):bV (l.take (i+1))=ng (cJ l[i]) (bV (l.take i)):=by grind [bV,List.take_add_one]
theorem Il (x:L3):∀o:pz L3,(ng x o).length<=o.length+1
 | []=>by simp [ng]
 | y::r=>by
  have:=Il x r;grind [ng]
theorem wh (l:pz L3):(bV l).length<=l.length:=by
 have:∀(l o:pz L3),(l.foldl (λo x=>ng (cJ x) o) o).length<=o.length+l.length:=by
  intro l
  induction l with
  | nil=>intro o;simp
  | cons x r ih=>
   intro o;have a:=ih (ng (cJ x) o);have b:=Il (cJ x) o;grind
 grind [bV]
def AX (a b:L3):Prop:=mC a b<0
theorem WI {b c:L3}(h:AX a b)(h':AX b c):AX a c:=by unfold AX at *;rw [uc] at *;omega
theorem WE {b:L3}(h:AX a b)(h':AX b a):False:=by unfold AX at *;rw [uc] at *;omega
theorem WG (h:AX a a):False:=WE h h
theorem WH {b:L3}(h:¬AX a b)(hne:a≠b):AX b a:=by grind [AX,uc]
theorem PE:∀{l m:pz L3},l.Pairwise AX->m.Pairwise AX->(∀x,x∈l↔x∈m)->l=m
 | [],[],_,_,_=>rfl
 | [],b::m,_,_,h=>by have:=(h b).2 (by simp);cases this
 | a::l,[],_,_,h=>by have:=(h a).1 (by simp);cases this
 | a::l,b::m,h1,h2,h=>by
  have ⟨g,c⟩:=Qx4.1 h1;have ⟨i,d⟩:=Qx4.1 h2;have e:a=b:=by rcases Qq5.1 ((h a).1 (by simp)) with e|e<;>grind [WE]
  subst e;rw [PE c d λx=>⟨λf=>?_,λf=>?_⟩]
  ·grind [WG]
  grind [WG]
theorem AD {y:L3}:∀{o:pz L3},y∈ng x o↔y=x\/y∈o
 | []=>by simp [ng]
 | z::r=>by
  unfold ng;split
  ·simp only [Qq5,AD (o:=r)];grind
  grind
theorem Ik:∀{o:pz L3},o.Pairwise AX->(ng x o).Pairwise AX
 | [],_=>Qd3 _ _
 | z::r,h=>by
  have ⟨h1,h2⟩:=Qx4.1 h;unfold ng;split
  ·rename_i b;refine Qx4.2 ⟨λy a=>?_,Ik h2⟩;rcases AD.1 a with rfl|a
   ·exact b
   ·exact h1 y a
  grind [AX,WH,List.pairwise_cons.2,WI]
theorem nY (l:pz L3):(bV l).Pairwise AX/\∀x,x∈bV l↔x∈l.map cJ:=by
 have:∀(l o:pz L3),o.Pairwise AX->(l.foldl (λo x=>ng (cJ x) o) o).Pairwise AX/\∀x,x∈l.foldl (λo x=>ng (cJ x) o) o↔x∈o\/x∈l.map cJ:=by
  intro l
  induction l with
  | nil=>intro o h;exact ⟨h,λx=>by simp⟩
  | cons y r ih=>
   intro o h;have ⟨a,b⟩:=ih (ng (cJ y) o) (Ik h);refine ⟨a,λx=>?_⟩;rw [Qm5,b x,AD,Qn3,Qq5];grind
 grind [List.Pairwise.nil,bV]
theorem HS:∀{r:pz L3} {p:L3},(p::r).Pairwise (λx y=>¬Tg y x<0)->(FD eL p r).Pairwise AX/\(∀x∈FD eL p r,AX p x)/\∀x,x∈p::FD eL p r↔x∈p::r
 | [],p,_=>⟨List.Pairwise.nil,(λx h=>by cases h),λx=>Wk5⟩
 | a::r,p,h=>by
  have ⟨h1,h2⟩:=Qx4.1 h;have ⟨i1,i2,i3⟩:=HS h2;unfold FD;by_cases e:a=p
  ·subst e;have:eL a a=true:=by simp [eL]
   grind
  ·have:eL a p=false:=by simp [eL,e]
   rw [this];have b:AX p a:=WH (h1 a (by simp)) e;grind [List.pairwise_cons.2,WI]
theorem P7 {m:pz L3}(h:m.Pairwise (λx y=>¬Tg y x<0)):(C8 eL m).Pairwise AX/\∀x,x∈C8 eL m↔x∈m:=by (cases m with|nil=>exact ⟨List.Pairwise.nil,λx=>Wk5⟩|cons p r=>{have ⟨a,b,c⟩:=HS h;exact ⟨Qx4.2 ⟨b,a⟩,c⟩})
theorem Rk {l m:pz L3}(h:WT (l.map cJ) m):C8 eL m=bV l:=by
 have ⟨a,b⟩:=P7 h.2;have ⟨c,d⟩:=nY l;exact PE a c λx=>by rw [b x,d x];exact h.1.mem_iff
theorem Gl {vs:pz un}{ls:pz L3}(h:Row 6 bM V vs ls)(hi:i<ls.length):∃b1 p1 n1 c1 b2 p2 n2 c2 b3 p3 n3 c3,i*6+6<=vs.length/\(vs.drop (i*6)).take 6=[Value.bool b1,qD p1 n1 c1,dQ b2,qD p2 n2 c2,dQ b3,qD p3 n3 c3] /\
  bM V (hF #[dQ b1,qD p1 n1 c1,dQ b2,qD p2 n2 c2,dQ b3,qD p3 n3 c3]) ls[i]:=by have ⟨xs,c,b,d⟩:=h.at_ i hi;have f:=h.jR (by decide);have a:=b;have ⟨_,_,_,_,_,_,_,_,_,_,_,_,e⟩:=bD b;have e:=congrArg Array.toList (Value.agg.inj e);subst e;refine qxQ ⟨by omega,?_,a⟩;apply Qg2;intro j;rw [Qy7];split;{grind};{grind}
theorem CU (h:bM V v l):aa prog 82 #[v] V λr V'=>∃w b,r=dB #[w,dQ b]/\bM V' w (cJ l):=by have m:=h;obtain ⟨x,y,z,A,B,C,D,E,F,rfl,G,H,S⟩:=h;have rev:∀(i:ut),V.Le i->(l.1<0\/l.1=0/\l.2.1<0)->aa prog 10 #[hF #[dQ (decide (l.1<0)),qD x y z,dQ (decide (l.2.1<0)),qD A B C,dQ (decide (l.2.2<0)),qD D E F]] i λr V'=>bM V' r (cJ l):=λi n f=>by{refine (ik (a:=l.1) (b:=l.2.1) (c:=l.2.2) (m.le n)).s ?_;rintro r I J g;unfold cJ;rw [if_pos f];exact g};refine Ci V _ λT s=>(nU l.1 (G.le s)).s ?_;rintro r V2 K rfl;have k:=s.m K;refine ⟨_,rfl,λf i n=>(rev i (k.m n) (.inl (Qt7.1 (of_decide_eq_true f)))).s ?_,λf=>⟨λo U t=>(nU l.2.1 (H.le (k.m t))).s ?_,λd W L=>?_⟩⟩;{rintro r I J g;have p:=g;obtain ⟨_,_,_,_,_,_,_,_,_,_,_,_,rfl⟩:=bD g;exact qxQ ⟨rfl,λX M=>⟨_,_,rfl,p.le M⟩⟩};{have N:l.1=0:=Qm2.1 (by simpa using o);rintro r Y O rfl;have u:=k.m (t.m O);refine ⟨_,rfl,λj P Q=>(rev P (u.m Q) (.inr ⟨N,Qt7.1 (of_decide_eq_true j)⟩)).s ?_,λj Z R=>⟨_,_,rfl,?_⟩⟩;{rintro r V9 l9 g;have p:=g;obtain ⟨_,_,_,_,_,_,_,_,_,_,_,_,rfl⟩:=bD g;exact qxQ ⟨rfl,λfy q=>⟨_,_,rfl,p.le q⟩⟩};{have j:=of_decide_eq_false j;unfold cJ;rw [if_neg λh=>j (Qt7.2 (h.elim (λh=>by omega) (·.2)))];exact m.le (u.m R)}};{have f:=of_decide_eq_false f;have d:¬l.1=0:=λe=>by{rw [e] at d;simp at d};refine ⟨_,_,rfl,?_⟩;unfold cJ;rw [if_neg λh=>h.elim (λh=>f (Qt7.2 h)) (λh=>d h.1)];exact m.le (k.m L)}
set_option maxHeartbeats 1000000 in
theorem mc {ls:pz L3}(h:bE 6 bM V p n ls)(hn:ls.length<100000000)(hs:∀l∈ls,Bd l) :
  aa prog 34 #[qD p n c] V λr V'=>∃q m e,r=qD q m e/\bE 6 bM V' q m (bV ls)/\m<=e:=by
 obtain rfl:=h.len
 refine vy V _ ⟨λz V'=>∃i:Nat,z.2.2.2=(i:Int)/\i<=ls.length/\GR 6 bM V' z.1 z.2.1 z.2.2.1 (bV (ls.take i)),λz=>ls.length-z.2.2.2.toNat,
  ⟨(0,0,[],0),by and_intros<;>rfl,0,rfl,Qq4 _,GR.nil⟩,?_⟩
 rintro ⟨t,w2,us,z4⟩ V1 l1 ⟨i,e4,Pl,u⟩;dsimp only at e4 u;subst e4;have G:=u.len;have v:=u.le;have fv:=u.cap;have A:=u.row;refine ⟨rfl,λa=>?_,λa iT bP bk K=>?_⟩;rotate_left
 ·have a:¬(i:Int)<ls.length:=of_decide_eq_false a;obtain rfl:i=ls.length:=by{omega};rw [Qy2] at G A;subst G;exact ⟨_,_,_,rfl,bE.bJ K (A.le λ_ _ g=>bM.le g bP) (by decide) v,v⟩
 have a:(i:Int)<ls.length:=of_decide_eq_true a;have B:i<ls.length:=by omega
 have w:i64.wrap ((i:Int)+1)=((i+1:Nat):Int):=by rw [aw (by omega)];rfl
 dsimp only;rw [Qq0,w];obtain ⟨ad,ha,xs,-,hf,d⟩:=(h.le l1 λ_ _ g=>bM.le g l1).at_ i B;have L:=hf;have ⟨_,_,_,_,_,_,_,_,_,_,_,_,ex⟩:=bD hf;have ex:=congrArg Array.toList (Value.agg.inj ex);dsimp only at ex;subst ex;have Tn:=Ky B;have C:Bd (cJ ls[i]):=(hs _ (Qq9 B)).can
 have a4:(bV (ls.take i)).length<100000000:=by have:=wh (ls.take i);rw [Qq7] at this;omega
 have Wk:∀q∈bV (ls.take i),Bd q:=λq H=>by obtain ⟨y,hy,rfl⟩:=Qz1.1 ((nY _).2 q |>.1 H);exact (hs y (Qn6 hy)).can
 clear u;generalize bV (ls.take i)=O at *;refine ⟨aF ha,⟨by omega,by omega⟩,_,_,_,_,_,_,_,_,_,_,_,_,ad,ha,d 0 _ rfl,d 1 _ rfl,d 2 _ rfl,d 3 _ rfl,d 4 _ rfl,d 5 _ rfl,λV2 l2=>(CU (L.le l2)).s ?_⟩;generalize cJ ls[i]=x at *;rintro r V3 l3 ⟨wv,bc,rfl,H⟩;have o:=H;obtain ⟨eb,ep,en,ec,fb,fp,fn,fe,gb,gp,gn,gc,rfl⟩:=bD H;refine ⟨_,_,_,_,_,_,_,_,_,_,_,_,_,rfl,λz _=>∃j:Nat,z=(j:Int)/\j<=O.length/\∀(k:Nat)(h:k<O.length),k<j->mC O[k] x<0,λz=>O.length-z.toNat,⟨0,by and_intros<;>rfl,0,rfl,Qq4 _,λk _ h=>absurd h (Qn2 k)⟩,?_⟩;rintro z V4 I ⟨j,rfl,uw,jl⟩;have wj:i64.wrap ((j:Int)+1)=((j+1:Nat):Int):=by rw [aw (by omega)];rfl
 rw [Qq0,wj];have cN:=l2.m (l3.m I);refine ⟨rfl,λz _=>z=true↔∃h:j<O.length,mC O[j] x<0,⟨λa=>?_,λa=>⟨false,by and_intros<;>rfl,?_⟩⟩,?_⟩
 ·have a:(j:Int)<(t:Int):=of_decide_eq_true a;have f:j<O.length:=by{omega};obtain ⟨M,N,P,Q,R,S,T,U,W,X,Y,Z,fE,FJ,hr⟩:=Gl A f;refine ⟨⟨by omega,by omega⟩,v,M,N,P,Q,R,S,T,U,W,X,Y,Z,⟨fE,FJ⟩,λV5 l5=>(mb (hr.le (cN.m l5)) (o.le (I.m l5)) (Wk _ (Qq9 f)).fF C.fF).s ?_⟩;rintro r V6 l6 rfl;exact ⟨_,rfl,_,by and_intros<;>rfl,by dsimp only;rw [decide_eq_true_eq];exact ⟨λh=>⟨f,h⟩,λ⟨_,h⟩=>h⟩⟩
 ·have a:¬(j:Int)<(t:Int):=of_decide_eq_false a;exact ⟨(λh=>nomatch h),λ⟨h,_⟩=>absurd h (by omega)⟩
 rintro z V7 l7 Mv;refine ⟨rfl,λs=>?_,λs=>?_⟩
 ·have ⟨f,a0⟩:=Mv.1 s;refine ⟨((j+1:Nat):Int),by dsimp only;omega,by and_intros<;>rfl,j+1,rfl,f,λk h a5=>?_⟩;by_cases e:k=j;{subst e;exact a0};{exact jl k h (by omega)}
 have a1:∀h:j<O.length,¬mC O[j] x<0:=λh D=>by have:=Mv.2 ⟨h,D⟩;rw [s] at this;cases this
 have b:=Uq O j uw jl a1;have cG:=cN.m l7;refine ⟨λz _=>z=true↔¬∃h:j<O.length,O[j]=x,⟨λhe=>⟨true,by and_intros<;>rfl,?_⟩,λhe=>?_⟩,?_⟩
 ·have he:(j:Int)=(t:Int):=by{simpa using he};exact ⟨λ_ ⟨h,_⟩=>absurd h (by omega),λ_=>rfl⟩
 ·have he:¬(j:Int)=(t:Int):=by{simpa using he};have f:j<O.length:=by{omega};obtain ⟨M,N,P,Q,R,S,T,U,W,X,Y,Z,fE,FJ,hr⟩:=Gl A f;refine ⟨⟨by omega,by omega⟩,v,M,N,P,Q,R,S,T,U,W,X,Y,Z,⟨fE,FJ⟩,λV8 l8=>(mb (hr.le (cG.m l8)) (o.le (I.m (l7.m l8))) (Wk _ (Qq9 f)).fF C.fF).s ?_⟩;rintro r V9 l9 rfl;exact ⟨_,rfl,_,by and_intros<;>rfl,by dsimp only;rw [bne_iff_ne,ne_eq,FB];exact ⟨λh ⟨_,D⟩=>h D,λh D=>h ⟨f,D⟩⟩⟩
 rintro z fy E ur;have AK:=cG.m E;refine ⟨rfl,λs fC bo bk K J=>?_,λs=>?_⟩
 ·have a2:=ur.1 s;rw [if_neg a2] at b;have ⟨xs,ys,x1,x2,x3,y1,y2,y3,r1,r2,r3,r4,r5⟩:=uv (V:=fC) (GR.s ⟨G,v,fv,A⟩ λ_ _ g=>bM.le g (AK.m bo)) (by decide) (λ_ _=>uO) K (es:=[_,_,_,_,_,_]) rfl (o.le (I.m (l7.m (E.m bo)))) (j:=j);refine ⟨⟨by omega,by omega⟩,⟨by omega,by omega⟩,⟨by omega,by omega⟩,xs,x1,x2,by omega,Qq2 _,Qq2 6,x2,x3,λa6 J2 sp c' h1 h2=>?_⟩;rw [r1,r2];refine ⟨ys,y1,y2,Qq2 _,y3,by omega,by omega,r3,r4,λa3 F h3 h4=>⟨(j+(1+(t-j)),F,_,((i+1:Nat):Int)),by dsimp only;omega,by and_intros<;>first|rfl|omega,i+1,rfl,B,?_⟩⟩;show GR 6 bM _ _ _ _ (bV (ls.take (i+1)));rw [Tn,b];exact r5 a3 F h3 h4
 ·have hex:∃h:j<O.length,O[j]=x:=Qf9 λh=>by{have:=ur.2 h;rw [s] at this;cases this};rw [if_pos hex] at b;refine ⟨(t,w2,us,((i+1:Nat):Int)),by dsimp only;omega,by and_intros<;>rfl,i+1,rfl,B,?_⟩;show GR 6 bM _ _ _ _ (bV (ls.take (i+1)));rw [Tn,b];exact ⟨G,v,fv,A.le λ_ _ g=>bM.le g AK⟩
theorem Ag {t:Tr}(h:RW V p t)(ha:t.dT kF)(hs:t.size<=1000000):aa prog 8 #[dZ p] V λr V'=>∃q n c,r=qD q n c/\bE 6 bM V' q n (bV t.gS)/\n<=c:=by refine Cw V _ λk d=>(mB t (h.le d) hs).s ?_;rintro r V2 o ⟨q,n,c,rfl,g⟩;refine ⟨_,_,_,rfl,λs a=>(mc (g.le a λ_ _ g=>bM.le g a) (by rw [jw];omega) λl f=>(uB ha l f).2).s ?_⟩;rintro r u v ⟨w,m,e,rfl,i,j⟩;exact ⟨_,_,_,rfl,λx b=>⟨_,_,_,rfl,i.le b λ_ _ g=>bM.le g b,j⟩⟩
theorem rG {t:Tr}(h:RW V p t)(ha:t.dT kF)(hs:t.size<=1000000:=by omega):aa prog 8 #[dZ p] V λr V'=>∃q n c,r=qD q n c/\bE 6 bM V' q n (bV t.gS):=
 (Ag h ha hs).s λ_ _ _ ⟨q,n,c,e,g,_⟩=>⟨q,n,c,e,g⟩
theorem Fx {A:pz (Rat×Rat)}(h:bE 6 cO V p n A)(hn:A.length<=1000000){k:Nat}(hs:∀x∈A,Sz k x.1/\Sz k x.2)(hk:k<=1099511627776:=by omega) :
  aa prog 131 #[qD p n c] V λr V'=>∃q m e,r=qD q m e/\bE 6 kG V' q m A:=by obtain rfl:=h.len;refine DI V _ ⟨λz V'=>∃j:Nat,z.2.2.2=(j:Int)/\j<=A.length/\GR 6 kG V' z.1 z.2.1 z.2.2.1 (A.take j),λz=>A.length-z.2.2.2.toNat,⟨(0,0,[],0),by and_intros<;>rfl,0,rfl,Qq4 _,GR.nil⟩,?_⟩;rintro ⟨u,P,Q,R⟩ S i ⟨j,l,T,d⟩;dsimp only at l d;subst l;have v:=d.len;rw [Qq7] at v;refine ⟨rfl,λb=>?_,λb U y W B=>?_⟩;{have b:(j:Int)<A.length:=of_decide_eq_true b;have f:j<A.length:=by{omega};have w:i64.wrap ((j:Int)+1)=((j+1:Nat):Int):=by{rw [aw (by omega)];rfl};dsimp only;rw [Qq0,w];obtain ⟨C,X,Y,Z,c1,p2,n2,c2,b2,p3,n3,c3,p4,n4,c4,a,D,E,F,G,H,I,J,g⟩:=sQ cO.shape (h.le i λ_ _ g=>cO.le g i) f;have ⟨s1,s2⟩:=hs _ (Qq9 f);refine ⟨C,⟨by omega,by omega⟩,_,_,_,_,_,_,_,_,_,_,_,_,_,_,a,D,E,F,G,H,I,J,λV2 o=>(HH (g.le o) s1 s2 hk).s ?_⟩;rintro r s K L;have t:kG s r A[j]:=L;obtain ⟨_,_,_,_,_,_,_,_,_,_,_,_,_,_,rfl⟩:=t.shape;refine qyZ ⟨rfl,by omega,d.le,d.cap,rfl,R0,λsp M N O=>⟨(u+1,M,_,((j+1:Nat):Int)),by dsimp only;omega,by and_intros<;>rfl,j+1,rfl,f,?_⟩⟩;dsimp only;rw [Qz0,Qq1 f];exact (d.s (V':=s) λ_ _ g=>kG.le g (o.m K)).snoc rfl t (by decide) N O};{have b:¬(j:Int)<A.length:=of_decide_eq_false b;obtain rfl:j=A.length:=by{omega};rw [Qy2] at d;obtain rfl:=d.len;exact ⟨_,_,_,rfl,bE.bJ B (d.row.le λ_ _ g=>kG.le g y) (by decide) d.le⟩}
end Go.Proofs.Tryz
