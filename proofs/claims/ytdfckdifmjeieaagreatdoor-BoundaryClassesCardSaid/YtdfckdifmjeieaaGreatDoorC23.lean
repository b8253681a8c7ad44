import Derived.Test.YtdfckdifmjeieaaGreatDoorC22
import Derived.Test.YtdfckdifmjeieaaGreatDoorC10
set_option linter.all false
open Go.IntKind (i64 u64 u32)
open Go.IntKind renaming i64→Ŵ
open Go.Value renaming slice→yG,agg→hF,bool→dB,pointer→qvJ,tuple→å,int→Ô
namespace Go.Proofs.Tryz
open Go.Eng Go.Big
variable{c n:Nat}{A l:List Sp}{V:Ó}{p q:OA}{lv v:Value}{L:L3}{P:List Rat}{vs:List Value}
def mA_pos {b:Nat}(h:0<c):mA b c=some ⟨b,0,none⟩:=by unfold mA;rw [Ã ω]
def Sm {f:Sp->zA qp}{j:Nat}(h:j<l.length):(l.take (j+1)).flatMap f=(l.take j).flatMap f++f l[j]:=by rw [ł,ñ h,Qc3];simp
def VO {j:Nat}(h:j<l.length):nV (l.take (j+1))=nV (l.take j)+if l[j].a then 1 else 0:=by rw [ł,ñ h,Y9];simp [nV]
theorem XY {A B:zA Sp}{k j:Nat}(u:k<2):(bsK A B k++((LK A B k).take j).flatMap (kF k)).length<=fe A+fe B:=by have b:((LK A B k).flatMap (kF k)).length=(((LK A B k).take j).flatMap (kF k)).length+(((LK A B k).drop j).flatMap (kF k)).length:=by{grind [List.take_append_drop]};have a:=Æ List.length (Ki (A:=A) (B:=B) u);rw [í] at a;have c:(bsK A B (k+1)).length<=(ru A B).length:=by{obtain rfl|rfl:k=0\/k=1:=ω;{unfold ru;rw [í];exact Qr8 _ _};exact Ù _};grind [Ib]
def ZJ {acc:ut->ut->ut}{B:zA Sp}{cs:zA qp}{was:ut}{last:Sp}{out:zA Sp}(h:Z8 acc A B cs cs.length was last out){op:Int}(u:∀t,acc (ì A t) (ì B t)=ĥ op (ì A t) (ì B t)):DL was last out=Û op A B:=by refine reg_eq (à (A++B)) h.rg (comb_reg _ _ _) λt a=>?_;rw [comb_inB _ _ _ a,h.inn t (λs b he=>a (fw.2 ⟨s,b,he⟩)) λh=>Å h (Ww5 _)];exact u t
theorem KA {p0 p1:OA}{n0 c0 n1 c1 fa:Nat}{B:zA Sp}{op:Int}{acc:ut->ut->ut}(hacc:∀t,acc (ì A t) (ì B t)=ĥ op (ì A t) (ì B t))(hA:bP 8 kn V p0 n0 A)(hB:bP 8 kn V p1 n1 B)(gA:∀s∈A,s.good)(gB:∀s∈B,s.good)(sA:∀s∈A,s.sz 1000000)(sB:∀s∈B,s.sz 1000000)(nA:A.length<=1000)(nB:B.length<=1000)(kM:fe A+fe B<200)(so:qQ (fe A+fe B))(hf:∀a b (W:un),À fa #[dB a,dB b] W λr _=>r=dB (acc a b)):À 198 #[hF #[yG p0 n0 c0,yG p1 n1 c1],.func (.func fa) #[] #[]] V λr W=>∃q m e,r=yG q m e/\bP 8 kn W q m (Û op A B):=by
 obtain rfl:=hA.len;obtain rfl:=hB.len
 refine JA p0 _ c0 p1 _ c1 fa V _ ⟨λz V'=>∃k:Nat,z.2.2.2.1=(k:Int)/\k<=2/\CR V' z.1 z.2.1 z.2.2.1 (bsK A B k)/\z.2.2.2.2=osA A B k,λz=>2-z.2.2.2.1.toNat,
  ⟨(0,0,[],0,[Ô Ŵ 0,Ô Ŵ 0]),σ,0,rfl,φ,⟨rfl,Ù _,Ù _,è.nil,λh=>Å rfl h⟩,rfl⟩,?_⟩
 rintro ⟨z1,z2,vs,z4,os⟩ V1 l1 ⟨k,e4,d2,G,K⟩;dsimp only at e4 G K;subst e4 K;dsimp only;refine ⟨rfl,λN=>?_,λN=>?_⟩
 ·have N:=Á N;have hk:k<2:=ω
  have U:Ŵ.wrap ((k:Int)+1)=((k+1:Nat):Int):=by rw [ay ω];rfl
  rw [U,Ý]
  obtain ⟨p,n,c,el,hL⟩:∃p n c,([(p0,A.length,c0),(p1,B.length,c1)]:zA (OA×Nat×Nat)).getD k (none,0,0)=(p,n,c)/\bP 8 kn V p n (LK A B k):=by obtain rfl|rfl:k=0\/k=1:=ω;{exact ⟨_,_,_,rfl,hA⟩};exact ⟨_,_,_,rfl,hB⟩
  rw [el];dsimp only
  have c2:(∀s∈LK A B k,s.sz 1000000)/\(LK A B k).length<=1000:=by obtain rfl|rfl:k=0\/k=1:=ω;{exact ⟨sA,nA⟩};exact ⟨sB,nB⟩
  obtain ⟨sL,nL⟩:=c2;obtain rfl:=hL.len
  refine ⟨ų,λz V'=>∃j:Nat,z.2.2.2.1=(j:Int)/\j<=(LK A B k).length/\CR V' z.1 z.2.1 z.2.2.1 (bsK A B k++((LK A B k).take j).flatMap (kF k))/\z.2.2.2.2=QB A k (nV ((LK A B k).take j)),λz=>(LK A B k).length-z.2.2.2.1.toNat,
   ⟨(z1,z2,vs,0,osA A B k),σ,0,rfl,ä _,by simpa using G,by rw [Qf6];unfold osA;rw [Ã ω];rfl⟩,?_⟩
  rintro ⟨U,w2,us,w4,os⟩ V2 l2 ⟨j,e4,yH,E,K⟩;dsimp only at e4 E K;subst e4 K;dsimp only;refine ⟨rfl,λhj=>?_,λhj=>?_⟩
  ·have hj:=Á hj;have Q:j<(LK A B k).length:=ω
   have w3:Ŵ.wrap ((j:Int)+1)=((j+1:Nat):Int):=by rw [ay ω];rfl
   rw [Ý,w3];obtain ⟨ad,ha,xs,-,hv,D⟩:=(hL.le (l1.m l2)).at_ j Q;obtain ⟨x1,x2,q,y1,y2,q',ex,X,r2⟩:=hv;have ex:=Æ Array.toList (Value.agg.inj ex);dsimp only at ex;subst ex;have hs:=sL _ (ú Q);have ft:=Sm (f:=kF (k:Int)) Q;have ot:=VO Q;have ob:=IV (a:=(LK A B k).take j);rw [ë] at ob;have cn:=E.len;have bl:=XY (A:=A) (B:=B) (j:=j) hk;rw [<-cn] at bl;have c1:kF (k:Int) (LK A B k)[j]=(if (LK A B k)[j].a then [] else [((LK A B k)[j].lo,(k:Int),1)])++(if (LK A B k)[j].b then [] else [((LK A B k)[j].hi,(k:Int),-1)]):=rfl;rw [c1] at ft;generalize (LK A B k)[j]=s at *
   refine ⟨bf ha,ų,_,_,_,_,_,_,_,_,ad,ha,D 0 _ rfl,D 1 _ rfl,D 2 _ rfl,D 3 _ rfl,D 4 _ rfl,D 5 _ rfl,D 6 _ rfl,D 7 _ rfl,
    λz V'=>CR V' z.1 z.2.1 z.2.2.1 (bsK A B k++((LK A B k).take j).flatMap (kF k)++(if s.a then [] else [(s.lo,(k:Int),1)]))/\z.2.2.2=QB A k (nV ((LK A B k).take (j+1))),⟨λF=>?_,λF=>?_⟩,?_⟩
   ·rw [F,Ä rfl] at ot;rw [F,Ä rfl,ć];refine ⟨ų,_,Za hk,ų,by rw [Zb hk];omega,(U,w2,us,QB A k (nV ((LK A B k).take (j+1)))),?_,E,rfl⟩;have e:(QB A k (nV ((LK A B k).take j))).set (0+k*1) (Ô Ŵ (Ŵ.wrap (nV ((LK A B k).take j)+1)))=QB A k (nV ((LK A B k).take (j+1))):=by{rw [Zc hk,ay ω,ot]};(and_intros<;>first|rfl|exact e)
   ·rw [F,Ã φ,Wy7] at ot;rw [F,Ã φ];refine ⟨ω,E.le,E.cap,rfl,one5,λsp c' C R=>⟨(U+1,c',_,QB A k (nV ((LK A B k).take j))),σ,E.snoc X hs.1 _ _ C R,by dsimp only;rw [ot]⟩⟩
   ·rintro ⟨k1,k2,ks,os⟩ V3 l3 ⟨H,K⟩;dsimp only at H K;subst K;dsimp only;have d3:k1<=U+1:=by{rw [H.len,cn,í];split<;>simp};refine ⟨rfl,λz V'=>CR V' z.1 z.2.1 z.2.2 (bsK A B k++((LK A B k).take (j+1)).flatMap (kF k)),⟨λF=>?_,λF=>?_⟩,?_⟩;{have F:s.b=false:=by{simpa using F};simp only [F] at ft;rw [ft,<-Ĝ,<-Ĝ];refine ⟨ω,H.le,H.cap,rfl,one5,λsp c' C R=>⟨(k1+1,c',_),σ,H.snoc ra hs.2 _ _ C R⟩⟩};{have F:s.b=true:=by{simpa using F};simp only [F,Ï,ć] at ft;rw [ft,<-Ĝ];exact ⟨(k1,k2,ks),σ,H⟩};rintro ⟨P,Y,ms⟩ V4 l4 a4;dsimp only at a4;exact ⟨rfl,(P,Y,ms,((j+1:Nat):Int),_),ω,σ,j+1,rfl,ω,a4,rfl⟩
  ·have hj:=Â hj;obtain rfl:j=(LK A B k).length:=ω;rw [Ī] at *;refine ⟨(U,w2,us,((k+1:Nat):Int),QB A k (nV (LK A B k))),ω,σ,k+1,rfl,ω,?_,VV hk⟩;rw [<-Ki hk];exact E
 have N:=Â N;obtain rfl:k=2:=ω
 have G:CR V1 z1 z2 vs (ru A B):=G;have cl:(ru A B).length<4000:=by rw [Ib];omega
 have c3:=G.len;have d4:=G.le;rw [show osA A B 2=Lx A B [] from rfl];have M:∀l:zA qp,Lx A B l≠[]:=λl h=>by cases h
 refine ⟨λz V'=>∃cs:zA qp,SR V' z1 z cs/\cs.Perm (ru A B)/\cs.Pairwise (λx y=>x.1<=y.1),⟨λh0=>?_,λh0 V7 l7 bk e7 h7=>?_⟩,?_⟩
 ·subst h0;have C:=G.cap;rw [Ŀ] at C;obtain rfl:z2=0:=ω;obtain rfl:z1=0:=ω;have a5:ru A B=[]:=List.eq_nil_of_length_eq_zero ω;exact ⟨rfl,λV5 l5=>BW.s λr V6 l6 hr=>⟨hr,[],σ,[],⟨è.nil,rfl,ψ⟩,by rw [a5],List.Pairwise.nil⟩⟩
 ·have d5:=Qm4.2 (G.ne h0);rw [mB h0,mA_pos (show 0<z2 by omega)];refine (so (V7.au [bk]) bk _ _ _ (ru A B) Ib (e7 h0) ⟨ψ,h7 h0⟩ ⟨G.row.le λ_ _ g=>RC.le g λb o h=>l7 b o h,c3,cl⟩).s λr V8 l8 ⟨rfl,a6,cs,e8,a7,hp,O⟩=>⟨rfl,h0,a6,λe=>?_,e8,a6,σ,cs,a7.le (Vf _),hp,O⟩;have C:=a7.row.eH φ;rw [e,hp.length_eq,Ŀ] at C;omega
 rintro d6 V9 l9 ⟨cs,a8,hp,O⟩;have zl:=a8.len;have a2:=λc (h:c∈cs)=>Yb (hp.mem_iff.1 h);refine ⟨rfl,λfD c4 ab ob ea ha K ho c5=>?_⟩;rw [mB (M [])];refine (GG (V:=fD.au [ab,ob]) (x:=nV A+i_ 0 []) (y:=nV B+i_ 1 []) (acc:=acc) ea ⟨ψ,ha⟩ (K (M _)) ⟨ψ,ho (M _)⟩ (c5 (M _)) hf).s ?_;rintro r eX dq ⟨rfl,e1,e2⟩
 refine ⟨_,rfl,e1,M _,Lx A B [],M _,e2,λz V'=>∃(i:Nat)(last:Sp)(out:zA Sp),z.2.2.2.2.1=(i:Int)/\i<=cs.length/\out.length<=i/\Z8 acc A B cs i z.2.2.2.1 last out/\z.2.2.2.2.2.1=Lx A B (cs.take i)/\IR V' z.1 z.2.1 z.2.2.1 out /\
   RR V' (hF #[Ô Ŵ z.2.2.2.2.2.2.1,Ô Ŵ z.2.2.2.2.2.2.2.1,qvJ z.2.2.2.2.2.2.2.2.1]) last.lo/\RR V' (hF #[Ô Ŵ z.2.2.2.2.2.2.2.2.2.1,Ô Ŵ z.2.2.2.2.2.2.2.2.2.2.1,qvJ z.2.2.2.2.2.2.2.2.2.2.2.1]) last.hi/\last.a=z.2.2.2.2.2.2.2.2.2.2.2.2.1/\last.b=z.2.2.2.2.2.2.2.2.2.2.2.2.2,
  λz=>cs.length-z.2.2.2.2.1.toNat,⟨(0,0,[],_,0,Lx A B [],0,0,none,0,0,none,true,false),σ,0,⟨0,0,true,false⟩,[],rfl,ä _,ä _,WX (acc:=acc) (by show acc (decide ((0:Int)<nV A+0)) (decide ((0:Int)<nV B+0))=_;rw [Wy7,Wy7]) hp gA gB O,rfl,IR.nil,RR.zero _,RR.zero _,rfl,rfl⟩,?_⟩
 rintro ⟨P,Y,us,d,iz,ov,x1,x2,p,y1,y2,q,la,lb⟩ gQ eJ ⟨i,last,out,e5,Xu,oi,hI,a9,v,X,r2,f1,f2⟩;dsimp only at e5 hI a9 v X r2 f1 f2;subst e5 a9 f1 f2;dsimp only;have ml:=v.len;refine ⟨rfl,λhi=>?_,λhi=>?_⟩
 ·have hi:=Á hi;have I:i<cs.length:=ω
  have Z:=a8.le λb o h=>eJ b o (dq b o (c4 b o h));have gd:∀j (h:j<cs.length),cs.getD j dC=cs[j]:=λj h=>by rw [Ę,ñ h];rfl
  have ⟨x,y,pp,a,b,g,x',y',p',ev,hr,b0⟩:=Z.get I;rw [gd i I] at ev hr b0;rw [ĉ] at g;have ev:=Æ Array.toList (Value.agg.inj ev);simp only [Í] at ev;obtain ⟨rfl,rfl,rfl,rfl,rfl⟩:=ev;have ⟨ck,cd⟩:=a2 _ (ú I);have U:Ŵ.wrap ((i:Int)+1)=((i+1:Nat):Int):=by rw [ay ω];rfl
  have tk:cs.take (i+1)=cs.take i++[cs[i]]:=by rw [ł,ñ I];rfl
  have b6:(Lx A B (cs.take i)).set (0+cs[i].2.1.toNat*1) (Ô Ŵ (Ŵ.wrap (osX A B (cs.take i) cs[i].2.1+cs[i].2.2)))=Lx A B (cs.take (i+1)):=by have b1:=IV (a:=A);have b2:=IV (a:=B);have b3:=Jl (k:=0) (l:=cs.take i) λc G=>(a2 c (Qn7 G)).2;have b4:=Jl (k:=1) (l:=cs.take i) λc G=>(a2 c (Qn7 G)).2;rw [ë] at b3 b4;have b5:-9000<=osX A B (cs.take i) cs[i].2.1/\osX A B (cs.take i) cs[i].2.1<=9000:=by{unfold osX;split<;>omega};rw [ay ω,Ze ck,tk]
  rw [U,Ý,Ý];refine ⟨ų,ω,x,y,pp,_,_,g,ų,_,Zd ck,ų,by rw [show (Lx A B (cs.take i)).length=2 from rfl];omega,?_⟩;rw [b6];refine ⟨λt V'=>(t=true->∃h:i+1<cs.length,cs[i].1=cs[i+1].1)/\(t=false->∀h:i+1<cs.length,cs[i].1<cs[i+1].1),⟨λC=>?_,λC=>?_⟩,?_⟩
  ·have C:=Á C;have S:i+1<cs.length:=ω;have ⟨u,w,pw,a',b',g',x',y',p',T,c6,a0⟩:=Z.get S;rw [gd _ S] at c6 a0;rw [ĉ] at g';have T:=Æ Array.toList (Value.agg.inj T);simp only [Î] at T;obtain ⟨rfl,rfl,rfl,-⟩:=T;refine ⟨ų,ω,u,w,pw,⟨ω,?_⟩,λji fk=>(yg ra ra a0 b0 φ).s ?_⟩;{have:∀l:zA um,l.take 3=(l.take 5).take 3:=λl=>by{rw [Wq1];rfl};rw [this,ġ,g'.2];rfl};rintro r lH iL rfl;refine ⟨_,rfl,_,σ,λh=>⟨S,Eq.symm (Á h)⟩,λh _=>?_⟩;have h:=Â h;have:=Qb2.1 O i (i+1) I S ω;grind
  ·have C:=Â C;exact ⟨false,σ,π,λ_ h=>Å h ω⟩
  rintro t mJ iE ⟨ht,c7⟩;refine ⟨rfl,λe=>?_,λe ko gV c8 c9 ea ha K ho b7=>?_⟩
  ·obtain ⟨C,R⟩:=ht e;exact ⟨(P,Y,us,d,((i+1:Nat):Int),Lx A B (cs.take (i+1)),x1,x2,p,y1,y2,q,last.a,last.b),ω,σ,i+1,last,out,rfl,ω,ω,ZK hI C R,rfl,v.s iE,X.le iE,ra,rfl,rfl⟩
  rw [mB (M _)];refine (GG (V:=ko.au [c8,c9]) (x:=nV A+i_ 0 (cs.take (i+1))) (y:=nV B+i_ 1 (cs.take (i+1))) (acc:=acc) ea ⟨ψ,ha⟩ (K (M _)) ⟨ψ,ho (M _)⟩ (b7 (M _)) hf).s ?_;rintro r nk kf ⟨rfl,d0,d1⟩;have st:=ZL hI I (c7 e) hp gA gB O rfl;generalize acc (decide ((0:Int)<nV A+i_ 0 (cs.take (i+1)))) (decide ((0:Int)<nV B+i_ 1 (cs.take (i+1))))=now at st ⊢;have L:gQ.Le nk.shut:=λb o h=>kf b o (gV b o (iE b o h))
  have same:now=d->IR nk.shut P Y us (DJ d now last cs[i].1 out)/\RR nk.shut (hF #[Ô Ŵ x1,Ô Ŵ x2,qvJ p]) (mu d now last cs[i].1).lo/\RR nk.shut (hF #[Ô Ŵ y1,Ô Ŵ y2,qvJ q]) (mu d now last cs[i].1).hi /\
    last.a=(mu d now last cs[i].1).a/\last.b=(mu d now last cs[i].1).b:=λh=>by
   subst h;unfold DJ mu;cases now<;>exact ⟨v.s L,X.le L,r2.le L,rfl,rfl⟩
  refine ⟨_,rfl,d0,M _,Lx A B (cs.take (i+1)),M _,d1,λz V'=>IR V' z.1 z.2.1 z.2.2.1 (DJ d now last cs[i].1 out)/\RR V' (hF #[Ô Ŵ z.2.2.2.1,Ô Ŵ z.2.2.2.2.1,qvJ z.2.2.2.2.2.1]) (mu d now last cs[i].1).lo /\
   RR V' (hF #[Ô Ŵ z.2.2.2.2.2.2.1,Ô Ŵ z.2.2.2.2.2.2.2.1,qvJ z.2.2.2.2.2.2.2.2.1]) (mu d now last cs[i].1).hi/\z.2.2.2.2.2.2.2.2.2.1=(mu d now last cs[i].1).a/\z.2.2.2.2.2.2.2.2.2.2=(mu d now last cs[i].1).b,
   ⟨λhn=>⟨λhw=>?_,λhw=>⟨λa3=>⟨λJ=>?_,λ_=>?_⟩,λa3=>?_⟩⟩,λhn=>⟨λhw=>⟨λJ=>?_,λJ=>?_⟩,λhw=>?_⟩⟩,?_⟩
  ·have hw:d=false:=by{simpa using hw};subst hn hw;exact ⟨(P,Y,us,x,y,pp,0,0,none,false,false),σ,v.s L,hr.le L,RR.zero _,rfl,rfl⟩
  ·rw [hn] at J;cases J
  ·exact ⟨(P,Y,us,x1,x2,p,y1,y2,q,last.a,last.b),σ,same (hn.m a3.symm)⟩
  ·rw [a3] at hw;cases hw
  ·subst hn hw;exact ⟨ω,v.le,v.cap,rfl,one8,λsp c' C R=>⟨(P+1,c',_,x1,x2,p,x,y,pp,last.a,last.b),σ,(v.s L).snoc (s:=⟨last.lo,cs[i].1,last.a,last.b⟩) (X.le L) (hr.le L) C R,X.le L,hr.le L,rfl,rfl⟩⟩
  ·rw [hn] at J;cases J
  ·exact ⟨(P,Y,us,x1,x2,p,y1,y2,q,last.a,last.b),σ,same (hn.m hw.symm)⟩
  ·rintro ⟨k1,k2,ks,u1,u2,pu,t1,t2,pt,ua,ub⟩ nq iF ⟨a1,b8,b9,g1,g2⟩;dsimp only at a1 b8 b9 g1 g2;subst g1 g2;dsimp only;have ol:(DJ d now last cs[i].1 out).length<=i+1:=by{unfold DJ;split;{rw [í];simp;omega};omega};exact ⟨rfl,(k1,k2,ks,now,((i+1:Nat):Int),Lx A B (cs.take (i+1)),u1,u2,pu,t1,t2,pt,_,_),ω,σ,i+1,_,_,rfl,ω,ol,st,rfl,a1,b8,b9,rfl,rfl⟩
 ·have hi:=Â hi;obtain rfl:i=cs.length:=ω;have fin:=ZJ hI hacc;refine ⟨λz V'=>IR V' z.1 z.2.1 z.2.2 (Û op A B),⟨λhw=>?_,λhw=>?_⟩,?_⟩;{subst hw;refine ⟨ω,v.le,v.cap,rfl,one8,λsp c' C R=>⟨(P+1,c',_),σ,?_⟩⟩;rw [<-fin];have:=hI.fr rfl;rw [this.1] at r2;exact v.snoc (s:=oD last) X r2 C R};{subst hw;refine ⟨(P,Y,us),σ,?_⟩;rw [<-fin];simpa [DL] using v};rintro ⟨k1,k2,ks⟩ qM lD h;dsimp only at h;obtain rfl:=h.len;exact ⟨rfl,λuJ kN bk F=>⟨_,_,_,rfl,bP.bR F (h.row.le λ_ _ g=>kn.le g kN) φ h.le⟩⟩
def c_J1 (a b:ut)(W:un):À 201 #[dB a,dB b] W λr _=>r=dB ((λx _=>x:ut->ut->ut) a b):=
 Fx W _ λV l=>rfl
def B6 (F:bP 8 kn V p n A)(u:∀s∈A,s.good)(y:∀s∈A,s.sz 1000000)(z:A.length<=1000)(M:fe A<200)(E:qQ (fe A)):À 143 #[yG p n c] V λr W=>∃q m e,r=yG q m e/\bP 8 kn W q m (Û 1 A []):=by refine My V _ λa b=>(KA (op:=1) (acc:=λx _=>x) (λt=>by simp [ĥ,ì]) ra (bP.nil (p:=none)) u (λs h=>by cases h) y (λs h=>by cases h) z φ (by have:fe []=0:=rfl;omega) E c_J1).s ?_;rintro r V2 d ⟨q,m,e,rfl,g⟩;exact ⟨_,_,_,rfl,λf i=>⟨_,_,_,rfl,ra⟩⟩
def c_D1 (a b:ut)(W:un):À 199 #[dB a,dB b] W λr _=>r=dB (ĥ 3 a b):=
 qK W _ ⟨λh V l=>by subst h;simp [ĥ],λh V l=>by subst h;simp [ĥ]⟩
def RH {w:um}{M:L3}(z:vQ V v L)(hm:vQ V w M)(E:Bd L)(y:Bd M):À 245 #[v,w] V λr W=>r=dB (decide (L=M\/L=Õ M)):=by have a:=z;have b:=hm;obtain ⟨_,rfl,-,-,-⟩:=ŷ z;obtain ⟨_,rfl,-,-,-⟩:=ŷ hm;refine D4 V _ λd f=>(tq ra ra E.iP y.iP).s ?_;rintro r V2 g rfl;refine ⟨_,rfl,λe i j=>?_,λe k l=>(lC ra y.iP).s ?_⟩;{rw [Ç (.inl (Á e))]};have e:=Â e;rintro r m n c;obtain ⟨_,rfl,-,-,-⟩:=ŷ c;refine ⟨_,_,_,_,_,_,_,_,_,rfl,λo p=>(tq ra ra E.iP y.iP.rev).s λr q s rfl=>⟨_,rfl,λt u=>Æ Value.bool (É.2 ⟨.inr,λh=>h.resolve_left e⟩)⟩⟩
def one8i {u y:Int}{z E:Int}{a b:ut}:∀v∈([Ô Ŵ u,Ô Ŵ y,qvJ p,Ô Ŵ z,Ô Ŵ E,qvJ q,dB a,dB b]:zA um),v.oneCell'=true:=λv c=>by
 simp only [ç,ě,Ì] at c;rcases c with rfl|rfl|rfl|rfl|rfl|rfl|rfl|rfl<;>rfl
def NC {e:ut}{k:Int}(h1:decide (k>0)=e)(h2:decide (k<0)=!e)(hb:Bd L):∀(t:Tr) {V:un} {q:OA} {lv v:um} {s:Sp} {lb n m:Nat} {vs:zA um} {o:zA Sp},RT V q t->t.dG Bd->vQ V lv L->kn V v s->s.sz 100000 ->(vs≠[]->V.w.heap[lb]?=some (.cells vs.toArray 129 (0,0)))->(vs≠[]->V.X lb)->GR 8 kn V n m vs o->n+(bj L e t s).length<=1000000 ->À 196 #[qvJ q,lv,v,Ô Ŵ k,yG (mA lb m) n m] V λr V'=>∃(bm:Nat)(vm:zA um)(n' c':Nat),(vm≠[]->V'.w.heap[bm]?=some (.cells vm.toArray 129 (0,0)))/\(vm≠[]->V.w.heap.size<=bm\/(vs≠[]/\bm=lb))/\r=yG (mA bm c') n' c'/\GR 8 kn (V'.aY (vm≠[]) bm) n' c' vm (o++bj L e t s):=by
 intro t;have Nk:∀{A B:Prop},A\/B\/False->A\/B:=λh=>h.imp id λh=>h.elim id False.elim
 induction t with
 | leaf i=>
  intro V q lv v s lb n m vs o h ha hl hv sz hw hx N D;have E:=hv;obtain ⟨_,rfl,-,-,-⟩:=ŷ hl;obtain ⟨_,rfl,-,-⟩:=Ŷ hv;refine uC q _ _ _ _ _ _ _ _ _ _ _ _ _ _ _ _ _ k lb n m vs V _ hw hx ⟨λz _=>z=i,λV1 l1=>(cu (h.le l1)).s ?_,?_⟩
  ·rintro r V2 l2 rfl;obtain ⟨b,c0,c1,c2,c3,c4,c5,c6,c7,c8,r,rfl,hb⟩:=h.le (l1.m l2);exact ⟨_,rfl,λ_=>⟨rfl,rfl,i,yR hb 11 rfl,_,σ,rfl⟩,π⟩
  rintro z V3 l3 rfl;refine ⟨rfl,λhz=>?_,λhz V5 l5=>(cu (h.le aA)).s ?_⟩
  ·subst hz;refine ⟨ω,N.le,N.cap,rfl,one8i,λsp c k1 k2 V4 f hle F G=>⟨f,_,n+1,c,F,λh=>Nk (G h),rfl,?_⟩⟩;exact (N.up aA).snoc rfl ra φ k1 k2
  ·rintro r V6 l6 rfl;subst hz;refine ⟨_,rfl,λ_ V7 f hle F G=>⟨f,vs,n,m,F,λh=>Nk (G h),rfl,?_⟩,π⟩;show GR 8 kn _ n m vs (o++[]);rw [ć];exact N.up aA
 | node ln a b iha ihb=>
  intro V q lv v s lb n m vs o h ha hl hv sz hw hx N D;have l:=hl;have E:=hv;obtain ⟨_,rfl,-,-,-⟩:=ŷ hl;obtain ⟨_,rfl,-,-⟩:=Ŷ hv;obtain ⟨p,a8,a9⟩:=ha;refine uC q _ _ _ _ _ _ _ _ _ _ _ _ _ _ _ _ _ k lb n m vs V _ hw hx ⟨λz _=>z=false,λV1 l1=>(cu (h.le l1)).s ?_,?_⟩
  ·rintro r V2 l2 rfl;exact ⟨_,rfl,π,λ_=>⟨_,σ,rfl⟩⟩
  rintro z V3 l3 rfl;refine ⟨rfl,π,λ_ V5 l5=>(cu (h.le aA)).s ?_⟩;rintro r V6 l6 rfl;have b0:=l3.m (l5.m l6);obtain ⟨O,u1,u2,u3,v1,v2,v3,w1,w2,w3,pl,pr,i,rfl,a6,C,b5,b6⟩:=h.le b0
  have d:∀{W:un},V6.Le W->∀j v,([Ô Ŵ u1,Ô Ŵ u2,qvJ u3,Ô Ŵ v1,Ô Ŵ v2,qvJ v3,Ô Ŵ w1,Ô Ŵ w2,qvJ w3,qvJ pl,qvJ pr,dB i]:zA um)[j]?=some v->W.at ((⟨O,0,none⟩:Addr).add j) v:=by intro W hW j v hv;rw [add_zero'];exact dM (xs:=[_,_,_,_,_,_,_,_,_,_,_,_]) (hW _ _ a6) hv
  have Q:=Ó.Le.refl V6;have hp:∀{W:un},V6.Le W->(∃a,af (some ⟨O,0,none⟩) 9=some a/\W.at a (qvJ pl))/\∃a,af (some ⟨O,0,none⟩) 10=some a/\W.at a (qvJ pr):=λhW=>⟨yR (hW _ _ a6) 9 rfl,yR (hW _ _ a6) 10 rfl⟩;refine ⟨_,rfl,π,λ_=>⟨λz _=>z=decide (ln=L/\e=true\/ln=Õ L/\e=false),⟨rfl,rfl,_,_,_,_,_,_,_,_,_,⟨O,0,none⟩,rfl,d Q 0 _ rfl,d Q 1 _ rfl,d Q 2 _ rfl,d Q 3 _ rfl,d Q 4 _ rfl,d Q 5 _ rfl,d Q 6 _ rfl,d Q 7 _ rfl,d Q 8 _ rfl,λV8 l8=>(tq (C.le l8) (l.le aA) p.iP hb.iP).s ?_⟩,?_⟩⟩
  ·rintro r V9 l9 rfl;have u:=l8.m l9;have rv:∀{P:ut->Prop},(decide (ln=Õ L)=true->P (decide (k<0)))->(decide (ln=Õ L)=false->P false)->P (decide (ln=Õ L)&&!e):=λa b=>by{cases g:decide (ln=Õ L);{exact b g};rw [h2] at a;exact a g};have eqv:∀{c:ut},(c=true->(ln=L/\e=true\/ln=Õ L/\e=false))->((ln=L/\e=true\/ln=Õ L/\e=false)->c=true)->c=decide (ln=L/\e=true\/ln=Õ L/\e=false):=λ{c} a b=>by{cases c;{exact (È λh=>by have:=b h;cases this).symm};exact (Ç (a rfl)).symm};refine ⟨_,rfl,λg=>⟨λgk=>⟨_,σ,?_⟩,λgk=>?_⟩,λg=>?_⟩;{rw [h1] at gk;exact eqv (λ_=>.inl ⟨Á g,gk⟩) λ_=>rfl};{rw [h1] at gk;refine ⟨rfl,rfl,_,_,_,_,_,_,_,_,_,⟨O,0,none⟩,rfl,d u 0 _ rfl,d u 1 _ rfl,d u 2 _ rfl,d u 3 _ rfl,d u 4 _ rfl,d u 5 _ rfl,d u 6 _ rfl,d u 7 _ rfl,d u 8 _ rfl,λfD d0=>(lC (l.le aA) hb.iP).s ?_⟩;rintro r eX dq Y;have N6:=Y;obtain ⟨_,rfl,-,-,-⟩:=ŷ Y;refine ⟨_,_,_,_,_,_,_,_,_,rfl,λgQ eJ=>(tq (C.le aA) (N6.le eJ) p.iP hb.iP.rev).s ?_⟩;rintro r ji fk rfl;refine ⟨_,rfl,λg2=>⟨_,σ,?_⟩,λg2=>⟨_,σ,?_⟩⟩;{rw [h2,show (!e)=true by rw [gk];rfl];exact eqv (λ_=>.inr ⟨Á g2,gk⟩) λ_=>rfl};exact eqv π λh=>(Â g2 (h.elim (λh=>by rw [gk] at h;exact nomatch h.2) λh=>h.1)).elim};refine ⟨rfl,rfl,_,_,_,_,_,_,_,_,_,⟨O,0,none⟩,rfl,d u 0 _ rfl,d u 1 _ rfl,d u 2 _ rfl,d u 3 _ rfl,d u 4 _ rfl,d u 5 _ rfl,d u 6 _ rfl,d u 7 _ rfl,d u 8 _ rfl,λlH iL=>(lC (l.le aA) hb.iP).s ?_⟩;rintro r mJ iE Y;have N6:=Y;obtain ⟨_,rfl,-,-,-⟩:=ŷ Y;refine ⟨_,_,_,_,_,_,_,_,_,rfl,λko gV=>(tq (C.le aA) (N6.le gV) p.iP hb.iP.rev).s ?_⟩;rintro r nk kf rfl;refine ⟨_,rfl,λg2=>⟨_,σ,?_⟩,λg2=>⟨_,σ,?_⟩⟩;{rw [h2];exact eqv (λh=>.inr ⟨Á g2,by simpa using h⟩) λh=>by{rcases h with h|h;exact Å h.1 (Â g);rw [h.2];rfl}};exact eqv π λh=>(h.elim (λh=>Â g h.1) λh=>Â g2 h.1).elim
  rintro z nq y rfl;have YR:=b0.m y;have I:=N.up YR
  have go:∀{lw:um},vQ V lw L->∀{R:Tr} {q':OA} {W:un} (f:Nat),nq.Le W->RT V6 q' R->(∀{V:un} {q:OA} {lv v:um} {s:Sp} {lb n m:Nat} {vs:zA um} {o:zA Sp},RT V q R->R.dG Bd->vQ V lv L->kn V v s->s.sz 100000 ->
    (vs≠[]->V.w.heap[lb]?=some (.cells vs.toArray 129 (0,0)))->(vs≠[]->V.X lb)->GR 8 kn V n m vs o->n+(bj L e R s).length<=1000000 ->
    À 196 #[qvJ q,lv,v,Ô Ŵ k,yG (mA lb m) n m] V λr V'=>∃(bm:Nat)(vm:zA um)(n' c':Nat),(vm≠[]->V'.w.heap[bm]?=some (.cells vm.toArray 129 (0,0)))/\(vm≠[]->V.w.heap.size<=bm\/(vs≠[]/\bm=lb)) /\
     r=yG (mA bm c') n' c'/\GR 8 kn (V'.aY (vm≠[]) bm) n' c' vm (o++bj L e R s))->R.dG Bd->∀{v':um} {s':Sp},kn W v' s'->s'.sz 100000->∀{n m:Nat} {vs:zA um} {o:zA Sp},(vs≠[]->W.w.heap[f]?=some (.cells vs.toArray 129 (0,0)))->(vs≠[]->W.H f)->GR 8 kn W n m vs o->n+(bj L e R s').length<=1000000 ->
    À 196 #[qvJ q',lw,v',Ô Ŵ k,yG (mA f m) n m] (W.au [vb vs W.w.heap.size f]) λr V'=>∃(bm:Nat)(vm:zA um)(n' c':Nat),(vm≠[]->V'.w.heap[bm]?=some (.cells vm.toArray 129 (0,0)))/\(vm≠[]->W.w.heap.size<=bm\/(vs≠[]/\bm=f)) /\
     r=yG (mA bm c') n' c'/\W.Le (V'.shut.aY (vm≠[]) bm)/\GR 8 kn (V'.shut.aY (vm≠[]) bm) n' c' vm (o++bj L e R s'):=by
   intro lw b7 R q' W f lW hq ih ha v' s' CF b8 n m vs o f1 f2 N D;refine (ih (V:=W.au [vb vs W.w.heap.size f]) (lb:=f) (RT.le (V:=V6) (V':=W.au _) (λb o h=>(y.m lW) b o h) hq) ha (vQ.le (V:=V) (V':=W.au _) b7 λb o h=>(YR.m lW) b o h) (kn.le (V:=W) (V':=W.au _) CF λb o h=>h) b8 f1 (λh=>⟨by simp [mB h],f2 h⟩) (N.s (V':=W.au _) λ_ _ g=>kn.le (V:=W) g λb o h=>h) D).s ?_;rintro r V' l' ⟨bm,vm,n',c',S,K,a3,T⟩;exact ⟨bm,vm,n',c',S,K,a3,Ve (V:=W) (V':=V') (λb o h=>l' b o h) λh=>(K h).imp id λ(g:vs≠[]/\bm=f)=>by rw [g.2];exact f2 g.1,T.s λ_ _ g=>kn.le g λb o h=>h⟩
  refine ⟨rfl,λc=>?_,λc=>?_⟩
  ·have c:=Á c;have eP:bj L e (.node ln a b) s=bj L e a s:=by{rw [bj,Ä c]};rw [eP] at D ⊢;refine ⟨rfl,rfl,pl,(hp y).1,λqM lD f f1 f2=>(go l f lD b5 iha a8 (E.le aA) sz f1 f2 (I.up lD) D).s ?_⟩;rintro r uJ kN ⟨bm,vm,n',c',S,K,rfl,a3,T⟩;exact ⟨bm,vm,S,K,none,n',c',rfl,λtM x hle F G=>⟨x,vm,n',c',F,λh=>Nk (G h),rfl,T.up hle⟩⟩
  have c:=Â c;refine ⟨rfl,rfl,_,_,_,_,_,_,_,_,_,⟨O,0,none⟩,rfl,d y 0 _ rfl,d y 1 _ rfl,d y 2 _ rfl,d y 3 _ rfl,d y 4 _ rfl,d y 5 _ rfl,d y 6 _ rfl,d y 7 _ rfl,d y 8 _ rfl,λvO oX=>(RH (C.le aA) (l.le aA) p hb).s ?_⟩;rintro r vP oY rfl;have J:=oX.m oY;have M:=y.m J;refine ⟨_,rfl,λc2=>?_,λc2=>?_⟩
  ·have c2:=Á c2;have eP:bj L e (.node ln a b) s=bj L e b s:=by{rw [bj,Ã c,Ä c2]};rw [eP] at D ⊢;refine ⟨rfl,rfl,pr,(hp M).2,λEL tO f f1 f2=>(go l f aA b6 ihb a9 (E.le aA) sz f1 f2 (I.up aA) D).s ?_⟩;rintro r Na qI ⟨bm,vm,n',c',S,K,rfl,a3,T⟩;exact ⟨bm,vm,S,K,none,n',c',rfl,λRk x hle F G=>⟨x,vm,n',c',F,λh=>Nk (G h),rfl,T.up hle⟩⟩
  have eP:bj L e (.node ln a b) s=(if cU L s ln=true then bj L e a (bH L s ln) else [])++(if cU L s (Õ ln)=true then bj L e b (bH L s (Õ ln)) else []):=by rw [bj,Ã c,Ã (Â c2)]
  rw [eP] at D ⊢;rw [í] at D;have sK:jg 100000 L:=hb.iP.up ω;refine ⟨rfl,rfl,_,_,_,_,_,_,_,_,_,⟨O,0,none⟩,rfl,d M 0 _ rfl,d M 1 _ rfl,d M 2 _ rfl,d M 3 _ rfl,d M 4 _ rfl,d M 5 _ rfl,d M 6 _ rfl,d M 7 _ rfl,d M 8 _ rfl,λXF CO=>(Kk (l.le aA) (E.le aA) (C.le aA) (k:=100000) sK sz (p.iP.up ω)).s ?_⟩;rintro r XG La ⟨w,rfl,gw⟩;have b9:=gw;obtain ⟨_,rfl,-,-⟩:=Ŷ gw;have U8:=J.m (CO.m La);have Z:=y.m U8;have a0:=I.up U8;refine ⟨_,_,_,_,_,_,_,_,_,rfl,λz V'=>GR 8 kn V' z.1 z.2.1 z.2.2 (o++(if cU L s ln=true then bj L e a (bH L s ln) else [])),⟨λb1=>?_,λb1=>?_⟩,?_⟩
  ·rw [Ä b1] at D ⊢;refine ⟨rfl,rfl,pl,(hp Z).1,λZ_ Iz f f1 f2=>(go l f aA b5 iha a8 (b9.le Iz) (Bz hb.iP p.iP sz ω) f1 f2 (a0.up Iz) ω).s ?_⟩;rintro r TD Nh ⟨bm,vm,n',c',S,K,rfl,a3,T⟩;exact ⟨bm,vm,S,K,none,n',c',rfl,(n',c',vm),σ,T⟩
  ·rw [Ã (by rw [b1];simp)];refine ⟨(n,m,vs),σ,?_⟩;rw [ć];exact a0
  rintro ⟨z1,z2,us⟩ d1 G_ hz;have zl:=hz.len;have ol:=N.len;rw [í] at zl;have U:=Z.m G_;refine ⟨rfl,rfl,rfl,_,_,_,_,_,_,_,_,_,⟨O,0,none⟩,rfl,d U 0 _ rfl,d U 1 _ rfl,d U 2 _ rfl,d U 3 _ rfl,d U 4 _ rfl,d U 5 _ rfl,d U 6 _ rfl,d U 7 _ rfl,d U 8 _ rfl,λd2 IA=>(lC (C.le aA) p.iP).s ?_⟩;rintro r TE Bp Y;have N6:=Y;obtain ⟨_,rfl,-,-,-⟩:=ŷ Y;have a7:=(U8.m G_).m (IA.m Bp);refine ⟨_,_,_,_,_,_,_,_,_,rfl,λd3 Lb=>(Kk (l.le aA) (E.le aA) (N6.le Lb) (k:=100000) sK sz (p.iP.rev.up ω)).s ?_⟩;rintro r d4 tP ⟨w,rfl,gw⟩;obtain ⟨_,rfl,-,-⟩:=Ŷ gw;have c9:=a7.m (Lb.m tP);have a5:=hz.up (IA.m (Bp.m (Lb.m tP)));refine ⟨_,_,_,_,_,_,_,_,_,rfl,λb2=>?_,λb2 d5 x hle F G=>⟨x,us,z1,z2,F,λh=>Nk (G h),rfl,?_⟩⟩
  ·rw [Ä b2] at D ⊢;refine ⟨rfl,rfl,pr,(hp aA).2,λd6 Ni f f1 f2=>(go l f aA b6 ihb a9 (gw.le Ni) (Bz hb.iP p.iP.rev sz ω) f1 f2 (a5.up Ni) ω).s ?_⟩;rintro r d7 Ql ⟨bm,vm,n',c',S,K,rfl,a3,T⟩;refine ⟨bm,vm,S,K,none,n',c',rfl,λd8 x hle F G=>⟨x,vm,n',c',F,λh=>Nk (G h),rfl,?_⟩⟩;rw [<-Ĝ];exact T.up hle
  ·rw [Ã (c:=cU L s (Õ ln)=true) (by rw [b2];simp),ć];exact a5.up hle
def PW {e:ut}{k:Int}(N:decide (k>0)=e)(O:decide (k<0)=!e)(M:Bd L){t:Tr}{s:Sp}(h:RT V q t)(Z:t.dG Bd)(hl:vQ V lv L)(hv:kn V v s)(hs:s.sz 100000)(hn:(bj L e t s).length<=1000000):À 196 #[qvJ q,lv,v,Ô Ŵ k,yG none 0 0] V λr W=>∃p n c,r=yG p n c/\bP 8 kn W p n (bj L e t s):=by
 have own:∀{f:FuncId} {args:Array um} {V:un} {R:um->un->Prop},À f args V R->À f args V λr W=>R r W/\∀b,V.w.heap.size<=b->¬W.H b:=λ{f args V R} h=>
  ⟨h.1,h.2.s λ_ C ⟨r,he,a,u⟩=>⟨r,he,a,u,λb M d=>Å (V.hH b d) ω⟩⟩
 refine (own (NC N O M t (lb:=0) (n:=0) (m:=0) (vs:=[]) (o:=[]) h Z hl hv hs (λh=>Å rfl h) (λh=>Å rfl h) GR.nil ω)).s ?_;rintro r V' l ⟨⟨y,D,E,F,z,A,rfl,i⟩,B⟩;have j:=i.len;rw [j];exact ⟨_,_,_,rfl,bP.bR (λh=>⟨B y ((A h).elim id λg=>Å rfl g.1),z h⟩) (i.row.le λ_ _ g=>kn.le g λx o a=>⟨λd=>a.1 (.inl d),a.2⟩) φ (by rw [<-j];exact i.le)⟩
def Cl (u:∀x∈P,Sz 1000000 x)(E:∀s∈l,s.good/\∀q,s.cT q->q∈P):∀s∈l,s.sz 1000000:=λs h=>by
 have ⟨g,e⟩:=E s h;refine ⟨?_,?_⟩
 ·cases y:s.a
  ·exact u _ (e _ (.inl ⟨y,rfl⟩))
  ·rw [g.1.1 y];exact DP _
 ·cases z:s.b
  ·exact u _ (e _ (.inr ⟨z,rfl⟩))
  ·rw [g.1.2 z];exact DP _
structure PE (L:L3) (P:List Rat) (t:Tr):Prop where
 crs:Crs L P t
 asc:asc P
 len:P.length<=30
 sz:∀x∈P,Sz 1000000 x
def oF (L:L3)(e:Bool)(t:Tr):List Sp:=Û 1 (bj L e t bW) []
def H2 {t:Tr}(h:RT V q t)(ha:t.dG Bd)(hl:vQ V lv L)(hb:Bd L)(hc:PE L P t)(so:∀i,i<=60->qQ i):À 138 #[qvJ q,lv] V λr W=>∃p n c p' n' c',r=å #[yG p n c,yG p' n' c']/\bP 8 kn W p n (oF L true t)/\bP 8 kn W p' n' (oF L false t):=by obtain ⟨_,rfl,-,-,-⟩:=ŷ hl;have o:∀W:un,kn W (hF #[Ô Ŵ 0,Ô Ŵ 0,qvJ none,Ô Ŵ 0,Ô Ŵ 0,qvJ none,dB true,dB true]) bW:=λW=>⟨0,0,none,0,0,none,rfl,RR.zero W,RR.zero W⟩;have u:=hc.len;have go:∀e:ut,(∀s∈bj L e t bW,s.good)/\(∀s∈bj L e t bW,s.sz 1000000)/\fe (bj L e t bW)<=60/\(bj L e t bW).length<=1000:=λe=>by{have ⟨a,b,c⟩:=QE (e:=e) hc.crs;exact ⟨λs h=>(a s h).1,Cl hc.sz a,ω,ω⟩};have join:∀(e:ut) {W:un} {p:OA} {n c:Nat},bP 8 kn W p n (bj L e t bW)->À 143 #[yG p n c] W λr W=>∃q m e',r=yG q m e'/\bP 8 kn W q m (oF L e t):=λe W p n c g=>by{have ⟨a,b,c,d⟩:=go e;exact B6 g a b d ω (so _ c)};refine Az V _ λM N=>c_All.s ?_;rintro r V2 O rfl;refine ⟨_,_,_,_,_,_,_,_,rfl,λQ R=>(PW (e:=true) rfl rfl hb (RT.le aA h) ha ra (o _) ⟨DP _,DP _⟩ (by have:=(go true).2.2.2;omega)).s ?_⟩;rintro r S T ⟨p,n,c,rfl,U⟩;refine ⟨p,n,c,rfl,λX Y=>(join true ra).s ?_⟩;rintro r v Z ⟨w,x,y,rfl,z⟩;refine ⟨w,x,y,rfl,λV7 A=>c_All.s ?_⟩;rintro r V8 B rfl;have j:=A.m B;refine ⟨_,_,_,_,_,_,_,_,rfl,λV9 l9=>(PW (e:=false) rfl rfl hb (RT.le aA h) ha ra (o _) ⟨DP _,DP _⟩ (by have:=(go false).2.2.2;omega)).s ?_⟩;rintro r fD C ⟨D,E,F,rfl,g3⟩;refine ⟨D,E,F,rfl,λeX dq=>(join false ra).s ?_⟩;rintro r G eJ ⟨H,I,J,rfl,g4⟩;have f:∀{k:un},G.Le k->v.Le k:=λl=>j.m aA;exact ⟨H,I,J,rfl,λk K=>⟨_,_,_,_,_,_,rfl,z.le (f K),ra⟩⟩
def wL {t:Tr}(u:PE L P t)(e:ut):vr (oF L e t)/\(∀s∈oF L e t,s.sz 1000000)/\fe (oF L e t)<=30/\(oF L e t).length<=1000:=by have f:=u.len;have ⟨a,b,c⟩:=QE (e:=e) u.crs;have r:vr (oF L e t):=comb_reg _ _ _;refine ⟨r,Cl u.sz λs d=>⟨r.1 s d,λq g=>oL u.crs q (fw.2 ⟨s,d,g⟩)⟩,ÿ (Wf u.crs u.asc) u.len,?_⟩;have:=Cj 1 (bj L e t bW) [];have h:fe ([]:zA Sp)=0:=rfl;unfold oF;omega
def Ug {t:Tr}(h:RT V q t)(Z:t.dG Bd)(N:vQ V lv L)(hb:Bd L)(M:PE L P t)(O:∀i,i<=60->qQ i):À 78 #[qvJ q,lv] V λr W=>∃p n c,r=yG p n c/\bP 8 kn W p n (uc L t):=by obtain ⟨_,rfl,-,-,-⟩:=ŷ N;refine Mq V _ λC f=>(H2 (h.le f) Z (N.le f) hb M O).s ?_;rintro r V2 D ⟨p,n,c,j,k,l,rfl,E,F⟩;have ⟨o,s1,f1,s⟩:=wL M true;have ⟨u,s2,f2,v⟩:=wL M false;refine qyJ ⟨rfl,λw G=>?_⟩;refine ae.s (R:=λr W=>∃q m e,r=yG q m e/\bP 8 kn W q m (uc L t)) ?_ ?_;{refine tY w _ λH I=>(KA (op:=3) (acc:=λx y=>x&&!y) (λt=>by simp [ĥ]) ra ra o.1 u.1 s1 s2 s v ω (O _ ω) λa b W=>(c_D1 a b W).s λr _ _ e=>by rw [e];simp [ĥ]).s ?_;rintro r z A ⟨q,m,e,rfl,g⟩;exact ⟨_,_,_,rfl,λB d=>⟨_,_,_,rfl,g.le d⟩⟩};rintro r z A ⟨q,m,e,rfl,g⟩;exact ⟨_,_,_,rfl,λB d=>⟨_,_,_,rfl,g.le d⟩⟩
def qP (V:Ó)(v:Value)(x:L3×Sp):Prop:=BG V v x.1 x.2
def LW {V:un}{xs:zA um}{x:L3×Sp}(h:qP V (.agg xs.toArray) x):∀v∈xs,v.oneCell'=true:=by obtain ⟨_,_,_,_,_,_,_,_,_,_,_,_,_,_,_,ex,-,-⟩:=h;have ex:=Æ Array.toList (Value.agg.inj ex);subst ex;intro v a;simp only [ç,ě,Ì] at a;rcases a with rfl|rfl|rfl|rfl|rfl|rfl|rfl|rfl|rfl|rfl|rfl|rfl|rfl|rfl|rfl|rfl|rfl<;>rfl
def gG:L3×Sp:=((0,0,0),⟨0,0,false,false⟩)
def uP (a b:L3×Sp):Int:=j9 a.1 b.1
def VT:Ŏ uP:=⟨λa b h=>VU.asy a.1 b.1 h,λa b d h c=>VU.tr a.1 b.1 d.1 h c⟩
def Ts (V:Ó)(v:Value)(c:L3×Sp):Prop:=BG V v c.1 c.2/\jg 10000 c.1
def Ts.le {V V':un}{c:L3×Sp}(h:Ts V v c)(l:V.Le V'):Ts V' v c:=⟨h.1.le l,h.2⟩
def Ts.shape {c:L3×Sp}(h:Ts V v c):∃(x y:Int)(p:OA)(u z:Int)(E:OA)(xc F:Int)(M:OA)(N O:Int)(pd:OA)(Z ye:Int)(pe:OA)(fa fb:ut),v=hF #[Ô Ŵ x,Ô Ŵ y,qvJ p,Ô Ŵ u,Ô Ŵ z,qvJ E,Ô Ŵ xc,Ô Ŵ F,qvJ M,Ô Ŵ N,Ô Ŵ O,qvJ pd,Ô Ŵ Z,Ô Ŵ ye,qvJ pe,dB fa,dB fb]:=by obtain ⟨⟨_,_,_,_,_,_,_,_,_,_,_,_,_,_,_,e,-⟩,-⟩:=h;exact ⟨_,_,_,_,_,_,_,_,_,_,_,_,_,_,_,_,_,e⟩
def pC {w:um}{a b:L3×Sp}(h:Ts V v a)(u:Ts V w b):À 142 #[v,w] V λr W=>r=Ô Ŵ (uP a b):=by obtain ⟨⟨_,_,_,_,_,_,_,_,_,_,_,_,_,_,_,rfl,f,-⟩,c⟩:=h;obtain ⟨⟨_,_,_,_,_,_,_,_,_,_,_,_,_,_,_,rfl,g,-⟩,d⟩:=u;refine yX V _ λi e=>(yi (f.le e) (g.le e) c.1 c.2.1 c.2.2 d.1 d.2.1 d.2.2).s ?_;rintro r V2 j rfl;rw [Lw];exact ⟨_,rfl,λk l=>rfl⟩
structure vR (V:Ó) (n:Nat) (vs:List Value) (l:List (L3×Sp)):Prop where
 row:è 17 Ts V vs l
 len:n=l.length
 kM:l.length<10000
def vR.le {V V':un}{l:zA (L3×Sp)}(h:vR V n vs l)(e:V.Le V'):vR V' n vs l:=⟨h.row.le λ_ _ g=>Ts.le g e,h.len,h.kM⟩
def vR.get {l:zA (L3×Sp)}(h:vR V n vs l){k:Nat}(hk:k<l.length):∃(x y:Int)(p:OA)(u z:Int)(E:OA)(xc F:Int)(M:OA)(N O:Int)(pd:OA)(Z ye:Int)(pe:OA)(fa fb:ut),((0+k*17)+17<=vs.length/\(vs.drop (0+k*17)).take 17=[Ô Ŵ x,Ô Ŵ y,qvJ p,Ô Ŵ u,Ô Ŵ z,qvJ E,Ô Ŵ xc,Ô Ŵ F,qvJ M,Ô Ŵ N,Ô Ŵ O,qvJ pd,Ô Ŵ Z,Ô Ŵ ye,qvJ pe,dB fa,dB fb])/\Ts V (hF #[Ô Ŵ x,Ô Ŵ y,qvJ p,Ô Ŵ u,Ô Ŵ z,qvJ E,Ô Ŵ xc,Ô Ŵ F,qvJ M,Ô Ŵ N,Ô Ŵ O,qvJ pd,Ô Ŵ Z,Ô Ŵ ye,qvJ pe,dB fa,dB fb]) (l.getD k gG):=by obtain ⟨xs,-,a,b,c⟩:=h.row.get (d:=gG) hk φ;obtain ⟨x,y,p,u,z,E,xc,F,M,N,O,pd,Z,ye,pe,fa,fb,e⟩:=a.shape;have e:=Æ Array.toList (Value.agg.inj e);dsimp only at e;subst e;rw [ĉ];exact ⟨x,y,p,u,z,E,xc,F,M,N,O,pd,Z,ye,pe,fa,fb,⟨b,c⟩,a⟩
def vR.swap {l:zA (L3×Sp)}(h:vR V n vs l){i j:Nat}(hi:i<l.length)(hj:j<l.length){x y:Int}{xb yb:Int}{pb:OA}{xc yc:Int}{pc:OA}{xd yd:Int}{pd:OA}{xe ye:Int}{pe:OA}{fa fb:ut}{x' y':Int}{p':OA}{u z:Int}{E:OA}{ZV F:Int}{M:OA}{N O:Int}{Z:OA}{xe' ye':Int}{pe':OA}{fa' fb':ut}(h1:Ts V (hF #[Ô Ŵ x,Ô Ŵ y,qvJ p,Ô Ŵ xb,Ô Ŵ yb,qvJ pb,Ô Ŵ xc,Ô Ŵ yc,qvJ pc,Ô Ŵ xd,Ô Ŵ yd,qvJ pd,Ô Ŵ xe,Ô Ŵ ye,qvJ pe,dB fa,dB fb]) (l.getD i gG))(h2:Ts V (hF #[Ô Ŵ x',Ô Ŵ y',qvJ p',Ô Ŵ u,Ô Ŵ z,qvJ E,Ô Ŵ ZV,Ô Ŵ F,qvJ M,Ô Ŵ N,Ô Ŵ O,qvJ Z,Ô Ŵ xe',Ô Ŵ ye',qvJ pe',dB fa',dB fb']) (l.getD j gG)):(0+i*17)+17<=vs.length/\(0+j*17)+17<=(bI vs (0+i*17) [Ô Ŵ x',Ô Ŵ y',qvJ p',Ô Ŵ u,Ô Ŵ z,qvJ E,Ô Ŵ ZV,Ô Ŵ F,qvJ M,Ô Ŵ N,Ô Ŵ O,qvJ Z,Ô Ŵ xe',Ô Ŵ ye',qvJ pe',dB fa',dB fb']).length/\vR V n (bI (bI vs (0+i*17) [Ô Ŵ x',Ô Ŵ y',qvJ p',Ô Ŵ u,Ô Ŵ z,qvJ E,Ô Ŵ ZV,Ô Ŵ F,qvJ M,Ô Ŵ N,Ô Ŵ O,qvJ Z,Ô Ŵ xe',Ô Ŵ ye',qvJ pe',dB fa',dB fb']) (0+j*17) [Ô Ŵ x,Ô Ŵ y,qvJ p,Ô Ŵ xb,Ô Ŵ yb,qvJ pb,Ô Ŵ xc,Ô Ŵ yc,qvJ pc,Ô Ŵ xd,Ô Ŵ yd,qvJ pd,Ô Ŵ xe,Ô Ŵ ye,qvJ pe,dB fa,dB fb]) (Jm gG l i j):=by obtain ⟨-,-,-,a,-⟩:=h.row.get (d:=gG) hi φ;obtain ⟨-,-,-,b,-⟩:=h.row.get (d:=gG) hj φ;rw [ĉ,ĉ];refine ⟨a,by rw [r_ (by exact a)];exact b,h.row.swap hi hj φ rfl rfl h1 h2,by rw [Jn];exact h.len,by rw [Jn];exact h.kM⟩
def Nn (lb n:Nat)(l:List (L3×Sp))(a b:Nat)(V':Ó)(Q:List (L3×Sp)->Prop):Prop:=∃u l',V'.w.heap[lb]?=some (.cells u.toArray 131 (0,0))/\vR V' n u l'/\uI gG l l' a b/\Q l'
def n_ {V:un}{lb:Nat}{l:zA (L3×Sp)}(hw:V.w.heap[lb]?=some (.cells vs.toArray 131 (0,0)))(hx:V.X lb)(h:vR V n vs l){a b:Nat}(hab:a<=b)(hb:b<=l.length:=by omega):À 250 #[yG (some ⟨lb,0,none⟩) n c,Ô Ŵ a,Ô Ŵ b,.func (.func 142) #[] #[]] V λr W=>r=å #[]/\Nn lb n l a b W λl'=>qo uP gG l' a b:=by
 have kM:=h.kM;have len:=h.len;have wa:Ŵ.wrap ((a:Int)+1)=((a+1:Nat):Int):=by rw [ay ω];omega
 refine jf lb n c vs a b V _ hw hx ⟨λz V'=>∃(i:Nat)(m:zA (L3×Sp)),z.1=(i:Int)/\a<i/\(i<=b\/i=a+1)/\vR V' n z.2 m/\uI gG l m a b/\qo uP gG m a i,λz=>(b-z.1).toNat,
  ⟨(_,vs),σ,a+1,l,wa,ω,.inr rfl,h,.refl _ _ _,.short ω⟩,?_⟩
 rintro ⟨z,us⟩ V1 l1 ⟨i,m,e,a0,q,g,d,o⟩;dsimp only at e g;subst e;dsimp only;have ml:=d.len;refine ⟨rfl,λf=>?_,λf V6 l6 S=>⟨rfl,us,m,S,ra,d,?_⟩⟩
 ·have f:=Á f;have w2:Ŵ.wrap ((i:Int)+1)=((i+1:Nat):Int):=by rw [ay ω];omega
  rw [w2];refine ⟨λz V'=>∃(j:Nat)(k:zA (L3×Sp)),z.1=(j:Int)/\a<=j/\j<=i/\vR V' n z.2 k/\uI gG l k a b/\Z3 uP gG k a i j,λz=>z.1.toNat,⟨((i:Int),us),σ,i,m,rfl,ω,Ù _,g,d,.start o⟩,?_⟩;rintro ⟨z,ws⟩ V2 l2 ⟨j,k,e,a1,Q,g,d,p⟩;dsimp only at e g;subst e;dsimp only;have kl:=d.len;refine ⟨rfl,λz V'=>V2.Le V'/\(z=true->a<j/\uP (k.getD j gG) (k.getD (j-1) gG)<0)/\(z=false->j<=a\/¬uP (k.getD j gG) (k.getD (j-1) gG)<0),⟨λs=>?_,λs=>?_⟩,?_⟩
  ·have s:=Á s;have T:Ŵ.wrap ((j:Int)-1)=((j-1:Nat):Int):=ŵ;rw [T,Ý,Ý];obtain ⟨U,W,Y,Z,M8,LB,Xz,XA,u,v,x,y,A,B,C,D,E,g1,r1⟩:=g.get (k:=j) ω;have ⟨x2,y2,p2,Xd,Xf,Wb,F,G,H,I,J,K,L,M,N,O,P,g2,r2⟩:=g.get (k:=j-1) ω;refine ⟨ų,U,W,Y,Z,M8,LB,Xz,XA,u,v,x,y,A,B,C,D,E,g1,ų,x2,y2,p2,Xd,Xf,Wb,F,G,H,I,J,K,L,M,N,O,P,g2,λV3 l3=>(pC ra ra).s λr V4 l4 rfl=>⟨_,rfl,_,σ,l3.m l4,λh=>⟨ω,Á h⟩,λh=>.inr (Â h)⟩⟩
  ·have s:=Â s;exact ⟨false,σ,Ó.Le.refl _,π,λ_=>.inl ω⟩
  ·rintro t V5 l5 ⟨lv,t1,t2⟩;refine ⟨rfl,λht=>?_,λht=>⟨(((i+1:Nat):Int),ws),ω,σ,i+1,k,rfl,ω,.inl ω,ra,d,p.done VT Q (t2 ht)⟩⟩;have ⟨s,R⟩:=t1 ht;have T:Ŵ.wrap ((j:Int)-1)=((j-1:Nat):Int):=by rw [ay ω];omega
   rw [T,Ý,Ý];obtain ⟨U,W,Y,Z,M8,LB,Xz,XA,u,v,x,y,A,B,C,D,E,g1,r1⟩:=(g.le l5).get (k:=j) ω;obtain ⟨x2,y2,p2,Xd,Xf,Wb,F,G,H,I,J,K,L,M,N,O,P,g2,r2⟩:=(g.le l5).get (k:=j-1) ω;obtain ⟨s1,s2,s3⟩:=(g.le l5).swap (i:=j) (j:=j-1) ω ω r1 r2
   exact ⟨ų,x2,y2,p2,Xd,Xf,Wb,F,G,H,I,J,K,L,M,N,O,P,g2,ų,U,W,Y,Z,M8,LB,Xz,XA,u,v,x,y,A,B,C,D,E,g1,ų,s1,ų,s2,(((j-1:Nat):Int),_),ω,σ,j-1,_,rfl,ω,ω,s3,
    d.m (uI.Jm ω ω ω ω),p.move VT s Q ω R⟩
 ·have f:=Â f;rcases q with q|q;{rw [show b=i by omega];exact o};exact .short ω
end Go.Proofs.Tryz
namespace Go.Proofs.Tryz
section
variable{α:Type}{c:α->α->Int}{d:α}
structure EG (d:α) (l l':List α) (s m e:Nat):Prop where
 qN:uI d l l' s e
 lo:∀k,s<=k->k+m<s+e->l'.getD k d=l.getD (k+m-s) d
 hi:∀k,s+e<=k+m->k<e->l'.getD k d=l.getD (k+m-e) d
def EG.nil1 {l:zA α}{m e:Nat}:EG d l l m m e:=⟨.refl _ _ _,λk _ _=>by rw [Qc9],λk h a=>ω⟩
def EG.nil2 {l:zA α}{s m:Nat}:EG d l l s m m:=⟨.refl _ _ _,λk h a=>ω,λk _ _=>by rw [Qc9]⟩
structure Xo (d:α) (l l':List α) (a b n:Nat):Prop where
 qN:uI d l l' a (b+n)
 e1:∀k,k<n->l'.getD (a+k) d=l.getD (b+k) d
 e2:∀k,k<n->l'.getD (b+k) d=l.getD (a+k) d
 out:∀k,¬(a<=k/\k<a+n)->¬(b<=k/\k<b+n)->l'.getD k d=l.getD k d
def Xo.nil {l:zA α}{a b:Nat}:Xo d l l a b 0:=⟨.refl _ _ _,λk h=>ω,λk h=>ω,λ_ _ _=>rfl⟩
def Xo.snoc {l m:zA α}{a b n:Nat}(h:Xo d l m a b n)(u:a+n<b)(y:b+n<l.length):Xo d l (Jm d m (a+n) (b+n)) a b (n+1):=by have len:=h.qN.len;have e:=λk=>yU (d:=d) (l:=m) (i:=a+n) (j:=b+n) (k:=k) ω;refine ⟨(h.qN.wide (Ù _) ω).m (uI.Jm ω ω ω ω),λk f=>?_,λk f=>?_,λk g o=>?_⟩;{rw [e,Ã ω];by_cases c:k=n;{subst c;rw [Ä rfl];exact h.out _ ω ω};rw [Ã ω];exact h.e1 k ω};{rw [e];by_cases c:k=n;{subst c;rw [Ä rfl];exact h.out _ ω ω};rw [Ã ω,Ã ω];exact h.e2 k ω};rw [e,Ã ω,Ã ω];exact h.out _ ω ω
def rot_eq {l l':zA α}{m i:Nat}(hi:i<=m)(h:Xo d l l' (m-i) m i):EG d l l' (m-i) m (m+i):=by refine ⟨h.qN,λk a b=>?_,λk a b=>?_⟩;{have:=h.e1 (k-(m-i)) ω;rwa [show m-i+(k-(m-i))=k by omega,show m+(k-(m-i))=k+m-(m-i) by omega] at this};{have:=h.e2 (k-m) ω;rwa [show m+(k-m)=k by omega,show m-i+(k-m)=k+m-(m+i) by omega] at this}
def rot_gt {l n l':zA α}{m i j:Nat}(hi:i<=m)(u:j<i)(h:Xo d l n (m-i) m j)(g:EG d n l' (m-(i-j)) m (m+j)):EG d l l' (m-i) m (m+j):=by refine ⟨h.qN.m (g.qN.wide ω ω),λk b a=>?_,λk b a=>?_⟩;{have:=h.e1 (k-(m-i)) ω;rw [show m-i+(k-(m-i))=k by omega,show m+(k-(m-i))=k+m-(m-i) by omega] at this;rw [<-this];exact g.qN.out k ω};by_cases c:k+m<m-(i-j)+(m+j);{rw [g.lo k ω c];have:=h.e2 (k+m-(m-(i-j))-m) ω;rw [show m+(k+m-(m-(i-j))-m)=k+m-(m-(i-j)) by omega] at this;rw [this];congr 1;omega};rw [g.hi k ω a];exact h.out _ ω ω
def rot_lt {l n l':zA α}{m i j:Nat}(hi:i<=m)(u:i<j)(h:Xo d l n (m-i) (m+j-i) i)(g:EG d n l' (m-i) m (m+(j-i))):EG d l l' (m-i) m (m+j):=by have s:=h.qN;rw [show m+j-i+i=m+j by omega] at s;refine ⟨s.m (g.qN.wide ω ω),λk a b=>?_,λk a b=>?_⟩;{by_cases c:k+m<m-i+(m+(j-i));{rw [g.lo k a c];exact h.out _ ω ω};by_cases e:k<m+(j-i);{rw [g.hi k ω e];have:=h.e1 (k+m-(m+(j-i))-(m-i)) ω;rw [show m-i+(k+m-(m+(j-i))-(m-i))=k+m-(m+(j-i)) by omega] at this;rw [this];congr 1;omega};exfalso;omega};rw [g.qN.out k ω];have:=h.e2 (k-(m+j-i)) ω;rw [show m+j-i+(k-(m+j-i))=k by omega] at this;rw [this];congr 1;omega
def HR {l l':zA α}{a s m e b:Nat}(F:a<=s)(M:s<=m)(N:m<=e)(O:e<=b)(r:EG d l l' s m e)(u:qo c d l a m)(v:qo c d l m b)(z:∀x y,a<=x->x<s->e<=y->y<b->¬c (l.getD y d) (l.getD x d)<0)(E:∀x y,s<=x->x<m->m<=y->y<e->¬c (l.getD x d) (l.getD y d)<0):(∀p q,a<=p->p+m<s+e->s+e<=q+m->q<b->¬c (l'.getD q d) (l'.getD p d)<0)/\qo c d l' a s/\(∀p q,s<=p->p<q->q+m<s+e->¬c (l'.getD q d) (l'.getD p d)<0)/\(∀p q,s+e<=p+m->p<q->q<e->¬c (l'.getD q d) (l'.getD p d)<0)/\qo c d l' e b:=by have o:=λk (h:¬(s<=k/\k<e))=>r.qN.out k h;refine ⟨λp q f g n t=>?_,λp q f g i=>?_,λp q f g i=>?_,λp q f g i=>?_,λp q f g i=>?_⟩;{by_cases w:p<s;{rw [o p ω];by_cases j:q<e;{rw [r.hi q n j];exact u _ _ f ω ω};rw [o q ω];exact z _ _ f w ω t};rw [r.lo p ω g];by_cases j:q<e;{rw [r.hi q n j];exact E _ _ ω ω ω ω};rw [o q ω];exact v _ _ ω ω t};{rw [o p ω,o q ω];exact u _ _ f g ω};{rw [r.lo p f ω,r.lo q ω i];exact v _ _ ω ω ω};{rw [r.hi p f ω,r.hi q ω i];exact u _ _ ω ω ω};rw [o p ω,o q ω];exact v _ _ ω g i
def asc_up {l l':zA α}{a e b:Nat}(z:a+1<=e)(E:e<=b)(r:EG d l l' a (a+1) e)(v:qo c d l (a+1) b)(F:∀y,a+1<=y->y<e->c (l.getD y d) (l.getD a d)<0)(M:∀y,e<=y->y<b->¬c (l.getD y d) (l.getD a d)<0)(N:Ŏ c):qo c d l' a b:=by obtain ⟨t1,-,t2,t3,t4⟩:=HR (a:=a) (Ù _) (Ww7 _) z E r (.short (Ù _)) v (λx y h o=>ω) λx y s t k m=>by{obtain rfl:x=a:=ω;exact N.asy _ _ (F y k m)};intro p q g i f;by_cases u:p+1<e;{by_cases j:q+1<e;{exact t2 p q g i ω};exact t1 p q g ω ω f};by_cases j:p<e;{have n:=r.hi p ω j;rw [n,show p+(a+1)-e=a by omega,r.qN.out q ω];exact M q ω f};exact t4 p q ω i f
def TS {l l':zA α}{a s m:Nat}(z:a<=s)(E:s<=m)(r:EG d l l' s m (m+1))(u:qo c d l a m)(F:∀x,s<=x->x<m->c (l.getD m d) (l.getD x d)<0)(M:∀x,a<=x->x<s->¬c (l.getD m d) (l.getD x d)<0)(N:Ŏ c):qo c d l' a (m+1):=by obtain ⟨t1,t2,-,t4,-⟩:=HR (b:=m+1) z E (Ww7 _) (Ù _) r u (.short (Ù _)) (λx y _ _ h t=>ω) λx y j k v w=>by{obtain rfl:y=m:=ω;exact N.asy _ _ (F x j k)};intro p q e f g;by_cases n:p<s;{by_cases i:q<s;{exact t2 p q e f i};by_cases o:q=s;{subst o;rw [r.lo q (Ù _) ω,r.qN.out p ω,show q+m-q=m by omega];exact M p e n};exact t1 p q e ω ω g};by_cases i:p=s;{exact t1 p q e ω ω g};exact t4 p q ω f ω
def PM {l y z:zA α}{a m b:Nat}(h:∀p q,a<=p->p<m->m<=q->q<b->¬c (l.getD q d) (l.getD p d)<0)(s1:uI d l y a m)(u:qo c d y a m)(s2:uI d y z m b)(v:qo c d z m b):qo c d z a b:=by intro p q f g j;by_cases n:q<m;{rw [s2.out p ω,s2.out q ω];exact u p q f g n};by_cases o:p<m;{have ⟨k,r,s,e⟩:=s2.mem q ω j;have ⟨i,i1,i2,t⟩:=s1.mem p f o;rw [e,s1.out k ω,s2.out p ω,t];exact h i k i1 i2 r s};exact v p q ω g j
def qo.qN {l m:zA α}{a b x y:Nat}(h:qo c d l x y)(s:uI d l m a b)(o:y<=a\/b<=x):qo c d m x y:=λp q e f g=>by
 rw [s.out p ω,s.out q ω];exact h p q e f g
def qo.sub {l:zA α}{a b x y:Nat}(h:qo c d l a b)(u:a<=x)(z:y<=b):qo c d l x y:=λp q f e g=>h p q ω e ω
def rot_up {l g:zA α}{a k:Nat}(h:EG d l g a (a+1) (k+1))(hak:a<=k)(u:k+1<l.length:=by omega):EG d l (Jm d g k (k+1)) a (a+1) (k+2):=by have len:=h.qN.len;have e:=λi=>yU (d:=d) (l:=g) (i:=k) (j:=k+1) (k:=i) ω;refine ⟨(h.qN.wide (Ù _) ω).m (uI.Jm ω ω ω ω),λi b f=>?_,λi b f=>?_⟩;{rw [e,Ã ω];by_cases c:i=k;{rw [Ä c,h.qN.out _ ω];congr 1;omega};rw [Ã c];exact h.lo i b ω};rw [e,Ä ω,h.hi k ω ω];congr 1;omega
def Wu {l g:zA α}{k m:Nat}(h:EG d l g k m (m+1))(u:0<k)(y:k<=m)(hm:m<l.length:=by omega):EG d l (Jm d g k (k-1)) (k-1) m (m+1):=by have len:=h.qN.len;have e:=λi=>yU (d:=d) (l:=g) (i:=k) (j:=k-1) (k:=i) ω;refine ⟨(h.qN.wide ω (Ù _)).m (uI.Jm ω ω ω ω),λi c a=>?_,λi c a=>?_⟩;{rw [e,Ä ω,h.lo k ω ω];congr 1;omega};rw [e,Ã ω];by_cases b:i=k;{rw [Ä b,h.qN.out _ ω];congr 1;omega};rw [Ã b];exact h.hi i ω a
def qo.le {l:zA α}{a b:Nat}(h:qo c d l a b)(u:Ŏ c){x y:Nat}(z:a<=x)(F:x<=y)(E:y<b):¬c (l.getD y d) (l.getD x d)<0:=by by_cases e:x=y;{subst e;exact u.refl _};exact h x y z ω E
def Xj (c:α->α->Int)(d:α)(l:List α)(B q:Nat):Prop:=∀p,p<q->qo c d l (p*B) ((p+1)*B)
def Blk (c:α->α->Int)(d:α)(l:List α)(B n:Nat):Prop:=∀p,qo c d l (p*B) (min ((p+1)*B) n)
def Xj.qN {l m:zA α}{B q e:Nat}(h:Xj c d l B q)(s:uI d l m (q*B) e):Xj c d m B q:=λp a=>(h p a).qN s (.inl (Ă B a))
def Xj.snoc {l m:zA α}{B q e:Nat}(h:Xj c d l B q)(s:uI d l m (q*B) e)(a:qo c d m (q*B) (q*B+B)):Xj c d m B (q+1):=λp b=>by
 by_cases e:p=q
 ·subst e;rw [Đ,Ō];exact a
 ·exact h.qN s p ω
def Xj.bo {l m:zA α}{B q n:Nat}(h:Xj c d l B q)(s:uI d l m (q*B) n)(a:qo c d m (q*B) n)(u:n<=q*B+B):Blk c d m B n:=λp=>by
 rcases Nat.lt_trichotomy p q with g|rfl|g
 ·exact (h.qN s p g).sub (Ù _) (Wv3 _ _)
 ·exact a.sub (Ù _) (Nat.min_le_right _ _)
 ·have:=Ă B g;rw [Ş] at this;exact .short ω
end
end Go.Proofs.Tryz
namespace Go.Proofs.Tryz
open Go.Eng Go.Big
variable{c lb n:Nat}{vs:List Value}
def pN {V:un}{l:zA (L3×Sp)}(hw:V.w.heap[lb]?=some (.cells vs.toArray 131 (0,0)))(E:V.X lb)(h:vR V n vs l){a b k:Nat}(hab:a+k<=b)(M:b+k<=l.length:=by omega):À 308 #[yG (some ⟨lb,0,none⟩) n c,Ô Ŵ a,Ô Ŵ b,Ô Ŵ k,.func (.func 142) #[] #[]] V λr W=>r=å #[]/\∃F l',W.w.heap[lb]?=some (.cells F.toArray 131 (0,0))/\vR W n F l'/\Xo gG l l' a b k:=by have kM:=h.kM;have len:=h.len;refine kK lb n c vs a b k V _ hw E ⟨λz V'=>∃(i:Nat)(m:zA (L3×Sp)),z.1=(i:Int)/\i<=k/\vR V' n z.2 m/\Xo gG l m a b i,λz=>(k-z.1).toNat,⟨(0,vs),σ,0,l,rfl,ä _,h,.nil⟩,?_⟩;rintro ⟨z,us⟩ x y ⟨i,m,e,A,f,E⟩;dsimp only at e f;subst e;dsimp only;have B:=E.qN.len;refine ⟨rfl,λd=>?_,λd C D g=>⟨rfl,us,m,g,ra,?_⟩⟩;{have d:(i:Int)<k:=Á d;have o:Ŵ.wrap ((a:Int)+i)=((a+i:Nat):Int):=ŵ;have p:Ŵ.wrap ((b:Int)+i)=((b+i:Nat):Int):=ŵ;have q:Ŵ.wrap ((i:Int)+1)=((i+1:Nat):Int):=ŵ;rw [o,p,q,Ý,Ý];have ⟨_,_,_,_,_,_,_,_,_,_,_,_,_,_,_,_,_,s,t⟩:=f.get (k:=b+i) ω;have ⟨_,_,_,_,_,_,_,_,_,_,_,_,_,_,_,_,_,u,v⟩:=f.get (k:=a+i) ω;obtain ⟨s1,s2,s3⟩:=f.swap (i:=a+i) (j:=b+i) ω ω v t;exact ⟨ų,_,_,_,_,_,_,_,_,_,_,_,_,_,_,_,_,_,s,ų,_,_,_,_,_,_,_,_,_,_,_,_,_,_,_,_,_,u,ų,s1,ų,s2,(((i+1:Nat):Int),_),ω,σ,i+1,_,rfl,ω,s3,E.snoc ω ω⟩};have d:¬(i:Int)<k:=Â d;obtain rfl:i=k:=ω;exact E
def R4 {V:un}{l:zA (L3×Sp)}(hw:V.w.heap[lb]?=some (.cells vs.toArray 131 (0,0)))(hx:V.X lb)(h:vR V n vs l){a m b:Nat}(ham:a<m)(hmb:m<b)(hb:b<=l.length:=by omega):À 286 #[yG (some ⟨lb,0,none⟩) n c,Ô Ŵ a,Ô Ŵ m,Ô Ŵ b,.func (.func 142) #[] #[]] V λr W=>r=å #[]/\∃vs' l',W.w.heap[lb]?=some (.cells vs'.toArray 131 (0,0))/\vR W n vs' l'/\EG gG l l' a m b:=by
 have kM:=h.kM;have len:=h.len;have L:Ŵ.wrap ((m:Int)-a)=((m-a:Nat):Int):=by rw [ay ω];omega
 have M:Ŵ.wrap ((b:Int)-m)=((b-m:Nat):Int):=by rw [ay ω];omega
 refine mH lb n c vs a m b V _ hw hx ⟨λz V'=>∃(i j:Nat)(g:zA (L3×Sp)),z.1=(i:Int)/\z.2.1=(j:Int)/\0<i/\0<j/\a+i<=m/\m+j<=b/\vR V' n z.2.2 g/\g.length=l.length/\∀l',EG gG g l' (m-i) m (m+j)->EG gG l l' a m b,λz=>(z.1+z.2.1).toNat,
  ⟨(_,_,vs),σ,m-a,b-m,l,L,M,ω,ω,ω,ω,h,rfl,λl' h=>by rwa [show m-(m-a)=a by omega,show m+(b-m)=b by omega] at h⟩,?_⟩
 rintro ⟨T,U,us⟩ W Y ⟨i,j,g,G,H,N,O,y,A,x,I,B⟩;dsimp only at G H x;subst G H;dsimp only;have P:Ŵ.wrap ((m:Int)-i)=((m-i:Nat):Int):=by rw [ay ω];omega
 have Q:Ŵ.wrap ((m:Int)+j)=((m+j:Nat):Int):=by rw [ay ω];omega
 have R:Ŵ.wrap (((m+j:Nat):Int)-i)=((m+j-i:Nat):Int):=by rw [ay ω];omega
 rw [P,Q,R];refine ⟨rfl,λC=>⟨λf V2 q s t u=>?_,λf V2 q s t u=>?_⟩,λheq V2 q s t u=>?_⟩
 ·have f:(i:Int)>j:=Á f;have D:Ŵ.wrap ((i:Int)-j)=((i-j:Nat):Int):=by rw [ay ω];omega
  refine (pN (V:=V2.au [s]) t ⟨ψ,u⟩ (x.le λb o h=>q b o h) (a:=m-i) (b:=m) (k:=j) ω).s λr J K ⟨rfl,ws,k,v,p,d⟩=>⟨rfl,ws,v,(((i-j:Nat):Int),(j:Int),ws),ω,by and_intros<;>first|rfl|exact D,i-j,j,k,rfl,rfl,ω,O,ω,A,p.le λb o h=>h,d.qN.len.m I,λl' h=>B l' (rot_gt ω ω d h)⟩
 ·have f:¬(i:Int)>j:=Â f;have E:i≠j:=λe=>by subst e;simp at C
  have D:Ŵ.wrap ((j:Int)-i)=((j-i:Nat):Int):=by rw [ay ω];omega
  refine (pN (V:=V2.au [s]) t ⟨ψ,u⟩ (x.le λb o h=>q b o h) (a:=m-i) (b:=m+j-i) (k:=i) ω).s λr J K ⟨rfl,ws,k,v,p,d⟩=>⟨rfl,ws,v,((i:Int),((j-i:Nat):Int),ws),ω,by and_intros<;>first|rfl|exact D,i,j-i,k,rfl,rfl,N,ω,y,ω,p.le λb o h=>h,d.qN.len.m I,λl' h=>B l' (rot_lt ω ω d h)⟩
 ·have E:(i:Int)=j:=by{simpa using heq};obtain rfl:i=j:=ω;refine (pN (V:=V2.au [s]) t ⟨ψ,u⟩ (x.le λb o h=>q b o h) (a:=m-i) (b:=m) (k:=i) ω).s λr J K ⟨rfl,ws,k,v,p,d⟩=>⟨rfl,ws,v,λZ S F=>⟨rfl,ws,k,F,p.le λb o h=>S b o h,B k (rot_eq ω d)⟩⟩
def It {x y:Nat}(h:x+y<2^62:=by omega):Ŵ.wrap ((u64.wrap (Ŵ.wrap ((x:Int)+y))).fdiv (2^1))=(((x+y)/2:Nat):Int):=by have e:(x:Int)+y=((x+y:Nat):Int):=ω;rw [e,ay (x:=((x+y:Nat):Int)) ω,bw ω,kd,ay ω]
set_option maxHeartbeats 4000000 in
def mP:∀(N:Nat) {V:un} {lb n c:Nat} {vs:zA um} {l:zA (L3×Sp)},V.w.heap[lb]?=some (.cells vs.toArray 131 (0,0))->V.X lb->vR V n vs l->∀{a m b:Nat},b<=a+N->a<m->m<b->b<=l.length->qo uP gG l a m->qo uP gG l m b ->À 251 #[yG (some ⟨lb,0,none⟩) n c,Ô Ŵ a,Ô Ŵ m,Ô Ŵ b,.func (.func 142) #[] #[]] V λr W=>r=å #[]/\Nn lb n l a b W λl'=>qo uP gG l' a b
 | 0,_,_,_,_,_,_,_,_,_,a,m,b,h1,h2,h3,_,_,_=>ω
 | N+1,V,lb,n,c,vs,l,hw,hx,h,a,m,b,hN,ham,hmb,hb,ua,ub=>by
  have kM:=h.kM;have len:=h.len;have f:=VT;have a5:Ŵ.wrap ((m:Int)-a)=((m-a:Nat):Int):=by rw [ay ω];omega
  have a6:Ŵ.wrap ((b:Int)-m)=((b-m:Nat):Int):=by rw [ay ω];omega
  have Q:Ŵ.wrap ((u64.wrap (Ŵ.wrap ((a:Int)+b))).fdiv (2^1))=(((a+b)/2:Nat):Int):=It;have hM:a<(a+b)/2/\(a+b)/2<b/\a+b<2*((a+b)/2)+2/\2*((a+b)/2)<a+b+1:=ω
  generalize (a+b)/2=mid at *;have wn:Ŵ.wrap ((mid:Int)+m)=((mid+m:Nat):Int):=by rw [ay ω];omega
  have wp:Ŵ.wrap (((mid+m:Nat):Int)-1)=((mid+m-1:Nat):Int):=by rw [ay ω];omega
  refine lr lb n c vs a m b V _ hw hx ?_;rw [a5,a6,Q,wn,wp];refine ⟨λc1=>?_,λc1=>⟨λc2=>?_,λc2=>⟨φ,?_⟩⟩⟩
  ·
   obtain rfl:m=a+1:=by have:=Ê c1;omega
   refine ⟨λz V'=>∃i j:Nat,z.1=(i:Int)/\z.2=(j:Int)/\a+1<=i/\i<=j/\j<=b/\(∀y,a+1<=y->y<i->uP (l.getD y gG) (l.getD a gG)<0)/\∀y,j<=y->y<b->¬uP (l.getD y gG) (l.getD a gG)<0,λz=>(z.2-z.1).toNat,
    ⟨(_,_),σ,a+1,b,rfl,rfl,Ù _,ω,Ù _,λy h1 h2=>ω,λy h1 h2=>ω⟩,?_⟩
   rintro ⟨R,z2⟩ V1 l1 ⟨i,j,u,F,H,S,I,J,v⟩;dsimp only at u F;subst u F;dsimp only;refine ⟨rfl,λd=>⟨φ,?_⟩,λd=>?_⟩
   ·have d:(i:Int)<j:=Á d;rw [It];have hH:i<=(i+j)/2/\(i+j)/2<j:=ω
    generalize (i+j)/2=k at *;have T:Ŵ.wrap ((k:Int)+1)=((k+1:Nat):Int):=by rw [ay ω];omega
    rw [T,Ý,Ý];have ⟨_,_,_,_,_,_,_,_,_,_,_,_,_,_,_,_,_,A,M⟩:=h.get (k:=k) ω;have ⟨_,_,_,_,_,_,_,_,_,_,_,_,_,_,_,_,_,t,O⟩:=h.get (k:=a) ω;refine ⟨ų,_,_,_,_,_,_,_,_,_,_,_,_,_,_,_,_,_,A,ų,_,_,_,_,_,_,_,_,_,_,_,_,_,_,_,_,_,t,λV2 l2=>(pC ra ra).s ?_⟩;rintro r V3 l3 rfl;refine ⟨_,rfl,λp=>⟨(((k+1:Nat):Int),(j:Int)),ω,σ,k+1,j,rfl,rfl,ω,ω,I,λy h1 h2=>?_,v⟩,λp=>⟨((i:Int),(k:Int)),ω,σ,i,k,rfl,rfl,H,ω,ω,J,λy h1 h2=>?_⟩⟩
    ·have p:=Á p;exact Qv0 λg=>f.tr _ _ _ (ub.le f h1 (show y<=k by omega) ω) g p
    ·exact f.tr _ _ _ (ub.le f ω h1 h2) (Â p)
   ·have d:¬(i:Int)<j:=Â d;obtain rfl:i=j:=ω
    have w4:Ŵ.wrap ((i:Int)-1)=((i-1:Nat):Int):=by rw [ay ω];omega
    rw [w4];refine ⟨λz V'=>∃(k:Nat)(g:zA (L3×Sp)),z.1=(k:Int)/\a<=k/\k+1<=i/\vR V' n z.2 g/\EG gG l g a (a+1) (k+1),λz=>(i-z.1).toNat,⟨((a:Int),vs),σ,a,l,rfl,Ù _,H,ra,.nil2⟩,?_⟩;rintro ⟨R,us⟩ V4 l4 ⟨k,g,u,a7,b5,E,C⟩;dsimp only at u E;subst u;dsimp only;have gl:=C.qN.len;refine ⟨rfl,λd=>?_,λd V5 l5 P=>⟨rfl,us,g,P,ra,C.qN.wide (Ù _) ω,?_⟩⟩
    ·have d:(k:Int)<((i-1:Nat):Int):=Á d;have U:Ŵ.wrap ((k:Int)+1)=((k+1:Nat):Int):=by rw [ay ω];omega
     rw [U,Ý,Ý];have ⟨_,_,_,_,_,_,_,_,_,_,_,_,_,_,_,_,_,A,M⟩:=E.get (k:=k+1) ω;have ⟨_,_,_,_,_,_,_,_,_,_,_,_,_,_,_,_,_,t,O⟩:=E.get (k:=k) ω;obtain ⟨s1,s2,s3⟩:=E.swap (i:=k) (j:=k+1) ω ω O M;exact ⟨ų,_,_,_,_,_,_,_,_,_,_,_,_,_,_,_,_,_,A,ų,_,_,_,_,_,_,_,_,_,_,_,_,_,_,_,_,_,t,ų,s1,ų,s2,(((k+1:Nat):Int),_),ω,σ,k+1,_,rfl,ω,ω,s3,rot_up C a7⟩
    ·have d:¬(k:Int)<((i-1:Nat):Int):=Â d;obtain rfl:i=k+1:=ω
     exact asc_up H I C ub J v f
  ·
   obtain rfl:b=m+1:=by have:=Ê c2;omega
   refine ⟨λz V'=>∃i j:Nat,z.1=(i:Int)/\z.2=(j:Int)/\a<=i/\i<=j/\j<=m/\(∀x,a<=x->x<i->¬uP (l.getD m gG) (l.getD x gG)<0)/\∀x,j<=x->x<m->uP (l.getD m gG) (l.getD x gG)<0,λz=>(z.2-z.1).toNat,
    ⟨(_,_),σ,a,m,rfl,rfl,Ù _,ω,Ù _,λy h1 h2=>ω,λy h1 h2=>ω⟩,?_⟩
   rintro ⟨R,z2⟩ V1 l1 ⟨i,j,u,F,H,S,I,J,v⟩;dsimp only at u F;subst u F;dsimp only;refine ⟨rfl,λd=>⟨φ,?_⟩,λd=>?_⟩
   ·have d:(i:Int)<j:=Á d;rw [It];have hH:i<=(i+j)/2/\(i+j)/2<j:=ω
    generalize (i+j)/2=k at *;have T:Ŵ.wrap ((k:Int)+1)=((k+1:Nat):Int):=by rw [ay ω];omega
    rw [T,Ý,Ý];have ⟨_,_,_,_,_,_,_,_,_,_,_,_,_,_,_,_,_,A,M⟩:=h.get (k:=m) ω;have ⟨_,_,_,_,_,_,_,_,_,_,_,_,_,_,_,_,_,t,O⟩:=h.get (k:=k) ω;refine ⟨ų,_,_,_,_,_,_,_,_,_,_,_,_,_,_,_,_,_,A,ų,_,_,_,_,_,_,_,_,_,_,_,_,_,_,_,_,_,t,λV2 l2=>(pC ra ra).s ?_⟩;rintro r V3 l3 rfl;refine ⟨_,rfl,λp=>⟨(((k+1:Nat):Int),(j:Int)),ω,σ,k+1,j,rfl,rfl,ω,ω,I,λx h1 h2=>?_,v⟩,λp=>⟨((i:Int),(k:Int)),ω,σ,i,k,rfl,rfl,H,ω,ω,J,λx h1 h2=>?_⟩⟩
    ·have p:¬uP (l.getD m gG) (l.getD k gG)<0:=Â (by simpa using p);exact f.tr _ _ _ p (ua.le f h1 (show x<=k by omega) ω)
    ·have p:uP (l.getD m gG) (l.getD k gG)<0:=Á (by simpa using p);exact Qv0 λg=>f.tr _ _ _ g (ua.le f ω h1 h2) p
   ·have d:¬(i:Int)<j:=Â d;obtain rfl:i=j:=ω
    refine ⟨λz V'=>∃(k:Nat)(g:zA (L3×Sp)),z.1=(k:Int)/\i<=k/\k<=m/\vR V' n z.2 g/\EG gG l g k m (m+1),λz=>z.1.toNat,⟨((m:Int),vs),σ,m,l,rfl,I,Ù _,h.le l1,.nil1⟩,?_⟩;rintro ⟨R,us⟩ V4 l4 ⟨k,g,u,b6,a8,E,C⟩;dsimp only at u E;subst u;dsimp only;have gl:=C.qN.len;refine ⟨rfl,λd=>?_,λd V5 l5 P=>⟨rfl,us,g,P,ra,C.qN.wide ω (Ù _),?_⟩⟩
    ·have d:(k:Int)>(i:Int):=Á d;have U:Ŵ.wrap ((k:Int)-1)=((k-1:Nat):Int):=by rw [ay ω];omega
     rw [U,Ý,Ý];have ⟨_,_,_,_,_,_,_,_,_,_,_,_,_,_,_,_,_,A,M⟩:=E.get (k:=k-1) ω;have ⟨_,_,_,_,_,_,_,_,_,_,_,_,_,_,_,_,_,t,O⟩:=E.get (k:=k) ω;obtain ⟨s1,s2,s3⟩:=E.swap (i:=k) (j:=k-1) ω ω O M;exact ⟨ų,_,_,_,_,_,_,_,_,_,_,_,_,_,_,_,_,_,A,ų,_,_,_,_,_,_,_,_,_,_,_,_,_,_,_,_,_,t,ų,s1,ų,s2,(((k-1:Nat):Int),_),ω,σ,k-1,_,rfl,ω,ω,s3,Wu C ω a8⟩
    ·have d:¬(k:Int)>(i:Int):=Â d;obtain rfl:i=k:=ω
     exact TS H I C ua v J f
  refine ⟨λz V'=>∃s r:Nat,z.1=(s:Int)/\z.2=(r:Int)/\a<=s/\s<=r/\r<=m/\r<=mid/\mid+m<=s+b/\(s=a\/s+b=mid+m)/\(r=m\/r=mid),⟨λB=>⟨(((mid+m-b:Nat):Int),(mid:Int)),?_,mid+m-b,mid,rfl,rfl,?_⟩,λB=>⟨((a:Int),(m:Int)),σ,a,m,rfl,rfl,?_⟩⟩,?_⟩
  ·have B:(m:Int)>mid:=Á B;have w:Ŵ.wrap (((mid+m:Nat):Int)-b)=((mid+m-b:Nat):Int):=by rw [ay ω];omega
   and_intros<;>first|rfl|exact w
  ·have B:(m:Int)>mid:=Á B;omega
  ·have B:¬(m:Int)>mid:=Â B;omega
  rintro ⟨R,z2⟩ eX dq ⟨s0,r0,u,F,b7,a9,b8,rd0,b9,sa,ra⟩;dsimp only at u F;subst u F;dsimp only
  refine ⟨rfl,λz V'=>∃i j:Nat,z.1=(i:Int)/\z.2=(j:Int)/\s0<=i/\i<=j/\j<=r0/\(∀x,s0<=x->x<i->¬uP (l.getD (mid+m-1-x) gG) (l.getD x gG)<0)/\∀x,j<=x->x<r0->uP (l.getD (mid+m-1-x) gG) (l.getD x gG)<0,λz=>(z.2-z.1).toNat,
   ⟨(_,_),σ,s0,r0,rfl,rfl,Ù _,a9,Ù _,λy h1 h2=>ω,λy h1 h2=>ω⟩,?_⟩
  rintro ⟨R,z2⟩ gQ eJ ⟨i,j,u,F,H,S,I,J,v⟩;dsimp only at u F;subst u F;dsimp only;have YQ:=dq.m eJ;refine ⟨rfl,λd=>⟨φ,?_⟩,λd=>?_⟩
  ·have d:(i:Int)<j:=Á d;rw [It];have hH:i<=(i+j)/2/\(i+j)/2<j:=ω
   generalize (i+j)/2=k at *;have T:Ŵ.wrap ((k:Int)+1)=((k+1:Nat):Int):=by rw [ay ω];omega
   have w4:Ŵ.wrap (((mid+m-1:Nat):Int)-k)=((mid+m-1-k:Nat):Int):=by rw [ay ω];omega
   rw [T,w4,Ý,Ý];have ⟨_,_,_,_,_,_,_,_,_,_,_,_,_,_,_,_,_,A,M⟩:=h.get (k:=mid+m-1-k) ω;have ⟨_,_,_,_,_,_,_,_,_,_,_,_,_,_,_,_,_,t,O⟩:=h.get (k:=k) ω;refine ⟨ų,_,_,_,_,_,_,_,_,_,_,_,_,_,_,_,_,_,A,ų,_,_,_,_,_,_,_,_,_,_,_,_,_,_,_,_,_,t,λji fk=>(pC (M.le aA) (O.le aA)).s ?_⟩;rintro r lH iL rfl;refine ⟨_,rfl,λp=>⟨(((k+1:Nat):Int),(j:Int)),ω,σ,k+1,j,rfl,rfl,ω,ω,I,λx h1 h2=>?_,v⟩,λp=>⟨((i:Int),(k:Int)),ω,σ,i,k,rfl,rfl,H,ω,ω,J,λx h1 h2=>?_⟩⟩
   ·have p:¬uP (l.getD (mid+m-1-k) gG) (l.getD k gG)<0:=Â (by simpa using p);exact f.tr _ _ _ (ub.le f ω (show mid+m-1-k<=mid+m-1-x by omega) ω) (f.tr _ _ _ p (ua.le f ω (show x<=k by omega) ω))
   ·have p:uP (l.getD (mid+m-1-k) gG) (l.getD k gG)<0:=Á (by simpa using p);exact Qv0 λg=>f.tr _ _ _ (ub.le f ω (show mid+m-1-x<=mid+m-1-k by omega) ω) (f.tr _ _ _ g (ua.le f ω h1 ω)) p
  have d:¬(i:Int)<j:=Â d;obtain rfl:i=j:=ω
  have U:Ŵ.wrap (((mid+m:Nat):Int)-i)=((mid+m-i:Nat):Int):=by rw [ay ω];omega
  rw [U];obtain ⟨e,he⟩:∃e,e=mid+m-i:=⟨_,rfl⟩;rw [<-he]
  have hA:∀x y,a<=x->x<i->e<=y->y<b->¬uP (l.getD y gG) (l.getD x gG)<0:=λx y h1 h2 h3 h4=>by
   have q:=J (i-1) ω ω;rw [show mid+m-1-(i-1)=e by omega] at q;exact f.tr _ _ _ (ub.le f ω h3 h4) (f.tr _ _ _ q (ua.le f h1 (show x<=i-1 by omega) ω))
  have hB:∀x y,i<=x->x<m->m<=y->y<e->¬uP (l.getD x gG) (l.getD y gG)<0:=λx y h1 h2 h3 h4=>by
   have q:=f.asy _ _ (v i (Ù _) ω);rw [show mid+m-1-i=e-1 by omega] at q;exact f.tr _ _ _ (ua.le f ω h1 h2) (f.tr _ _ _ q (ub.le f h3 (show y<=e-1 by omega) ω))
  refine ⟨λz V'=>z=decide (i<m/\m<e),⟨λg=>⟨_,σ,?_⟩,λg=>⟨_,σ,?_⟩⟩,?_⟩
  ·have g:(i:Int)<m:=Á g;exact É.2 ⟨λh=>ų,λh=>ω⟩
  ·have g:¬(i:Int)<m:=Â g;exact (È λh=>ω).symm
  rintro z mJ iE rfl;have K:=YQ.m iE;refine ⟨rfl,λus V'=>∃g,vR V' n us g/\EG gG l g i m e,⟨λg ko gV W Y h3=>?_,λg=>⟨_,σ,l,h.le K,?_⟩⟩,?_⟩
  ·have g:=Á g;refine (R4 (V:=ko.au [W]) Y ⟨ψ,h3⟩ (h.le λb o h=>gV b o (K b o h)) g.1 g.2).s λr nk kf ⟨rfl,ws,k,Z,G,b0⟩=>⟨rfl,ws,Z,ws,σ,k,G.le λb o h=>h,b0⟩
  ·have g:=Â g;rcases ē i m with A|A
   ·obtain rfl:m=e:=ω
    exact .nil2
   ·obtain rfl:i=m:=ω
    exact .nil1
  rintro us nq iF ⟨g,E,C⟩;have gl:=C.qN.len;have ⟨t1,t2,t3,t4,t5⟩:=HR (a:=a) (b:=b) ω ω ω ω C ua ub hA hB;refine ⟨rfl,λz V'=>z=decide (a<i/\i<mid),⟨λg=>⟨_,σ,?_⟩,λg=>⟨_,σ,?_⟩⟩,?_⟩
  ·have g:(a:Int)<i:=Á g;exact É.2 ⟨λh=>ų,λh=>ω⟩
  ·have g:¬(a:Int)<i:=Â g;exact (È λh=>ω).symm
  rintro z qM lD rfl;refine ⟨rfl,λws V'=>∃t,vR V' n ws t/\uI gG g t a mid/\qo uP gG t a mid,⟨λq uJ kN W Y h3=>?_,λq=>⟨_,σ,g,E.le lD,.refl _ _ _,?_⟩⟩,?_⟩
  ·have q:=Á q;refine (mP N (V:=uJ.au [W]) Y ⟨ψ,h3⟩ (E.le λb o h=>kN b o (lD b o h)) ω q.1 q.2 ω t2 λx y h1 h2 h3=>t3 x y h1 h2 ω).s λr tM rI ⟨rfl,ws,k,Z,G,sg,asc⟩=>⟨rfl,ws,Z,ws,σ,k,G.le λb o h=>h,sg,asc⟩
  ·have q:=Â q;rcases ē a i with A|A
   ·obtain rfl:i=mid:=ω
    exact t2
   ·obtain rfl:a=i:=ω
    exact λx y h1 h2 h3=>t3 x y h1 h2 ω
  rintro ws vO oX ⟨t,a0,D,L⟩;have c0:=D.len;refine ⟨rfl,λz V'=>z=decide (mid<e/\e<b),⟨λg=>⟨_,σ,?_⟩,λg=>⟨_,σ,?_⟩⟩,?_⟩
  ·have g:(mid:Int)<e:=Á g;exact É.2 ⟨λh=>ų,λh=>ω⟩
  ·have g:¬(mid:Int)<e:=Â g;exact (È λh=>ω).symm
  have a1:qo uP gG t mid e:=qo.qN (λx y h1 h2 h3=>t4 x y ω h2 h3) D (.inr (Ù _));have a2:qo uP gG t e b:=t5.qN D (.inr ω);have cr:∀x y,a<=x->x<mid->mid<=y->y<b->¬uP (g.getD y gG) (g.getD x gG)<0:=λx y h1 h2 h3 h4=>t1 x y h1 ω ω h4;have sl:uI gG l t a b:=(C.qN.wide ω ω).m (D.wide (Ù _) ω);rintro z vP oY rfl;refine ⟨rfl,λq EL tO W Y h3=>?_,λq EL tO a3=>⟨rfl,ws,t,a3,a0.le aA,sl,?_⟩⟩
  ·have q:=Á q;refine (mP N (V:=EL.au [W]) Y ⟨ψ,h3⟩ (a0.le λb o h=>tO b o (oY b o h)) ω q.1 q.2 ω a1 a2).s λr Na qI ⟨rfl,xs,k,Z,G,sg,asc⟩=>⟨rfl,xs,Z,λRk Ng a4=>⟨rfl,xs,k,a4,G.le λb o h=>Ng b o h,sl.m (sg.wide ω (Ù _)),PM cr D L sg asc⟩⟩
  ·have q:=Â q;refine PM cr D L (.refl _ _ _) ?_;rcases ē mid e with A|A
   ·obtain rfl:e=b:=ω
    exact a1
   ·obtain rfl:mid=e:=ω
    exact a2
set_option maxHeartbeats 1000000 in
theorem R5 {V:un}{l:zA (L3×Sp)}(hw:V.w.heap[lb]?=some (.cells vs.toArray 131 (0,0)))(hx:V.X lb)(h:vR V n vs l):À 200 #[yG (some ⟨lb,0,none⟩) n c,Ô Ŵ n,.func (.func 142) #[] #[]] V λr W=>r=å #[]/\Nn lb n l 0 n W λl'=>qo uP gG l' 0 n:=by
 have len:=h.len;have kM:=h.kM;refine mI lb n c vs n V _ hw hx ⟨λz V'=>∃(q:Nat)(g:zA (L3×Sp)),z.1=((q*20:Nat):Int)/\z.2.1=((q*20+20:Nat):Int)/\q*20<=n/\vR V' n z.2.2 g/\uI gG l g 0 n/\Xj uP gG g 20 q,λz=>n-z.1.toNat,⟨(0,20,vs),σ,0,l,rfl,rfl,ä _,h,.refl _ _ _,λp D=>ω⟩,?_⟩;rintro ⟨z1,z2,us⟩ V1 l1 ⟨q,g,H,I,Y,Z,J,fr⟩;subst H I;dsimp only;have gl:=J.len;refine ⟨rfl,λd V2 K t L M=>?_,λd V2 K t L M=>?_⟩
 ·have d:=Á d;have w:Ŵ.wrap (((q*20+20:Nat):Int)+20)=(((q+1)*20+20:Nat):Int):=ŵ;refine (n_ (V:=V2.au [t]) L ⟨ψ,M⟩ (Z.le λb o h=>K b o h) (a:=q*20) (b:=q*20+20) ω).s λr V3 l3 ⟨rfl,ws,k,N,u,f,asc⟩=>⟨rfl,ws,N,(((q*20+20:Nat):Int),_,ws),ω,σ,q+1,k,ω,w,ω,u.le λb o h=>h,J.m (f.wide ω ω),fr.snoc f asc⟩
 have d:=Â d;refine (n_ (V:=V2.au [t]) L ⟨ψ,M⟩ (Z.le λb o h=>K b o h) (a:=q*20) (b:=n) Y).s ?_;rintro r V3 l3 ⟨rfl,ws,k,N,u,f,asc⟩;refine ⟨rfl,ws,N,λz V'=>∃(B:Nat)(g:zA (L3×Sp)),z.1=(B:Int)/\0<B/\B<=20000/\vR V' n z.2 g/\uI gG l g 0 n/\Blk uP gG g B n,λz=>n-z.1.toNat,⟨(20,ws),σ,20,k,rfl,ω,ω,u.le λb o h=>h,J.m (f.wide ω ω),fr.bo f asc ω⟩,?_⟩;rintro ⟨z,xs⟩ V6 l6 ⟨B,g2,e,B0,Bn,O,E,s⟩;subst e;refine ⟨rfl,λd=>?_,λd gQ eJ YF=>⟨rfl,xs,g2,YF,ra,E,?_⟩⟩;rotate_left
 ·have d:=Â d;have:=s 0;grind
 have d:=Á d;have w1:Ŵ.wrap (2*(B:Int))=((2*B:Nat):Int):=by rw [ay ω];omega
 have w2:Ŵ.wrap ((B:Int)*2)=((2*B:Nat):Int):=by rw [ay ω];omega
 rw [w1,w2]
 refine ⟨λz V'=>∃(q:Nat)(g:zA (L3×Sp)),z.1=((q*(2*B):Nat):Int)/\z.2.1=((q*(2*B)+2*B:Nat):Int)/\q*(2*B)<=n/\vR V' n z.2.2 g/\uI gG l g 0 n/\Xj uP gG g (2*B) q/\∀p,2*q<=p->qo uP gG g (p*B) (min ((p+1)*B) n),λz=>n-z.1.toNat,
  ⟨(0,((2*B:Nat):Int),xs),σ,0,g2,by rw [ŝ];rfl,by rw [ŝ,ĉ],ω,O,E,λp D=>ω,λp _=>s p⟩,?_⟩
 rintro ⟨z1,z2,ys⟩ V7 l7 ⟨q,g3,H,I,Y,v,i,x,rest⟩;subst H I;dsimp only;have a0:=i.len;have G:=rest (2*q) (Ù _);have P:=rest (2*q+1) ω
 have Q:∀p,2*(q+1)<=p->q*(2*B)+2*B<=p*B:=λp D=>by have:=Ă B D;grind
 have q1:(q+1)*(2*B)=q*(2*B)+2*B:=χ
 rw [show 2*q*B=q*(2*B) by grind,show (2*q+1)*B=q*(2*B)+B by grind] at G;rw [show (2*q+1)*B=q*(2*B)+B by grind,show (2*q+1+1)*B=q*(2*B)+2*B by grind] at P;generalize hA:q*(2*B)=A at *;have w3:Ŵ.wrap ((A:Int)+B)=((A+B:Nat):Int):=by rw [ay ω];omega
 rw [w3];refine ⟨rfl,λy R S t T U=>?_,λy=>⟨λhm R S t T U=>?_,λhm=>?_⟩⟩
 ·have y:=Á y;have w4:Ŵ.wrap (((A+2*B:Nat):Int)+((2*B:Nat):Int))=((A+2*B+2*B:Nat):Int):=by rw [ay ω];omega
  refine (mP (2*B) (V:=R.au [t]) T ⟨ψ,U⟩ (v.le λb o h=>S b o h) (a:=A) (m:=A+B) (b:=A+2*B) ω ω ω ω (G.sub (Ù _) ω) (P.sub (Ù _) ω)).s λr V9 l9 ⟨rfl,us,k,W,C,j,F⟩=>⟨rfl,us,W,(((A+2*B:Nat):Int),((A+2*B+2*B:Nat):Int),us),ω,by and_intros<;>first|rfl|exact w4,q+1,k,by rw [q1],by rw [q1],ω,C.le λb o h=>h,i.m (j.wide ω ω),?_,λp D=>(rest p ω).qN j (.inr (Q p D))⟩<;>grind [x.snoc]
 ·have y:=Â y;have hm:=Á hm;refine (mP (2*B) (V:=R.au [t]) T ⟨ψ,U⟩ (v.le λb o h=>S b o h) (a:=A) (m:=A+B) (b:=n) ω ω ω ω (G.sub (Ù _) ω) (P.sub (Ù _) ω)).s λr V9 l9 ⟨rfl,us,k,W,C,j,F⟩=>⟨rfl,us,W,(((2*B:Nat):Int),us),ω,σ,2*B,k,rfl,ω,ω,C.le λb o h=>h,i.m (j.wide ω ω),?_⟩<;>grind [x.bo]
 ·have y:=Â y;have hm:=Â hm;refine ⟨(((2*B:Nat):Int),ys),ω,σ,2*B,g3,rfl,ω,ω,v,i,?_⟩;subst hA;exact x.bo (.refl _ _ _) (G.sub (Ù _) ω) ω
def EN {V:un}{lb n c:Nat}{vs:zA um}{l:zA (L3×Sp)}(hw:V.w.heap[lb]?=some (.cells vs.toArray 131 (0,0)))(F:V.X lb)(h:vR V n vs l):À 141 #[yG (some ⟨lb,0,none⟩) n c,.func (.func 142) #[] #[]] V λr W=>r=å #[]/\∃E l',W.w.heap[lb]?=some (.cells E.toArray 131 (0,0))/\vR W n E l'/\l'.Perm l/\l'.Pairwise λx y=>¬j9 y.1 x.1<0:=by have len:=h.len;refine mE lb n c vs V _ hw F λf g k p q=>(R5 (V:=f.au [k]) p ⟨ψ,q⟩ (h.le λb o h=>g b o h)).s λr V2 A ⟨rfl,ws,m,s,t,e,asc⟩=>⟨rfl,ws,s,λB u a=>⟨rfl,ws,m,a,t.le λb o h=>u b o h,e.perm,?_⟩⟩;have sl:=e.len;refine Qb2.2 λi j v z d=>?_;have:=asc i j ω d ω;rw [Ę,Ę,ñ v,ñ z] at this;exact this
theorem vU {V:un}:À 141 #[yG none 0 0,.func (.func 142) #[] #[]] V λr W=>r=å #[]:=by refine jG V _ λb f=>?_;have st:À 200 #[yG none 0 0,Ô Ŵ 0,.func (.func 142) #[] #[]] b λr W=>r=å #[]:=by{refine ki 0 b _ ⟨λz _=>z=(0,20),λ_=>0,⟨(0,20),σ,rfl⟩,?_⟩;rintro z V2 g rfl;refine ⟨rfl,λa=>Å (Á a) φ,λ_ c i=>?_⟩;have ins:À 250 #[yG none 0 0,Ô Ŵ 0,Ô Ŵ 0,.func (.func 142) #[] #[]] c λr W=>r=å #[]:=by{(refine gU 0 0 c _ ⟨λz _=>z=1,λ_=>0,⟨1,by and_intros<;>first|rfl|exact ay ω,rfl⟩,?_⟩;rintro z d e rfl;exact ⟨rfl,λh=>Å (Á h) ω,λ_ j k=>rfl⟩)};refine ins.s ?_;rintro r d e rfl;refine ⟨rfl,λz _=>z=20,λ_=>0,⟨20,σ,rfl⟩,?_⟩<;>grind};grind
theorem T8 {V:un}{p:OA}{fs:zA (L3×Sp)}(h:bP 17 qP V p n fs)(O:fs.length<=1000000)(N:fs=[]->p=none):À 140 #[yG p n c] V λr V'=>∃(M:Nat)(vs:zA um),(vs≠[]->V'.w.heap[M]?=some (.cells vs.toArray 131 (0,0)))/\(vs≠[]->V.w.heap.size<=M)/\∃e,r=yG (mA M e) fs.length e/\fs.length<=e/\(vs=[]↔e=0)/\(vs≠[]↔fs≠[])/\è 17 qP (V'.aY (vs≠[]) M) vs fs/\V.Le (V'.aY (vs≠[]) M):=by obtain rfl:=h.len;refine xR p _ c V _ ⟨λg C q=>?_,λg=>?_⟩;{have s:p=none:=by{simpa using g};have e:fs=[]:=by{rcases fs with-| ⟨x,r⟩;{rfl};obtain ⟨D,e,-⟩:=h.at_ 0 (Nat.succ_pos _);rw [s] at e;cases e};subst e;exact ⟨0,[],λh=>Å rfl h,λh=>Å rfl h,0,rfl,Ù _,⟨λ_=>rfl,λ_=>rfl⟩,⟨λh=>Å rfl h,λh=>Å rfl h⟩,è.nil,Sx q λh=>h rfl⟩};have b:fs≠[]:=λe=>by{rw [N e] at g;cases g};have i:=Qm4.2 b;have ⟨xs,t,j,k⟩:=cW h φ;refine ⟨xs,t,j,ω,Ù _,Ù _,j,λv u=>?_,λE J sp y l F V2 d z A B=>?_⟩;{obtain ⟨m,hm,rfl⟩:=Qb5.1 u;exact gK k φ (λxs a g=>LW g) (m:=m) ω (ñ hm)};rw [ĉ] at l ⊢;have o:V.Le (V2.aY ((([]:zA um).take (0*17)++xs++sp)≠[]) d):=Oa z;have f:(([]:zA um).take (0*17)++xs++sp)≠[]:=λe=>χ;exact ⟨d,_,λ_=>A,λ_=>B.elim id False.elim,y,by rw [mA,Ã ω],l,⟨λe=>Å e f,λe=>ω⟩,⟨λ_=>b,λ_=>f⟩,(eI (vs:=[]) (sp:=sp) è.nil k φ).le λ_ _ g=>BG.le g o,o⟩
end Go.Proofs.Tryz
