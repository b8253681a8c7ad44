import Derived.Test.YtckenacdnbolaaaGreatDoorR18
import Derived.Test.YtckenacdnbolaaaGreatDoorR8
import Derived.Test.YtckenacdnbolaaaGreatDoorR17
import Derived.Test.YtckenacdnbolaaaGreatDoorR15
import Derived.Test.YtckenacdnbolaaaGreatDoorR5
import Derived.Test.YtckenacdnbolaaaGreatDoorR16
import Derived.Test.YtckenacdnbolaaaGreatDoorR11
import Derived.Laws.IdiomCopy
import Derived.Lib.Overlaps
import Derived.Lib.JoinLaws
import Derived.Lib.AppendZerosOnto
import Derived.Shelf.RegionOpenPlain
import Derived.Lib.Walk
import Derived.Lib.SliceRun
import Derived.Laws.NewBlocks
import Derived.Test.YtckenacdnbolaaaGreatDoorR13
import Derived.Test.YtckenacdnbolaaaGreatDoorR14
import Derived.Test.YtckenacdnbolaaaGreatDoorR7
set_option linter.all false
open Go.IntKind (i64 u64 u32)
namespace Go.Proofs.Tryz
open Go.Eng Go.Big
open Go.Value renaming slice→hF,agg→dB,bool→qvQ,pointer→qvW,int→qvK
variable{c k n:Nat}{A ss:List Sp}{V:View}{p:OA}{v:Value}{s:Sp}
theorem Yr {b:Nat}(h:0<c):mA b c=some ⟨b,0,none⟩:=by unfold mA;rw [if_neg (by omega)]
theorem NO {f:Sp->pz oJ}{l:pz Sp}{j:Nat}(h:j<l.length):(l.take (j+1)).flatMap f=(l.take j).flatMap f++f l[j]:=by
 rw [Qz9,Qq1 h,Qm8];simp
theorem Rx {l:pz Sp}{j:Nat}(h:j<l.length):mD (l.take (j+1))=mD (l.take j)+if l[j].a then 1 else 0:=by
 rw [Qz9,Qq1 h,UD];simp [mD]
theorem Tv {A B:pz Sp}{k j:Nat}(hk:k<2):(VO A B k++((LK A B k).take j).flatMap (jO k)).length<=fe A+fe B:=by
 have c:((LK A B k).flatMap (jO k)).length=(((LK A B k).take j).flatMap (jO k)).length+(((LK A B k).drop j).flatMap (jO k)).length:=by
  conv=>lhs;rw [←Qv9 j (LK A B k),Qm8]
  rw [Qq3]
 have a:=congrArg List.length (Ha (A:=A) (B:=B) hk);rw [Qq3] at a
 have b:(VO A B (k+1)).length<=(oU A B).length:=by
  obtain rfl|rfl:k=0\/k=1:=by omega
  ·unfold oU;rw [Qq3];exact Qp7 _ _
  ·exact Qq2 _
 rw [Fl] at b;rw [Qq3];omega
theorem Vb {acc:md->md->md}{B:pz Sp}{cs:pz oJ}{was:md}{last:Sp}{out:pz Sp}(h:VF acc A B cs cs.length was last out){op:Int}(ha:∀t,acc (inB A t) (inB B t)=opB op (inB A t) (inB B t)):Bt was last out=combL op A B:=by
 refine reg_eq (endsL (A++B)) h.rg (comb_reg _ _ _) λt a=>?_;rw [comb_inB _ _ _ a,h.inn t (λs b he=>a (jC.2 ⟨s,b,he⟩)) λh=>absurd h (Wq6 _)];exact ha t
theorem Hs {p0 p1:OA}{n0 c0 n1 c1 fa:Nat}{B:pz Sp}{op:Int}{acc:md->md->md}(hacc:∀t,acc (inB A t) (inB B t)=opB op (inB A t) (inB B t))(hA:bI 8 eC V p0 n0 A)(hB:bI 8 eC V p1 n1 B)(gA:∀s∈A,s.good)(gB:∀s∈B,s.good)(sA:∀s∈A,s.sz 1000000)(sB:∀s∈B,s.sz 1000000)
  (nA:A.length<=1000)(nB:B.length<=1000)(Fy:fe A+fe B<50)(so:pe (fe A+fe B))(hf:∀a b (W:ut),aa prog fa #[qvQ a,qvQ b] W λr _=>r=qvQ (acc a b)) :
  aa prog 159 #[dB #[hF p0 n0 c0,hF p1 n1 c1],.func (.func fa) #[] #[]] V λr V'=>∃q m e,r=hF q m e/\bI 8 eC V' q m (combL op A B):=by
 obtain rfl:=hA.len;obtain rfl:=hB.len
 refine Gs p0 _ c0 p1 _ c1 fa V _ ⟨λz V'=>∃k:Nat,z.2.2.2.1=(k:Int)/\k<=2/\CR V' z.1 z.2.1 z.2.2.1 (VO A B k)/\z.2.2.2.2=Zk A B k,λz=>2-z.2.2.2.1.toNat,
  ⟨(0,0,[],0,[qvK .i64 0,qvK .i64 0]),by and_intros<;>rfl,0,rfl,by decide,⟨rfl,Qq2 _,Qq2 _,Row.nil,λh=>absurd rfl h⟩,rfl⟩,?_⟩
 rintro ⟨Q,z2,vs,z4,os⟩ V1 l1 ⟨k,e4,d5,G,K⟩;dsimp only at e4 G K;subst e4 K;dsimp only;refine ⟨rfl,λN=>?_,λN=>?_⟩
 ·have N:(k:Int)<2:=of_decide_eq_true N;have hk:k<2:=by omega
  have X:i64.wrap ((k:Int)+1)=((k+1:Nat):Int):=by rw [au (by omega)];rfl
  rw [X,Qq0]
  obtain ⟨p,n,c,el,hL⟩:∃p n c,([(p0,A.length,c0),(p1,B.length,c1)]:pz (OA×Nat×Nat)).getD k (none,0,0)=(p,n,c)/\bI 8 eC V p n (LK A B k):=by
   obtain rfl|rfl:k=0\/k=1:=by omega
   ·exact ⟨_,_,_,rfl,hA⟩
   ·exact ⟨_,_,_,rfl,hB⟩
  rw [el];dsimp only
  have c4:(∀s∈LK A B k,s.sz 1000000)/\(LK A B k).length<=1000:=by
   obtain rfl|rfl:k=0\/k=1:=by omega
   ·exact ⟨sA,nA⟩
   ·exact ⟨sB,nB⟩
  obtain ⟨sL,nL⟩:=c4;obtain rfl:=hL.len
  refine ⟨⟨by omega,by omega⟩,λz V'=>∃j:Nat,z.2.2.2.1=(j:Int)/\j<=(LK A B k).length/\CR V' z.1 z.2.1 z.2.2.1 (VO A B k++((LK A B k).take j).flatMap (jO k))/\z.2.2.2.2=Mz A k (mD ((LK A B k).take j)),λz=>(LK A B k).length-z.2.2.2.1.toNat,
   ⟨(Q,z2,vs,0,Zk A B k),by and_intros<;>rfl,0,rfl,Qq4 _,by simpa using G,by rw [Qd3];unfold Zk;rw [if_neg (by omega)];rfl⟩,?_⟩
  rintro ⟨X,w2,us,w4,os⟩ V2 l2 ⟨j,e4,wX,E,K⟩;dsimp only at e4 E K;subst e4 K;dsimp only;refine ⟨rfl,λhj=>?_,λhj=>?_⟩
  ·have hj:(j:Int)<(LK A B k).length:=of_decide_eq_true hj;have R:j<(LK A B k).length:=by omega
   have w3:i64.wrap ((j:Int)+1)=((j+1:Nat):Int):=by rw [au (by omega)];rfl
   rw [Qq0,w3];obtain ⟨ad,ha,xs,-,hv,D⟩:=(hL.le (l1.m l2) λ_ _ g=>eC.le g (l1.m l2)).at_ j R;obtain ⟨x1,x2,q,y1,y2,q',ex,Y,r2⟩:=hv;have ex:=congrArg Array.toList (Value.agg.inj ex);dsimp only at ex;subst ex;have hs:=sL _ (Qq9 R);have ft:=NO (f:=jO (k:Int)) R;have ot:=Rx R;have ob:=FU (a:=(LK A B k).take j);rw [Qq7] at ob;have cn:=E.len;have bl:=Tv (A:=A) (B:=B) (j:=j) hk;rw [←cn] at bl;have c1:jO (k:Int) (LK A B k)[j]=(if (LK A B k)[j].a then [] else [((LK A B k)[j].lo,(k:Int),1)])++(if (LK A B k)[j].b then [] else [((LK A B k)[j].hi,(k:Int),-1)]):=rfl;rw [c1] at ft;generalize (LK A B k)[j]=s at *
   refine ⟨aX ha,⟨by omega,by omega⟩,_,_,_,_,_,_,_,_,ad,ha,D 0 _ rfl,D 1 _ rfl,D 2 _ rfl,D 3 _ rfl,D 4 _ rfl,D 5 _ rfl,D 6 _ rfl,D 7 _ rfl,
    λz V'=>CR V' z.1 z.2.1 z.2.2.1 (VO A B k++((LK A B k).take j).flatMap (jO k)++(if s.a then [] else [(s.lo,(k:Int),1)]))/\z.2.2.2=Mz A k (mD ((LK A B k).take (j+1))),⟨λF=>?_,λF=>?_⟩,?_⟩
   ·rw [F,if_pos rfl] at ot;rw [F,if_pos rfl,Qx3];refine ⟨⟨by omega,by omega⟩,_,UG hk,⟨by omega,by omega⟩,by rw [UH hk];omega,(X,w2,us,Mz A k (mD ((LK A B k).take (j+1)))),?_,E,rfl⟩;have e:(Mz A k (mD ((LK A B k).take j))).set (0+k*1) (qvK .i64 (i64.wrap (mD ((LK A B k).take j)+1)))=Mz A k (mD ((LK A B k).take (j+1))):=by rw [UI hk,au (by omega),ot]
    and_intros<;>first|rfl|exact e
   ·rw [F,if_neg (by decide),Wx2] at ot;rw [F,if_neg (by decide)];refine ⟨by omega,E.le,E.cap,rfl,one5,λsp c' C S=>⟨(X+1,c',_,Mz A k (mD ((LK A B k).take j))),by and_intros<;>rfl,E.snoc Y hs.1 _ _ C S,by dsimp only;rw [ot]⟩⟩
   ·rintro ⟨k1,k2,ks,os⟩ V3 l3 ⟨H,K⟩;dsimp only at H K;subst K;dsimp only;have c5:=H.len;have d6:k1<=X+1:=by rw [c5,cn,Qq3];split<;>simp
    refine ⟨rfl,λz V'=>CR V' z.1 z.2.1 z.2.2 (VO A B k++((LK A B k).take (j+1)).flatMap (jO k)),⟨λF=>?_,λF=>?_⟩,?_⟩
    ·have F:s.b=false:=by simpa using F
     simp only [F,Qk9,if_false] at ft;rw [ft,←Qy6,←Qy6];refine ⟨by omega,H.le,H.cap,rfl,one5,λsp c' C S=>⟨(k1+1,c',_),by and_intros<;>rfl,H.snoc (r2.le l3) hs.2 _ _ C S⟩⟩
    ·have F:s.b=true:=by simpa using F
     simp only [F,if_true,Qx3] at ft;rw [ft,←Qy6];exact ⟨(k1,k2,ks),by and_intros<;>rfl,H⟩
    ·rintro ⟨P,Z,ms⟩ V4 l4 a5;dsimp only at a5;exact ⟨rfl,(P,Z,ms,((j+1:Nat):Int),_),by dsimp only;omega,by and_intros<;>rfl,j+1,rfl,by omega,a5,rfl⟩
  ·have hj:¬(j:Int)<(LK A B k).length:=of_decide_eq_false hj;obtain rfl:j=(LK A B k).length:=by omega
   rw [Qy5] at *;refine ⟨(X,w2,us,((k+1:Nat):Int),Mz A k (mD (LK A B k))),by dsimp only;omega,by and_intros<;>rfl,k+1,rfl,by omega,?_,RG hk⟩;rw [←Ha hk];exact E
 have N:¬(k:Int)<2:=of_decide_eq_false N;obtain rfl:k=2:=by omega
 have G:CR V1 Q z2 vs (oU A B):=G;have cl:(oU A B).length<50:=by rw [Fl];exact Fy
 have c6:=G.len;have d7:=G.le;rw [show Zk A B 2=It A B [] from rfl];have M:∀l:pz oJ,It A B l≠[]:=λl h=>by cases h
 refine ⟨λz V'=>∃cs:pz oJ,SR V' Q z cs/\cs.Perm (oU A B)/\cs.Pairwise (λx y=>x.1<=y.1),⟨λh0=>?_,λh0 V7 l7 bk e7 h7=>?_⟩,?_⟩
 ·subst h0;have C:=G.cap;rw [Qj6] at C;obtain rfl:z2=0:=by omega
  obtain rfl:Q=0:=by omega
  have a6:oU A B=[]:=List.eq_nil_of_length_eq_zero (by omega);exact ⟨rfl,λV5 l5=>zF.s λr V6 l6 hr=>⟨hr,[],by and_intros<;>rfl,[],⟨Row.nil,rfl,by simp⟩,by rw [a6],List.Pairwise.nil⟩⟩
 ·have d8:0<(oU A B).length:=Qh4.2 (G.ne h0);rw [rM h0,Yr (show 0<z2 by omega)];refine (so (V7.ar [bk]) bk _ _ _ (oU A B) Fl (e7 h0) ⟨by simp,h7 h0⟩ ⟨G.row.le λ_ _ g=>RC.le g λb o h=>l7 b o h,c6,cl⟩).s ?_;rintro r V8 l8 ⟨rfl,a7,cs,e8,a8,hp,O⟩;refine ⟨rfl,h0,a7,λe=>?_,e8,a7,by and_intros<;>rfl,cs,a8.le (QO _),hp,O⟩;have C:=a8.row.jR (by decide);rw [e,hp.length_eq,Qj6] at C;omega
 rintro c7 V9 l9 ⟨cs,a9,hp,O⟩;have zl:=a9.len;have a3:=λc (h:c∈cs)=>TH (hp.mem_iff.1 h);refine ⟨rfl,λfQ c8 ab ob ea ha K ho c9=>?_⟩;rw [rM (M [])];refine (D4 (V:=fQ.ar [ab,ob]) (x:=mD A+iI 0 []) (y:=mD B+iI 1 []) (acc:=acc) ea ⟨by simp,ha⟩ (K (M _)) ⟨by simp,ho (M _)⟩ (c9 (M _)) hf).s ?_;rintro r fD bq ⟨rfl,e1,e2⟩
 refine ⟨_,rfl,e1,M _,It A B [],M _,e2,λz V'=>∃(i:Nat)(last:Sp)(out:pz Sp),z.2.2.2.2.1=(i:Int)/\i<=cs.length/\out.length<=i/\VF acc A B cs i z.2.2.2.1 last out/\z.2.2.2.2.2.1=It A B (cs.take i)/\IR V' z.1 z.2.1 z.2.2.1 out /\
   RR V' (dB #[qvK .i64 z.2.2.2.2.2.2.1,qvK .i64 z.2.2.2.2.2.2.2.1,qvW z.2.2.2.2.2.2.2.2.1]) last.lo/\RR V' (dB #[qvK .i64 z.2.2.2.2.2.2.2.2.2.1,qvK .i64 z.2.2.2.2.2.2.2.2.2.2.1,qvW z.2.2.2.2.2.2.2.2.2.2.2.1]) last.hi/\last.a=z.2.2.2.2.2.2.2.2.2.2.2.2.1/\last.b=z.2.2.2.2.2.2.2.2.2.2.2.2.2,
  λz=>cs.length-z.2.2.2.2.1.toNat,⟨(0,0,[],_,0,It A B [],0,0,none,0,0,none,true,false),by and_intros<;>rfl,0,⟨0,0,true,false⟩,[],rfl,Qq4 _,Qq4 _,SF (acc:=acc) (by show acc (decide ((0:Int)<mD A+0)) (decide ((0:Int)<mD B+0))=_;rw [Wx2,Wx2]) hp gA gB O,rfl,IR.nil,RR.zero _,RR.zero _,rfl,rfl⟩,?_⟩
 rintro ⟨P,Z,us,d,iz,ov,x1,x2,p,y1,y2,q,la,lb⟩ gS bS ⟨i,last,out,e5,Ta,oi,hI,b0,v,Y,r2,f1,f2⟩;dsimp only at e5 hI b0 v Y r2 f1 f2;subst e5 b0 f1 f2;dsimp only;have ml:=v.len;refine ⟨rfl,λhi=>?_,λhi=>?_⟩
 ·have hi:(i:Int)<Q:=of_decide_eq_true hi;have I:i<cs.length:=by omega
  have a0:SR gS Q c7 cs:=a9.le λb o h=>bS b o (bq b o (c8 b o h));have gd:∀j (h:j<cs.length),cs.getD j dC=cs[j]:=λj h=>by rw [Qx8,Qq1 h];rfl
  have ⟨x,y,pp,a,b,g,x',y',p',ev,hr,b6⟩:=a0.get I;rw [gd i I] at ev hr b6;rw [Qz1] at g;have ev:=congrArg Array.toList (Value.agg.inj ev);simp only [Qk5,Value.int.injEq,Value.pointer.injEq,true_and,and_true] at ev;obtain ⟨rfl,rfl,rfl,rfl,rfl⟩:=ev;have ⟨ck,cd⟩:=a3 _ (Qq9 I);have X:i64.wrap ((i:Int)+1)=((i+1:Nat):Int):=by rw [au (by omega)];rfl
  have tk:cs.take (i+1)=cs.take i++[cs[i]]:=by rw [Qz9,Qq1 I];rfl
  have b7:(It A B (cs.take i)).set (0+cs[i].2.1.toNat*1) (qvK .i64 (i64.wrap (YF A B (cs.take i) cs[i].2.1+cs[i].2.2)))=It A B (cs.take (i+1)):=by
   have b1:=FU (a:=A);have b2:=FU (a:=B);have b3:=Gk (k:=0) (l:=cs.take i) λc G=>(a3 c (Qb6 G)).2;have b4:=Gk (k:=1) (l:=cs.take i) λc G=>(a3 c (Qb6 G)).2;rw [Qq7] at b3 b4;have b5:-3000<=YF A B (cs.take i) cs[i].2.1/\YF A B (cs.take i) cs[i].2.1<=3000:=by unfold YF;split<;>omega
   rw [au (by omega),UK ck,tk]
  rw [X,Qq0,Qq0];refine ⟨⟨by omega,by omega⟩,by omega,x,y,pp,_,_,g,⟨by omega,by omega⟩,_,UJ ck,⟨by omega,by omega⟩,by rw [show (It A B (cs.take i)).length=2 from rfl];omega,?_⟩;rw [b7];refine ⟨λt V'=>(t=true->∃h:i+1<cs.length,cs[i].1=cs[i+1].1)/\(t=false->∀h:i+1<cs.length,cs[i].1<cs[i+1].1),⟨λC=>?_,λC=>?_⟩,?_⟩
  ·have C:((i+1:Nat):Int)<Q:=of_decide_eq_true C;have T:i+1<cs.length:=by omega
   have ⟨u,w,pw,a',b',g',x',y',p',U,b8,a1⟩:=a0.get T;rw [gd _ T] at b8 a1;rw [Qz1] at g';have U:=congrArg Array.toList (Value.agg.inj U);simp only [Qk5,Value.int.injEq,Value.pointer.injEq,true_and] at U;obtain ⟨rfl,rfl,rfl,-⟩:=U;refine ⟨⟨by omega,by omega⟩,by omega,u,w,pw,⟨by omega,?_⟩,λj7 bU=>(vB (b8.le bU) (hr.le bU) a1 b6 (by decide)).s ?_⟩
   ·have:∀l:pz un,l.take 3=(l.take 5).take 3:=λl=>by rw [Wk6];rfl
    rw [this,Qj1,g'.2];rfl
   ·rintro r lB cz rfl;refine ⟨_,rfl,_,by and_intros<;>rfl,λh=>⟨T,Eq.symm (of_decide_eq_true h)⟩,λh _=>?_⟩;have h:=of_decide_eq_false h;have:=Qm9.1 O i (i+1) I T (by omega);grind
  ·have C:¬((i+1:Nat):Int)<Q:=of_decide_eq_false C;exact ⟨false,by and_intros<;>rfl,(λh=>nomatch h),λ_ h=>absurd h (by omega)⟩
  rintro t jI cE ⟨ht,d0⟩;refine ⟨rfl,λe=>?_,λe lH cq d1 d2 ea ha K ho b9=>?_⟩
  ·obtain ⟨C,S⟩:=ht e;exact ⟨(P,Z,us,d,((i+1:Nat):Int),It A B (cs.take (i+1)),x1,x2,p,y1,y2,q,last.a,last.b),by dsimp only;omega,by and_intros<;>rfl,i+1,last,out,rfl,by omega,by omega,Vc hI C S,rfl,v.s cE,Y.le cE,r2.le cE,rfl,rfl⟩
  rw [rM (M _)];refine (D4 (V:=lH.ar [d1,d2]) (x:=mD A+iI 0 (cs.take (i+1))) (y:=mD B+iI 1 (cs.take (i+1))) (acc:=acc) ea ⟨by simp,ha⟩ (K (M _)) ⟨by simp,ho (M _)⟩ (b9 (M _)) hf).s ?_;rintro r lC b_ ⟨rfl,d3,d4⟩;have st:=Vd hI I (d0 e) hp gA gB O rfl;generalize acc (decide ((0:Int)<mD A+iI 0 (cs.take (i+1)))) (decide ((0:Int)<mD B+iI 1 (cs.take (i+1))))=now at st ⊢;have L:gS.Le lC.shut:=λb o h=>b_ b o (cq b o (cE b o h))
  have same:now=d->IR lC.shut P Z us (Bs d now last cs[i].1 out)/\RR lC.shut (dB #[qvK .i64 x1,qvK .i64 x2,qvW p]) (lj d now last cs[i].1).lo/\RR lC.shut (dB #[qvK .i64 y1,qvK .i64 y2,qvW q]) (lj d now last cs[i].1).hi /\
    last.a=(lj d now last cs[i].1).a/\last.b=(lj d now last cs[i].1).b:=λh=>by
   subst h;unfold Bs lj;cases now<;>exact ⟨v.s L,Y.le L,r2.le L,rfl,rfl⟩
  refine ⟨_,rfl,d3,M _,It A B (cs.take (i+1)),M _,d4,λz V'=>IR V' z.1 z.2.1 z.2.2.1 (Bs d now last cs[i].1 out)/\RR V' (dB #[qvK .i64 z.2.2.2.1,qvK .i64 z.2.2.2.2.1,qvW z.2.2.2.2.2.1]) (lj d now last cs[i].1).lo /\
   RR V' (dB #[qvK .i64 z.2.2.2.2.2.2.1,qvK .i64 z.2.2.2.2.2.2.2.1,qvW z.2.2.2.2.2.2.2.2.1]) (lj d now last cs[i].1).hi/\z.2.2.2.2.2.2.2.2.2.1=(lj d now last cs[i].1).a/\z.2.2.2.2.2.2.2.2.2.2=(lj d now last cs[i].1).b,
   ⟨λhn=>⟨λhw=>?_,λhw=>⟨λa4=>⟨λJ=>?_,λ_=>?_⟩,λa4=>?_⟩⟩,λhn=>⟨λhw=>⟨λJ=>?_,λJ=>?_⟩,λhw=>?_⟩⟩,?_⟩
  ·have hw:d=false:=by simpa using hw
   subst hn hw;exact ⟨(P,Z,us,x,y,pp,0,0,none,false,false),by and_intros<;>rfl,v.s L,hr.le L,RR.zero _,rfl,rfl⟩
  ·rw [hn] at J;cases J
  ·exact ⟨(P,Z,us,x1,x2,p,y1,y2,q,last.a,last.b),by and_intros<;>rfl,same (hn.m a4.symm)⟩
  ·rw [a4] at hw;cases hw
  ·subst hn hw;exact ⟨by omega,v.le,v.cap,rfl,UC,λsp c' C S=>⟨(P+1,c',_,x1,x2,p,x,y,pp,last.a,last.b),by and_intros<;>rfl,(v.s L).snoc (s:=⟨last.lo,cs[i].1,last.a,last.b⟩) (Y.le L) (hr.le L) C S,Y.le L,hr.le L,rfl,rfl⟩⟩
  ·rw [hn] at J;cases J
  ·exact ⟨(P,Z,us,x1,x2,p,y1,y2,q,last.a,last.b),by and_intros<;>rfl,same (hn.m hw.symm)⟩
  ·rintro ⟨k1,k2,ks,u1,u2,pu,t1,t2,pt,ua,ub⟩ mE cj ⟨a2,c2,c3,g1,g2⟩;dsimp only at a2 c2 c3 g1 g2;subst g1 g2;dsimp only
   have ol:(Bs d now last cs[i].1 out).length<=i+1:=by
    unfold Bs;split
    ·rw [Qq3];simp;omega
    ·omega
   exact ⟨rfl,(k1,k2,ks,now,((i+1:Nat):Int),It A B (cs.take (i+1)),u1,u2,pu,t1,t2,pt,_,_),by dsimp only;omega,by and_intros<;>rfl,i+1,_,_,rfl,by omega,ol,st,rfl,a2,c2,c3,rfl,rfl⟩
 ·have hi:¬(i:Int)<Q:=of_decide_eq_false hi;obtain rfl:i=cs.length:=by omega
  have fin:=Vb hI hacc;refine ⟨λz V'=>IR V' z.1 z.2.1 z.2.2 (combL op A B),⟨λhw=>?_,λhw=>?_⟩,?_⟩
  ·subst hw;refine ⟨by omega,v.le,v.cap,rfl,UC,λsp c' C S=>⟨(P+1,c',_),by and_intros<;>rfl,?_⟩⟩;rw [←fin];have:=hI.fr rfl;rw [this.1] at r2;exact v.snoc (s:=mQ last) Y r2 C S
  ·subst hw;refine ⟨(P,Z,us),by and_intros<;>rfl,?_⟩;rw [←fin];simpa [Bt] using v
  ·rintro ⟨k1,k2,ks⟩ pf du h;dsimp only at h;obtain rfl:=h.len;exact ⟨rfl,λvh fl bk F=>⟨_,_,_,rfl,bI.bJ F (h.row.le λ_ _ g=>eC.le g fl) (by decide) h.le⟩⟩
theorem c_J1 (a b:md)(W:ut):aa prog 220 #[qvQ a,qvQ b] W λr _=>r=qvQ ((λx _=>x:md->md->md) a b):=
 Dc W _ λV l=>rfl
theorem zI (hA:bI 8 eC V p n A)(hg:∀s∈A,s.good)(hs:∀s∈A,s.sz 1000000)(hn:A.length<=1000)(hf:fe A<50)(so:pe (fe A)) :
  aa prog 156 #[hF p n c] V λr V'=>∃q m e,r=hF q m e/\bI 8 eC V' q m (combL 1 A []):=by
 refine Jh V _ λd a=>(Hs (op:=1) (acc:=λx _=>x) (λt=>by simp [opB,inB]) (hA.le a λ_ _ g=>eC.le g a) (bI.nil (p:=none)) hg (λs h=>by cases h) hs (λs h=>by cases h) hn (by decide) (by have:fe []=0:=rfl;omega) so c_J1).s ?_;rintro r V2 f ⟨q,m,e,rfl,g⟩;exact ⟨_,_,_,rfl,λi b=>⟨_,_,_,rfl,g.le b λ_ _ g=>eC.le g b⟩⟩
theorem LQ.lst (h:LQ V p n ss):bI 8 oT V p n ss:=by
 refine ⟨h.len,λi c=>?_⟩;have ⟨d,f,xs,b,g⟩:=h.at_ i c;have a:=b;obtain ⟨_,_,_,_,_,_,_,_,_,_,_,_,_,_,e,-,-⟩:=uC b;exact ⟨d,f,xs,by rw [e];rfl,a,g⟩
theorem uj (h:bI 8 oT V p n ss):LQ V p n ss:=
 ⟨h.len,λi a=>by obtain ⟨b,c,xs,-,d,e⟩:=h.at_ i a;exact ⟨b,c,xs,d,e⟩⟩
theorem IP {vs:pz un}(h:Row 8 oT V vs ss){m:Nat}(hm:m<ss.length*8)(hv:vs[m]?=some v):v.oneCell'=true:=by
 have c:m / 8<ss.length:=by omega
 have ⟨xs,d,f,g⟩:=h.at_ (m / 8) c;obtain ⟨_,_,_,_,_,_,_,_,_,_,_,_,_,_,e,-,-⟩:=uC f;have b:m%8<xs.length:=by rw [d];exact Qj8 _ (by decide)
 have i:m=m / 8*8+m%8:=by omega
 have:=g (m%8) _ (Qq1 b);rw [←i,hv] at this;obtain rfl:=Qv6 this;have a:=Qq9 b;generalize xs[m%8]=v at a;subst e;simp only [Qq6,Qy0,or_false] at a;rcases a with rfl|rfl|rfl|rfl|rfl|rfl|rfl|rfl<;>rfl
theorem YR {x:Rat}(h:Sz k x):Sz (k+3) (x*((2:Int):Rat)⁻¹):=by
 have a:Sz 2 (((2:Int):Rat))⁻¹:=by unfold Sz;decide +kernel
 exact (h.mul a).s (by omega)
theorem On {c:pz Rat}(h:∀q∈c,Sz k q){q:Rat}(hq:q∈dU c):Sz (2*k+4) q:=by
 have g:∀i,i<c.length->Sz k (c.getD i 0):=λi a=>by rw [jt a];exact h _ (Qq9 a)
 have z:Sz (2*k+4) 0:=by
  have b:(1:Nat)<2^(2*k+4):=Qc6 (by omega);exact ⟨Qn9 (Qq4 _) b,b⟩
 unfold dU at hq;by_cases d:c.length=0
 ·rw [if_pos d] at hq;obtain rfl:q=0:=by simpa using hq
  exact z
 ·rw [if_neg d] at hq;rcases Qw3.1 hq with hq|hq
  ·unfold CW at hq;rcases Qq6.1 hq with rfl|hq
   ·exact ((g 0 (by omega)).sub jx).s (by omega)
   ·obtain ⟨i,a,rfl⟩:=Qz0.1 hq;rw [Wk5] at a;exact (YR ((g i (by omega)).add (g (i+1) (by omega)))).s (by omega)
  ·obtain rfl:q=_:=by simpa using hq
   exact ((g _ (by omega)).add jx).s (by omega)
theorem oM {op:Int}{ap bp:OA}{an ac bn bc:Nat}{la' lb':pz Sp}(ha:LQ V ap an la')(hb:LQ V bp bn lb')(hl:la'.length+lb'.length<10000000)(sa:∀s∈la',s.sz k)(sb:∀s∈lb',s.sz k)(hk:4*k+8<274877906944) :
  aa prog 248 #[qvK .i64 op,hF ap an ac,hF bp bn bc] V λr V'=>∃p n c,r=hF p n c/\LQ V' p n (combL op la' lb'):=by
 have la:=ha.len;have lb:=hb.len;have ⟨xs,x1,x2,x3⟩:=eH ha.lst (by decide);have ⟨ys,y1,y2,y3⟩:=eH hb.lst (by decide);refine wD V _ ⟨xs,x1,by omega,by omega,Qq2 _,Qq4 _,by omega,?_,λTs J5 C c3 h1 t=>⟨ys,y1,by omega,by omega,by omega,?_,by omega,?_,λY6 a6 L c8 u w V1 l1 D M=>?_⟩⟩
 ·intro v A;obtain ⟨m,hm,rfl⟩:=Qh3 A;exact IP x3 (by omega) (Qq1 hm)
 ·rw [List.take_nil,Qn0,Qq3];omega
 ·intro v A;obtain ⟨m,hm,rfl⟩:=Qh3 A;exact IP y3 (by omega) (Qq1 hm)
 have E:Row 8 oT V1 ((([]:pz un).take (0*8)++xs++C).take ((0+an)*8)++ys++L) (la'++lb'):=by
  have e:(([]:pz un).take (0*8)++xs++C).take ((0+an)*8)=xs.take (la'.length*8):=by
   rw [List.take_nil,Qn0,la,Qz1,Qt8 (by omega)]
  rw [e];exact (hZ x3 y3 (by decide)).le λ_ _ h=>h.le l1
 have hL:LQ V1 (some ⟨D,0,none⟩) (0+an+bn) (la'++lb'):=by
  have:=uj (bI.hU M E)
  rwa [show (la'++lb').length=0+an+bn by rw [Qq3];omega] at this
 have f:∀s∈la'++lb',s.sz k:=λs f=>by
  rcases Qw3.1 f with f|f
  ·exact sa s f
  ·exact sb s f
 refine (Fi hL (by rw [Qq3];omega) f).s ?_;rintro r V2 l2 ⟨N,O,P,rfl,Q⟩;have cl:=Ea (la'++lb');rw [Qq3] at cl
 have cs:∀q∈endsL (la'++lb'),Sz k q:=λq K=>by
  have ⟨s,F,e⟩:=Eb K;rcases e with rfl|rfl
  ·exact (f s F).1
  ·exact (f s F).2
 have Z_:combL op la' lb'=Ek (endsL (la'++lb')) (iY op la' lb' (endsL (la'++lb'))):=rfl;rw [Z_];generalize endsL (la'++lb')=cuts at Q cl cs;refine ⟨N,O,P,rfl,λa7 V3 G=>(zN (Q.le G λ_ _ h=>h.le G) (by omega) cs).s ?_⟩;rintro r V4 R ⟨S,o,T,rfl,hp⟩;have U:=hp.len;rw [kZ] at U;have ml:=ku op la' lb' cuts
 have W:∀i (B:i<(dU cuts).length),(iY op la' lb' cuts).take (i+1)=(iY op la' lb' cuts).take i++[opB op (qX la' (dU cuts)[i]==2) (qX lb' (dU cuts)[i]==2)]:=λi B=>by
  rw [kZ] at B;rw [Qz9,Qq1 (by omega)];unfold iY;rw [Qp8];rfl
 refine ⟨S,o,T,rfl,λz V'=>∃i:Nat,z.2.2.2=(i:Int)/\i<=cuts.length+1/\z.1=i/\z.1<=z.2.1/\z.2.1*1<=z.2.2.1.length/\Row 1 RBl V' z.2.2.1 ((iY op la' lb' cuts).take i),λz=>cuts.length+1-z.2.2.2.toNat,
  ⟨(0,0,[],0),by and_intros<;>rfl,0,rfl,Qq4 _,rfl,Qq2 _,Qq2 _,Row.nil⟩,?_⟩
 rintro ⟨g,z2,vs,z4⟩ V5 H ⟨i,e4,Ta,e1,ic,A,d⟩;dsimp only at e4 e1 ic A d;subst e4 e1;refine ⟨rfl,λj=>?_,λj gS bS ZO l=>?_⟩
 ·have j:(g:Int)<o:=of_decide_eq_true j;have B:g<(dU cuts).length:=by rw [kZ];omega
  dsimp only;rw [Qq0];have ⟨ad,b,p1,n1,c1,p2,n2,c2,I,K,a0,a1,a2⟩:=Be (hp.le H λ_ _ h=>h.le H) B;have sq:=On cs (Qq9 B);have L5:V.Le V5:=l1.m (l2.m (G.m (R.m H)));have X:∀s∈la',s.sz (2*k+4):=λs f=>⟨(sa s f).1.s (by omega),(sa s f).2.s (by omega)⟩;have Y:∀s∈lb',s.sz (2*k+4):=λs f=>⟨(sb s f).1.s (by omega),(sb s f).2.s (by omega)⟩;refine ⟨aX I,⟨by omega,by omega⟩,b,p1,n1,c1,p2,n2,c2,ad,I,a0,a1,a2,λV6 J=>(zP (ha.le (L5.m J)) (K.le J) X sq (by omega)).s ?_⟩;rintro r V7 Z rfl;refine ⟨_,rfl,λV8 l8=>(zP (hb.le (L5.m (J.m (Z.m l8)))) (K.le (J.m (Z.m l8))) Y sq (by omega)).s ?_⟩;rintro r V9 l9 rfl;have L9:=J.m (Z.m (l8.m l9));have hm:=W g B;generalize (qX la' (dU cuts)[g]==2)=x at hm;generalize (qX lb' (dU cuts)[g]==2)=y at hm;refine ⟨_,rfl,λz V'=>V9.Le V'/\z=(x||y),⟨λd=>⟨true,by and_intros<;>rfl,View.Le.refl _,by rw [d];rfl⟩,λd=>⟨y,by and_intros<;>rfl,View.Le.refl _,by rw [d];rfl⟩⟩,?_⟩;rintro a8 fQ a9 ⟨b0,rfl⟩;refine ⟨rfl,λz V'=>fQ.Le V'/\z=opB op x y,⟨λt=>?_,λt=>⟨λu=>?_,λu=>⟨λw=>?_,λw=>?_⟩⟩⟩,?_⟩
  ·obtain rfl:=eq_of_beq t;exact ⟨λd=>⟨y,by and_intros<;>rfl,View.Le.refl _,by rw [d];rfl⟩,λd=>⟨false,by and_intros<;>rfl,View.Le.refl _,by rw [d];rfl⟩⟩
  ·obtain rfl:=eq_of_beq u;exact ⟨λd=>⟨!y,by and_intros<;>rfl,View.Le.refl _,by rw [d];rfl⟩,λd=>⟨false,by and_intros<;>rfl,View.Le.refl _,by rw [d];rfl⟩⟩
  ·obtain rfl:=eq_of_beq w;exact ⟨_,by and_intros<;>rfl,View.Le.refl _,rfl⟩
  ·refine ⟨_,by and_intros<;>rfl,View.Le.refl _,?_⟩;have t:¬op=2:=λe=>by subst e;cases t
   have u:¬op=3:=λe=>by subst e;cases u
   have w:¬op=4:=λe=>by subst e;cases w
   unfold opB;rw [if_neg t,if_neg u,if_neg w]
  ·rintro b1 fD bq ⟨b2,rfl⟩;refine ⟨rfl,by omega,ic,A,rfl,?_,λsp c' h5 h6=>⟨(g+1,c',_,(g:Int)+1),by dsimp only;omega,by and_intros<;>first|rfl|exact au (by omega),g+1,rfl,by omega,rfl,h5,?_,?_⟩⟩
   ·intro v hm;obtain rfl:v=_:=by simpa using hm
    rfl
   ·dsimp only;have ht:(vs.take (g*1)).length=g*1:=by rw [Qq7];omega
    rw [Qq3,Qq3,ht];simp only [Qw9,Qj6];omega
   ·dsimp only;have hlen:((iY op la' lb' cuts).take g).length=g:=by rw [Qq7];omega
    rw [hm];have:=(d.le (V':=fD) λ_ _ h=>h).snoc (sp:=sp) (xs:=[qvQ (opB op x y)]) (a:=opB op x y) rfl rfl (by decide);rw [hlen] at this;exact this
 ·have j:¬(g:Int)<o:=of_decide_eq_false j;obtain rfl:g=cuts.length+1:=by omega
  (try dsimp only at l ⊢)
  rw [Qb7 (by omega)] at d;have hM:=bI.bJ (c:=z2) l (d.le (V':=gS) λ_ _ h=>h) (by decide);rw [ml] at hM;refine (Fh (Q.le (G.m (R.m (H.m bS))) λ_ _ h=>h.le (G.m (R.m (H.m bS)))) hM ml).s ?_;rintro r j7 bU ⟨a3,a4,a5,rfl,hr⟩;exact ⟨a3,a4,a5,rfl,λb3 lB cz=>⟨_,_,_,rfl,uj (hr.le cz λ_ _ h=>h.le cz)⟩⟩
theorem I2 (h:JJ V v s):∃b p n c p' n' c' d q m e q' m' e',v=dB #[qvQ b,hF p n c,hF p' n' c',qvQ d,hF q m e,hF q' m' e',qvQ s.a,qvQ s.b]:=by
 obtain ⟨_,_,_,_,_,_,_,_,_,_,_,_,_,_,e,-⟩:=h;exact qyK e
theorem Qy (h:eC V v s):∃(x1 x2:Int)(p:OA)(y1 y2:Int)(q:OA),v=dB #[qvK .i64 x1,qvK .i64 x2,qvW p,qvK .i64 y1,qvK .i64 y2,qvW q,qvQ s.a,qvQ s.b]:=by
 obtain ⟨_,_,_,_,_,_,e,-⟩:=h;exact qyW e
theorem Nm {ls:pz Sp}(h:bI 8 eC V p n ls)(hn:ls.length<=1000)(hs:∀s∈ls,s.sz k)(hk:k<=1099511627776:=by omega) :
  aa prog 40 #[hF p n c] V λr V'=>∃q m e,r=hF q m e/\bI 8 JJ V' q m ls:=by
 obtain rfl:=h.len
 refine BH V _ ⟨λz V'=>∃j:Nat,z.2.2.2=(j:Int)/\j<=ls.length/\z.1=j/\j<=z.2.1/\z.2.1*8<=z.2.2.1.length/\Row 8 JJ V' z.2.2.1 (ls.take j),
  λz=>ls.length-z.2.2.2.toNat,⟨(0,0,[],0),by and_intros<;>rfl,0,rfl,Qq4 _,rfl,Qq2 _,Qq2 _,Row.nil⟩,?_⟩
 rintro ⟨b,O,D,P⟩ Q t ⟨j,u,R,x,l,y,f⟩;dsimp only at u x l y f;subst u x;refine ⟨rfl,λd=>?_,λd S E T F=>?_⟩
 ·have d:(b:Int)<ls.length:=of_decide_eq_true d;have i:b<ls.length:=by omega
  obtain ⟨G,A,xs,-,B,a⟩:=(h.le t λ_ _ g=>eC.le g t).at_ b i;have w:i64.wrap ((b:Int)+1)=(b:Int)+1:=au (by omega);dsimp only;rw [Qq0,w];have o:=B;have ⟨_,_,_,_,_,_,ex⟩:=Qy B;have ex:=congrArg Array.toList (Value.agg.inj ex);dsimp only at ex;subst ex;refine ⟨aX A,⟨by omega,by omega⟩,_,_,_,_,_,_,_,_,G,A,a 0 _ rfl,a 1 _ rfl,a 2 _ rfl,a 3 _ rfl,a 4 _ rfl,a 5 _ rfl,a 6 _ rfl,a 7 _ rfl,λV2 C=>(Hc (o.le C) (hs _ (Qq9 i)) hk).s ?_⟩;rintro r H I g;have J:=g;obtain ⟨_,_,_,_,_,_,_,_,_,_,_,_,_,_,rfl⟩:=I2 g;have K:(ls.take b).length=b:=by rw [Qq7];omega
  refine ⟨_,_,_,_,_,_,_,_,_,_,_,_,_,_,_,_,rfl,by omega,l,y,rfl,?_,λsp L M U=>⟨(b+1,L,_,(b:Int)+1),by dsimp only;omega,by and_intros<;>rfl,b+1,rfl,i,rfl,M,?_,?_⟩⟩
  ·intro v hm;simp only [Qq6,Qy0,or_false] at hm;rcases hm with rfl|rfl|rfl|rfl|rfl|rfl|rfl|rfl<;>rfl
  ·dsimp only;have N:(D.take (b*8)).length=b*8:=by rw [Qq7];omega
   rw [Qq3,Qq3,N];simp only [Qw9,Qj6];omega
  ·dsimp only;rw [Qz9,Qq1 i];have:=(f.le (V':=H) λ_ _ g=>JJ.le g (C.m I)).snoc (sp:=sp) rfl J (by decide);rw [K] at this;exact this
 ·have d:¬(b:Int)<ls.length:=of_decide_eq_false d;obtain rfl:b=ls.length:=by omega
  rw [Qy5] at f;exact ⟨_,_,_,rfl,bI.bJ F (f.le λ_ _ g=>JJ.le g E) (by decide) l⟩
theorem VQ:aa prog 158 #[] V λr V'=>r=dB #[qvK .i64 0,qvK .i64 0,qvW none,qvK .i64 0,qvK .i64 0,qvW none,qvQ true,qvQ true]:=
 Lk V _ λa b=>rfl
theorem c_D1 (a b:md)(W:ut):aa prog 160 #[qvQ a,qvQ b] W λr _=>r=qvQ (opB 3 a b):=
 oX W _ ⟨λh V l=>by subst h;simp [opB],λh V l=>by subst h;simp [opB]⟩
theorem lA.up {k K:Nat}{l:L3}(h:lA k l)(hk:k<=K):lA K l:=⟨h.1.s hk,h.2.1.s hk,h.2.2.s hk⟩
theorem yV {L M:L3}{K:Nat}(sl:lA k L)(sm:lA k M)(hs:s.sz K)(hk:60*k+60<=K:=by omega):(bu L s M).sz K:=by
 have z:=CZ K;have c:=(oH sl sm).s hk;unfold bu;split
 ·exact hs
 ·split
  ·exact Sp.FL hs ⟨c,z⟩
  ·exact Sp.FL hs ⟨z,c⟩
theorem T1 (hk:0<k:=by omega):fullSp.sz k:=⟨CZ k hk,CZ k hk⟩
theorem one17 {x1:Int}{x2:Int}{y1:Int}{y2:Int}{q:OA}{z1:Int}{z2:Int}{r:OA}{u1:Int}{u2:Int}{t:OA}{w1:Int}{w2:Int}{o:OA}{c d:md}:∀v∈([qvK .i64 x1,qvK .i64 x2,qvW p,qvK .i64 y1,qvK .i64 y2,qvW q,qvK .i64 z1,qvK .i64 z2,qvW r,qvK .i64 u1,qvK .i64 u2,qvW t,qvK .i64 w1,qvK .i64 w2,qvW o,qvQ c,qvQ d]:pz un),v.oneCell'=true:=by
 intro v hm;simp only [Qq6,Qy0,or_false] at hm;rcases hm with rfl|rfl|rfl|rfl|rfl|rfl|rfl|rfl|rfl|rfl|rfl|rfl|rfl|rfl|rfl|rfl|rfl<;>rfl
end Go.Proofs.Tryz
namespace Go.Proofs.Tryz
open Go.Eng Go.Big
open Go.Value renaming slice→hF,agg→dB,bool→qvQ,pointer→qvW,tuple→qvZ,int→qvK
variable{L a l x:L3}{b:Bool}{V:View}{lv v:Value}{p q:OA}{c i k n:Nat}{P:List Rat}
theorem Bu (hb:Bd l):Sz 1000 (aw.aN l).1/\Sz 1000 (aw.aN l).2:=⟨hb.jf.2.1,hb.jf.1.neg⟩
theorem QN {V V':ut}{P:Prop}{b:Nat}(l:V.Le V')(h:P->V.w.heap.size<=b\/V.H b):V.Le (V'.shut.bg P b):=λx o a=>by
 have c:=l x o a;refine ⟨λd=>d.elim c.1 ?_,c.2⟩;rintro ⟨e,rfl,-⟩;rcases h e with h|h
 ·have:=(Qf1.1 a.2).1;omega
 ·exact a.1 h
theorem Nl {w:un}{M:L3}(hl:o_ V v L)(hm:o_ V w M)(bl:Bd L)(bm:Bd M) :
  aa prog 221 #[v,w] V λr V'=>r=qvQ (decide (L=M\/L=revL M)):=by
 have a:=hl;have b:=hm;obtain ⟨_,_,_,_,_,_,_,_,_,rfl,-,-,-⟩:=hl;obtain ⟨_,_,_,_,_,_,_,_,_,rfl,-,-,-⟩:=hm;refine BG V _ λn c=>(qK (a.le c) (b.le c) bl.jf bm.jf).s ?_;rintro r V2 j rfl;have d:=c.m j;refine ⟨_,rfl,λe o p=>?_,λe q f=>(kq (b.le (d.m f)) bm.jf).s ?_⟩
 ·rw [decide_eq_true (.inl (of_decide_eq_true e))]
 ·have e:=of_decide_eq_false e;rintro r k l g;have m:o_ k r (revL M):=g;obtain ⟨_,_,_,_,_,_,_,_,_,rfl,-,-,-⟩:=g;refine qyJ ⟨rfl,λs i=>(qK (a.le (d.m (f.m (l.m i)))) (m.le i) bl.jf bm.jf.rev).s ?_⟩;rintro r t u rfl;exact ⟨_,rfl,λx y=>congrArg Value.bool (decide_eq_decide.2 ⟨.inr,λh=>h.resolve_left e⟩)⟩
theorem one8i {x1 x2:Int}{y1 y2:Int}{a:md}:∀v∈([qvK .i64 x1,qvK .i64 x2,qvW p,qvK .i64 y1,qvK .i64 y2,qvW q,qvQ a,qvQ b]:pz un),v.oneCell'=true:=λv c=>by
 simp only [Qq6,Qy0,or_false] at c;rcases c with rfl|rfl|rfl|rfl|rfl|rfl|rfl|rfl<;>rfl
theorem J7 {e:md}{k:Int}(h1:decide (k>0)=e)(h2:decide (k<0)=!e)(hb:Bd L):∀(t:Tr) {V:ut} {q:OA} {lv v:un} {s:Sp} {lb n m:Nat} {vs:pz un} {o:pz Sp},RT V q t->t.eU Bd->o_ V lv L->eC V v s->s.sz 100000 ->
  (vs≠[]->V.w.heap[lb]?=some (.cells vs.toArray 140 (0,0)))->(vs≠[]->V.X lb)->GR 8 eC V n m vs o->n+(bh L e t s).length<=1000000 ->
  aa prog 157 #[qvW q,lv,v,qvK .i64 k,hF (mA lb m) n m] V λr V'=>∃(bm:Nat)(vm:pz un)(n' c':Nat),(vm≠[]->V'.w.heap[bm]?=some (.cells vm.toArray 140 (0,0)))/\(vm≠[]->V.w.heap.size<=bm\/(vs≠[]/\bm=lb)) /\
   r=hF (mA bm c') n' c'/\GR 8 eC (V'.bg (vm≠[]) bm) n' c' vm (o++bh L e t s):=by
 intro t;have UF:∀{A B:Prop},A\/B\/False->A\/B:=λh=>h.imp id λh=>h.elim id False.elim
 induction t with
 | leaf i=>
  intro V q lv v s lb n m vs o h ha hl hv sz hw hx K D;have f:=hl;have C:=hv;obtain ⟨_,_,_,_,_,_,_,_,_,rfl,-,-,-⟩:=hl;obtain ⟨_,_,_,_,_,_,rfl,-,-⟩:=hv;refine rN q _ _ _ _ _ _ _ _ _ _ _ _ _ _ _ _ _ k lb n m vs V _ hw hx ⟨λz _=>z=i,λV1 l1=>(dR (h.le l1)).s ?_,?_⟩
  ·rintro r V2 l2 rfl;obtain ⟨b,c0,c1,T,c3,c4,c5,c6,c7,c8,r,rfl,hb⟩:=h.le (l1.m l2);exact ⟨_,rfl,λ_=>⟨rfl,rfl,i,F9 hb 11 rfl,_,by and_intros<;>rfl,rfl⟩,(λh=>nomatch h)⟩
  rintro z V3 l3 rfl;refine ⟨rfl,λhz=>?_,λhz V5 l5=>(dR (h.le (l3.m l5))).s ?_⟩
  ·subst hz;simp only [bh,if_true,Qc2] at D;refine ⟨by omega,K.le,K.cap,rfl,one8i,λsp c k1 k2 V4 p hle E F=>⟨p,_,n+1,c,E,λh=>UF (F h),rfl,?_⟩⟩;exact (K.s λ_ _ g=>eC.le g (l3.m hle)).snoc rfl (C.le (l3.m hle)) (by decide) k1 k2
  ·rintro r V6 l6 rfl;subst hz;refine ⟨_,rfl,λ_ V7 p hle E F=>⟨p,vs,n,m,E,λh=>UF (F h),rfl,?_⟩,(λh=>nomatch h)⟩;show GR 8 eC _ n m vs (o++[]);rw [Qx3];exact K.s λ_ _ g=>eC.le g (l3.m (l5.m (l6.m hle)))
 | node ln a b iha ihb=>
  intro V q lv v s lb n m vs o h ha hl hv sz hw hx K D;have f:=hl;have C:=hv;obtain ⟨_,_,_,_,_,_,_,_,_,rfl,-,-,-⟩:=hl;obtain ⟨_,_,_,_,_,_,rfl,-,-⟩:=hv;obtain ⟨u,a8,a9⟩:=ha;refine rN q _ _ _ _ _ _ _ _ _ _ _ _ _ _ _ _ _ k lb n m vs V _ hw hx ⟨λz _=>z=false,λV1 l1=>(dR (h.le l1)).s ?_,?_⟩
  ·rintro r V2 l2 rfl;exact ⟨_,rfl,(λh=>nomatch h),λ_=>⟨_,by and_intros<;>rfl,rfl⟩⟩
  rintro z V3 l3 rfl;refine ⟨rfl,(λh=>nomatch h),λ_ V5 l5=>(dR (h.le (l3.m l5))).s ?_⟩;rintro r V6 l6 rfl;have Cm:=l3.m (l5.m l6);obtain ⟨M,u1,u2,u3,v1,v2,v3,w1,w2,w3,pl,pr,i,rfl,a5,x,b0,b3⟩:=h.le Cm;have x:o_ V6 _ ln:=x
  have d:∀{W:ut},V6.Le W->∀j v,([qvK .i64 u1,qvK .i64 u2,qvW u3,qvK .i64 v1,qvK .i64 v2,qvW v3,qvK .i64 w1,qvK .i64 w2,qvW w3,qvW pl,qvW pr,qvQ i]:pz un)[j]?=some v->W.at ((⟨M,0,none⟩:Addr).add j) v:=by
   intro W hW j v hv;rw [add_zero'];exact dF (xs:=[_,_,_,_,_,_,_,_,_,_,_,_]) (hW _ _ a5) hv
  have N:=View.Le.refl V6;have hp:∀{W:ut},V6.Le W->(∃a,ae (some ⟨M,0,none⟩) 9=some a/\W.at a (qvW pl))/\∃a,ae (some ⟨M,0,none⟩) 10=some a/\W.at a (qvW pr):=λhW=>⟨F9 (hW _ _ a5) 9 rfl,F9 (hW _ _ a5) 10 rfl⟩;refine ⟨_,rfl,(λh=>nomatch h),λ_=>⟨λz _=>z=decide (ln=L/\e=true\/ln=revL L/\e=false),⟨rfl,rfl,_,_,_,_,_,_,_,_,_,⟨M,0,none⟩,rfl,d N 0 _ rfl,d N 1 _ rfl,d N 2 _ rfl,d N 3 _ rfl,d N 4 _ rfl,d N 5 _ rfl,d N 6 _ rfl,d N 7 _ rfl,d N 8 _ rfl,λV8 l8=>(qK (x.le l8) (f.le (Cm.m l8)) u.jf hb.jf).s ?_⟩,?_⟩⟩
  ·rintro r V9 l9 rfl;have l:=l8.m l9
   have rv:∀{P:md->Prop},(decide (ln=revL L)=true->P (decide (k<0)))->(decide (ln=revL L)=false->P false)->P (decide (ln=revL L)&&!e):=λa b=>by
    cases g:decide (ln=revL L)
    ·exact b g
    ·rw [h2] at a;exact a g
   have eqv:∀{c:md},(c=true->(ln=L/\e=true\/ln=revL L/\e=false))->((ln=L/\e=true\/ln=revL L/\e=false)->c=true)->c=decide (ln=L/\e=true\/ln=revL L/\e=false):=λ{c} a b=>by
    cases c
    ·exact (decide_eq_false λh=>by have:=b h;cases this).symm
    ·exact (decide_eq_true (a rfl)).symm
   refine ⟨_,rfl,λg=>⟨λgk=>⟨_,by and_intros<;>rfl,?_⟩,λgk=>?_⟩,λg=>?_⟩
   ·rw [h1] at gk;exact eqv (λ_=>.inl ⟨of_decide_eq_true g,gk⟩) λ_=>rfl
   ·rw [h1] at gk;refine ⟨rfl,rfl,_,_,_,_,_,_,_,_,_,⟨M,0,none⟩,rfl,d l 0 _ rfl,d l 1 _ rfl,d l 2 _ rfl,d l 3 _ rfl,d l 4 _ rfl,d l 5 _ rfl,d l 6 _ rfl,d l 7 _ rfl,d l 8 _ rfl,λfQ b4=>(kq (f.le (Cm.m (l.m b4))) hb.jf).s ?_⟩;rintro r fD bq U;have Ai:o_ fD r (revL L):=U;obtain ⟨_,_,_,_,_,_,_,_,_,rfl,-,-,-⟩:=U;refine qyJ ⟨rfl,λgS bS=>(qK (x.le (l.m (b4.m (bq.m bS)))) (Ai.le bS) u.jf hb.jf.rev).s ?_⟩;rintro r j7 bU rfl;refine ⟨_,rfl,λg2=>⟨_,by and_intros<;>rfl,?_⟩,λg2=>⟨_,by and_intros<;>rfl,?_⟩⟩
    ·rw [h2,show (!e)=true by rw [gk];rfl];exact eqv (λ_=>.inr ⟨of_decide_eq_true g2,gk⟩) λ_=>rfl
    ·exact eqv (λh=>nomatch h) λh=>(of_decide_eq_false g2 (h.elim (λh=>by rw [gk] at h;exact nomatch h.2) λh=>h.1)).elim
   ·refine ⟨rfl,rfl,_,_,_,_,_,_,_,_,_,⟨M,0,none⟩,rfl,d l 0 _ rfl,d l 1 _ rfl,d l 2 _ rfl,d l 3 _ rfl,d l 4 _ rfl,d l 5 _ rfl,d l 6 _ rfl,d l 7 _ rfl,d l 8 _ rfl,λlB cz=>(kq (f.le (Cm.m (l.m cz))) hb.jf).s ?_⟩;rintro r jI cE U;have Ai:o_ jI r (revL L):=U;obtain ⟨_,_,_,_,_,_,_,_,_,rfl,-,-,-⟩:=U;refine qyJ ⟨rfl,λlH cq=>(qK (x.le (l.m (cz.m (cE.m cq)))) (Ai.le cq) u.jf hb.jf.rev).s ?_⟩;rintro r lC b_ rfl;refine ⟨_,rfl,λg2=>⟨_,by and_intros<;>rfl,?_⟩,λg2=>⟨_,by and_intros<;>rfl,?_⟩⟩
    ·rw [h2];exact eqv (λh=>.inr ⟨of_decide_eq_true g2,by simpa using h⟩) λh=>by rcases h with h|h;exact absurd h.1 (of_decide_eq_false g);rw [h.2];rfl
    ·exact eqv (λh=>nomatch h) λh=>(h.elim (λh=>of_decide_eq_false g h.1) λh=>of_decide_eq_false g2 h.1).elim
  rintro z mE y rfl;have O:=Cm.m y;have XW:GR 8 eC mE n m vs o:=K.s λ_ _ g=>eC.le g O
  have go:∀{lw:un},o_ V lw L->∀{Q:Tr} {q':OA} {W:ut} (p:Nat),mE.Le W->RT V6 q' Q->(∀{V:ut} {q:OA} {lv v:un} {s:Sp} {lb n m:Nat} {vs:pz un} {o:pz Sp},RT V q Q->Q.eU Bd->o_ V lv L->eC V v s->s.sz 100000 ->
    (vs≠[]->V.w.heap[lb]?=some (.cells vs.toArray 140 (0,0)))->(vs≠[]->V.X lb)->GR 8 eC V n m vs o->n+(bh L e Q s).length<=1000000 ->
    aa prog 157 #[qvW q,lv,v,qvK .i64 k,hF (mA lb m) n m] V λr V'=>∃(bm:Nat)(vm:pz un)(n' c':Nat),(vm≠[]->V'.w.heap[bm]?=some (.cells vm.toArray 140 (0,0)))/\(vm≠[]->V.w.heap.size<=bm\/(vs≠[]/\bm=lb)) /\
     r=hF (mA bm c') n' c'/\GR 8 eC (V'.bg (vm≠[]) bm) n' c' vm (o++bh L e Q s))->Q.eU Bd->∀{v':un} {s':Sp},eC W v' s'->s'.sz 100000->∀{n m:Nat} {vs:pz un} {o:pz Sp},(vs≠[]->W.w.heap[p]?=some (.cells vs.toArray 140 (0,0)))->(vs≠[]->W.H p)->GR 8 eC W n m vs o->n+(bh L e Q s').length<=1000000 ->
    aa prog 157 #[qvW q',lw,v',qvK .i64 k,hF (mA p m) n m] (W.ar [vb vs W.w.heap.size p]) λr V'=>∃(bm:Nat)(vm:pz un)(n' c':Nat),(vm≠[]->V'.w.heap[bm]?=some (.cells vm.toArray 140 (0,0)))/\(vm≠[]->W.w.heap.size<=bm\/(vs≠[]/\bm=p)) /\
     r=hF (mA bm c') n' c'/\W.Le (V'.shut.bg (vm≠[]) bm)/\GR 8 eC (V'.shut.bg (vm≠[]) bm) n' c' vm (o++bh L e Q s'):=by
   intro lw b5 Q q' W p lW hq ih ha v' s' tD b6 n m vs o f1 f2 K D;refine (ih (V:=W.ar [vb vs W.w.heap.size p]) (lb:=p) (RT.le (V:=V6) (V':=W.ar _) (λb o h=>(y.m lW) b o h) hq) ha (o_.le (V:=V) (V':=W.ar _) b5 λb o h=>(O.m lW) b o h) (eC.le (V:=W) (V':=W.ar _) tD λb o h=>h) b6 f1 (λh=>⟨by simp [rM h],f2 h⟩) (K.s (V':=W.ar _) λ_ _ g=>eC.le (V:=W) g λb o h=>h) D).s ?_;rintro r V' l' ⟨bm,vm,n',c',R,I,a3,S⟩;exact ⟨bm,vm,n',c',R,I,a3,QN (V:=W) (V':=V') (λb o h=>l' b o h) λh=>(I h).imp id λ(g:vs≠[]/\bm=p)=>by rw [g.2];exact f2 g.1,S.s λ_ _ g=>eC.le g λb o h=>h⟩
  refine ⟨rfl,λc=>?_,λc=>?_⟩
  ·have c:=of_decide_eq_true c;have eP:bh L e (.node ln a b) s=bh L e a s:=by rw [bh,if_pos c]
   rw [eP] at D ⊢;refine ⟨rfl,rfl,pl,(hp y).1,λpf du p f1 f2=>(go f p du b0 iha a8 (C.le (O.m du)) sz f1 f2 (XW.s λ_ _ g=>eC.le g du) D).s ?_⟩;rintro r vh fl ⟨bm,vm,n',c',R,I,rfl,a3,S⟩;exact ⟨bm,vm,R,I,none,n',c',rfl,λqB VL hle E F=>⟨VL,vm,n',c',E,λh=>UF (F h),rfl,S.s λ_ _ g=>eC.le g hle⟩⟩
  have c:=of_decide_eq_false c;refine ⟨rfl,rfl,_,_,_,_,_,_,_,_,_,⟨M,0,none⟩,rfl,d y 0 _ rfl,d y 1 _ rfl,d y 2 _ rfl,d y 3 _ rfl,d y 4 _ rfl,d y 5 _ rfl,d y 6 _ rfl,d y 7 _ rfl,d y 8 _ rfl,λtC gV=>(Nl (x.le (y.m gV)) (f.le (O.m gV)) u hb).s ?_⟩;rintro r rk ij rfl;have As:=gV.m ij;have G:=y.m As;refine ⟨_,rfl,λT=>?_,λT=>?_⟩
  ·have T:=of_decide_eq_true T;have eP:bh L e (.node ln a b) s=bh L e b s:=by rw [bh,if_neg c,if_pos T]
   rw [eP] at D ⊢;refine ⟨rfl,rfl,pr,(hp G).2,λzk kt p f1 f2=>(go f p (As.m kt) b3 ihb a9 (C.le (O.m (As.m kt))) sz f1 f2 (XW.s λ_ _ g=>eC.le g (As.m kt)) D).s ?_⟩;rintro r Cs lU ⟨bm,vm,n',c',R,I,rfl,a3,S⟩;exact ⟨bm,vm,R,I,none,n',c',rfl,λJS VL hle E F=>⟨VL,vm,n',c',E,λh=>UF (F h),rfl,S.s λ_ _ g=>eC.le g hle⟩⟩
  have T:=of_decide_eq_false T;have eP:bh L e (.node ln a b) s=(if cH L s ln=true then bh L e a (bu L s ln) else [])++(if cH L s (revL ln)=true then bh L e b (bu L s (revL ln)) else []):=by rw [bh,if_neg c,if_neg T]
  rw [eP] at D ⊢;rw [Qq3] at D;have sK:lA 100000 L:=hb.jf.up (by omega);have b7:(bu L s ln).sz 100000:=yV hb.jf u.jf sz;have b8:(bu L s (revL ln)).sz 100000:=yV hb.jf u.jf.rev sz;refine ⟨rfl,rfl,_,_,_,_,_,_,_,_,_,⟨M,0,none⟩,rfl,d G 0 _ rfl,d G 1 _ rfl,d G 2 _ rfl,d G 3 _ rfl,d G 4 _ rfl,d G 5 _ rfl,d G 6 _ rfl,d G 7 _ rfl,d G 8 _ rfl,λPa oW=>(Hd (f.le (O.m (As.m oW))) (C.le (O.m (As.m oW))) (x.le (G.m oW)) (k:=100000) sK sz (u.jf.up (by omega))).s ?_⟩;rintro r M6 uh ⟨w,rfl,gw⟩;have a6:=gw;obtain ⟨_,_,_,_,_,_,rfl,-,-⟩:=gw;have Ml:=As.m (oW.m uh);have Y:=y.m Ml;have Z:GR 8 eC M6 n m vs o:=XW.s λ_ _ g=>eC.le g Ml;refine qyJ ⟨rfl,λz V'=>GR 8 eC V' z.1 z.2.1 z.2.2 (o++(if cH L s ln=true then bh L e a (bu L s ln) else [])),⟨λb1=>?_,λb1=>?_⟩,?_⟩
  ·rw [if_pos b1] at D ⊢;refine ⟨rfl,rfl,pl,(hp Y).1,λTi yL p f1 f2=>(go f p (Ml.m yL) b0 iha a8 (a6.le yL) b7 f1 f2 (Z.s λ_ _ g=>eC.le g yL) (by omega)).s ?_⟩;rintro r OT vR ⟨bm,vm,n',c',R,I,rfl,a3,S⟩;exact ⟨bm,vm,R,I,none,n',c',rfl,(n',c',vm),by and_intros<;>rfl,S⟩
  ·rw [if_neg (by rw [b1];simp)];refine ⟨(n,m,vs),by and_intros<;>rfl,?_⟩;rw [Qx3];exact Z
  rintro ⟨z1,z2,us⟩ W5 yM hz;dsimp only at hz ⊢;have zl:=hz.len;have ol:=K.len;rw [Qq3] at zl;have J:=Y.m yM;have a7:=Ml.m yM;refine ⟨rfl,rfl,rfl,_,_,_,_,_,_,_,_,_,⟨M,0,none⟩,rfl,d J 0 _ rfl,d J 1 _ rfl,d J 2 _ rfl,d J 3 _ rfl,d J 4 _ rfl,d J 5 _ rfl,d J 6 _ rfl,d J 7 _ rfl,d J 8 _ rfl,λY0 Cn=>(kq (x.le (J.m Cn)) u.jf).s ?_⟩;rintro r SZ xO U;have Ai:o_ SZ r (revL ln):=U;obtain ⟨_,_,_,_,_,_,_,_,_,rfl,-,-,-⟩:=U;have QE:=a7.m (Cn.m xO);refine qyJ ⟨rfl,λZw FH=>(Hd (f.le (O.m (QE.m FH))) (C.le (O.m (QE.m FH))) (Ai.le FH) (k:=100000) sK sz (u.jf.rev.up (by omega))).s ?_⟩;rintro r Zx yN ⟨w,rfl,gw⟩;have a6:=gw;obtain ⟨_,_,_,_,_,_,rfl,-,-⟩:=gw;have Wp:=QE.m (FH.m yN);have Ia:=Cn.m (xO.m (FH.m yN));have a0:GR 8 eC Zx z1 z2 us _:=hz.s λ_ _ g=>eC.le g Ia;refine qyJ ⟨rfl,λb2=>?_,λb2 b9 VL hle E F=>⟨VL,us,z1,z2,E,λh=>UF (F h),rfl,?_⟩⟩
  ·rw [if_pos b2] at D ⊢;refine ⟨rfl,rfl,pr,(hp (y.m Wp)).2,λc9 Mn p f1 f2=>(go f p (Wp.m Mn) b3 ihb a9 (a6.le Mn) b8 f1 f2 (a0.s λ_ _ g=>eC.le g Mn) (by omega)).s ?_⟩;rintro r d0 O0 ⟨bm,vm,n',c',R,I,rfl,a3,S⟩;refine ⟨bm,vm,R,I,none,n',c',rfl,λd1 VL hle E F=>⟨VL,vm,n',c',E,λh=>UF (F h),rfl,?_⟩⟩;rw [←Qy6];exact S.s λ_ _ g=>eC.le g hle
  ·rw [if_neg (c:=cH L s (revL ln)=true) (by rw [b2];simp),Qx3];exact a0.s λ_ _ g=>eC.le g hle
theorem LW {e:md}{k:Int}(h1:decide (k>0)=e)(h2:decide (k<0)=!e)(hb:Bd L){t:Tr}{s:Sp}(h:RT V q t)(ha:t.eU Bd)(hl:o_ V lv L)(hv:eC V v s)(hs:s.sz 100000)(hn:(bh L e t s).length<=1000000) :
  aa prog 157 #[qvW q,lv,v,qvK .i64 k,hF none 0 0] V λr V'=>∃p n c,r=hF p n c/\bI 8 eC V' p n (bh L e t s):=by
 have own:∀{f:FuncId} {args:Array un} {V:ut} {R:un->ut->Prop},aa prog f args V R->aa prog f args V λr V'=>R r V'/\∀b,V.w.heap.size<=b->¬V'.H b:=λ{f args V R} h=>
  ⟨h.1,h.2.s λ_ C ⟨r,he,a,u⟩=>⟨r,he,a,u,λb hb i=>absurd (V.hH b i) (by omega)⟩⟩
 refine (own (J7 h1 h2 hb t (lb:=0) (n:=0) (m:=0) (vs:=[]) (o:=[]) h ha hl hv hs (λh=>absurd rfl h) (λh=>absurd rfl h) GR.nil (by omega))).s ?_;rintro r V' l ⟨⟨y,D,E,F,z,A,rfl,d⟩,B⟩;have j:=d.len;rw [Qn0] at d j;rw [j];exact ⟨_,_,_,rfl,bI.bJ (λh=>⟨B y ((A h).elim id λg=>absurd rfl g.1),z h⟩) (d.row.le λ_ _ g=>eC.le g λx o a=>⟨λi=>a.1 (.inl i),a.2⟩) (by decide) (by rw [←j];exact d.le)⟩
theorem zU (hs:∀x∈P,Sz 1000000 x){l:pz Sp}(hg:∀s∈l,s.good/\∀q,s.cN q->q∈P):∀s∈l,s.sz 1000000:=λs h=>by
 have ⟨g,e⟩:=hg s h;refine ⟨?_,?_⟩
 ·cases ha:s.a
  ·exact hs _ (e _ (.inl ⟨ha,rfl⟩))
  ·rw [g.1.1 ha];exact CZ _
 ·cases hb:s.b
  ·exact hs _ (e _ (.inr ⟨hb,rfl⟩))
  ·rw [g.1.2 hb];exact CZ _
structure LO (L:L3) (P:List Rat) (t:Tr):Prop where
 Z9:Zp L P t
 asc:asc P
 len:P.length<=24
 sz:∀x∈P,Sz 1000000 x
def mW (L:L3)(e:Bool)(t:Tr):List Sp:=combL 1 (bh L e t bH) []
theorem E_ {t:Tr}(h:RT V q t)(ha:t.eU Bd)(hl:o_ V lv L)(hb:Bd L)(hc:LO L P t)(so:∀i,i<=48->pe i) :
  aa prog 99 #[qvW q,lv] V λr V'=>∃p n c p' n' c',r=qvZ #[hF p n c,hF p' n' c']/\bI 8 eC V' p n (mW L true t)/\bI 8 eC V' p' n' (mW L false t):=by
 have j:=hl;obtain ⟨_,_,_,_,_,_,_,_,_,rfl,-,-,-⟩:=hl;have A:∀W:ut,eC W (dB #[qvK .i64 0,qvK .i64 0,qvW none,qvK .i64 0,qvK .i64 0,qvW none,qvQ true,qvQ true]) bH:=λW=>⟨0,0,none,0,0,none,rfl,RR.zero W,RR.zero W⟩;have D:=hc.len
 have go:∀e:md,(∀s∈bh L e t bH,s.good)/\(∀s∈bh L e t bH,s.sz 1000000)/\fe (bh L e t bH)<=48/\(bh L e t bH).length<=1000:=λe=>by
  have ⟨a,b,c⟩:=RX (e:=e) hc.Z9;exact ⟨λs h=>(a s h).1,zU hc.sz a,by omega,by omega⟩
 have join:∀(e:md) {W:ut} {p:OA} {n c:Nat},bI 8 eC W p n (bh L e t bH)->aa prog 156 #[hF p n c] W λr V'=>∃q m e',r=hF q m e'/\bI 8 eC V' q m (mW L e t):=λe W p n c g=>by
  have ⟨a,b,c,d⟩:=go e;exact zI g a b d (by omega) (so _ c)
 refine xW V _ λV1 E=>VQ.s ?_;rintro r V2 F rfl;have o:=E.m F;refine ⟨_,_,_,_,_,_,_,_,rfl,λV3 u=>(LW (e:=true) rfl rfl hb (RT.le (o.m u) h) ha (j.le (o.m u)) (A _) ⟨CZ _,CZ _⟩ (by have:=(go true).2.2.2;omega)).s ?_⟩;rintro r V4 G ⟨p,n,c,rfl,H⟩;refine ⟨p,n,c,rfl,λV5 v=>(join true (H.le v λ_ _ g=>eC.le g v)).s ?_⟩;rintro r I J ⟨K,M,N,rfl,O⟩;refine ⟨K,M,N,rfl,λV7 Q=>VQ.s ?_⟩;rintro r V8 R rfl;have B:=Q.m R;have C:=o.m (u.m (G.m (v.m (J.m B))));refine ⟨_,_,_,_,_,_,_,_,rfl,λV9 w=>(LW (e:=false) rfl rfl hb (RT.le (C.m w) h) ha (j.le (C.m w)) (A _) ⟨CZ _,CZ _⟩ (by have:=(go false).2.2.2;omega)).s ?_⟩;rintro r fQ x ⟨S,T,U,rfl,X⟩;refine ⟨S,T,U,rfl,λfD y=>(join false (X.le y λ_ _ g=>eC.le g y)).s ?_⟩;rintro r Y Z ⟨p3,n3,c3,rfl,g4⟩;have f:∀{z:ut},Y.Le z->I.Le z:=λl=>B.m (w.m (x.m (y.m (Z.m l))));exact ⟨p3,n3,c3,rfl,λz k=>⟨_,_,_,_,_,_,rfl,O.le (f k) λ_ _ g=>eC.le g (f k),g4.le k λ_ _ g=>eC.le g k⟩⟩
theorem ug {t:Tr}(hc:LO L P t)(e:md):wb (mW L e t)/\(∀s∈mW L e t,s.sz 1000000)/\fe (mW L e t)<=24/\(mW L e t).length<=1000:=by
 have f:=hc.len;have ⟨a,b,c⟩:=RX (e:=e) hc.Z9;have r:wb (mW L e t):=comb_reg _ _ _;refine ⟨r,zU hc.sz λs d=>⟨r.1 s d,λq g=>v_ hc.Z9 q (jC.2 ⟨s,d,g⟩)⟩,Qw8 (RY hc.Z9 hc.asc) hc.len,?_⟩;have:=Hx 1 (bh L e t bH) [];have h:fe ([]:pz Sp)=0:=rfl;unfold mW;omega
theorem Hh {t:Tr}(h:RT V q t)(ha:t.eU Bd)(hl:o_ V lv L)(hb:Bd L)(hc:LO L P t)(so:∀i,i<=48->pe i) :
  aa prog 39 #[qvW q,lv] V λr V'=>∃p n c,r=hF p n c/\bI 8 eC V' p n (xC L t):=by
 have k:=hl;obtain ⟨_,_,_,_,_,_,_,_,_,rfl,-,-,-⟩:=hl;refine Jb V _ λH l=>(E_ (h.le l) ha (k.le l) hb hc so).s ?_;rintro r V2 I ⟨p,n,c,o,s,u,rfl,v,w⟩;have ⟨z,s1,f1,A⟩:=ug hc true;obtain ⟨B,s2,f2,C⟩:=ug hc false;refine qyW ⟨rfl,λD f=>?_⟩;refine aa.s (R:=λr V'=>∃q m e,r=hF q m e/\bI 8 eC V' q m (xC L t)) ?_ ?_
 ·refine rj D _ λJ j=>(Hs (op:=3) (acc:=λx y=>x&&!y) (λt=>by simp [opB,inB]) (v.le (f.m j) λ_ _ g=>eC.le g (f.m j)) (w.le (f.m j) λ_ _ g=>eC.le g (f.m j)) z.1 B.1 s1 s2 A C (by omega) (so _ (by omega)) λa b W=>(c_D1 a b W).s λr _ _ e=>by rw [e];simp [opB]).s ?_;rintro r E F ⟨q,m,e,rfl,g⟩;exact ⟨_,_,_,rfl,λG d=>⟨_,_,_,rfl,g.le d λ_ _ g=>eC.le g d⟩⟩
 ·rintro r E F ⟨q,m,e,rfl,g⟩;exact ⟨q,m,e,rfl,λG d=>⟨q,m,e,rfl,g.le d λ_ _ g=>eC.le g d⟩⟩
def cA (V:View)(v:Value)(l:L3):Prop:=RL V v l.1 l.2.1 l.2.2
theorem cA.le {V V':ut}(h:cA V v l)(e:V.Le V'):cA V' v l:=RL.le h e
theorem bR (h:cA V v l):∃(b1:md)(p1:OA)(n1 c1:Nat)(b2:md)(p2:OA)(n2 c2:Nat)(b3:md)(p3:OA)(n3 c3:Nat),v=dB #[qvQ b1,hF p1 n1 c1,qvQ b2,hF p2 n2 c2,qvQ b3,hF p3 n3 c3]:=by
 obtain ⟨_,_,_,_,_,_,_,_,_,e,-⟩:=h;exact qxW e
theorem Gd {xs:pz un}(h:cA V (.agg (List.toArray xs)) l):∀v∈xs,v.oneCell'=true:=by
 have ⟨_,_,_,_,_,_,_,_,_,_,_,_,e⟩:=bR h;have e:=congrArg Array.toList (Value.agg.inj e);dsimp only at e;subst e;intro v hm;simp only [Qq6,Qy0,or_false] at hm;rcases hm with rfl|rfl|rfl|rfl|rfl|rfl<;>rfl
theorem Oh {b':md}{p':OA}{n' c':Nat}{b'':md}{p'':OA}{n'' c'':Nat}:∀v∈([qvQ b,hF p n c,qvQ b',hF p' n' c',qvQ b'',hF p'' n'' c'']:pz un),v.oneCell'=true:=by
 intro v hm;simp only [Qq6,Qy0,or_false] at hm;rcases hm with rfl|rfl|rfl|rfl|rfl|rfl<;>rfl
theorem Uu {al:pz L3}(h:bI 9 nF V p n al)(hi:i<al.length) :
  p.isSome=true/\∃(x1 x2:Int)(q1:OA)(y1 y2:Int)(q2:OA)(z1 z2:Int)(q3:OA)(a:Addr),ae p (i*9)=some a/\V.at (a.add 0) (qvK .i64 x1)/\V.at (a.add 1) (qvK .i64 x2)/\V.at (a.add 2) (qvW q1)/\V.at (a.add 3) (qvK .i64 y1)/\V.at (a.add 4) (qvK .i64 y2)/\V.at (a.add 5) (qvW q2)/\V.at (a.add 6) (qvK .i64 z1)/\V.at (a.add 7) (qvK .i64 z2)/\V.at (a.add 8) (qvW q3) /\
   nF V (dB #[qvK .i64 x1,qvK .i64 x2,qvW q1,qvK .i64 y1,qvK .i64 y2,qvW q2,qvK .i64 z1,qvK .i64 z2,qvW q3]) al[i]:=by
 have ⟨f,c,xs,g,d,b⟩:=h.at_ i hi;obtain ⟨_,_,_,_,_,_,_,_,_,e⟩:=d.shape;have e:=congrArg Array.toList (Value.agg.inj e);subst e;refine ⟨?_,_,_,_,_,_,_,_,_,_,f,c,b 0 _ rfl,b 1 _ rfl,b 2 _ rfl,b 3 _ rfl,b 4 _ rfl,b 5 _ rfl,b 6 _ rfl,b 7 _ rfl,b 8 _ rfl,d⟩
 cases p with
 | none=>cases c
 | some a=>rfl
def cM (V:View)(v:Value)(c:Rat×Rat):Prop:=RP V v c.1 c.2
theorem cM.le {V V':ut}{c:Rat×Rat}(h:cM V v c)(l:V.Le V'):cM V' v c:=RP.le h l
theorem cM.shape {c:Rat×Rat}(h:cM V v c):∃(b:md)(p:OA)(n c:Nat)(p':OA)(n' c':Nat)(d:md)(q:OA)(m e:Nat)(q':OA)(m' e':Nat),v=dB #[qvQ b,hF p n c,hF p' n' c',qvQ d,hF q m e,hF q' m' e']:=by
 obtain ⟨p,n,c,p',n',c',q,m,e,q',m',e',h,-⟩:=h;grind
theorem sG {R:ut->un->Rat×Rat->Prop}(sh:∀{V v c},R V v c->∃(b:md)(p:OA)(n c:Nat)(p':OA)(n' c':Nat)(d:md)(q:OA)(m e:Nat)(q':OA)(m' e':Nat),v=dB #[qvQ b,hF p n c,hF p' n' c',qvQ d,hF q m e,hF q' m' e']) {al:pz (Rat×Rat)}(h:bI 6 R V p n al)(hi:i<al.length) :
  p.isSome=true/\∃(b1:md)(p1:OA)(n1 c1:Nat)(p2:OA)(n2 c2:Nat)(b2:md)(p3:OA)(n3 c3:Nat)(p4:OA)(n4 c4:Nat)(a:Addr),ae p (i*6)=some a/\V.at (a.add 0) (qvQ b1)/\V.at (a.add 1) (hF p1 n1 c1)/\V.at (a.add 2) (hF p2 n2 c2)/\V.at (a.add 3) (qvQ b2)/\V.at (a.add 4) (hF p3 n3 c3)/\V.at (a.add 5) (hF p4 n4 c4) /\
   R V (dB #[qvQ b1,hF p1 n1 c1,hF p2 n2 c2,qvQ b2,hF p3 n3 c3,hF p4 n4 c4]) al[i]:=by
 have ⟨l,j,xs,o,k,f⟩:=h.at_ i hi;have g:=k;have ⟨_,_,_,_,_,_,_,_,_,_,_,_,_,_,e⟩:=sh k;have e:=congrArg Array.toList (Value.agg.inj e);subst e;refine ⟨?_,_,_,_,_,_,_,_,_,_,_,_,_,_,_,l,j,f 0 _ rfl,f 1 _ rfl,f 2 _ rfl,f 3 _ rfl,f 4 _ rfl,f 5 _ rfl,g⟩
 cases p with
 | none=>cases j
 | some a=>rfl
def kz (V:View)(v:Value)(c:Rat×Rat):Prop:=WZ V v c.1 c.2
theorem kz.le {V V':ut}{c:Rat×Rat}(h:kz V v c)(l:V.Le V'):kz V' v c:=WZ.le h l
theorem Rv {p':OA}{n' c':Nat}{d:md}{m e:Nat}{q':OA}{m' e':Nat}:∀v∈([qvQ b,hF p n c,hF p' n' c',qvQ d,hF q m e,hF q' m' e']:pz un),v.oneCell'=true:=by
 intro v hm;simp only [Qq6,Qy0,or_false] at hm;rcases hm with rfl|rfl|rfl|rfl|rfl|rfl<;>rfl
theorem kz.shape {c:Rat×Rat}(h:kz V v c):∃(b:md)(p:OA)(n c:Nat)(p':OA)(n' c':Nat)(d:md)(q:OA)(m e:Nat)(q':OA)(m' e':Nat),v=dB #[qvQ b,hF p n c,hF p' n' c',qvQ d,hF q m e,hF q' m' e']:=by
 obtain ⟨_,_,_,_,_,_,_,_,_,_,_,_,_,_,h,-⟩:=h;exact qyK h
theorem K5 {R:ut->un->Rat×Rat->Prop}(sh:∀{V v c},R V v c->∃(b:md)(p:OA)(n c:Nat)(p':OA)(n' c':Nat)(d:md)(q:OA)(m e:Nat)(q':OA)(m' e':Nat),v=dB #[qvQ b,hF p n c,hF p' n' c',qvQ d,hF q m e,hF q' m' e']) {vs:pz un}{al:pz (Rat×Rat)}(h:Row 6 R V vs al)(hi:i<al.length) :
  ∃(b1:md)(p1:OA)(n1 c1:Nat)(p2:OA)(n2 c2:Nat)(b2:md)(p3:OA)(n3 c3:Nat)(p4:OA)(n4 c4:Nat),i*6+6<=vs.length/\(vs.drop (i*6)).take 6=[qvQ b1,hF p1 n1 c1,hF p2 n2 c2,qvQ b2,hF p3 n3 c3,hF p4 n4 c4] /\
   R V (dB #[qvQ b1,hF p1 n1 c1,hF p2 n2 c2,qvQ b2,hF p3 n3 c3,hF p4 n4 c4]) al[i]:=by
 have ⟨xs,g,f,k⟩:=h.at_ i hi;have l:=h.jR (by decide);have a:=f;have ⟨_,_,_,_,_,_,_,_,_,_,_,_,_,_,e⟩:=sh f;have e:=congrArg Array.toList (Value.agg.inj e);subst e;refine qyK ⟨by omega,?_,a⟩;apply Qg2;intro j;rw [Qy3];split
 ·grind
 ·grind
theorem PE {q:Rat}(h:RA V v q)(hs:Sz k q)(hk:k<=274877906944):aa prog 249 #[v] V λr V'=>RQ V' r q:=by
 obtain ⟨b,xs,a,c,-,e,d⟩:=RE.raw (no:=false) ⟨(λh=>nomatch h),λ_=>h⟩ (λh=>nomatch h);have ⟨f,g⟩:=d k hs;have e:F8 b xs a=q:=e;rw [←e];exact Nx c (by omega)
def mU (x:L3):List L3->List L3
 | []=>[x]
 | y::r=>if mh y x<0 then y::mU x r else if y=x then y::r else x::y::r
theorem Ui:∀(o:pz L3)(k:Nat),k<=o.length->(∀j (h:j<o.length),j<k->mh o[j] x<0)->(∀h:k<o.length,¬mh o[k] x<0) ->
  mU x o=if (∃h:k<o.length,o[k]=x) then o else o.take k++x::o.drop k:=by
 intro o
 induction o with
 | nil=>
  intro k d _ _;simp [mU]
 | cons y r ih=>
  intro k d a b
  cases k with
  | zero=>
   have c:¬mh y x<0:=b (by simp);unfold mU;rw [if_neg c];by_cases e:y=x
   ·rw [if_pos e,if_pos ⟨by simp,e⟩]
   grind
  | succ k=>
   have c:mh y x<0:=a 0 (by simp) (by omega);unfold mU;rw [if_pos c,ih k (by simpa using d) (λj h i=>a (j+1) (by simpa using h) (by omega)) (λh=>b (by simpa using h))];by_cases e:∃h:k<r.length,r[k]=x
   ·obtain ⟨f,g⟩:=e;rw [if_pos ⟨f,g⟩,if_pos ⟨by simpa using f,g⟩]
   grind
def eF (l:List L3):List L3:=l.foldl (λo x=>mU (cQ x) o) []
theorem Km {l:pz L3}(h:i<l.length):eF (l.take (i+1))=mU (cQ l[i]) (eF (l.take i)):=by grind [eF,List.take_add_one]
theorem HZ (x:L3):∀o:pz L3,(mU x o).length<=o.length+1
 | []=>by simp [mU]
 | y::r=>by
  have:=HZ x r;grind [mU]
theorem D8 (l:pz L3):(eF l).length<=l.length:=by
 have:∀(l o:pz L3),(l.foldl (λo x=>mU (cQ x) o) o).length<=o.length+l.length:=by
  intro l
  induction l with
  | nil=>intro o;simp
  | cons x r ih=>
   intro o;have a:=ih (mU (cQ x) o);have b:=HZ (cQ x) o;grind
 grind [eF]
def AA (a b:L3):Prop:=mh a b<0
theorem Ww {b c:L3}(h:AA a b)(h':AA b c):AA a c:=by unfold AA at *;rw [tP] at *;omega
theorem Wt {b:L3}(h:AA a b)(h':AA b a):False:=by unfold AA at *;rw [tP] at *;omega
theorem Wu (h:AA a a):False:=Wt h h
theorem Wv {b:L3}(h:¬AA a b)(hne:a≠b):AA b a:=by grind [AA,tP]
theorem Pm:∀{l m:pz L3},l.Pairwise AA->m.Pairwise AA->(∀x,x∈l↔x∈m)->l=m
 | [],[],_,_,_=>rfl
 | [],b::m,_,_,h=>by have:=(h b).2 (by simp);cases this
 | a::l,[],_,_,h=>by have:=(h a).1 (by simp);cases this
 | a::l,b::m,h1,h2,h=>by
  have ⟨g,c⟩:=Qx4.1 h1;have ⟨i,d⟩:=Qx4.1 h2;have e:a=b:=by rcases Qq6.1 ((h a).1 (by simp)) with e|e<;>grind [Wt]
  subst e;rw [Pm c d λx=>⟨λf=>?_,λf=>?_⟩]
  ·grind [Wu]
  grind [Wu]
theorem Am {y:L3}:∀{o:pz L3},y∈mU x o↔y=x\/y∈o
 | []=>by simp [mU]
 | z::r=>by
  unfold mU;split
  ·simp only [Qq6,Am (o:=r)];grind
  grind
theorem HY:∀{o:pz L3},o.Pairwise AA->(mU x o).Pairwise AA
 | [],_=>Qd2 _ _
 | z::r,h=>by
  have ⟨h1,h2⟩:=Qx4.1 h;unfold mU;split
  ·rename_i b;refine Qx4.2 ⟨λy a=>?_,HY h2⟩;rcases Am.1 a with rfl|a
   ·exact b
   ·exact h1 y a
  grind [AA,Wv,List.pairwise_cons.2,Ww]
theorem zW (l:pz L3):(eF l).Pairwise AA/\∀x,x∈eF l↔x∈l.map cQ:=by
 have:∀(l o:pz L3),o.Pairwise AA->(l.foldl (λo x=>mU (cQ x) o) o).Pairwise AA/\∀x,x∈l.foldl (λo x=>mU (cQ x) o) o↔x∈o\/x∈l.map cQ:=by
  intro l
  induction l with
  | nil=>intro o h;exact ⟨h,λx=>by simp⟩
  | cons y r ih=>
   intro o h;have ⟨a,b⟩:=ih (mU (cQ y) o) (HY h);refine ⟨a,λx=>?_⟩;rw [Qd7,b x,Am,Qn3,Qq6];grind
 grind [List.Pairwise.nil,eF]
theorem Hz:∀{r:pz L3} {p:L3},(p::r).Pairwise (λx y=>¬S3 y x<0)->(Fp eL p r).Pairwise AA/\(∀x∈Fp eL p r,AA p x)/\∀x,x∈p::Fp eL p r↔x∈p::r
 | [],p,_=>⟨List.Pairwise.nil,(λx h=>by cases h),λx=>Iff.rfl⟩
 | a::r,p,h=>by
  have ⟨h1,h2⟩:=Qx4.1 h;have ⟨i1,i2,i3⟩:=Hz h2;unfold Fp;by_cases e:a=p
  ·subst e;have:eL a a=true:=by simp [eL]
   grind
  ·have:eL a p=false:=by simp [eL,e]
   rw [this];have b:AA p a:=Wv (h1 a (by simp)) e;grind [List.pairwise_cons.2,Ww]
theorem PM {m:pz L3}(h:m.Pairwise (λx y=>¬S3 y x<0)):(CL eL m).Pairwise AA/\∀x,x∈CL eL m↔x∈m:=by
 cases m with
 | nil=>exact ⟨List.Pairwise.nil,λx=>Iff.rfl⟩
 | cons p r=>
  have ⟨a,b,c⟩:=Hz h;exact ⟨Qx4.2 ⟨b,a⟩,c⟩
theorem QR {l m:pz L3}(h:WI (l.map cQ) m):CL eL m=eF l:=by
 have ⟨a,b⟩:=PM h.2;have ⟨c,d⟩:=zW l;exact Pm a c λx=>by rw [b x,d x];exact h.1.mem_iff
theorem Ge {vs:pz un}{ls:pz L3}(h:Row 6 cA V vs ls)(hi:i<ls.length):∃b1 p1 n1 c1 b2 p2 n2 c2 b3 p3 n3 c3,i*6+6<=vs.length/\(vs.drop (i*6)).take 6=[Value.bool b1,hF p1 n1 c1,qvQ b2,hF p2 n2 c2,qvQ b3,hF p3 n3 c3] /\
  cA V (dB #[qvQ b1,hF p1 n1 c1,qvQ b2,hF p2 n2 c2,qvQ b3,hF p3 n3 c3]) ls[i]:=by
 have ⟨xs,c,b,d⟩:=h.at_ i hi;have f:=h.jR (by decide);have a:=b;have ⟨_,_,_,_,_,_,_,_,_,_,_,_,e⟩:=bR b;have e:=congrArg Array.toList (Value.agg.inj e);subst e;refine qxW ⟨by omega,?_,a⟩;apply Qg2;intro j;rw [Qy3];split
 ·grind
 ·grind
theorem CB (h:cA V v l):aa prog 89 #[v] V λr V'=>∃w b,r=qvZ #[w,qvQ b]/\cA V' w (cQ l):=by
 have m:=h;obtain ⟨x,y,z,A,B,C,D,E,F,rfl,G,H,S⟩:=h
 have rev:∀(i:ut),V.Le i->(l.1<0\/l.1=0/\l.2.1<0)->aa prog 10 #[dB #[qvQ (decide (l.1<0)),hF x y z,qvQ (decide (l.2.1<0)),hF A B C,qvQ (decide (l.2.2<0)),hF D E F]] i λr V'=>cA V' r (cQ l):=λi n f=>by
  refine (jA (a:=l.1) (b:=l.2.1) (c:=l.2.2) (m.le n)).s ?_;rintro r I J g;unfold cQ;rw [if_pos f];exact g
 refine BT V _ λT s=>(nS l.1 (G.le s)).s ?_;rintro r V2 K rfl;have k:=s.m K;refine ⟨_,rfl,λf i n=>(rev i (k.m n) (.inl (Wq0.1 (of_decide_eq_true f)))).s ?_,λf=>⟨λo U t=>(nS l.2.1 (H.le (k.m t))).s ?_,λd W L=>?_⟩⟩
 ·rintro r I J g;have p:=g;obtain ⟨_,_,_,_,_,_,_,_,_,_,_,_,rfl⟩:=bR g;exact qxW ⟨rfl,λX M=>⟨_,_,rfl,p.le M⟩⟩
 ·have N:l.1=0:=Qm1.1 (by simpa using o);rintro r Y O rfl;have u:=k.m (t.m O);refine ⟨_,rfl,λj P Q=>(rev P (u.m Q) (.inr ⟨N,Wq0.1 (of_decide_eq_true j)⟩)).s ?_,λj Z R=>⟨_,_,rfl,?_⟩⟩
  ·rintro r V9 l9 g;have p:=g;obtain ⟨_,_,_,_,_,_,_,_,_,_,_,_,rfl⟩:=bR g;exact qxW ⟨rfl,λfQ q=>⟨_,_,rfl,p.le q⟩⟩
  ·have j:=of_decide_eq_false j;unfold cQ;rw [if_neg λh=>j (Wq0.2 (h.elim (λh=>by omega) (·.2)))];exact m.le (u.m R)
 ·have f:=of_decide_eq_false f;have d:¬l.1=0:=λe=>by rw [e] at d;simp at d
  refine ⟨_,_,rfl,?_⟩;unfold cQ;rw [if_neg λh=>h.elim (λh=>f (Wq0.2 h)) (λh=>d h.1)];exact m.le (k.m L)
set_option maxHeartbeats 1000000 in
theorem tI {ls:pz L3}(h:bI 6 cA V p n ls)(hn:ls.length<100000000)(hs:∀l∈ls,Bd l) :
  aa prog 34 #[hF p n c] V λr V'=>∃q m e,r=hF q m e/\bI 6 cA V' q m (eF ls)/\m<=e:=by
 obtain rfl:=h.len
 refine uY V _ ⟨λz V'=>∃i:Nat,z.2.2.2=(i:Int)/\i<=ls.length/\GR 6 cA V' z.1 z.2.1 z.2.2.1 (eF (ls.take i)),λz=>ls.length-z.2.2.2.toNat,
  ⟨(0,0,[],0),by and_intros<;>rfl,0,rfl,Qq4 _,GR.nil⟩,?_⟩
 rintro ⟨t,w2,us,z4⟩ V1 l1 ⟨i,e4,Ta,u⟩;dsimp only at e4 u;subst e4;have G:=u.len;have v:=u.le;have fv:=u.cap;have A:=u.row;refine ⟨rfl,λa=>?_,λa j7 bU bk K=>?_⟩;rotate_left
 ·have a:¬(i:Int)<ls.length:=of_decide_eq_false a;obtain rfl:i=ls.length:=by omega
  rw [Qy5] at G A;subst G;exact ⟨_,_,_,rfl,bI.bJ K (A.le λ_ _ g=>cA.le g bU) (by decide) v,v⟩
 have a:(i:Int)<ls.length:=of_decide_eq_true a;have B:i<ls.length:=by omega
 have w:i64.wrap ((i:Int)+1)=((i+1:Nat):Int):=by rw [au (by omega)];rfl
 dsimp only;rw [Qq0,w];obtain ⟨ad,ha,xs,-,hf,d⟩:=(h.le l1 λ_ _ g=>cA.le g l1).at_ i B;have L:=hf;have ⟨_,_,_,_,_,_,_,_,_,_,_,_,ex⟩:=bR hf;have ex:=congrArg Array.toList (Value.agg.inj ex);dsimp only at ex;subst ex;have S9:=Km B;have C:Bd (cQ ls[i]):=(hs _ (Qq9 B)).can
 have a4:(eF (ls.take i)).length<100000000:=by
  have:=D8 (ls.take i);rw [Qq7] at this;omega
 have Wc:∀q∈eF (ls.take i),Bd q:=λq H=>by
  obtain ⟨y,hy,rfl⟩:=Qz0.1 ((zW _).2 q |>.1 H);exact (hs y (Qb6 hy)).can
 clear u;generalize eF (ls.take i)=O at *;refine ⟨aX ha,⟨by omega,by omega⟩,_,_,_,_,_,_,_,_,_,_,_,_,ad,ha,d 0 _ rfl,d 1 _ rfl,d 2 _ rfl,d 3 _ rfl,d 4 _ rfl,d 5 _ rfl,λV2 l2=>(CB (L.le l2)).s ?_⟩;generalize cQ ls[i]=x at *;rintro r V3 l3 ⟨wv,bc,rfl,H⟩;have o:=H;obtain ⟨eb,ep,en,ec,fb,fp,fn,fe,gb,gp,gn,gc,rfl⟩:=bR H;refine ⟨_,_,_,_,_,_,_,_,_,_,_,_,_,rfl,λz _=>∃j:Nat,z=(j:Int)/\j<=O.length/\∀(k:Nat)(h:k<O.length),k<j->mh O[k] x<0,λz=>O.length-z.toNat,⟨0,by and_intros<;>rfl,0,rfl,Qq4 _,λk _ h=>absurd h (Qm0 k)⟩,?_⟩;rintro z V4 I ⟨j,rfl,wX,jl⟩;have wj:i64.wrap ((j:Int)+1)=((j+1:Nat):Int):=by rw [au (by omega)];rfl
 rw [Qq0,wj];have cz:=l2.m (l3.m I);refine ⟨rfl,λz _=>z=true↔∃h:j<O.length,mh O[j] x<0,⟨λa=>?_,λa=>⟨false,by and_intros<;>rfl,?_⟩⟩,?_⟩
 ·have a:(j:Int)<(t:Int):=of_decide_eq_true a;have f:j<O.length:=by omega
  obtain ⟨M,N,P,Q,R,S,T,U,W,X,Y,Z,fW,Kp,hr⟩:=Ge A f;refine ⟨⟨by omega,by omega⟩,v,M,N,P,Q,R,S,T,U,W,X,Y,Z,⟨fW,Kp⟩,λV5 l5=>(lP (hr.le (cz.m l5)) (o.le (I.m l5)) (Wc _ (Qq9 f)).jf C.jf).s ?_⟩;rintro r V6 l6 rfl;exact ⟨_,rfl,_,by and_intros<;>rfl,by dsimp only;rw [decide_eq_true_eq];exact ⟨λh=>⟨f,h⟩,λ⟨_,h⟩=>h⟩⟩
 ·have a:¬(j:Int)<(t:Int):=of_decide_eq_false a;exact ⟨(λh=>nomatch h),λ⟨h,_⟩=>absurd h (by omega)⟩
 rintro z V7 l7 Qw;refine ⟨rfl,λs=>?_,λs=>?_⟩
 ·have ⟨f,a0⟩:=Qw.1 s;refine ⟨((j+1:Nat):Int),by dsimp only;omega,by and_intros<;>rfl,j+1,rfl,f,λk h a5=>?_⟩;by_cases e:k=j
  ·subst e;exact a0
  ·exact jl k h (by omega)
 have a1:∀h:j<O.length,¬mh O[j] x<0:=λh D=>by
  have:=Qw.2 ⟨h,D⟩;rw [s] at this;cases this
 have b:=Ui O j wX jl a1;have b_:=cz.m l7;refine ⟨λz _=>z=true↔¬∃h:j<O.length,O[j]=x,⟨λhe=>⟨true,by and_intros<;>rfl,?_⟩,λhe=>?_⟩,?_⟩
 ·have he:(j:Int)=(t:Int):=by simpa using he
  exact ⟨λ_ ⟨h,_⟩=>absurd h (by omega),λ_=>rfl⟩
 ·have he:¬(j:Int)=(t:Int):=by simpa using he
  have f:j<O.length:=by omega
  obtain ⟨M,N,P,Q,R,S,T,U,W,X,Y,Z,fW,Kp,hr⟩:=Ge A f;refine ⟨⟨by omega,by omega⟩,v,M,N,P,Q,R,S,T,U,W,X,Y,Z,⟨fW,Kp⟩,λV8 l8=>(lP (hr.le (b_.m l8)) (o.le (I.m (l7.m l8))) (Wc _ (Qq9 f)).jf C.jf).s ?_⟩;rintro r V9 l9 rfl;exact ⟨_,rfl,_,by and_intros<;>rfl,by dsimp only;rw [bne_iff_ne,ne_eq,Fm];exact ⟨λh ⟨_,D⟩=>h D,λh D=>h ⟨f,D⟩⟩⟩
 rintro z fQ E Ak;have N7:=b_.m E;refine ⟨rfl,λs fD bq bk K J=>?_,λs=>?_⟩
 ·have a2:=Ak.1 s;rw [if_neg a2] at b;have ⟨xs,ys,x1,x2,x3,y1,y2,y3,r1,r2,r3,r4,r5⟩:=yK (V:=fD) (GR.s ⟨G,v,fv,A⟩ λ_ _ g=>cA.le g (N7.m bq)) (by decide) (λ_ _=>Gd) K (es:=[_,_,_,_,_,_]) rfl (o.le (I.m (l7.m (E.m bq)))) (j:=j);refine ⟨⟨by omega,by omega⟩,⟨by omega,by omega⟩,⟨by omega,by omega⟩,xs,x1,x2,by omega,Qq2 _,Qq2 6,x2,x3,λa6 J2 sp c' h1 h2=>?_⟩;rw [r1,r2];refine ⟨ys,y1,y2,Qq2 _,y3,by omega,by omega,r3,r4,λa3 F h3 h4=>⟨(j+(1+(t-j)),F,_,((i+1:Nat):Int)),by dsimp only;omega,by and_intros<;>first|rfl|omega,i+1,rfl,B,?_⟩⟩;show GR 6 cA _ _ _ _ (eF (ls.take (i+1)));rw [S9,b];exact r5 a3 F h3 h4
 ·have hex:∃h:j<O.length,O[j]=x:=Qp6 λh=>by have:=Ak.2 h;rw [s] at this;cases this
  rw [if_pos hex] at b;refine ⟨(t,w2,us,((i+1:Nat):Int)),by dsimp only;omega,by and_intros<;>rfl,i+1,rfl,B,?_⟩;show GR 6 cA _ _ _ _ (eF (ls.take (i+1)));rw [S9,b];exact ⟨G,v,fv,A.le λ_ _ g=>cA.le g N7⟩
theorem Fg {A:pz (Rat×Rat)}(h:bI 6 cM V p n A)(hn:A.length<=1000000){k:Nat}(hs:∀x∈A,Sz k x.1/\Sz k x.2)(hk:k<=1099511627776:=by omega) :
  aa prog 138 #[hF p n c] V λr V'=>∃q m e,r=hF q m e/\bI 6 kz V' q m A:=by
 obtain rfl:=h.len;refine Ds V _ ⟨λz V'=>∃j:Nat,z.2.2.2=(j:Int)/\j<=A.length/\GR 6 kz V' z.1 z.2.1 z.2.2.1 (A.take j),λz=>A.length-z.2.2.2.toNat,⟨(0,0,[],0),by and_intros<;>rfl,0,rfl,Qq4 _,GR.nil⟩,?_⟩;rintro ⟨u,P,Q,R⟩ S i ⟨j,l,T,d⟩;dsimp only at l d;subst l;have v:=d.len;rw [Qq7] at v;refine ⟨rfl,λb=>?_,λb U y W B=>?_⟩
 ·have b:(j:Int)<A.length:=of_decide_eq_true b;have f:j<A.length:=by omega
  have w:i64.wrap ((j:Int)+1)=((j+1:Nat):Int):=by rw [au (by omega)];rfl
  dsimp only;rw [Qq0,w];obtain ⟨C,X,Y,Z,c1,p2,n2,c2,b2,p3,n3,c3,p4,n4,c4,a,D,E,F,G,H,I,J,g⟩:=sG cM.shape (h.le i λ_ _ g=>cM.le g i) f;have ⟨s1,s2⟩:=hs _ (Qq9 f);refine ⟨C,⟨by omega,by omega⟩,_,_,_,_,_,_,_,_,_,_,_,_,_,_,a,D,E,F,G,H,I,J,λV2 o=>(Hp (g.le o) s1 s2 hk).s ?_⟩;rintro r s K L;have t:kz s r A[j]:=L;obtain ⟨_,_,_,_,_,_,_,_,_,_,_,_,_,_,rfl⟩:=t.shape;refine qyK ⟨rfl,by omega,d.le,d.cap,rfl,Rv,λsp M N O=>⟨(u+1,M,_,((j+1:Nat):Int)),by dsimp only;omega,by and_intros<;>rfl,j+1,rfl,f,?_⟩⟩;dsimp only;rw [Qz9,Qq1 f];exact (d.s (V':=s) λ_ _ g=>kz.le g (o.m K)).snoc rfl t (by decide) N O
 ·have b:¬(j:Int)<A.length:=of_decide_eq_false b;obtain rfl:j=A.length:=by omega
  rw [Qy5] at d;obtain rfl:=d.len;exact ⟨_,_,_,rfl,bI.bJ B (d.row.le λ_ _ g=>kz.le g y) (by decide) d.le⟩
theorem mN {q:Rat}(h:RQ V v q):aa prog 115 #[v] V λr V'=>r=qvK .i64 q.num.sign:=by
 obtain ⟨_,_,_,_,_,_,rfl,a,-⟩:=h;exact qC q a
theorem tJ {p:Rat×Rat}(h:RP V v p.1 p.2):aa prog 244 #[v] V λr V'=>r=qvK .i64 (aw.half p):=by
 obtain ⟨_,_,_,_,_,_,_,_,_,_,_,_,rfl,g,i⟩:=h;refine Dt V _ λw f=>(mN (g.le f)).s ?_;rintro r V2 j rfl;refine ⟨_,rfl,λx k=>(mN (i.le (f.m (j.m k)))).s ?_⟩;rintro r y A rfl;have key:∀z:Int,(z=if p.2.num.sign>0\/p.2.num.sign=0/\p.1.num.sign>0 then 1 else if p.2.num.sign<0\/p.1.num.sign<0 then 2 else 0)->Value.int .i64 z=qvK .i64 (aw.half p):=λz e=>by rw [e];rfl
 refine ⟨_,rfl,λa=>?_,λa=>?_⟩
 ·have a:p.1.num.sign=0:=by simpa using a
  refine ⟨λb B C=>key _ ?_,λb=>⟨λc l m=>key _ ?_,λc=>⟨λd=>⟨λe n o=>key _ ?_,λe q s=>key _ ?_⟩,λd t u=>key _ ?_⟩⟩⟩
  ·have b:p.2.num.sign=0:=by simpa using b
   rw [if_neg (by omega),if_neg (by omega)]
  ·have c:p.2.num.sign>0:=of_decide_eq_true c;rw [if_pos (.inl c)]
  ·have b:¬p.2.num.sign=0:=by simpa using b
   have d:p.2.num.sign=0:=by simpa using d
   exact absurd d b
  ·have b:¬p.2.num.sign=0:=by simpa using b
   have d:p.2.num.sign=0:=by simpa using d
   exact absurd d b
  ·have b:¬p.2.num.sign=0:=by simpa using b
   have c:¬p.2.num.sign>0:=of_decide_eq_false c;rw [if_neg (by omega),if_pos (by omega)]
 ·have a:¬p.1.num.sign=0:=by simpa using a
  refine ⟨λc l m=>key _ ?_,λc=>⟨λd=>⟨λe n o=>key _ ?_,λe q s=>key _ ?_⟩,λd t u=>key _ ?_⟩⟩
  ·have c:p.2.num.sign>0:=of_decide_eq_true c;rw [if_pos (.inl c)]
  ·have d:p.2.num.sign=0:=by simpa using d
   have e:p.1.num.sign>0:=of_decide_eq_true e;rw [if_pos (.inr ⟨d,e⟩)]
  ·have d:p.2.num.sign=0:=by simpa using d
   have e:¬p.1.num.sign>0:=of_decide_eq_false e;rw [if_neg (by omega),if_pos (by omega)]
  ·have d:¬p.2.num.sign=0:=by simpa using d
   have c:¬p.2.num.sign>0:=of_decide_eq_false c;rw [if_neg (by omega),if_pos (by omega)]
theorem YP (q:Rat):-1<=q.num.sign/\q.num.sign<=1:=by
 rcases Qg5 q.num 0 with h|h|h
 ·rw [Qm7 h];omega
 ·rw [h];decide
 ·rw [Qf0 h];omega
theorem CA {w:un}{a b:Rat×Rat}(h:RP V v a.1 a.2)(h':RP V w b.1 b.2)(s1:Sz k a.1)(s2:Sz k a.2)(s3:Sz k b.1)(s4:Sz k b.2)(hk:4*k+4<274877906944:=by omega) :
  aa prog 200 #[v,w] V λr V'=>r=qvK .i64 (aw.kn a b):=by
 have f:=h;have c:=h';obtain ⟨_,_,_,_,_,_,_,_,_,_,_,_,rfl,-⟩:=h;obtain ⟨_,_,_,_,_,_,_,_,_,_,_,_,rfl,-⟩:=h';refine BS V _ λs e=>(tJ (f.le e)).s ?_;rintro r V2 i rfl;refine ⟨_,rfl,λt j=>(tJ (c.le (e.m (i.m j)))).s ?_⟩;rintro r u n rfl;have l:=e.m (i.m (j.m n));refine ⟨_,rfl,λg=>⟨λd x y=>?_,λd z A=>?_⟩,λg B m=>(jm (f.le (l.m m)) (c.le (l.m m)) s1 s2 s3 s4 hk).s ?_⟩
 ·unfold aw.kn;rw [if_pos (of_decide_eq_true d)]
 ·have g:aw.half a≠aw.half b:=by simpa using g
  have d:¬aw.half a<aw.half b:=of_decide_eq_false d;unfold aw.kn;rw [if_neg d,if_pos (by omega)]
 ·have g:aw.half a=aw.half b:=by simpa using g
  rintro r C D gc;have o:=gc;obtain ⟨_,_,_,_,_,_,rfl⟩:=gc.shape;refine qyZ ⟨rfl,λE p=>(mN (o.le p)).s ?_⟩;rintro r F q rfl;refine ⟨_,rfl,λG H=>?_⟩;have I:=YP (a.1*b.2-a.2*b.1);rw [au (by omega)];unfold aw.kn;rw [if_neg (by omega),if_neg (by omega)];show _=Value.int .i64 (-(a.1*b.2-a.2*b.1).num.sign);congr 1;omega
theorem yQ {al:pz L3}(h:bI 6 cA V p n al)(hi:i<al.length) :
  p.isSome=true/\∃(b1:md)(p1:OA)(n1 c1:Nat)(b2:md)(p2:OA)(n2 c2:Nat)(b3:md)(p3:OA)(n3 c3:Nat)(a:Addr),ae p (i*6)=some a/\V.at (a.add 0) (qvQ b1)/\V.at (a.add 1) (hF p1 n1 c1)/\V.at (a.add 2) (qvQ b2)/\V.at (a.add 3) (hF p2 n2 c2)/\V.at (a.add 4) (qvQ b3)/\V.at (a.add 5) (hF p3 n3 c3) /\
   cA V (dB #[qvQ b1,hF p1 n1 c1,qvQ b2,hF p2 n2 c2,qvQ b3,hF p3 n3 c3]) al[i]:=by
 have ⟨g,d,xs,j,f,b⟩:=h.at_ i hi;have c:=f;have ⟨_,_,_,_,_,_,_,_,_,_,_,_,e⟩:=bR f;have e:=congrArg Array.toList (Value.agg.inj e);subst e;refine ⟨?_,_,_,_,_,_,_,_,_,_,_,_,_,g,d,b 0 _ rfl,b 1 _ rfl,b 2 _ rfl,b 3 _ rfl,b 4 _ rfl,b 5 _ rfl,c⟩
 cases p with
 | none=>cases d
 | some a=>rfl
theorem MS {m:L3}(sl:lA k l)(sm:lA k m):Sz (20*k+20) (Zg l m)/\Sz (20*k+20) (Zh l m):=by
 obtain ⟨a,b,e⟩:=sl;obtain ⟨c,d,f⟩:=sm;exact ⟨(Sz.mul ((b.mul f).sub (e.mul d)) (fu ((a.mul d).sub (b.mul c)))).s (by omega),(Sz.mul ((e.mul c).sub (a.mul f)) (fu ((a.mul d).sub (b.mul c)))).s (by omega)⟩
end Go.Proofs.Tryz
namespace Go.Proofs.Tryz
open Go.Eng Go.Big
open Go.Value renaming slice→hF,agg→dB,bool→qvQ,tuple→qvZ
def LL:L3:=(0,1,0)
def Zs:cX LL=true:=by decide
def Bm {z:Int}(k:Nat)(hk:k≠0)(h:z.natAbs<=1):z.natAbs<2^k:=Qn9 h (Qc6 hk)
def WY (k:Nat)(hk:k≠0):LL.1.natAbs<2^k/\LL.2.1.natAbs<2^k/\LL.2.2.natAbs<2^k:=⟨Bm k hk (by decide),Bm k hk (by decide),Bm k hk (by decide)⟩
def O6:Bd LL:=WY 1000 (by decide)
def zd {V:ut}{v:un}{a b c:Int}(h:RL V v a b c):∃(b1:md)(p1:OA)(n1 c1:Nat)(b2:md)(p2:OA)(n2 c2:Nat)(b3:md)(p3:OA)(n3 c3:Nat),v=dB #[qvQ b1,hF p1 n1 c1,qvQ b2,hF p2 n2 c2,qvQ b3,hF p3 n3 c3]:=by
 obtain ⟨p,n,s,d,f,g,q,m,e,rfl,-⟩:=h;grind
def Fj {V:ut}{u w:un}(hp:RP V u ((0:Int):Rat) ((0:Int):Rat))(hq:RP V w ((1:Int):Rat) ((0:Int):Rat)) :
  aa prog 30 #[u,w] V λr V'=>∃l,r=qvZ #[l,qvQ true]/\RL V' l LL.1 LL.2.1 LL.2.2:=by
 have a:Sz 1 ((0:Int):Rat):=by unfold Sz;decide
 have s1:Sz 1 ((1:Int):Rat):=Lf;refine (jN hp hq a a s1 a (by omega)).s ?_;have b:(oP ((0:Int):Rat) ((0:Int):Rat) ((1:Int):Rat) ((0:Int):Rat)).1.num=0:=by decide +kernel
 have c:(oP ((0:Int):Rat) ((0:Int):Rat) ((1:Int):Rat) ((0:Int):Rat)).2.1.num=1:=by decide +kernel
 have d:(oP ((0:Int):Rat) ((0:Int):Rat) ((1:Int):Rat) ((0:Int):Rat)).2.2.num=0:=by decide +kernel
 rw [b,c,d];rintro r V' _ ⟨-,h⟩;exact h (by omega)
def G0.Zd {y:un}(h:G0 y):IsIface y/\gy y=false:=by obtain ⟨a,rfl⟩:=h;exact ⟨.inr ⟨_,_,rfl⟩,rfl⟩
def ui {p:L3->Prop}:∀{t:Tr} {k:Nat},t.eU p->∀x∈wr k t,p x.ln
 | .leaf _,_,_,x,h=>by simp [wr] at h
 | .node l a b,k,⟨h1,h2,h3⟩,x,h=>by
  simp only [wr,Qq6,Qw3] at h;rcases h with rfl|h|h
  ·exact h1
  ·exact ui h2 x h
  ·exact ui h3 x h
end Go.Proofs.Tryz
