import Derived.Test.YtapnijmlbakblaaGreatDoorZP18
import Derived.Test.YtapnijmlbakblaaGreatDoorZP10
import Derived.Test.YtapnijmlbakblaaGreatDoorZP17
import Derived.Test.YtapnijmlbakblaaGreatDoorZP9
import Derived.Test.YtapnijmlbakblaaGreatDoorZP16
import Derived.Test.YtapnijmlbakblaaGreatDoorZP15
import Derived.Test.YtapnijmlbakblaaGreatDoorZP6
set_option linter.unusedVariables false
open Go.IntKind (i64 u64 u32)
namespace Go.Proofs.Tryz
open Go.Eng Go.Big
theorem M3 {b c:Nat}(h:0<c):mA b c=some ⟨b,0,none⟩:=by unfold mA;rw [if_neg (by omega)]
theorem Gq {f:Sp->List en}{l:List Sp}{j:Nat}(h:j<l.length):(l.take (j+1)).flatMap f=(l.take j).flatMap f++f l[j]:=by
 rw [Qs2,Qq1 h,Qd0];simp
theorem I4 {l:List Sp}{j:Nat}(h:j<l.length):jV (l.take (j+1))=jV (l.take j)+if l[j].a then 1 else 0:=by
 rw [Qs2,Qq1 h,KR];simp [jV]
theorem Ka {A B:List Sp}{k j:Nat}(hk:k<2):(Lt A B k++((LK A B k).take j).flatMap (gw k)).length<=fe A+fe B:=by
 have c:((LK A B k).flatMap (gw k)).length=(((LK A B k).take j).flatMap (gw k)).length+(((LK A B k).drop j).flatMap (gw k)).length:=by
  conv=>lhs;rw [←Qk5 j (LK A B k),Qd0]
  rw [Qq5]
 have a:=congrArg List.length (Br (A:=A) (B:=B) hk);rw [Qq5] at a
 have b:(Lt A B (k+1)).length<=(lD A B).length:=by
  obtain rfl|rfl:k=0\/k=1:=by omega
  ·unfold lD;rw [Qq5];exact Nat.le_add_right _ _
  ·exact Qq3 _
 rw [zW] at b;rw [Qq5];omega
theorem Lf {acc:Bool->Bool->Bool}{A B:List Sp}{cs:List en}{was:Bool}{last:Sp}{out:List Sp}(h:Lp acc A B cs cs.length was last out){op:Int}(ha:∀t,acc (inB A t) (inB B t)=opB op (inB A t) (inB B t)):vV was last out=combL op A B:=by
 refine reg_eq (endsL (A++B)) h.rg (comb_reg _ _ _) fun t a=>?_;rw [comb_inB _ _ _ a,h.inn t (fun s b he=>a (BP.2 ⟨s,b,he⟩)) fun h=>absurd h (Qs8 _)];exact ha t
theorem HY {V:View}{p0 p1:OA}{n0 c0 n1 c1 fa:Nat}{A B:List Sp}{op:Int}{acc:Bool->Bool->Bool}(hacc:∀t,acc (inB A t) (inB B t)=opB op (inB A t) (inB B t))(hA:lC 8 qp V p0 n0 A)(hB:lC 8 qp V p1 n1 B)(gA:∀s∈A,s.good)(gB:∀s∈B,s.good)(sA:∀s∈A,s.sz 1000000)(sB:∀s∈B,s.sz 1000000)
  (nA:A.length<=1000)(nB:B.length<=1000)(kO:fe A+fe B<50)(so:ue (fe A+fe B))(hf:∀a b (W:View),aa prog fa #[.bool a,.bool b] W fun r _=>r=.bool (acc a b)) :
  aa prog 176 #[.agg #[.slice p0 n0 c0,.slice p1 n1 c1],.func (.func fa) #[] #[]] V fun r V'=>∃q m e,r=.slice q m e/\lC 8 qp V' q m (combL op A B):=by
 obtain rfl:=hA.len;obtain rfl:=hB.len
 refine AM p0 _ c0 p1 _ c1 fa V _ ⟨fun z V'=>∃k:Nat,z.2.2.2.1=(k:Int)/\k<=2/\CR V' z.1 z.2.1 z.2.2.1 (Lt A B k)/\z.2.2.2.2=NR A B k,fun z=>2-z.2.2.2.1.toNat,
  ⟨(0,0,[],0,[.int .i64 0,.int .i64 0]),by and_intros<;>rfl,0,rfl,by decide,⟨rfl,Qq3 _,Qq3 _,Row.nil,fun h=>absurd rfl h⟩,rfl⟩,?_⟩
 rintro ⟨Q,z2,vs,z4,os⟩ V1 l1 ⟨k,e4,VI,G,K⟩;dsimp only at e4 G K;subst e4 K;dsimp only;refine ⟨rfl,fun N=>?_,fun N=>?_⟩
 ·have N:(k:Int)<2:=of_decide_eq_true N;have hk:k<2:=by omega
  have U:i64.wrap ((k:Int)+1)=((k+1:Nat):Int):=by rw [ar (by omega)];rfl
  rw [U,Qq0]
  obtain ⟨p,n,c,el,hL⟩:∃p n c,([(p0,A.length,c0),(p1,B.length,c1)]:List (OA×Nat×Nat)).getD k (none,0,0)=(p,n,c)/\lC 8 qp V p n (LK A B k):=by
   obtain rfl|rfl:k=0\/k=1:=by omega
   ·exact ⟨_,_,_,rfl,hA⟩
   ·exact ⟨_,_,_,rfl,hB⟩
  rw [el];dsimp only
  have b7:(∀s∈LK A B k,s.sz 1000000)/\(LK A B k).length<=1000:=by
   obtain rfl|rfl:k=0\/k=1:=by omega
   ·exact ⟨sA,nA⟩
   ·exact ⟨sB,nB⟩
  obtain ⟨sL,nL⟩:=b7;obtain rfl:=hL.len
  refine ⟨⟨by omega,by omega⟩,fun z V'=>∃j:Nat,z.2.2.2.1=(j:Int)/\j<=(LK A B k).length/\CR V' z.1 z.2.1 z.2.2.1 (Lt A B k++((LK A B k).take j).flatMap (gw k))/\z.2.2.2.2=Fw A k (jV ((LK A B k).take j)),fun z=>(LK A B k).length-z.2.2.2.1.toNat,
   ⟨(Q,z2,vs,0,NR A B k),by and_intros<;>rfl,0,rfl,Qw2 _,by simpa using G,by rw [Qc2];unfold NR;rw [if_neg (by omega)];rfl⟩,?_⟩
  rintro ⟨U,w2,us,w4,os⟩ V2 l2 ⟨j,e4,MR,E,K⟩;dsimp only at e4 E K;subst e4 K;dsimp only;refine ⟨rfl,fun hj=>?_,fun hj=>?_⟩
  ·have hj:(j:Int)<(LK A B k).length:=of_decide_eq_true hj;have R:j<(LK A B k).length:=by omega
   have w3:i64.wrap ((j:Int)+1)=((j+1:Nat):Int):=by rw [ar (by omega)];rfl
   rw [Qq0,w3];obtain ⟨ad,ha,xs,-,hv,D⟩:=(hL.le (l1.trans l2) fun _ _ g=>qp.le g (l1.trans l2)).at_ j R;obtain ⟨x1,x2,q,y1,y2,q',ex,X,r2⟩:=hv;have ex:=congrArg Array.toList (Value.agg.inj ex);dsimp only at ex;subst ex;have hs:=sL _ (Qy3 R);have ft:=Gq (f:=gw (k:Int)) R;have ot:=I4 R;have ob:=Am (a:=(LK A B k).take j);rw [Qw0] at ob;have cn:=E.len;have bl:=Ka (A:=A) (B:=B) (j:=j) hk;rw [←cn] at bl;have c1:gw (k:Int) (LK A B k)[j]=(if (LK A B k)[j].a then [] else [((LK A B k)[j].lo,(k:Int),1)])++(if (LK A B k)[j].b then [] else [((LK A B k)[j].hi,(k:Int),-1)]):=rfl;rw [c1] at ft;generalize (LK A B k)[j]=s at *
   refine ⟨bL ha,⟨by omega,by omega⟩,_,_,_,_,_,_,_,_,ad,ha,D 0 _ rfl,D 1 _ rfl,D 2 _ rfl,D 3 _ rfl,D 4 _ rfl,D 5 _ rfl,D 6 _ rfl,D 7 _ rfl,
    fun z V'=>CR V' z.1 z.2.1 z.2.2.1 (Lt A B k++((LK A B k).take j).flatMap (gw k)++(if s.a then [] else [(s.lo,(k:Int),1)]))/\z.2.2.2=Fw A k (jV ((LK A B k).take (j+1))),⟨fun F=>?_,fun F=>?_⟩,?_⟩
   ·rw [F,if_pos rfl] at ot;rw [F,if_pos rfl,Qk2];refine ⟨⟨by omega,by omega⟩,_,KT hk,⟨by omega,by omega⟩,by rw [KU hk];omega,(U,w2,us,Fw A k (jV ((LK A B k).take (j+1)))),?_,E,rfl⟩;have e:(Fw A k (jV ((LK A B k).take j))).set (0+k*1) (.int .i64 (i64.wrap (jV ((LK A B k).take j)+1)))=Fw A k (jV ((LK A B k).take (j+1))):=by rw [KV hk,ar (by omega),ot]
    and_intros<;>first|rfl|exact e
   ·rw [F,if_neg (by decide),Wq2] at ot;rw [F,if_neg (by decide)];refine ⟨by omega,E.le,E.cap,rfl,Pw,fun sp c' C S=>⟨(U+1,c',_,Fw A k (jV ((LK A B k).take j))),by and_intros<;>rfl,E.snoc X hs.1 _ _ C S,by dsimp only;rw [ot]⟩⟩
   ·rintro ⟨k1,k2,ks,os⟩ V3 l3 ⟨H,K⟩;dsimp only at H K;subst K;dsimp only;have Xa:=H.len;have Ze:k1<=U+1:=by rw [Xa,cn,Qq5];split<;>simp
    refine ⟨rfl,fun z V'=>CR V' z.1 z.2.1 z.2.2 (Lt A B k++((LK A B k).take (j+1)).flatMap (gw k)),⟨fun F=>?_,fun F=>?_⟩,?_⟩
    ·have F:s.b=false:=by simpa using F
     simp only [F,Qz5,if_false] at ft;rw [ft,←Qk6,←Qk6];refine ⟨by omega,H.le,H.cap,rfl,Pw,fun sp c' C S=>⟨(k1+1,c',_),by and_intros<;>rfl,H.snoc (r2.le l3) hs.2 _ _ C S⟩⟩
    ·have F:s.b=true:=by simpa using F
     simp only [F,if_true,Qk2] at ft;rw [ft,←Qk6];exact ⟨(k1,k2,ks),by and_intros<;>rfl,H⟩
    ·rintro ⟨P,Y,ms⟩ V4 l4 a2;dsimp only at a2;exact ⟨rfl,(P,Y,ms,((j+1:Nat):Int),_),by dsimp only;omega,by and_intros<;>rfl,j+1,rfl,by omega,a2,rfl⟩
  ·have hj:¬(j:Int)<(LK A B k).length:=of_decide_eq_false hj;obtain rfl:j=(LK A B k).length:=by omega
   rw [Qv2] at *;refine ⟨(U,w2,us,((k+1:Nat):Int),Fw A k (jV (LK A B k))),by dsimp only;omega,by and_intros<;>rfl,k+1,rfl,by omega,?_,I9 hk⟩;rw [←Br hk];exact E
 have N:¬(k:Int)<2:=of_decide_eq_false N;obtain rfl:k=2:=by omega
 have G:CR V1 Q z2 vs (lD A B):=G;have cl:(lD A B).length<50:=by rw [zW];exact kO
 have Zb:=G.len;have c4:=G.le;rw [show NR A B 2=Cn A B [] from rfl];have M:∀l:List en,Cn A B l≠[]:=fun l h=>by cases h
 refine ⟨fun z V'=>∃cs:List en,SR V' Q z cs/\cs.Perm (lD A B)/\cs.Pairwise (fun x y=>x.1<=y.1),⟨fun h0=>?_,fun h0 V7 l7 bk e7 h7=>?_⟩,?_⟩
 ·subst h0;have C:=G.cap;rw [Qd1] at C;obtain rfl:z2=0:=by omega
  obtain rfl:Q=0:=by omega
  have a3:lD A B=[]:=List.eq_nil_of_length_eq_zero (by omega);exact ⟨rfl,fun V5 l5=>ur.mono fun r V6 l6 hr=>⟨hr,[],by and_intros<;>rfl,[],⟨Row.nil,rfl,by simp⟩,by rw [a3],List.Pairwise.nil⟩⟩
 ·have c5:0<(lD A B).length:=List.length_pos_iff.2 (G.ne h0);rw [FQ h0,M3 (show 0<z2 by omega)];refine (so (V7.ax [bk]) bk _ _ _ (lD A B) zW (e7 h0) ⟨by simp,h7 h0⟩ ⟨G.row.le fun _ _ g=>RC.le g fun b o h=>l7 b o h,Zb,cl⟩).mono ?_;rintro r V8 l8 ⟨rfl,a4,cs,e8,VB,hp,O⟩;refine ⟨rfl,h0,a4,fun e=>?_,e8,a4,by and_intros<;>rfl,cs,VB.le (fv _),hp,O⟩;have C:=VB.row.lU (by decide);rw [e,hp.length_eq,Qd1] at C;omega
 rintro Xb V9 l9 ⟨cs,a5,hp,O⟩;have zl:=a5.len;have a0:=fun c (h:c∈cs)=>Kk (hp.mem_iff.1 h);refine ⟨rfl,fun gm b8 ab ob ea ha K ho b9=>?_⟩;rw [FQ (M [])];refine (yO (V:=gm.ax [ab,ob]) (x:=jV A+fA 0 []) (y:=jV B+fA 1 []) (acc:=acc) ea ⟨by simp,ha⟩ (K (M _)) ⟨by simp,ho (M _)⟩ (b9 (M _)) hf).mono ?_;rintro r fH bE ⟨rfl,e1,e2⟩
 refine ⟨_,rfl,e1,M _,Cn A B [],M _,e2,fun z V'=>∃(i:Nat)(last:Sp)(out:List Sp),z.2.2.2.2.1=(i:Int)/\i<=cs.length/\out.length<=i/\Lp acc A B cs i z.2.2.2.1 last out/\z.2.2.2.2.2.1=Cn A B (cs.take i)/\IR V' z.1 z.2.1 z.2.2.1 out /\
   RR V' (.agg #[.int .i64 z.2.2.2.2.2.2.1,.int .i64 z.2.2.2.2.2.2.2.1,.pointer z.2.2.2.2.2.2.2.2.1]) last.lo/\RR V' (.agg #[.int .i64 z.2.2.2.2.2.2.2.2.2.1,.int .i64 z.2.2.2.2.2.2.2.2.2.2.1,.pointer z.2.2.2.2.2.2.2.2.2.2.2.1]) last.hi/\last.a=z.2.2.2.2.2.2.2.2.2.2.2.2.1/\last.b=z.2.2.2.2.2.2.2.2.2.2.2.2.2,
  fun z=>cs.length-z.2.2.2.2.1.toNat,⟨(0,0,[],_,0,Cn A B [],0,0,none,0,0,none,true,false),by and_intros<;>rfl,0,⟨0,0,true,false⟩,[],rfl,Qw2 _,Qw2 _,JG (acc:=acc) (by show acc (decide ((0:Int)<jV A+0)) (decide ((0:Int)<jV B+0))=_;rw [Wq2,Wq2]) hp gA gB O,rfl,IR.nil,RR.zero _,RR.zero _,rfl,rfl⟩,?_⟩
 rintro ⟨P,Y,us,d,iz,ov,x1,x2,p,y1,y2,q,la,lb⟩ jC cM ⟨i,last,out,e5,X7,oi,hI,Vd,v,X,r2,f1,f2⟩;dsimp only at e5 hI Vd v X r2 f1 f2;subst e5 Vd f1 f2;dsimp only;have ml:=v.len;refine ⟨rfl,fun hi=>?_,fun hi=>?_⟩
 ·have hi:(i:Int)<Q:=of_decide_eq_true hi;have I:i<cs.length:=by omega
  have PX:SR jC Q Xb cs:=a5.le fun b o h=>cM b o (bE b o (b8 b o h));have gd:∀j (h:j<cs.length),cs.getD j dC=cs[j]:=fun j h=>by rw [Qw6,Qq1 h];rfl
  obtain ⟨x,y,pp,a,b,g,x',y',p',ev,hr,a6⟩:=PX.get I;rw [gd i I] at ev hr a6;rw [Qy1] at g;have ev:=congrArg Array.toList (Value.agg.inj ev);simp only [Qy2,Value.int.injEq,Value.pointer.injEq,true_and,and_true] at ev;obtain ⟨rfl,rfl,rfl,rfl,rfl⟩:=ev;obtain ⟨ck,cd⟩:=a0 _ (Qy3 I);have U:i64.wrap ((i:Int)+1)=((i+1:Nat):Int):=by rw [ar (by omega)];rfl
  have tk:cs.take (i+1)=cs.take i++[cs[i]]:=by rw [Qs2,Qq1 I];rfl
  have a7:(Cn A B (cs.take i)).set (0+cs[i].2.1.toNat*1) (.int .i64 (i64.wrap (Na A B (cs.take i) cs[i].2.1+cs[i].2.2)))=Cn A B (cs.take (i+1)):=by
   have b1:=Am (a:=A);have b2:=Am (a:=B);have b3:=AD (k:=0) (l:=cs.take i) fun c G=>(a0 c (Qm7 G)).2;have b4:=AD (k:=1) (l:=cs.take i) fun c G=>(a0 c (Qm7 G)).2;rw [Qw0] at b3 b4;have b5:-3000<=Na A B (cs.take i) cs[i].2.1/\Na A B (cs.take i) cs[i].2.1<=3000:=by unfold Na;split<;>omega
   rw [ar (by omega),KX ck,tk]
  rw [U,Qq0,Qq0];refine ⟨⟨by omega,by omega⟩,by omega,x,y,pp,_,_,g,⟨by omega,by omega⟩,_,KW ck,⟨by omega,by omega⟩,by rw [show (Cn A B (cs.take i)).length=2 from rfl];omega,?_⟩;rw [a7];refine ⟨fun t V'=>(t=true->∃h:i+1<cs.length,cs[i].1=cs[i+1].1)/\(t=false->∀h:i+1<cs.length,cs[i].1<cs[i+1].1),⟨fun C=>?_,fun C=>?_⟩,?_⟩
  ·have C:((i+1:Nat):Int)<Q:=of_decide_eq_true C;have Qw:i+1<cs.length:=by omega
   obtain ⟨u,w,pw,a',b',g',x',y',p',T,a8,Z⟩:=PX.get Qw;rw [gd _ Qw] at a8 Z;rw [Qy1] at g';have T:=congrArg Array.toList (Value.agg.inj T);simp only [Qy2,Value.int.injEq,Value.pointer.injEq,true_and] at T;obtain ⟨rfl,rfl,rfl,-⟩:=T;refine ⟨⟨by omega,by omega⟩,by omega,u,w,pw,⟨by omega,?_⟩,fun oH cN=>(j8 (a8.le cN) (hr.le cN) Z a6 (by decide)).mono ?_⟩
   ·have:∀l:List Value,l.take 3=(l.take 5).take 3:=fun l=>by rw [Qh9];rfl
    rw [this,Qy9,g'.2];rfl
   ·rintro r mD dP rfl;refine ⟨_,rfl,_,by and_intros<;>rfl,fun h=>⟨Qw,Eq.symm (of_decide_eq_true h)⟩,fun h _=>?_⟩;have h:=of_decide_eq_false h;have:=Qb2.1 O i (i+1) I Qw (by omega);grind
  ·have C:¬((i+1:Nat):Int)<Q:=of_decide_eq_false C;exact ⟨false,by and_intros<;>rfl,(fun h=>nomatch h),fun _ h=>absurd h (by omega)⟩
  rintro t mE dj ⟨ht,c2⟩;refine ⟨rfl,fun e=>?_,fun e sM dY WZ Yl ea ha K ho a9=>?_⟩
  ·obtain ⟨C,S⟩:=ht e;exact ⟨(P,Y,us,d,((i+1:Nat):Int),Cn A B (cs.take (i+1)),x1,x2,p,y1,y2,q,last.a,last.b),by dsimp only;omega,by and_intros<;>rfl,i+1,last,out,rfl,by omega,by omega,Lg hI C S,rfl,v.mono dj,X.le dj,r2.le dj,rfl,rfl⟩
  rw [FQ (M _)];refine (yO (V:=sM.ax [WZ,Yl]) (x:=jV A+fA 0 (cs.take (i+1))) (y:=jV B+fA 1 (cs.take (i+1))) (acc:=acc) ea ⟨by simp,ha⟩ (K (M _)) ⟨by simp,ho (M _)⟩ (a9 (M _)) hf).mono ?_;rintro r nF dw ⟨rfl,Oq,c3⟩;have st:=Lh hI I (c2 e) hp gA gB O rfl;generalize acc (decide ((0:Int)<jV A+fA 0 (cs.take (i+1)))) (decide ((0:Int)<jV B+fA 1 (cs.take (i+1))))=now at st ⊢;have L:jC.Le nF.shut:=fun b o h=>dw b o (dY b o (dj b o h))
  have same:now=d->IR nF.shut P Y us (vU d now last cs[i].1 out)/\RR nF.shut (.agg #[.int .i64 x1,.int .i64 x2,.pointer p]) (iU d now last cs[i].1).lo/\RR nF.shut (.agg #[.int .i64 y1,.int .i64 y2,.pointer q]) (iU d now last cs[i].1).hi /\
    last.a=(iU d now last cs[i].1).a/\last.b=(iU d now last cs[i].1).b:=fun h=>by
   subst h;unfold vU iU;cases now<;>exact ⟨v.mono L,X.le L,r2.le L,rfl,rfl⟩
  refine ⟨_,rfl,Oq,M _,Cn A B (cs.take (i+1)),M _,c3,fun z V'=>IR V' z.1 z.2.1 z.2.2.1 (vU d now last cs[i].1 out)/\RR V' (.agg #[.int .i64 z.2.2.2.1,.int .i64 z.2.2.2.2.1,.pointer z.2.2.2.2.2.1]) (iU d now last cs[i].1).lo /\
   RR V' (.agg #[.int .i64 z.2.2.2.2.2.2.1,.int .i64 z.2.2.2.2.2.2.2.1,.pointer z.2.2.2.2.2.2.2.2.1]) (iU d now last cs[i].1).hi/\z.2.2.2.2.2.2.2.2.2.1=(iU d now last cs[i].1).a/\z.2.2.2.2.2.2.2.2.2.2=(iU d now last cs[i].1).b,
   ⟨fun hn=>⟨fun hw=>?_,fun hw=>⟨fun a1=>⟨fun J=>?_,fun _=>?_⟩,fun a1=>?_⟩⟩,fun hn=>⟨fun hw=>⟨fun J=>?_,fun J=>?_⟩,fun hw=>?_⟩⟩,?_⟩
  ·have hw:d=false:=by simpa using hw
   subst hn hw;exact ⟨(P,Y,us,x,y,pp,0,0,none,false,false),by and_intros<;>rfl,v.mono L,hr.le L,RR.zero _,rfl,rfl⟩
  ·rw [hn] at J;cases J
  ·exact ⟨(P,Y,us,x1,x2,p,y1,y2,q,last.a,last.b),by and_intros<;>rfl,same (hn.trans a1.symm)⟩
  ·rw [a1] at hw;cases hw
  ·subst hn hw;exact ⟨by omega,v.le,v.cap,rfl,Px,fun sp c' C S=>⟨(P+1,c',_,x1,x2,p,x,y,pp,last.a,last.b),by and_intros<;>rfl,(v.mono L).snoc (s:=⟨last.lo,cs[i].1,last.a,last.b⟩) (X.le L) (hr.le L) C S,X.le L,hr.le L,rfl,rfl⟩⟩
  ·rw [hn] at J;cases J
  ·exact ⟨(P,Y,us,x1,x2,p,y1,y2,q,last.a,last.b),by and_intros<;>rfl,same (hn.trans hw.symm)⟩
  ·rintro ⟨k1,k2,ks,u1,u2,pu,t1,t2,pt,ua,ub⟩ uf fF ⟨OE,b0,b6,g1,g2⟩;dsimp only at OE b0 b6 g1 g2;subst g1 g2;dsimp only
   have ol:(vU d now last cs[i].1 out).length<=i+1:=by
    unfold vU;split
    ·rw [Qq5];simp;omega
    ·omega
   exact ⟨rfl,(k1,k2,ks,now,((i+1:Nat):Int),Cn A B (cs.take (i+1)),u1,u2,pu,t1,t2,pt,_,_),by dsimp only;omega,by and_intros<;>rfl,i+1,_,_,rfl,by omega,ol,st,rfl,OE,b0,b6,rfl,rfl⟩
 ·have hi:¬(i:Int)<Q:=of_decide_eq_false hi;obtain rfl:i=cs.length:=by omega
  have fin:=Lf hI hacc;refine ⟨fun z V'=>IR V' z.1 z.2.1 z.2.2 (combL op A B),⟨fun hw=>?_,fun hw=>?_⟩,?_⟩
  ·subst hw;refine ⟨by omega,v.le,v.cap,rfl,Px,fun sp c' C S=>⟨(P+1,c',_),by and_intros<;>rfl,?_⟩⟩;rw [←fin];have:=hI.fr rfl;rw [this.1] at r2;exact v.snoc (s:=ke last) X r2 C S
  ·subst hw;refine ⟨(P,Y,us),by and_intros<;>rfl,?_⟩;rw [←fin];simpa [vV] using v
  ·rintro ⟨k1,k2,ks⟩ A8 gj h;dsimp only at h;obtain rfl:=h.len;exact ⟨rfl,fun Bg mK bk F=>⟨_,_,_,rfl,lC.jw F (h.row.le fun _ _ g=>qp.le g mK) (by decide) h.le⟩⟩
theorem Rs (a b:Bool)(W:View):aa prog 177 #[.bool a,.bool b] W fun r _=>r=.bool ((fun x _=>x:Bool->Bool->Bool) a b):=
 xS a b W _ fun V l=>rfl
theorem DM {V:View}{p:OA}{n c:Nat}{A:List Sp}(hA:lC 8 qp V p n A)(hg:∀s∈A,s.good)(hs:∀s∈A,s.sz 1000000)(hn:A.length<=1000)(hf:fe A<50)(so:ue (fe A)) :
  aa prog 127 #[.slice p n c] V fun r V'=>∃q m e,r=.slice q m e/\lC 8 qp V' q m (combL 1 A []):=by
 refine CU p n c V _ fun d a=>(HY (op:=1) (acc:=fun x _=>x) (fun t=>by simp [opB,inB]) (hA.le a fun _ _ g=>qp.le g a) (lC.nil (p:=none)) hg (fun s h=>by cases h) hs (fun s h=>by cases h) hn (by decide) (by have:fe []=0:=rfl;omega) so Rs).mono ?_;rintro r f i ⟨q,m,e,rfl,g⟩;exact ⟨_,_,_,rfl,fun j b=>⟨_,_,_,rfl,g.le b fun _ _ g=>qp.le g b⟩⟩
theorem inB_nil (t:Rat):inB [] t=false:=rfl
def eO (l:List L3):List L3:=l.foldl (fun o x=>nS x o) []
theorem bT (l:List L3):(eO l).Pairwise qY/\∀x,x∈eO l↔x∈l:=by
 have:∀(l o:List L3),o.Pairwise qY->(l.foldl (fun o x=>nS x o) o).Pairwise qY/\∀x,x∈l.foldl (fun o x=>nS x o) o↔x∈o\/x∈l:=by
  intro l
  induction l with
  | nil=>intro o h;exact ⟨h,fun x=>by simp⟩
  | cons y r ih=>
   intro o h;obtain ⟨a,b⟩:=ih (nS y o) (B3 h);refine ⟨a,fun x=>?_⟩;rw [Qc4,b x,uZ,Qq4];constructor
   ·rintro ((h|h)|h)<;>simp [h]
   ·rintro (h|h|h)<;>simp [h]
 obtain ⟨a,b⟩:=this l [] List.Pairwise.nil;exact ⟨a,fun x=>by rw [eO,b x];simp⟩
theorem GH {l m:List L3}(h:∀x,x∈l↔x∈m):eO l=eO m:=
 Dz (bT l).1 (bT m).1 fun x=>by rw [(bT l).2 x,(bT m).2 x];exact h x
def cx (m:L3)(l:List (L3×Sp)):List Sp:=(l.filter fun x=>decide (x.1=m)).map Prod.snd
def joinF (l:List (L3×Sp)):List (L3×Sp):=(eO (l.map Prod.fst)).flatMap fun m=>(combL 1 (cx m l) []).map fun s=>(m,s)
theorem Gh {A B:List Sp}(h:A.Perm B):combL 1 A []=combL 1 B []:=by
 refine reg_eq (endsL (A++[])++endsL (B++[])) (comb_reg ..) (comb_reg ..) fun t a=>?_;rw [Qw1,not_or] at a;rw [comb_inB 1 _ _ a.1,comb_inB 1 _ _ a.2]
 have:inB A t=inB B t:=by
  unfold inB;rw [Qx6,Qc0,Qc0];exact ⟨fun ⟨x,b,c⟩=>⟨x,h.mem_iff.1 b,c⟩,fun ⟨x,b,c⟩=>⟨x,h.mem_iff.2 b,c⟩⟩
 rw [this]
theorem nU {l m:List (L3×Sp)}(h:l.Perm m):joinF l=joinF m:=by
 unfold joinF;rw [GH (l:=l.map Prod.fst) (m:=m.map Prod.fst) fun x=>(h.map _).mem_iff];refine congrArg (fun f=>(eO (m.map Prod.fst)).flatMap f) (funext fun k=>?_);rw [Gh (A:=cx k l) (B:=cx k m) ((h.filter _).map _)]
theorem joinF_snoc {P Q:List (L3×Sp)}{m:L3}(hP:∀x∈P,qY x.1 m)(hQ:∀x∈Q,x.1=m)(hne:Q≠[]) :
  joinF (P++Q)=joinF P++(combL 1 (Q.map Prod.snd) []).map fun s=>(m,s):=by
 have i:eO ((P++Q).map Prod.fst)=eO (P.map Prod.fst)++[m]:=by
  obtain ⟨j,k⟩:=bT ((P++Q).map Prod.fst);obtain ⟨n,g⟩:=bT (P.map Prod.fst);refine Dz j (Qf7.2 ⟨n,List.pairwise_singleton _ _,fun x c y d=>?_⟩) fun x=>?_
  ·rw [Qw3.1 d];obtain ⟨z,b,rfl⟩:=Qy0.1 ((g x).1 c);exact hP z b
  ·rw [k x,Qp7,Qw1,Qw1,g x,Qw3];refine or_congr_right ⟨fun h=>?_,fun h=>?_⟩
   ·obtain ⟨z,b,rfl⟩:=Qy0.1 h;exact hQ z b
   ·obtain ⟨z,b⟩:=List.exists_mem_of_ne_nil Q hne;exact Qy0.2 ⟨z,b,(hQ z b).trans h.symm⟩
 have c:∀x∈eO (P.map Prod.fst),cx x (P++Q)=cx x P:=fun x c=>by
  obtain ⟨z,b,rfl⟩:=Qy0.1 (((bT _).2 x).1 c);have f:=hP z b;unfold cx;rw [List.filter_append,(List.filter_eq_nil_iff (l:=Q)).2 fun y d=>?_,Qk2];intro e;have e:y.1=z.1:=of_decide_eq_true e;rw [←e,hQ y d] at f;exact Cf f
 have hm:cx m (P++Q)=Q.map Prod.snd:=by
  unfold cx;rw [List.filter_append,(List.filter_eq_nil_iff (l:=P)).2 fun y d=>?_,Qm3,(List.filter_eq_self (l:=Q)).2 fun y d=>decide_eq_true (hQ y d)];intro e;have e:y.1=m:=of_decide_eq_true e;exact Cf (e▸hP y d)
 unfold joinF;rw [i,Qd0,List.flatMap_singleton,hm];congr 1;generalize eO (P.map Prod.fst)=L at c
 induction L with
 | nil=>rfl
 | cons a r ih=>rw [Qw8,Qw8,c a (Qn0 ..),ih fun x h=>c x (Qq8 _ h)]
theorem FF {α:Type}{sz:Nat}{R R':View->Value->α->Prop}{V V':View}{vs:List Value}{l:List α}(h:Row sz R V vs l)(m:∀v a,a∈l->R V v a->R' V' v a):Row sz R' V' vs l:=
 ⟨fun i b=>by obtain ⟨xs,c,d,e⟩:=h.at_ i b;exact ⟨xs,c,m _ _ (Qy3 b) d,e⟩⟩
theorem EA {V:View}{ws:List Value}{m:List (L3×Sp)}(h:Row 17 oK V ws m){i:Nat}(hi:i<m.length) :
  ∃(x1 x2:Int)(p:OA)(y1 y2:Int)(q:OA)(z1 z2:Int)(r:OA)(u1 u2:Int)(t:OA)(w1 w2:Int)(o:OA),((i*17+0)+9<=ws.length/\(ws.drop (i*17+0)).take 9=[.int .i64 x1,.int .i64 x2,.pointer p,.int .i64 y1,.int .i64 y2,.pointer q,.int .i64 z1,.int .i64 z2,.pointer r]) /\
   ((i*17+9)+8<=ws.length/\(ws.drop (i*17+9)).take 8=[.int .i64 u1,.int .i64 u2,.pointer t,.int .i64 w1,.int .i64 w2,.pointer o,.bool m[i].2.a,.bool m[i].2.b]) /\
   wR V (.agg #[.int .i64 x1,.int .i64 x2,.pointer p,.int .i64 y1,.int .i64 y2,.pointer q,.int .i64 z1,.int .i64 z2,.pointer r]) m[i].1/\qp V (.agg #[.int .i64 u1,.int .i64 u2,.pointer t,.int .i64 w1,.int .i64 w2,.pointer o,.bool m[i].2.a,.bool m[i].2.b]) m[i].2:=by
 obtain ⟨xs,-,c,k,f⟩:=h.get (d:=wU) hi (by decide);have e:m.getD i wU=m[i]:=by rw [Qw6,Qq1 hi];rfl
 rw [e] at c;obtain ⟨_,_,_,_,_,_,_,_,_,_,_,_,_,_,_,ex,g,j⟩:=c;have ex:=congrArg Array.toList (Value.agg.inj ex);dsimp only at ex;subst ex;refine ⟨_,_,_,_,_,_,_,_,_,_,_,_,_,_,_,⟨by omega,?_⟩,⟨by omega,?_⟩,g,j⟩
 ·have:=congrArg (List.take 9) f;rw [Qh9] at this;exact this
 ·have:=congrArg (List.drop 9) f;rw [List.drop_take,Qm0] at this;exact this
theorem K9 {V:View}{xs:List Value}{x:Sp}(h:qp V (.agg xs.toArray) x):∀v∈xs,v.oneCell'=true:=by
 obtain ⟨_,_,_,_,_,_,ex,-,-⟩:=h;have ex:=congrArg Array.toList (Value.agg.inj ex);dsimp only at ex;subst ex;intro v a;simp only [Qq4,Qn7,or_false] at a;rcases a with rfl|rfl|rfl|rfl|rfl|rfl|rfl|rfl<;>rfl
theorem Pg {a b c:L3}(h:qY a b)(h':¬sU c b<0):qY a c:=by
 by_cases e:b=c
 ·rw [←e];exact h
 ·exact LX h (ID h' fun k=>e k.symm)
set_option maxHeartbeats 2000000 in
theorem F4 {V:View}{p:OA}{n c:Nat}{fs:List (L3×Sp)}(h:lC 17 oK V p n fs)(h0:fs=[]->p=none)(kO:fs.length<20)(hb:∀f∈fs,gL 10000 f.1)(hg:∀f∈fs,f.2.good)(hs:∀f∈fs,f.2.sz 1000000)(so:∀i,i<=2*fs.length->ue i) :
  aa prog 66 #[.slice p n c] V fun r V'=>∃q m e,r=.slice q m e/\lC 17 oK V' q m (joinF fs):=by
 obtain rfl:=h.len;refine wc p _ c V _ fun V1 l1=>(HP (h.le l1 fun _ _ g=>qo.le g l1) (by omega) h0).mono ?_;rintro r V2-⟨Y,vs,a1,a2,e,rfl,hle,Z,vf,row,lW⟩;refine ⟨Y,vs,a1,fun h=>.inl (a2 h),none,fs.length,e,rfl,?_⟩;have A:Row 17 oK (V2.shut.cu (vs≠[]) Y) vs fs:=row.le fun _ _ g=>qo.le g fun b o h=>h;clear a1 a2 row lW;generalize V2.shut.cu (vs≠[]) Y=W at A ⊢;refine ⟨fun ws V'=>∃m:List (L3×Sp),m.Perm fs/\(m.Pairwise fun x y=>¬sU y.1 x.1<0)/\Row 17 oK V' ws m,⟨fun D=>?_,fun D V5 l5 T e1 e2=>?_⟩,?_⟩
 ·have a0:fs=[]:=Classical.byContradiction fun h=>vf.2 h D;subst a0;obtain rfl:=Z.1 D;refine ⟨rfl,fun V3 l3=>oR.mono ?_⟩;rintro r V4 l4 rfl;exact ⟨rfl,vs,by and_intros<;>rfl,[],.refl _,List.Pairwise.nil,Row.nil⟩
 ·have a3:e≠0:=fun h=>D (Z.2 h);have R6:∀b,mA b e=some ⟨b,0,none⟩:=fun b=>by unfold mA;rw [if_neg a3]
  rw [R6];refine (w_ (V:=V5.ax [vb vs V5.w.heap.size T]) (lb:=T) (vs:=vs) (l:=fs) (e1 D) ⟨by simp [FQ D],e2 D⟩ ⟨FF A fun v a ha g=>⟨qo.le g fun b o h=>l5 b o h,hb a ha⟩,rfl,by omega⟩ kO).mono ?_;rintro r V6 l6 ⟨rfl,ws,m,e3,sr,pm,pw⟩;have M4:=pm.length_eq
  have hw:ws≠[]:=fun e=>by
   have:=sr.row.lU (by decide);rw [e,M4] at this;exact vf.1 D (Qq6.1 (by rw [Qd1] at this;omega))
  exact ⟨rfl,D,ws,hw,e3,ws,by and_intros<;>rfl,m,pm,pw,FF sr.row fun v a _ g=>qo.le g.1 fun b o h=>h⟩
 rintro ws V7 l7 ⟨m,pm,pw,P⟩;have M4:=pm.length_eq;rw [nU pm.symm]
 replace hb:∀f∈m,gL 10000 f.1:=fun f G=>hb f (pm.mem_iff.1 G)
 replace hg:∀f∈m,f.2.good:=fun f G=>hg f (pm.mem_iff.1 G)
 replace hs:∀f∈m,f.2.sz 1000000:=fun f G=>hs f (pm.mem_iff.1 G)
 rw [←M4] at kO hle so ⊢;clear h0 h pm A Z vf;have Q:∀i j (u:i<m.length) (H:j<m.length),i<j->¬sU m[j].1 m[i].1<0:=fun i j u H=>Qb2.1 pw i j u H;refine ⟨rfl,fun z V'=>∃j:Nat,z.2.2.2=(j:Int)/\j<=m.length/\GR 17 oK V' z.1 z.2.1 z.2.2.1 (joinF (m.take j))/\(joinF (m.take j)).length<=50*j/\∀x∈m.take j,∀y∈m.drop j,qY x.1 y.1,fun z=>m.length-z.2.2.2.toNat,⟨(0,0,[],0),by and_intros<;>rfl,0,rfl,Qw2 _,GR.nil,Qw2 _,fun x d=>by simp at d⟩,?_⟩;rintro ⟨n1,c1,os,i1⟩ V8 l8 ⟨j,ej,MR,I,ol,sep⟩;dsimp only at ej I;subst ej;refine ⟨rfl,fun B=>?_,fun B sM dY T K=>?_⟩;rotate_left
 ·have B:¬(j:Int)<(m.length:Nat):=of_decide_eq_false B;obtain rfl:j=m.length:=by omega
  rw [Qv2] at I;have:=lC.jw K (I.row.le fun _ _ g=>qo.le g dY) (by decide) (by rw [←I.len];exact I.le);rw [←I.len] at this;exact ⟨_,_,_,rfl,this⟩
 have B:(j:Int)<(m.length:Nat):=of_decide_eq_true B;have H:j<m.length:=by omega
 dsimp only;have Ye:V7.Le V8:=l8;refine ⟨fun z V'=>∃k:Nat,z.2.2.2=(k:Int)/\j<=k/\k<=m.length/\GR 8 qp V' z.1 z.2.1 z.2.2.1 (((m.take k).drop j).map Prod.snd)/\∀x∈(m.take k).drop j,x.1=m[j].1,fun z=>m.length-z.2.2.2.toNat,⟨(0,0,[],(j:Int)),by and_intros<;>rfl,j,rfl,Qq3 _,by omega,?_,?_⟩,?_⟩
 ·rw [Qr9 (by rw [Qw0];omega)];exact GR.nil
 ·rw [Qr9 (by rw [Qw0];omega)];intro x d;cases d
 rintro ⟨n2,c2,us,i2⟩ V9 l9 ⟨k,ek,jk,VI,E,same⟩;dsimp only at ek E;subst ek;have Sa:Row 17 oK V9 ws m:=P.le fun _ _ g=>qo.le g (Ye.trans l9);obtain ⟨b1,b2,b3,b4,b5,b6,b7,b8,b9,-,-,-,-,-,-,jl,-,jr,-⟩:=EA Sa H;have a4:=hb _ (Qy3 H);refine ⟨rfl,fun b V'=>V9.Le V'/\b=decide (∃h:k<m.length,m[k].1=m[j].1),⟨fun t=>?_,fun t=>?_⟩,?_⟩
 ·have t:(k:Int)<(m.length:Nat):=of_decide_eq_true t;have t:k<m.length:=by omega
  dsimp only;rw [Qq0,Qq0];obtain ⟨d1,d2,d3,d4,d5,d6,d7,d8,d9,-,-,-,-,-,-,kl,-,U,-⟩:=EA Sa t;refine ⟨⟨by omega,by omega⟩,hle,d1,d2,d3,d4,d5,d6,d7,d8,d9,kl,⟨by omega,by omega⟩,hle,b1,b2,b3,b4,b5,b6,b7,b8,b9,jl,fun gm L=>(KG (wR.le U L) (wR.le jr L) (hb _ (Qy3 t)) a4).mono ?_⟩;rintro r fH bE rfl;exact ⟨_,rfl,_,by and_intros<;>rfl,L.trans bE,decide_eq_decide.2 ⟨fun h=>⟨t,h⟩,fun ⟨_,h⟩=>h⟩⟩
 ·have t:¬(k:Int)<(m.length:Nat):=of_decide_eq_false t;exact ⟨false,by and_intros<;>rfl,View.Le.refl _,(decide_eq_false fun ⟨h,_⟩=>by omega).symm⟩
 rintro b jC cM ⟨R,rfl⟩;refine ⟨rfl,fun t=>?_,fun t oH cN T K=>?_⟩
 ·obtain ⟨t,Xf⟩:=of_decide_eq_true t;have w:i64.wrap ((k:Int)+1)=((k+1:Nat):Int):=by rw [ar (by omega)];rfl
  dsimp only;rw [Qq0,w];obtain ⟨-,-,-,-,-,-,-,-,-,d1,d2,d3,d4,d5,d6,-,kl,-,U⟩:=EA (Sa.le fun _ _ g=>qo.le g R) t
  have tk:(m.take (k+1)).drop j=(m.take k).drop j++[m[k]]:=by
   rw [←Qn9 t,List.drop_append_of_le_length (by rw [Qw0];omega)]
  have sl:=E.len;rw [Qb6,Qk7,Qw0] at sl;refine ⟨⟨by omega,by omega⟩,hle,d1,d2,d3,d4,d5,d6,_,_,kl,by omega,E.le,E.cap,rfl,K9 (V:=jC) (x:=m[k].2) U,fun sp c' k1 k2=>⟨(n2+1,c',_,((k+1:Nat):Int)),by dsimp only;omega,by and_intros<;>rfl,k+1,rfl,by omega,t,?_,?_⟩⟩
  ·rw [tk,Qp7];exact (E.mono fun _ _ g=>qp.le g R).snoc rfl U (by decide) k1 k2
  ·rw [tk];intro x d;rcases Qw1.1 d with d|d
   ·exact same x d
   ·rw [Qw3.1 d];exact Xf
 have t:¬∃h:k<m.length,m[k].1=m[j].1:=of_decide_eq_false t;have X8:j<k:=Nat.lt_of_le_of_ne jk fun e=>by subst e;exact t ⟨H,rfl⟩
 have sub:∀x∈(m.take k).drop j,x∈m:=fun x d=>Qm7 (Qf5 d);have hA:=lC.jw K (E.row.le fun _ _ g=>qp.le g (R.trans cN)) (by decide) (by rw [←E.len];exact E.le);rw [←E.len] at hA;have Al:(((m.take k).drop j).map Prod.snd).length<20:=by rw [Qb6,Qk7,Qw0];omega
 have G:=H7 (((m.take k).drop j).map Prod.snd);refine (DM hA (fun s M=>by obtain ⟨x,d,rfl⟩:=Qy0.1 M;exact hg x (sub x d)) (fun s M=>by obtain ⟨x,d,rfl⟩:=Qy0.1 M;exact hs x (sub x d)) (by omega) (by omega) (so _ (by rw [Qb6,Qk7,Qw0] at G;omega))).mono ?_;rintro r mD dP ⟨q,n3,c3,rfl,hC⟩;refine ⟨_,_,_,rfl,fun J=>?_⟩;have O7:=l9.trans (R.trans (cN.trans dP))
 have sn:joinF (m.take k)=joinF (m.take j)++(combL 1 (((m.take k).drop j).map Prod.snd) []).map fun s=>(m[j].1,s):=by
  have e:m.take k=m.take j++(m.take k).drop j:=by
   conv=>lhs;rw [←Qk5 j (m.take k),Qh9,Qy5 (by omega)]
  conv=>lhs;rw [e]
  refine joinF_snoc (fun x d=>sep x d _ (Qh8.2 ⟨0,by rw [Qk7];omega,by rw [Qh3];rfl⟩)) same fun h=>?_;have:=congrArg List.length h;rw [Qk7,Qw0] at this;simp at this;omega
 have cl:=HZ 1 (((m.take k).drop j).map Prod.snd) [];have f0:fe []=0:=rfl;generalize combL 1 (((m.take k).drop j).map Prod.snd) []=C at hC sn cl;obtain rfl:=hC.len;refine ⟨fun z V'=>∃i:Nat,z.2.2.2=(i:Int)/\i<=C.length/\GR 17 oK V' z.1 z.2.1 z.2.2.1 (joinF (m.take j)++(C.take i).map fun s=>(m[j].1,s)),fun z=>C.length-z.2.2.2.toNat,⟨(n1,c1,os,0),by and_intros<;>rfl,0,rfl,Qw2 _,?_⟩,?_⟩
 ·rw [Qc2,List.map_nil,Qk2];exact I.mono fun _ _ g=>qo.le g O7
 rintro ⟨n4,c4,ts,i4⟩ mE dj ⟨i,ei,X7,N⟩;dsimp only at ei N;subst ei;refine ⟨rfl,fun u=>?_,fun u=>?_⟩
 ·have u:(i:Int)<(C.length:Nat):=of_decide_eq_true u;have u:i<C.length:=by omega
  have w:i64.wrap ((i:Int)+1)=((i+1:Nat):Int):=by rw [ar (by omega)];rfl
  dsimp only;rw [Qq0,Qq0,w];obtain ⟨ad,h0,xs,-,y2,F⟩:=(hC.le dj fun _ _ g=>qp.le g dj).at_ i u;obtain ⟨_,_,_,_,_,_,ex,g1,g2⟩:=y2;have ex:=congrArg Array.toList (Value.agg.inj ex);dsimp only at ex;subst ex;have he:qo mE (.agg #[.int .i64 b1,.int .i64 b2,.pointer b3,.int .i64 b4,.int .i64 b5,.pointer b6,.int .i64 b7,.int .i64 b8,.pointer b9,.int .i64 _,.int .i64 _,.pointer _,.int .i64 _,.int .i64 _,.pointer _,.bool C[i].a,.bool C[i].b]) m[j].1 C[i]:=⟨_,_,_,_,_,_,_,_,_,_,_,_,_,_,_,rfl,wR.le jr (R.trans (cN.trans (dP.trans dj))),_,_,_,_,_,_,rfl,g1,g2⟩;have tl:=N.len;rw [Qq5,Qb6,Qw0] at tl;refine ⟨bL h0,⟨by omega,by omega⟩,_,_,_,_,_,_,_,_,ad,h0,F 0 _ rfl,F 1 _ rfl,F 2 _ rfl,F 3 _ rfl,F 4 _ rfl,F 5 _ rfl,F 6 _ rfl,F 7 _ rfl,⟨by omega,by omega⟩,hle,b1,b2,b3,b4,b5,b6,b7,b8,b9,jl,by omega,N.le,N.cap,rfl,vJ (V:=mE) (x:=(_,_)) he,fun sp c' k1 k2=>⟨(n4+1,c',_,((i+1:Nat):Int)),by dsimp only;omega,by and_intros<;>rfl,i+1,rfl,u,?_⟩⟩;rw [←Qn9 u,Qp7,←Qk6];exact N.snoc (a:=(m[j].1,C[i])) rfl he (by decide) k1 k2
 ·have u:¬(i:Int)<(C.length:Nat):=of_decide_eq_false u;obtain rfl:i=C.length:=by omega
  rw [Qv2] at N;refine ⟨(n4,c4,ts,(k:Int)),by dsimp only;omega,by and_intros<;>rfl,k,rfl,VI,by rw [sn];exact N,by rw [sn,Qq5,Qb6];omega,fun x d y hy=>?_⟩;obtain ⟨X,XI,rfl⟩:=Qh8.1 hy;rw [Qk7] at XI;rw [Qh3];have O:k<m.length:=by omega
  have S:qY m[j].1 m[k].1:=ID (Q j k H O X8) fun e=>t ⟨O,e⟩
  have XL:qY m[j].1 m[k+X].1:=by
   by_cases e:X=0
   ·subst e;exact S
   ·exact Pg S (Q k (k+X) O (by omega) (by omega))
  have e:m.take k=m.take j++(m.take k).drop j:=by
   conv=>lhs;rw [←Qk5 j (m.take k),Qh9,Qy5 (by omega)]
  rw [e] at d;rcases Qw1.1 d with d|d
  ·exact sep x d _ (Qh8.2 ⟨k+X-j,by rw [Qk7];omega,by rw [Qh3];congr 1;omega⟩)
  ·rw [same x d];exact XL
theorem FE {V:View}{p:OA}{n:Nat}{fs:List (L3×Sp)}(h:lC 17 oK V p n fs):Hw V p n fs:=⟨h.len,fun i a=>by
 obtain ⟨b,c,xs,-,d,e⟩:=h.at_ i a;exact ⟨b,c,xs,d,e⟩⟩
theorem Bw {V:View}{p:OA}{n c:Nat}{fs:List (L3×Sp)}(h:oJ V p n fs)(kO:fs.length<20)(hb:∀f∈fs,gL 10000 f.1)(hs:∀f∈fs,f.2.sz 1000000)(ho:∀f∈fs,A7 f.1 f.2)(hl:(joinF fs).length<=1000)(so:∀i,i<=2*fs.length->ue i) :
  aa prog 25 #[.slice p n c] V fun r V'=>∃q m e,r=.tuple #[.slice q m e,.nilIface]/\oJ V' q m (joinF fs):=by
 have l:∀f∈joinF fs,gL 1000000 f.1/\f.2.sz 1000000:=fun f a=>by
  obtain ⟨m,hm,a⟩:=Qw5.1 a;obtain ⟨s,b,rfl⟩:=Qy0.1 a;obtain ⟨g,o,rfl⟩:=Qy0.1 (((bT _).2 _).1 hm);have z:=hb g o;refine ⟨⟨z.1.mono (by omega),z.2.1.mono (by omega),z.2.2.mono (by omega)⟩,Fi (by decide) (fun u hu=>?_) (fun u hu=>by cases hu) s b⟩;obtain ⟨x,t,rfl⟩:=Qy0.1 hu;exact hs x (Qj8.1 t).1
 refine ry p n c V _ fun D v=>(Kd (h.le v) (by omega) (fun f a=>⟨⟨(hb f a).1.mono (by omega),(hb f a).2.1.mono (by omega),(hb f a).2.2.mono (by omega)⟩,hs f a⟩) ho (k:=1000000)).mono ?_;rintro r E F ⟨G,H,I,rfl,w,y⟩;refine ⟨_,_,_,_,rfl,(fun h=>nomatch h),fun _ J d=>(F4 (w.le d fun _ _ g=>qo.le g d) y kO hb (fun f a=>(ho f a).2) hs so).mono ?_⟩;rintro r K L ⟨M,N,O,rfl,A⟩;refine ⟨_,_,_,rfl,fun P j=>(uu (FE (A.le j fun _ _ g=>qo.le g j)) hl l).mono ?_⟩;rintro r Q R ⟨S,T,U,rfl,B⟩;exact ⟨_,_,_,rfl,fun W C=>⟨_,_,_,rfl,B.le C⟩⟩
def J6 (V:View)(v:Value)(x:L3×Sp):Prop:=qn V v x.1 x.2
theorem sT {V:View}{p:OA}{n c:Nat}{fs:List (L3×Sp)}(h:lC 14 qu V p n fs)(hn:fs.length<=1000000){k:Nat}(hs:∀f∈fs,gL k f.1/\f.2.sz k)(hk:k<=1099511627776:=by omega) :
  aa prog 26 #[.slice p n c] V fun r V'=>∃q m e,r=.slice q m e/\lC 14 J6 V' q m fs:=by
 obtain rfl:=h.len;refine rI p _ c V _ ⟨fun z V'=>∃j:Nat,z.2.2.2=(j:Int)/\j<=fs.length/\GR 14 J6 V' z.1 z.2.1 z.2.2.1 (fs.take j),fun z=>fs.length-z.2.2.2.toNat,⟨(0,0,[],0),by and_intros<;>rfl,0,rfl,Qw2 _,GR.nil⟩,?_⟩;rintro ⟨B,C,K,L⟩ M t ⟨j,u,N,d⟩;dsimp only at u d;subst u;have l:=d.len;refine ⟨rfl,fun b=>?_,fun b O D P E=>?_⟩;rotate_left
 ·have b:¬(j:Int)<fs.length:=of_decide_eq_false b;obtain rfl:j=fs.length:=by omega
  rw [Qv2] at d l;subst l;exact ⟨_,_,C,rfl,lC.jw E (d.row.le fun _ _ g=>qn.le g D) (by decide) d.le⟩
 have b:(j:Int)<fs.length:=of_decide_eq_true b;have i:j<fs.length:=by omega
 have w:i64.wrap ((j:Int)+1)=((j+1:Nat):Int):=by rw [ar (by omega)];rfl
 dsimp only;rw [Qq0,w];obtain ⟨F,v,xs,Q,x,a⟩:=(h.le t fun _ _ g=>qu.le g t).at_ j i;have o:=x;obtain ⟨_,_,_,_,_,_,_,_,_,_,_,_,_,_,_,_,_,_,_,_,_,_,_,_,_,_,ex,-,-⟩:=x;have ex:=congrArg Array.toList (Value.agg.inj ex);dsimp only at ex;subst ex;obtain ⟨s1,s2⟩:=hs _ (Qy3 i);rw [Qw0] at l;refine ⟨bL v,⟨by omega,by omega⟩,_,_,_,_,_,_,_,_,_,_,_,_,_,_,_,_,_,_,_,_,_,_,_,_,_,_,_,_,F,v,a 0 _ rfl,a 1 _ rfl,a 2 _ rfl,a 3 _ rfl,a 4 _ rfl,a 5 _ rfl,a 6 _ rfl,a 7 _ rfl,a 8 _ rfl,a 9 _ rfl,a 10 _ rfl,a 11 _ rfl,a 12 _ rfl,a 13 _ rfl,fun R y=>(uF (qu.le o y) s1 s2 hk).mono ?_⟩;rintro r S G A;have s:=A;obtain ⟨_,_,_,_,_,_,_,_,_,_,_,_,_,_,_,_,_,_,_,_,_,_,_,_,_,_,rfl,-,-⟩:=A;refine ⟨_,_,_,_,_,_,_,_,_,_,_,_,_,_,_,_,_,_,_,_,_,_,_,_,_,_,_,_,rfl,by omega,d.le,d.cap,rfl,I3,fun sp H I J=>⟨(B+1,H,_,((j+1:Nat):Int)),by dsimp only;omega,by and_intros<;>rfl,j+1,rfl,i,?_⟩⟩;rw [←Qn9 i];exact (d.mono fun _ _ g=>qn.le g (y.trans G)).snoc rfl s (by decide) I J
theorem Ay {V:View}{xs:List Value}{x:L3×Sp}(h:qu V (.agg xs.toArray) x):∀v∈xs,v.oneCell'=true:=by
 obtain ⟨_,_,_,_,_,_,_,_,_,_,_,_,_,_,_,_,_,_,_,_,_,_,_,_,_,_,ex⟩:=mg h;have ex:=congrArg Array.toList (Value.agg.inj ex);dsimp only at ex;subst ex;exact I3
theorem KP {l:L3}(h:nj l=true):nj (revL l)=true:=by
 unfold nj revL bC at *;simp only [Qf3] at *;simpa using h
def Dt (fs:List (L3×Sp)):Prop:=∀f∈fs,A7 f.1 f.2/\gL 1000 f.1/\f.2.sz 5000
theorem Dt.snoc {fs:List (L3×Sp)}{f:L3×Sp}(h:Dt fs)(h1:A7 f.1 f.2)(h2:gL 1000 f.1)(h3:f.2.sz 5000):Dt (fs++[f]):=fun g a=>by
 rcases Qw1.1 a with a|a
 ·exact h g a
 ·rw [Qw3.1 a];exact ⟨h1,h2,h3⟩
theorem Rr {V:View}{tb:Nat}{p:OA}{n c:Nat}{at_:Int}(hr:E5 V p n)(hn:n<=400)(hw:jX V tb p n c at_)(hx:V.X tb)(h0:0<=at_) :
  aa prog 63 #[.pointer (some ⟨tb,0,none⟩),.int .i64 4] V fun r V'=>∃(bm:Nat)(vs:List Value)(e:Nat)(fs:List (L3×Sp))(at':Int),r=.slice (mA bm e) fs.length e/\(vs≠[]->V'.w.heap[bm]?=some (.cells vs.toArray 36 (0,0)))/\(vs≠[]->V.w.heap.size<=bm) /\
   GR 14 qu (V'.cu (vs≠[]) bm) fs.length e vs fs/\V.Le (V'.cu (vs≠[]) bm)/\fs.length<=4/\Dt fs/\0<=at'/\jX V' tb p n c at':=by
 have N:i64.wrap ((4:Int)+1)=5:=ar (by omega);refine rJ tb p n c at_ 4 V _ hw hx ?_;rw [N];refine fun O C j P Q=>(gO (V:=O.ax [j]) 5 (hr.le fun b o h=>C b o h) hn P ⟨by simp,Q⟩ h0 (by omega)).mono ?_;rintro r R S ⟨x,T,rfl,x0,x1,t1,k⟩;obtain ⟨i0,rfl⟩:∃i:Nat,x=i:=⟨x.toNat,by omega⟩;have U:V.Le R:=fun b o h=>S b o (C b o h)
 refine ⟨_,rfl,_,_,_,_,k,fun z V'=>V.Le V'/\∃(A:List (L3×Sp))(i:Nat),z.2.2.2.1=(i:Int)/\i+A.length<=4/\z.2.2.2.2.1=p/\z.2.2.2.2.2.1=n/\z.2.2.2.2.2.2.1=c/\0<=z.2.2.2.2.2.2.2/\GR 14 qu V' z.1 z.2.1 z.2.2.1 A/\Dt A,fun z=>z.2.2.2.1.toNat,
  ⟨(0,0,[],(i0:Int),p,n,c,T),by and_intros<;>rfl,(fun b o h=>U b o h),[],i0,rfl,by rw [Qd1];omega,rfl,rfl,rfl,t1,GR.nil,fun q W=>by cases W⟩,?_⟩
 rintro ⟨Y,Z,us,z4,tp,tn,tc,ta⟩ V3 l3 ⟨m,A,i,D,hA,E,f,F,t,d,G⟩;dsimp only at D E f F t d;subst D E f F;have Qt:=d.len;refine ⟨rfl,fun a V4 H W7 e9 h9=>(Rq (V:=V4.ax [W7]) (hr.le fun b o h=>H b o (m b o h)) hn e9 ⟨by simp,h9⟩ t).mono ?_,fun a V6 bk u f I J=>?_⟩
 ·have a:(i:Int)>0:=of_decide_eq_true a;have w:i64.wrap ((i:Int)-1)=((i-1:Nat):Int):=by rw [ar (by omega)];omega
  rintro r v l5 ⟨l,s,y,K,Xi,YB,YC,t2,B⟩;have L:qu v r (l,s):=K;have M:V3.Le v:=fun b o h=>l5 b o (H b o h);obtain ⟨_,_,_,_,_,_,_,_,_,_,_,_,_,_,_,_,_,_,_,_,_,_,_,_,_,_,rfl⟩:=mg K;dsimp only;rw [w]
  refine ⟨_,_,_,_,_,_,_,_,_,_,_,_,_,_,_,_,_,_,_,_,_,_,_,_,_,_,_,_,rfl,_,_,_,_,B,by omega,d.le,d.cap,rfl,Ay L,fun sp c' k1 k2=>⟨(Y+1,c',_,((i-1:Nat):Int),tp,tn,tc,y),by dsimp only;omega,by and_intros<;>rfl,(fun b o h=>M b o (m b o h)),A++[(l,s)],i-1,rfl,by rw [Qq5,Qn8];omega,rfl,rfl,rfl,t2,
   (d.mono (V':=v.shut) fun _ _ g=>qu.le g fun b o h=>M b o h).snoc rfl (qu.le L fun b o h=>h) (by decide) k1 k2,G.snoc Xi YB YC⟩⟩
 ·dsimp only at u f I J ⊢;subst Qt;exact ⟨bk,us,Z,A,ta,rfl,I,fun h=>(J h).elim id False.elim,d.mono fun _ _ g=>qu.le g u,fun b o h=>u b o (m b o h),by omega,G,t,f⟩
theorem Ni {V:View}{ws:List Value}{m:List (L3×Sp)}(h:Row 14 qu V ws m){i:Nat}(hi:i<m.length) :
  ∃b1 p1 n1 c1 b2 p2 n2 c2 b3 p3 n3 c3,((i*14+0)+6<=ws.length/\(ws.drop (i*14+0)).take 6=[.bool b1,.slice p1 n1 c1,.bool b2,.slice p2 n2 c2,.bool b3,.slice p3 n3 c3]) /\
   RL V (.agg #[.bool b1,.slice p1 n1 c1,.bool b2,.slice p2 n2 c2,.bool b3,.slice p3 n3 c3]) m[i].1.1 m[i].1.2.1 m[i].1.2.2:=by
 obtain ⟨xs,-,a,f,b⟩:=h.get (d:=wU) hi (by decide);have e:m.getD i wU=m[i]:=by rw [Qw6,Qq1 hi];rfl
 rw [e] at a;obtain ⟨_,_,_,_,_,_,_,_,_,_,_,_,_,_,_,_,_,_,_,_,_,_,_,_,_,_,ex,c,g⟩:=a;have ex:=congrArg Array.toList (Value.agg.inj ex);dsimp only at ex;subst ex;refine ⟨_,_,_,_,_,_,_,_,_,_,_,_,⟨by omega,?_⟩,c⟩;have:=congrArg (List.take 6) b;rw [Qh9] at this;exact this
set_option maxHeartbeats 1000000 in
theorem zO {V:View}{tb:Nat}{p:OA}{n c:Nat}{at_:Int}(hr:E5 V p n)(hn:n<=400)(hw:jX V tb p n c at_)(hx:V.X tb)(h0:0<=at_) :
  aa prog 24 #[.pointer (some ⟨tb,0,none⟩)] V fun r V'=>∃(q:OA)(m e:Nat)(fs:List (L3×Sp))(at':Int),r=.slice q m e/\lC 14 qu V' q m fs/\fs.length<=8/\Dt fs/\0<=at'/\jX V' tb p n c at':=by
 refine ya tb p n c at_ V _ hw hx fun V1 l1 a0 e1 h1=>(Rr (V:=V1.ax [a0]) (hr.le fun b o h=>l1 b o h) hn e1 ⟨by simp,h1⟩ h0).mono ?_;rintro r V2-⟨L,C,e,fs,Hl,rfl,a1,a2,f,lW,f4,a3,t1,a4⟩;refine ⟨L,C,a1,fun h=>.inl (a2 h),none,fs.length,e,rfl,_,_,_,_,a4,?_⟩;have f:GR 14 qu (V2.shut.cu (C≠[]) L) fs.length e C fs:=f.mono fun _ _ g=>qu.le g fun b o h=>h;have lW:V.Le (V2.shut.cu (C≠[]) L):=fun b o h=>lW b o (l1 b o h);generalize V2.shut.cu (C≠[]) L=W at *
 refine ⟨fun z V'=>V.Le V'/\∃(A:List (L3×Sp))(i:Nat),z.2.2.2.1=(i:Int)/\i<=fs.length/\fs.length<=A.length/\A.length<=fs.length+i/\z.2.2.2.2.1=p/\z.2.2.2.2.2.1=n/\z.2.2.2.2.2.2.1=c/\0<=z.2.2.2.2.2.2.2/\GR 14 qu V' z.1 z.2.1 z.2.2.1 A/\Dt A,fun z=>fs.length-z.2.2.2.1.toNat,
  ⟨(fs.length,e,C,0,p,n,c,Hl),by and_intros<;>rfl,lW,fs,0,rfl,Qw2 _,Qq3 _,Qq3 _,rfl,rfl,rfl,t1,f,a3⟩,?_⟩
 rintro ⟨w1,w2,us,z4,M,N,O,ta⟩ V3 l3 ⟨F,A,i,e4,hi,hA,a9,e5,D,e7,ht,d,G⟩;dsimp only at e4 e5 D e7 ht d;subst e4 e5 D e7;have Qt:=d.len;refine ⟨rfl,fun j V4 l4 Re a5 a6=>(gO (V:=V4.ax [Re]) 4 (hr.le fun b o h=>l4 b o (F b o h)) hn a5 ⟨by simp,a6⟩ ht (by omega)).mono ?_,fun j jC cM k a7 hb=>?_⟩;rotate_left
 ·have:=lC.jw hb (d.row.le fun _ _ g=>qu.le g cM) (by decide) (by rw [←Qt];exact d.le);rw [←Qt] at this;exact ⟨_,_,_,A,ta,rfl,this,by omega,G,ht,a7⟩
 have j:(i:Int)<(fs.length:Nat):=of_decide_eq_true j;have w:i64.wrap ((i:Int)+1)=((i+1:Nat):Int):=by rw [ar (by omega)];rfl
 rintro r P l5 ⟨x,I,rfl,-,-,t2,a8⟩;have l:V3.Le P:=fun b o h=>l5 b o (l4 b o h);have J:i<A.length:=by omega
 obtain ⟨Q,R,T,U,Y,Z,n2,c2,b3,p3,n3,c3,rl,gl⟩:=Ni (d.row.le fun _ _ g=>qu.le g l) J;obtain ⟨ok,sl,-⟩:=G _ (Qy3 J);dsimp only;rw [Qq0,w];have S:∀{E:View} {k:Nat},P.Le E->E.w.heap[k]?=some (.cells #[.slice M N O,.int .i64 I] 88 (0,0))->E.H k->_:=fun {E} {k} l6 D h6=>U9 (V:=E.ax [k]) (hr.le fun b o h=>l6 b o (l b o (F b o h))) hn D ⟨by simp,h6⟩ t2;refine ⟨_,rfl,_,_,_,_,a8,fun _=>⟨⟨by omega,by omega⟩,d.le,Q,R,T,U,Y,Z,n2,c2,b3,p3,n3,c3,rl,fun E l6 k D h6=>(S (fun b o h=>l6 b o h) D h6).mono ?_⟩,fun _=>⟨fun _=>⟨⟨by omega,by omega⟩,d.le,Q,R,T,U,Y,Z,n2,c2,b3,p3,n3,c3,rl,fun V8 l8 k e8 h8=>(S (fun b o h=>l8 b o h) e8 h8).mono ?_⟩,fun _=>⟨(w1,w2,us,((i+1:Nat):Int),M,N,O,I),by dsimp only;omega,by and_intros<;>rfl,(fun b o h=>l b o (F b o h)),A,i+1,rfl,by omega,hA,by omega,rfl,rfl,rfl,t2,d.mono fun _ _ g=>qu.le g fun b o h=>l b o h,G⟩⟩⟩
 ·rintro r V7 l7 ⟨s,t,gs,hc,u,K,t3,v⟩;have y:=gs;obtain ⟨d1,q1,m1,f1,q2,m2,f2,d2,q3,m3,f3,q4,m4,Ru,rfl⟩:=pO gs;have SE:P.Le V7:=fun b o h=>l7 b o (l6 b o h);have he:qu V7 (.agg #[.bool Q,.slice R T U,.bool Y,.slice Z n2 c2,.bool b3,.slice p3 n3 c3,.bool d1,.slice q1 m1 f1,.slice q2 m2 f2,.bool d2,.slice q3 m3 f3,.slice q4 m4 Ru,.bool s.a,.bool s.b]) (A[i].1,s):=⟨_,_,_,_,_,_,_,_,_,_,_,_,_,_,_,_,_,_,_,_,_,_,_,_,_,_,rfl,gl.le SE,y⟩
  refine ⟨_,_,_,_,_,_,_,_,_,_,_,_,_,_,_,_,rfl,_,_,_,_,v,by omega,d.le,d.cap,rfl,Ay he,fun sp c' k1 k2=>⟨(w1+1,c',_,((i+1:Nat):Int),M,N,O,t),by dsimp only;omega,by and_intros<;>rfl,(fun b o h=>SE b o (l b o (F b o h))),A++[(A[i].1,s)],i+1,rfl,by omega,by rw [Qq5];omega,by rw [Qq5,Qn8];omega,rfl,rfl,rfl,t3,
   (d.mono (V':=V7.shut) fun _ _ g=>qu.le g fun b o h=>SE b o (l b o h)).snoc rfl (qu.le he fun b o h=>h) (by decide) k1 k2,G.snoc ⟨ok.1,hc,u⟩ sl ⟨Sz.mono K.1,Sz.mono K.2⟩⟩⟩
 ·rintro r V9 l9 ⟨s,t,gs,hc,u,K,t3,v⟩;have y:=gs;obtain ⟨d1,q1,m1,f1,q2,m2,f2,d2,q3,m3,f3,q4,m4,Ru,rfl⟩:=pO gs;have VM:P.Le V9:=fun b o h=>l9 b o (l8 b o h);refine ⟨_,_,_,_,_,_,_,_,_,_,_,_,_,_,_,_,rfl,_,_,_,_,v,fun gm B=>?_⟩;have he:RF gm (.agg #[.bool Q,.slice R T U,.bool Y,.slice Z n2 c2,.bool b3,.slice p3 n3 c3,.bool d1,.slice q1 m1 f1,.slice q2 m2 f2,.bool d2,.slice q3 m3 f3,.slice q4 m4 Ru,.bool s.a,.bool s.b]) A[i].1 s:=⟨_,_,_,_,_,_,_,_,_,_,_,_,_,_,_,_,_,_,_,_,_,_,_,_,_,_,rfl,gl.le fun b o h=>B b o (VM b o h),y.le fun b o h=>B b o h⟩;refine (BF he).mono ?_;rintro r fH bE gv;have Vn:qu fH r (revL A[i].1,s.neg):=gv;obtain ⟨_,_,_,_,_,_,_,_,_,_,_,_,_,_,_,_,_,_,_,_,_,_,_,_,_,_,rfl⟩:=mg gv;have LP:V3.Le fH:=fun b o h=>bE b o (B b o (VM b o (l b o h)))
  refine ⟨_,_,_,_,_,_,_,_,_,_,_,_,_,_,_,_,_,_,_,_,_,_,_,_,_,_,_,_,rfl,by omega,d.le,d.cap,rfl,Ay Vn,fun sp c' k1 k2=>⟨(w1+1,c',_,((i+1:Nat):Int),M,N,O,t),by dsimp only;omega,by and_intros<;>rfl,(fun b o h=>LP b o (F b o h)),A++[(revL A[i].1,s.neg)],i+1,rfl,by omega,by rw [Qq5];omega,by rw [Qq5,Qn8];omega,rfl,rfl,rfl,t3,
   (d.mono (V':=fH) fun _ _ g=>qu.le g LP).snoc rfl Vn (by decide) k1 k2,G.snoc ⟨KP ok.1,IU ⟨hc,u⟩⟩ sl.rev (Sp.M5 ⟨Sz.mono K.1,Sz.mono K.2⟩)⟩⟩
theorem Bn:E8 (gI ((0:Int):Rat) ((0:Int):Rat) ((2:Int):Rat) ((0:Int):Rat)) (xE ((0:Int):Rat) ((0:Int):Rat) ((2:Int):Rat) ((0:Int):Rat)).hi=((2:Int):Rat) /\
  E9 (gI ((0:Int):Rat) ((0:Int):Rat) ((2:Int):Rat) ((0:Int):Rat)) (xE ((0:Int):Rat) ((0:Int):Rat) ((2:Int):Rat) ((0:Int):Rat)).hi=((0:Int):Rat):=by decide +kernel
theorem HW {V:View}:aa prog 21 #[] V fun r V'=>r=.bool true:=by
 have a:Sz 10 ((0:Int):Rat):=tm;have s2:Sz 10 ((2:Int):Rat):=tm;have ne:¬(((0:Int):Rat)=((2:Int):Rat)/\((0:Int):Rat)=((0:Int):Rat)):=by decide
 have sl:=mR a a s2 a ne;have k:=AF a a s2 a ne;have b:gL 5000 (gI ((0:Int):Rat) ((0:Int):Rat) ((2:Int):Rat) ((0:Int):Rat)):=⟨Sz.mono sl.1,Sz.mono sl.2.1,Sz.mono sl.2.2⟩;have c:(xE ((0:Int):Rat) ((0:Int):Rat) ((2:Int):Rat) ((0:Int):Rat)).sz 5000:=⟨Sz.mono k.1,Sz.mono k.2⟩;have ok:=Jx ne;refine wC V _ fun D E=>(nH 0 0 (by omega) (by omega) (by omega)).mono ?_;rintro r F G l;have e:=l;obtain ⟨_,_,_,_,_,_,_,_,_,_,_,_,_,_,rfl⟩:=cX l;refine ⟨_,_,_,_,_,_,_,_,_,_,_,_,_,_,rfl,fun H v=>(nH 2 0 (by omega) (by omega) (by omega)).mono ?_⟩;rintro r I x m;have g:=m;obtain ⟨_,_,_,_,_,_,_,_,_,_,_,_,_,_,rfl⟩:=cX m;refine ⟨_,_,_,_,_,_,_,_,_,_,_,_,_,_,rfl,fun J n=>(zJ (e.le (v.trans (x.trans n))) (g.le n) a a s2 a).mono ?_⟩;rintro r K L ⟨-,y⟩;obtain ⟨f,rfl,o⟩:=y ne;have p:=o;obtain ⟨_,_,_,_,_,_,_,_,_,_,_,_,_,_,_,_,_,_,_,_,_,_,_,_,_,_,rfl⟩:=du o;refine ⟨_,_,_,_,_,_,_,_,_,_,_,_,_,_,_,_,_,_,_,_,_,_,_,_,_,_,_,_,_,rfl,fun M q=>(Om (p.le q) ok b c).mono ?_⟩;rintro r N z ⟨w,rfl,d,-⟩;have d:=d rfl;rw [Bn.1,Bn.2] at d;have i:=d;obtain ⟨_,_,_,_,_,_,_,_,_,_,_,_,_,_,rfl⟩:=cX d;refine ⟨_,_,_,_,_,_,_,_,_,_,_,_,_,_,_,rfl,fun _=>⟨fun _ O s=>(DI (p.le (q.trans (z.trans s))) ok b c).mono ?_,(fun h=>nomatch h)⟩,(fun h=>nomatch h)⟩;rintro r P j rfl;refine ⟨_,rfl,fun _ Q A=>(nH 2 0 (by omega) (by omega) (by omega)).mono ?_,(fun h=>nomatch h)⟩;rintro r R B t;have C:=t;obtain ⟨_,_,_,_,_,_,_,_,_,_,_,_,_,_,rfl⟩:=cX t;refine ⟨_,_,_,_,_,_,_,_,_,_,_,_,_,_,rfl,fun S u=>(zQ (i.le (s.trans (j.trans (A.trans (B.trans u))))) (C.le u) s2 a s2 a).mono ?_⟩;rintro r T U rfl;exact ⟨_,rfl,fun W X=>by simp⟩
theorem qV:IsIface .nilIface:=.inl rfl
end Go.Proofs.Tryz
namespace Go.Proofs.Tryz
open Go.Eng Go.Big
theorem Ax {V:View}{p:OA}{n:Nat}{fs:List (L3×Sp)}(h:lC 14 J6 V p n fs):oJ V p n fs:=⟨h.len,fun i a=>by
 obtain ⟨b,c,xs,-,d,e⟩:=h.at_ i a;exact ⟨b,c,xs,d,e⟩⟩
def KQ (fs:List (L3×Sp))(x y:Rat):Bool:=fs.any fun f=>Ac f.1 f.2 x y
theorem uA {V:View}{p:OA}{n c:Nat}{v:Value}{fs:List (L3×Sp)}{x y:Rat}(h:oJ V p n fs)(hp:zA V v x y)(hn:fs.length<=1000000){k:Nat}(hs:∀f∈fs,A7 f.1 f.2/\gL k f.1/\f.2.sz k)(s1:Sz k x)(s2:Sz k y)(hk:20*k+20<274877906944:=by omega) :
  aa prog 31 #[.slice p n c,v] V fun r V'=>r=.bool (KQ fs x y):=by
 have g:=hp;obtain rfl:=h.len;obtain ⟨_,_,_,_,_,_,_,_,_,_,_,_,_,_,rfl,-⟩:=hp;refine CY p _ c _ _ _ _ _ _ _ _ _ _ _ _ _ _ V _ ⟨fun z V'=>∃j:Nat,z=(j:Int)/\j<=fs.length/\KQ (fs.take j) x y=false,fun z=>fs.length-z.toNat,⟨0,by and_intros<;>rfl,0,rfl,Qw2 _,rfl⟩,?_⟩;rintro z s m ⟨j,rfl,D,i⟩;refine ⟨rfl,fun b=>?_,fun b E F=>?_⟩;rotate_left
 ·have b:¬(j:Int)<fs.length:=of_decide_eq_false b;obtain rfl:j=fs.length:=by omega
  rw [Qv2] at i;rw [i]
 have b:(j:Int)<fs.length:=of_decide_eq_true b;have d:j<fs.length:=by omega
 have w:i64.wrap ((j:Int)+1)=((j+1:Nat):Int):=by rw [ar (by omega)];rfl
 rw [Qq0,w];obtain ⟨t,o,xs,u,a⟩:=(h.le m).at_ j d;have e:qn s (.agg xs.toArray) fs[j].1 fs[j].2:=u;obtain ⟨_,_,_,_,_,_,_,_,_,_,_,_,_,_,_,_,_,_,_,_,_,_,_,_,_,_,ex⟩:=du e;have ex:=congrArg Array.toList (Value.agg.inj ex);dsimp only at ex;subst ex;obtain ⟨ok,A,B⟩:=hs _ (Qy3 d)
 have C:KQ (fs.take (j+1)) x y=(KQ (fs.take j) x y||Ac fs[j].1 fs[j].2 x y):=by
  unfold KQ;rw [←Qn9 d,List.any_append];simp
 refine ⟨bL o,⟨by omega,by omega⟩,_,_,_,_,_,_,_,_,_,_,_,_,_,_,_,_,_,_,_,_,_,_,_,_,_,_,_,_,t,o,a 0 _ rfl,a 1 _ rfl,a 2 _ rfl,a 3 _ rfl,a 4 _ rfl,a 5 _ rfl,a 6 _ rfl,a 7 _ rfl,a 8 _ rfl,a 9 _ rfl,a 10 _ rfl,a 11 _ rfl,a 12 _ rfl,a 13 _ rfl,fun G q=>(DE (e.le q) (g.le (m.trans q)) ok A B s1 s2).mono ?_⟩;rintro r H I rfl;refine ⟨_,_,rfl,qV,fun _=>⟨fun l J K=>?_,fun l=>⟨((j+1:Nat):Int),by (try dsimp only);omega,by and_intros<;>rfl,j+1,rfl,d,?_⟩⟩,(fun h=>nomatch h)⟩
 ·have:KQ fs x y=true:=Qc0.2 ⟨_,Qy3 d,l⟩;rw [this]
 ·rw [C,i,l];rfl
theorem Kt {s:Sp}(h:s.good):s.a=true\/s.b=true\/s.lo<s.hi:=by
 have:=h.2;unfold Sp.emp at this
 cases ha:s.a with
 | true=>exact .inl rfl
 | false=>
  cases hb:s.b with
  | true=>exact .inr (.inl rfl)
  | false=>
   rw [ha,hb] at this;have c:¬cmpQ s.lo s.hi≥0:=by simpa using this
   exact .inr (.inr (cmpQ_neg.1 (by omega)))
theorem BW {A B:List Sp}{E:List Rat}(hA:∀s∈A,s.good)(h:∀t,t∉E->inB A t=true->inB B t=true){t:Rat}:(∃s∈A,s.has t=true)->∃s∈B,s.has t=true:=by
 rintro ⟨s,o,p⟩;rw [Ad] at p;obtain ⟨q,v⟩:=p;have w:=Kt (hA s o);have out:∀u,u∉E->s.inn u->∃r∈B,r.inn u:=fun u hu hi=>pB.1 (h u hu (pB.2 ⟨s,o,hi⟩));have ends:∀r∈B,r.lo∈B.map Sp.lo++B.map Sp.hi/\r.hi∈B.map Sp.lo++B.map Sp.hi:=fun r e=>⟨Qw1.2 (.inl (Qy0.2 ⟨r,e,rfl⟩)),Qw1.2 (.inr (Qy0.2 ⟨r,e,rfl⟩))⟩
 have side:(s.b=true\/t<s.hi)\/(s.a=true\/s.lo<t):=by
  rcases w with g|g|g
  ·exact .inr (.inl g)
  ·exact .inl (.inl g)
  ·rcases q with k|k
   ·exact .inr (.inl k)
   ·by_cases c:s.lo<t
    ·exact .inr (.inr c)
    ·exact .inl (.inr (by grind))
 rcases side with c|c
 ·obtain ⟨u,f,i,j⟩:=vC E [t] ((if s.b=true then [] else [s.hi])++(B.map Sp.lo++B.map Sp.hi).filter fun x=>decide (t<x)) fun l m x n=>by
   rw [Qw3.1 m];rcases Qw1.1 n with k|k
   ·split at k
    ·cases k
    ·rename_i d;rw [Qw3.1 k];exact c.resolve_left d
   ·exact of_decide_eq_true (Qj8.1 k).2
  have f:=f t (Qw3.2 rfl)
  obtain ⟨r,e,i1,i2⟩:=out u j ⟨q.imp id fun k=>by grind,by
   by_cases d:s.b=true
   ·exact .inl d
   ·exact .inr (i s.hi (by rw [if_neg d];exact Qw1.2 (.inl (Qw3.2 rfl))))⟩
  refine ⟨r,e,Ad.2 ⟨i1.imp id fun k=>?_,i2.imp id fun k=>by grind⟩⟩;by_cases g:t<r.lo
  ·have:=i r.lo (Qw1.2 (.inr (Qj8.2 ⟨(ends r e).1,decide_eq_true g⟩)));grind
  ·grind
 ·obtain ⟨u,f,i,j⟩:=vC E ((if s.a=true then [] else [s.lo])++(B.map Sp.lo++B.map Sp.hi).filter fun x=>decide (x<t)) [t] fun x n l m=>by
   rw [Qw3.1 m];rcases Qw1.1 n with k|k
   ·split at k
    ·cases k
    ·rename_i d;rw [Qw3.1 k];exact c.resolve_left d
   ·exact of_decide_eq_true (Qj8.1 k).2
  have i:=i t (Qw3.2 rfl)
  obtain ⟨r,e,i1,i2⟩:=out u j ⟨by
   by_cases d:s.a=true
   ·exact .inl d
   ·exact .inr (f s.lo (by rw [if_neg d];exact Qw1.2 (.inl (Qw3.2 rfl)))),v.imp id fun k=>by grind⟩
  refine ⟨r,e,Ad.2 ⟨i1.imp id fun k=>by grind,i2.imp id fun k=>?_⟩⟩;by_cases g:r.hi<t
  ·have:=f r.hi (Qw1.2 (.inr (Qj8.2 ⟨(ends r e).2,decide_eq_true g⟩)));grind
  ·grind
theorem B8 {A:List Sp}(hA:∀s∈A,s.good){t:Rat}:(∃s∈combL 1 A [],s.has t=true)↔∃s∈A,s.has t=true:=by
 have e:∀u,u∉endsL (A++[])->inB (combL 1 A []) u=inB A u:=fun u hu=>by
  rw [comb_inB 1 _ _ hu,inB_nil];unfold opB;simp
 exact ⟨BW (comb_reg 1 A []).1 fun u hu h=>(e u hu)▸h,BW hA fun u hu h=>by rw [e u hu];exact h⟩
theorem GA {l:List (L3×Sp)}(hl:∀f∈l,f.2.good)(x y:Rat):(∃f∈joinF l,Ac f.1 f.2 x y=true)↔∃f∈l,Ac f.1 f.2 x y=true:=by
 have sp:∀m,∀s∈cx m l,s.good:=fun m s b=>by
  obtain ⟨f,a,rfl⟩:=Qy0.1 b;exact hl f (Qj8.1 a).1
 unfold joinF Ac;simp only [Qx1,decide_eq_true_eq];constructor
 ·rintro ⟨f,a,c,d⟩;obtain ⟨m,hm,a⟩:=Qw5.1 a;obtain ⟨s,b,rfl⟩:=Qy0.1 a;obtain ⟨u,hu,e⟩:=(B8 (sp m)).1 ⟨s,b,d⟩;obtain ⟨g,i,rfl⟩:=Qy0.1 hu;obtain ⟨j,h⟩:=Qj8.1 i;have h:g.1=m:=of_decide_eq_true h;subst h;exact ⟨g,j,c,e⟩
 ·rintro ⟨f,a,c,d⟩;obtain ⟨s,b,e⟩:=(B8 (sp f.1)).2 ⟨f.2,Qy0.2 ⟨f,Qj8.2 ⟨a,decide_eq_true rfl⟩,rfl⟩,d⟩;exact ⟨(f.1,s),Qw5.2 ⟨f.1,((bT _).2 _).2 (Qy0.2 ⟨f,a,rfl⟩),Qy0.2 ⟨s,b,rfl⟩⟩,c,e⟩
theorem Fs {s:Sp}(h:s.a=false):s.Ce.length=1:=by unfold Sp.Ce;rw [h];rfl
theorem Fm {s:Sp}(h:s.b=false):s.A9.length=1:=by unfold Sp.A9;rw [h];rfl
theorem FC:∀{l:List Sp},tY l->(∀s∈l,s.a=false)->2*l.length<=fe l+1
 | [],_,_=>Qw2 _
 | [s],_,h=>by
  have:=Fs (h s (Qn0 ..));rw [mH,Qq5,Qn8];omega
 | s::z::r,h,ha=>by
  have c:=FC h.tail fun x b=>ha x (Qq8 _ b);have d:=Fs (ha s (Qn0 ..));have e:=Fm (h.DA (Qn0 ..)).1;rw [mH,Qq5,Qz2];omega
theorem Ng:∀{l:List Sp},tY l->2*l.length<=fe l+2
 | [],_=>Qw2 _
 | [s],_=>by rw [Qn8];omega
 | s::z::r,h=>by
  have ih:=FC h.tail fun x a=>(h.DA a).2.1;have b:=Fm (h.DA (Qn0 ..)).1;rw [mH,Qq5,Qz2];omega
theorem Gg (A:List Sp):(combL 1 A []).length<=A.length+1:=by
 have a:=Ng (comb_reg 1 A []);have b:=Kl 1 A [];have c:=H7 A;have d:fe []=0:=rfl;omega
theorem uS {α:Type}(p:α->Bool):∀l:List α,(l.filter p).length+(l.filter fun x=>!p x).length=l.length
 | []=>rfl
 | x::r=>by
  have ih:=uS p r;rw [List.filter_cons,List.filter_cons];cases p x<;>simp<;>omega
theorem Cp:∀(L:List L3)(l:List (L3×Sp)),L.Pairwise qY->(L.map fun m=>(cx m l).length).sum<=l.length
 | [],_,_=>Qw2 _
 | m::L,l,h=>by
  obtain ⟨h1,h2⟩:=Qk9.1 h
  have e:(L.map fun a=>(cx a l).length)=L.map fun a=>(cx a (l.filter fun x=>!decide (x.1=m))).length:=by
   refine Qj0 fun a hm=>?_;unfold cx;rw [List.filter_filter];congr 2;refine List.filter_congr fun x _=>?_;by_cases c:x.1=a
   ·have:¬x.1=m:=fun e=>Cf (show qY m m from by have:=h1 a hm;rw [←c,e] at this;exact this);simp [c,this];rw [c] at this;simpa using this
   ·simp [c]
  have b:=Cp L (l.filter fun x=>!decide (x.1=m)) h2;have f:=uS (fun x:L3×Sp=>decide (x.1=m)) l;rw [Qb3,List.sum_cons,e];have g:(cx m l).length=(l.filter fun x=>decide (x.1=m)).length:=by unfold cx;rw [Qb6]
  omega
theorem Eh (l:List L3):(eO l).length<=l.length:=by
 have:∀(l o:List L3),(l.foldl (fun o x=>nS x o) o).length<=o.length+l.length:=by
  intro l
  induction l with
  | nil=>exact fun o=>Qq3 _
  | cons y r ih=>intro o;have a:=ih (nS y o);have b:=B4 y o;rw [Qc4,Qz2];omega
 have:=this l [];simpa [eO] using this
theorem GC (l:List (L3×Sp)):(joinF l).length<=2*l.length:=by
 have b:=Cp (eO (l.map Prod.fst)) l (bT _).1;have a:=Eh (l.map Prod.fst);rw [Qb6] at a;unfold joinF;generalize eO (l.map Prod.fst)=L at *
 have c:(L.flatMap fun m=>(combL 1 (cx m l) []).map fun s=>(m,s)).length<=(L.map fun m=>(cx m l).length).sum+L.length:=by
  clear b a
  induction L with
  | nil=>exact Qq3 _
  | cons m r ih=>
   have:=Gg (cx m l);rw [Qw8,Qq5,Qb6,Qb3,List.sum_cons,Qz2];omega
 omega
theorem Io {l:List (L3×Sp)}{k m:Nat}(hm:1<=m)(h:∀f∈l,A7 f.1 f.2/\gL k f.1/\f.2.sz m):∀f∈joinF l,A7 f.1 f.2/\gL k f.1/\f.2.sz m:=fun f a=>by
 obtain ⟨m,hm,a⟩:=Qw5.1 a;obtain ⟨s,b,rfl⟩:=Qy0.1 a;obtain ⟨g,c,rfl⟩:=Qy0.1 (((bT _).2 _).1 hm);refine ⟨⟨(h g c).1.1,(comb_reg ..).1 s b⟩,(h g c).2.1,Fi (by assumption) (fun u hu=>?_) (fun u hu=>by cases hu) s b⟩;obtain ⟨x,d,rfl⟩:=Qy0.1 hu;exact (h x (Qj8.1 d).1).2.2
theorem I2 {fs:List (L3×Sp)}(h:∀f∈fs,f.2.good)(x y:Rat):KQ (joinF fs) x y=KQ fs x y:=by
 unfold KQ;rw [Qx6,Qc0,Qc0];exact GA h x y
set_option maxHeartbeats 2000000 in
theorem qD {V:View}{lp:OA}{ln lc:Nat}(hr:E5 V lp ln)(hc:ln<=lc) :
  aa prog 5 #[.slice lp ln lc] V fun r V'=>r=.bool true:=by
 refine ky lp ln lc V _ fun V1 l1=>(BG hc).mono ?_;rintro r V2 l2 ⟨a2,rfl,G,M⟩;refine ⟨a2,_,_,_,_,rfl,G,M,fun V3 l3 W5 N h4=>?_⟩;have cN:V1.Le V3:=Iz l2 G l3;have A:min ln 400<=400:=Nat.min_le_right _ _;have hr:E5 V lp (min ln 400):=fun i L=>hr i (Qx2 L (Nat.min_le_left _ _));generalize min ln 400=n at *;have GG:V.Le V3:=l1.trans cN;refine (zO (V:=V3.ax [W5]) (hr.le fun b o h=>GG b o h) A N ⟨by simp,h4⟩ (Ww5 0)).mono ?_;rintro r V4 l4 ⟨q0,n0,e0,d,Hl,rfl,a3,h8,t,t1,O⟩;have Ip:V.Le V4:=fun b o h=>l4 b o (GG b o h);clear M N h4 l3 cN G l2 l1 GG;have YD:∀f∈d,gL 5000 f.1/\f.2.sz 5000:=fun f u=>⟨⟨(t f u).2.1.1.mono (by omega),(t f u).2.1.2.1.mono (by omega),(t f u).2.1.2.2.mono (by omega)⟩,(t f u).2.2⟩;have P:∀f∈d,A7 f.1 f.2/\gL 1000 f.1/\f.2.sz 5000:=t;have D:=Io (by decide) P;have Zr:=GC d;have good:∀f∈d,f.2.good:=fun f u=>(t f u).1.2;refine ⟨_,_,_,rfl,_,_,_,_,O,fun V5 l5=>(sT (a3.le (fun b o h=>l5 b o h) fun _ _ g=>qu.le g fun b o h=>l5 b o h) (by omega) YD).mono ?_⟩;rintro r V6 l6 ⟨q1,n1,e1,rfl,Q⟩;have MV:V.Le V6:=fun b o h=>l6 b o (l5 b o (Ip b o h));obtain rfl:=Q.len
 have jn:∀{W:View} {p:OA} {c:Nat} {gs:List (L3×Sp)},oJ W p gs.length gs->gs.Perm d->aa prog 25 #[.slice p gs.length c] W fun r V'=>∃q m e,r=.tuple #[.slice q m e,.nilIface]/\oJ V' q m (joinF d):=fun {W p c gs} h pm=>by
  have:=pm.length_eq;rw [←nU pm];exact Bw h (by omega) (fun f u=>by have:=(t f (pm.mem_iff.1 u)).2.1;exact ⟨this.1.mono (by omega),this.2.1.mono (by omega),this.2.2.mono (by omega)⟩) (fun f u=>by have:=(t f (pm.mem_iff.1 u)).2.2;exact ⟨this.1.mono (by omega),this.2.mono (by omega)⟩) (fun f u=>(t f (pm.mem_iff.1 u)).1) (by rw [nU pm];omega) (fun i _=>Nk i)
 refine ⟨_,_,_,rfl,fun V7 l7=>(jn (Ax (Q.le l7 fun _ _ g=>qn.le g l7)) (.refl _)).mono ?_⟩;rintro r V8 l8 ⟨q2,n2,e2,rfl,ha⟩;have R:=l7.trans l8;have rl:d.reverse.length=d.length:=List.length_reverse;refine ⟨_,_,_,_,rfl,fun z V'=>∃j:Nat,z.2.2.2=(j:Int)/\j<=d.length/\GR 14 J6 V' z.1 z.2.1 z.2.2.1 (d.reverse.take j),fun z=>d.length-z.2.2.2.toNat,⟨(0,0,[],0),by and_intros<;>rfl,0,rfl,Qw2 _,GR.nil⟩,?_⟩;rintro ⟨z1,z2,vs,z4⟩ V9 l9 ⟨j,N,MR,B⟩;dsimp only at N B;subst N;have zl:=B.len;rw [Qw0,rl] at zl;have SF:=R.trans l9;refine ⟨rfl,fun C=>?_,fun C gm H bk M=>?_⟩
 ·have C:(j:Int)<d.length:=of_decide_eq_true C;have L:j<d.reverse.length:=by omega
  have a4:d.length-1-j<d.length:=by omega
  have w:i64.wrap ((j:Int)+1)=((j+1:Nat):Int):=by rw [ar (by omega)];rfl
  have w2:i64.wrap (i64.wrap ((d.length:Int)-1)-(j:Int))=((d.length-1-j:Nat):Int):=by rw [ar (x:=(d.length:Int)-1) (by omega),ar (by omega)];omega
  dsimp only;rw [w2,w,Qq0];obtain ⟨ad,S,xs,-,h2,v⟩:=(Q.le SF fun _ _ g=>qn.le g SF).at_ _ a4;have E:=h2;obtain ⟨_,_,_,_,_,_,_,_,_,_,_,_,_,_,_,_,_,_,_,_,_,_,_,_,_,_,ex⟩:=du E;have ex:=congrArg Array.toList (Value.agg.inj ex);dsimp only at ex;subst ex;have er:d[d.length-1-j]=d.reverse[j]:=by rw [List.getElem_reverse]
  refine ⟨bL S,⟨by omega,by omega⟩,_,_,_,_,_,_,_,_,_,_,_,_,_,_,_,_,_,_,_,_,_,_,_,_,_,_,_,_,ad,S,v 0 _ rfl,v 1 _ rfl,v 2 _ rfl,v 3 _ rfl,v 4 _ rfl,v 5 _ rfl,v 6 _ rfl,v 7 _ rfl,v 8 _ rfl,v 9 _ rfl,v 10 _ rfl,v 11 _ rfl,v 12 _ rfl,v 13 _ rfl,by omega,B.le,B.cap,rfl,I3,fun sp c' k1 k2=>⟨(z1+1,c',_,((j+1:Nat):Int)),by dsimp only;omega,by and_intros<;>rfl,j+1,rfl,by omega,?_⟩⟩;rw [←Qn9 L,←er];exact B.snoc (a:=d[d.length-1-j]) rfl h2 (by decide) k1 k2
 have C:¬(j:Int)<d.length:=of_decide_eq_false C;obtain rfl:j=d.length:=by omega
 rw [show d.reverse.take d.length=d.reverse from by rw [←rl];exact Qv2] at B;have hL:=lC.jw M (B.row.le fun _ _ g=>qn.le g H) (by decide) (by rw [←B.len];exact B.le);have gl:=B.len;dsimp only at hL ⊢;rw [gl];refine (jn (Ax hL) (List.reverse_perm d)).mono ?_;rintro r fH bE ⟨q3,n3,e3,rfl,T⟩;have Ix:=H.trans bE;refine ⟨_,_,_,_,rfl,fun J=>⟨qV,(fun h=>nomatch h),fun _=>⟨qV,(fun h=>nomatch h),fun _ mD dP=>(wZ (ha.le (l9.trans (Ix.trans dP))) (T.le dP) (k:=5000) (fun f u=>⟨⟨(D f u).2.1.1.mono (by omega),(D f u).2.1.2.1.mono (by omega),(D f u).2.1.2.2.mono (by omega)⟩,(D f u).2.2⟩) (by omega)).mono ?_⟩⟩⟩;rintro r mE dj rfl;have LS:=l9.trans (Ix.trans (dP.trans dj));have LQ:=R.trans LS;have LL:=MV.trans LQ;clear M hL T B l9 H bE dP dj Ix SF jn;obtain ⟨K,hK⟩:∃K:Nat,K=110000:=⟨110000,rfl⟩;have int:∀x:Int,-4<=x/\x<=4->Sz K (x:Rat):=fun x h=>oc (Qx2 (show x.natAbs<2^3 by omega) (Qw9 (by decide) (by omega)));refine ⟨_,rfl,(fun h=>nomatch h),fun _ nF dw Rl U Qv=>(Qp (V:=nF.ax [Rl]) (hr.le fun b o h=>dw b o (LL b o h)) A U ⟨by simp,Qv⟩ t1).mono ?_⟩;rintro r uf fF ⟨x1,y1,a5,F,X,Y,t2,Z⟩;have NF:=F;obtain ⟨_,_,_,_,_,_,_,_,_,_,_,_,_,_,rfl⟩:=iS F;refine ⟨_,_,_,_,_,_,_,_,_,_,_,_,_,_,rfl,_,_,_,_,Z,fun A8 gj=>(rU (NF.le fun b o h=>gj b o h) (int x1 X) (int y1 Y)).mono ?_⟩;rintro r Bg mK ga;have Xn:=ga;obtain ⟨_,_,_,_,_,_,_,_,_,_,_,_,_,_,rfl,-⟩:=ga;have Ee:mE.Le Bg:=fun b o h=>mK b o (gj b o (fF b o (dw b o h)));have VN:=LQ.trans Ee;have LM:=LL.trans Ee;clear NF F Z dw fF gj mK U Qv O;refine ⟨_,_,_,_,_,_,_,_,_,_,_,_,_,_,rfl,fun ⟨b,tp,tn,tc,ta⟩ V'=>Bg.Le V'/\(b=true->0<d.length)/\tp=lp/\tn=n/\0<=ta,⟨fun hz Bh iY Rm a6 a7=>(gO (V:=Bh.ax [Rm]) 2 (hr.le fun b o h=>iY b o (LM b o h)) A a6 ⟨by simp,a7⟩ t2 (by omega)).mono ?_,fun hz=>⟨(false,lp,n,_,a5),by and_intros<;>rfl,View.Le.refl _,(fun h=>nomatch h),rfl,rfl,t2⟩⟩,?_⟩
 ·rintro r Dv pD ⟨x,a0,rfl,-,-,t3,I⟩;have hz:(d.length:Int)>0:=of_decide_eq_true hz;exact ⟨_,rfl,_,_,_,_,I,(_,lp,n,_,a0),by and_intros<;>rfl,(fun b o h=>pD b o (iY b o h)),fun _=>by omega,rfl,rfl,t3⟩
 rintro ⟨b,tp,tn,tc,ta⟩ Dm-⟨Ef,a1,e5,e6,ht⟩;subst e5 e6;have Iu:=LS.trans (Ee.trans Ef);have LN:=LM.trans Ef;have DB:∀{l:L3} {s:Sp},gL 1000 l->s.sz 5000->gL K l/\s.sz K:=fun h h'=>⟨⟨h.1.mono (by omega),h.2.1.mono (by omega),h.2.2.mono (by omega)⟩,h'.1.mono (by omega),h'.2.mono (by omega)⟩
 refine ⟨rfl,fun ⟨d1,p1,n1,c1,p2,n2,c2,d2,p3,n3,c3,p4,n4,c4⟩ V'=>V8.Le V'/\∃x y:Rat,zA V' (.agg #[.bool d1,.slice p1 n1 c1,.slice p2 n2 c2,.bool d2,.slice p3 n3 c3,.slice p4 n4 c4]) x y/\Sz K x/\Sz K y,
  ⟨fun hz JV Fp Rn a8 NH=>(gO (V:=JV.ax [Rn]) (d.length:Int) (hr.le fun b o h=>Fp b o (LN b o h)) A a8 ⟨by simp,NH⟩ ht (by have:=a1 hz;omega)).mono ?_,fun _=>⟨(_,_,_,_,_,_,_,_,_,_,_,_,_,_),by and_intros<;>rfl,Iu,x1,y1,Xn.le Ef,int x1 X,int y1 Y⟩⟩,?_⟩
 ·rintro r JW xB ⟨x,a0,rfl,x0,x2,t3,I⟩;obtain ⟨i,rfl⟩:∃i:Nat,x=i:=⟨x.toNat,by omega⟩;have L:i<d.length:=by omega
  have Iq:Dm.Le JW.shut:=fun b o h=>xB b o (Fp b o h);have LR:=R.trans (Iu.trans Iq);obtain ⟨ad,S,xs,-,h2,v⟩:=(Q.le LR fun _ _ g=>qn.le g LR).at_ i L;have E:qn JW.shut (.agg xs.toArray) d[i].1 d[i].2:=h2;obtain ⟨_,_,_,_,_,_,_,_,_,_,_,_,_,_,_,_,_,_,_,_,_,_,_,_,_,_,ex⟩:=du E;have ex:=congrArg Array.toList (Value.agg.inj ex);dsimp only at ex;subst ex;obtain ⟨ok,sl,ss⟩:=t _ (Qy3 L);refine ⟨_,rfl,_,_,_,_,I,bL S,⟨by omega,by omega⟩,?_⟩;rw [Qq0];refine ⟨_,_,_,_,_,_,_,_,_,_,_,_,_,_,_,_,_,_,_,_,_,_,_,_,_,_,_,_,ad,S,v 0 _ rfl,v 1 _ rfl,v 2 _ rfl,v 3 _ rfl,v 4 _ rfl,v 5 _ rfl,v 6 _ rfl,v 7 _ rfl,v 8 _ rfl,v 9 _ rfl,v 10 _ rfl,v 11 _ rfl,v 12 _ rfl,v 13 _ rfl,fun Ny Dq=>(DG (E.le Dq) ok (DB sl ss).1 (DB sl ss).2).mono ?_⟩;rintro r NA wV ⟨w,rfl,gy⟩;have Xs:=gy;obtain ⟨_,_,_,_,_,_,_,_,_,_,_,_,_,_,_,_,_,_,_,_,_,_,_,_,_,_,rfl⟩:=mg gy;obtain ⟨fl,-⟩:=Ju Xs;have Ir:Dm.Le NA:=fun b o h=>wV b o (Dq b o (Iq b o h));refine ⟨_,_,_,_,_,_,_,_,_,_,_,_,_,_,_,_,_,_,_,_,_,_,_,_,_,_,_,_,_,rfl,fun Lq Hr Ro a9 RS=>(U8 (V:=Lq.ax [Ro]) (hr.le fun b o h=>Hr b o (Ir b o (LN b o h))) A a9 ⟨by simp,RS⟩ t3).mono ?_⟩;rintro r NZ KH ⟨q,b1,gq,sq,-,b0⟩;have Xr:=gq;obtain ⟨_,_,_,_,_,_,rfl⟩:=gq.shape;have Is:NA.Le NZ:=fun b o h=>KH b o (Hr b o h);have s1:Sz 1000 q:=sq.mono (by omega);refine ⟨_,_,_,_,_,_,_,rfl,_,_,_,_,b0,fun Mi A_=>(Tp (fl.le fun b o h=>A_ b o (Is b o h)) (Xr.le fun b o h=>A_ b o h) (M7 ok.1) sl s1).mono ?_⟩;rintro r QV KI F;have NF:=F;obtain ⟨_,_,_,_,_,_,_,_,_,_,_,_,_,_,rfl⟩:=iS F;have sX:Sz K (E8 d[i].1 q):=(JI sl s1).mono (by omega);have sY:Sz K (E9 d[i].1 q):=(JJ sl s1).mono (by omega);refine ⟨_,_,_,_,_,_,_,_,_,_,_,_,_,_,rfl,fun Uz QA=>(rU (NF.le QA) sX sY).mono ?_⟩;rintro r QW Hs gb;have Xo:=gb;obtain ⟨_,_,_,_,_,_,_,_,_,_,_,_,_,_,rfl,-⟩:=gb;exact ⟨_,_,_,_,_,_,_,_,_,_,_,_,_,_,rfl,(_,_,_,_,_,_,_,_,_,_,_,_,_,_),by and_intros<;>rfl,(fun b o h=>Hs b o (QA b o (KI b o (A_ b o (Is b o (Ir b o (Iu b o h))))))),_,_,Xo,sX,sY⟩
 rintro ⟨_,_,_,_,_,_,_,_,_,_,_,_,_,_⟩ Wp-⟨Iv,x,y,F,sx,sy⟩;refine ⟨rfl,fun Wq Dr=>HW.mono ?_⟩;rintro r UA QB rfl;have vh:=Dr.trans QB;refine ⟨_,rfl,fun _ UB M0=>(uA (Ax (Q.le (R.trans (Iv.trans (vh.trans M0))) fun _ _ g=>qn.le g (R.trans (Iv.trans (vh.trans M0))))) (F.le (vh.trans M0)) (by omega) (fun f u=>⟨(t f u).1,(DB (t f u).2.1 (t f u).2.2).1,(DB (t f u).2.1 (t f u).2.2).2⟩) sx sy).mono ?_,(fun h=>nomatch h)⟩;rintro r UC QC rfl;refine ⟨_,rfl,fun Wr NP=>(uA (ha.le (Iv.trans (vh.trans (M0.trans (QC.trans NP))))) (F.le (vh.trans (M0.trans (QC.trans NP)))) (by omega) (fun f u=>⟨(D f u).1,(DB (D f u).2.1 (D f u).2.2).1,(DB (D f u).2.1 (D f u).2.2).2⟩) sx sy).mono ?_⟩;rintro r Ws VK rfl;refine ⟨_,rfl,fun UD VL=>?_⟩;rw [I2 good,beq_self_eq_true]
end Go.Proofs.Tryz
