import Derived.Test.YtapnijmlbakblaaGreatDoorZJ18
import Derived.Test.YtapnijmlbakblaaGreatDoorZJ10
import Derived.Test.YtapnijmlbakblaaGreatDoorZJ17
import Derived.Test.YtapnijmlbakblaaGreatDoorZJ9
import Derived.Test.YtapnijmlbakblaaGreatDoorZJ15
import Derived.Test.YtapnijmlbakblaaGreatDoorZJ16
set_option linter.unusedVariables false
open Go.IntKind (i64 u64 u32)
namespace Go.Proofs.Tryz
open Go.Eng Go.Big
theorem MW {b c:Nat}(h:0<c):mA b c=some ⟨b,0,none⟩:=by unfold mA;rw [if_neg (by omega)]
theorem Gi {f:Sp->List dV}{l:List Sp}{j:Nat}(h:j<l.length):(l.take (j+1)).flatMap f=(l.take j).flatMap f++f l[j]:=by
 rw [Qh1,Qq1 h,Qc6];simp
theorem IF {l:List Sp}{j:Nat}(h:j<l.length):jO (l.take (j+1))=jO (l.take j)+if l[j].a then 1 else 0:=by
 rw [Qh1,Qq1 h,Kw];simp [jO]
theorem JN {A B:List Sp}{k j:Nat}(hk:k<2):(La A B k++((LK A B k).take j).flatMap (gj k)).length<=fe A+fe B:=by
 have c:((LK A B k).flatMap (gj k)).length=(((LK A B k).take j).flatMap (gj k)).length+(((LK A B k).drop j).flatMap (gj k)).length:=by
  conv=>lhs;rw [←Qj4 j (LK A B k),Qc6]
  rw [Qq2]
 have a:=congrArg List.length (Br (A:=A) (B:=B) hk);rw [Qq2] at a
 have b:(La A B (k+1)).length<=(lr A B).length:=by
  obtain rfl|rfl:k=0\/k=1:=by omega
  ·unfold lr;rw [Qq2];exact Nat.le_add_right _ _
  ·exact Qq3 _
 rw [zX] at b;rw [Qq2];omega
theorem KV {acc:Bool->Bool->Bool}{A B:List Sp}{cs:List dV}{was:Bool}{last:Sp}{out:List Sp}(h:K8 acc A B cs cs.length was last out){op:Int}(ha:∀t,acc (inB A t) (inB B t)=opB op (inB A t) (inB B t)):vN was last out=combL op A B:=by
 refine reg_eq (endsL (A++B)) h.rg (comb_reg _ _ _) fun t a=>?_;rw [comb_inB _ _ _ a,h.inn t (fun s b he=>a (BN.2 ⟨s,b,he⟩)) fun h=>absurd h (Qt6 _)];exact ha t
theorem HF {V:View}{p0 p1:OA}{n0 c0 n1 c1 fa:Nat}{A B:List Sp}{op:Int}{acc:Bool->Bool->Bool}(hacc:∀t,acc (inB A t) (inB B t)=opB op (inB A t) (inB B t))(hA:e_ 8 pV V p0 n0 A)(hB:e_ 8 pV V p1 n1 B)(gA:∀s∈A,s.good)(gB:∀s∈B,s.good)(sA:∀s∈A,s.sz 1000000)(sB:∀s∈B,s.sz 1000000)
  (nA:A.length<=1000)(nB:B.length<=1000)(kL:fe A+fe B<50)(so:tO (fe A+fe B))(hf:∀a b (W:View),aa prog fa #[.bool a,.bool b] W fun r _=>r=.bool (acc a b)) :
  aa prog 176 #[.agg #[.slice p0 n0 c0,.slice p1 n1 c1],.func (.func fa) #[] #[]] V fun r V'=>∃q m e,r=.slice q m e/\e_ 8 pV V' q m (combL op A B):=by
 obtain rfl:=hA.len;obtain rfl:=hB.len
 refine AP p0 _ c0 p1 _ c1 fa V _ ⟨fun z V'=>∃k:Nat,z.2.2.2.1=(k:Int)/\k<=2/\CR V' z.1 z.2.1 z.2.2.1 (La A B k)/\z.2.2.2.2=NQ A B k,fun z=>2-z.2.2.2.1.toNat,
  ⟨(0,0,[],0,[.int .i64 0,.int .i64 0]),by and_intros<;>rfl,0,rfl,by decide,⟨rfl,Qq3 _,Qq3 _,Row.nil,fun h=>absurd rfl h⟩,rfl⟩,?_⟩
 rintro ⟨Q,z2,vs,z4,os⟩ V1 l1 ⟨k,e4,U1,G,K⟩;dsimp only at e4 G K;subst e4 K;dsimp only;refine ⟨rfl,fun N=>?_,fun N=>?_⟩
 ·have N:(k:Int)<2:=of_decide_eq_true N;have hk:k<2:=by omega
  have U:i64.wrap ((k:Int)+1)=((k+1:Nat):Int):=by rw [ar (by omega)];rfl
  rw [U,Qq0]
  obtain ⟨p,n,c,el,hL⟩:∃p n c,([(p0,A.length,c0),(p1,B.length,c1)]:List (OA×Nat×Nat)).getD k (none,0,0)=(p,n,c)/\e_ 8 pV V p n (LK A B k):=by
   obtain rfl|rfl:k=0\/k=1:=by omega
   ·exact ⟨_,_,_,rfl,hA⟩
   ·exact ⟨_,_,_,rfl,hB⟩
  rw [el];dsimp only
  have b7:(∀s∈LK A B k,s.sz 1000000)/\(LK A B k).length<=1000:=by
   obtain rfl|rfl:k=0\/k=1:=by omega
   ·exact ⟨sA,nA⟩
   ·exact ⟨sB,nB⟩
  obtain ⟨sL,nL⟩:=b7;obtain rfl:=hL.len
  refine ⟨⟨by omega,by omega⟩,fun z V'=>∃j:Nat,z.2.2.2.1=(j:Int)/\j<=(LK A B k).length/\CR V' z.1 z.2.1 z.2.2.1 (La A B k++((LK A B k).take j).flatMap (gj k))/\z.2.2.2.2=Fl A k (jO ((LK A B k).take j)),fun z=>(LK A B k).length-z.2.2.2.1.toNat,
   ⟨(Q,z2,vs,0,NQ A B k),by and_intros<;>rfl,0,rfl,Qq9 _,by simpa using G,by rw [Qc7];unfold NQ;rw [if_neg (by omega)];rfl⟩,?_⟩
  rintro ⟨U,w2,us,w4,os⟩ V2 l2 ⟨j,e4,G_,E,K⟩;dsimp only at e4 E K;subst e4 K;dsimp only;refine ⟨rfl,fun hj=>?_,fun hj=>?_⟩
  ·have hj:(j:Int)<(LK A B k).length:=of_decide_eq_true hj;have R:j<(LK A B k).length:=by omega
   have w3:i64.wrap ((j:Int)+1)=((j+1:Nat):Int):=by rw [ar (by omega)];rfl
   rw [Qq0,w3];obtain ⟨ad,ha,xs,-,hv,D⟩:=(hL.le (l1.trans l2) fun _ _ g=>pV.le g (l1.trans l2)).at_ j R;obtain ⟨x1,x2,q,y1,y2,q',ex,X,r2⟩:=hv;have ex:=congrArg Array.toList (Value.agg.inj ex);dsimp only at ex;subst ex;have hs:=sL _ (Qw7 R);have ft:=Gi (f:=gj (k:Int)) R;have ot:=IF R;have ob:=Ap (a:=(LK A B k).take j);rw [Qq5] at ob;have cn:=E.len;have bl:=JN (A:=A) (B:=B) (j:=j) hk;rw [←cn] at bl;have c1:gj (k:Int) (LK A B k)[j]=(if (LK A B k)[j].a then [] else [((LK A B k)[j].lo,(k:Int),1)])++(if (LK A B k)[j].b then [] else [((LK A B k)[j].hi,(k:Int),-1)]):=rfl;rw [c1] at ft;generalize (LK A B k)[j]=s at *
   refine ⟨aQ ha,⟨by omega,by omega⟩,_,_,_,_,_,_,_,_,ad,ha,D 0 _ rfl,D 1 _ rfl,D 2 _ rfl,D 3 _ rfl,D 4 _ rfl,D 5 _ rfl,D 6 _ rfl,D 7 _ rfl,
    fun z V'=>CR V' z.1 z.2.1 z.2.2.1 (La A B k++((LK A B k).take j).flatMap (gj k)++(if s.a then [] else [(s.lo,(k:Int),1)]))/\z.2.2.2=Fl A k (jO ((LK A B k).take (j+1))),⟨fun F=>?_,fun F=>?_⟩,?_⟩
   ·rw [F,if_pos rfl] at ot;rw [F,if_pos rfl,Qz5];refine ⟨⟨by omega,by omega⟩,_,Ky hk,⟨by omega,by omega⟩,by rw [Kz hk];omega,(U,w2,us,Fl A k (jO ((LK A B k).take (j+1)))),?_,E,rfl⟩;have e:(Fl A k (jO ((LK A B k).take j))).set (0+k*1) (.int .i64 (i64.wrap (jO ((LK A B k).take j)+1)))=Fl A k (jO ((LK A B k).take (j+1))):=by rw [KA hk,ar (by omega),ot]
    and_intros<;>first|rfl|exact e
   ·rw [F,if_neg (by decide),Ww0] at ot;rw [F,if_neg (by decide)];refine ⟨by omega,E.le,E.cap,rfl,Py,fun sp c' C S=>⟨(U+1,c',_,Fl A k (jO ((LK A B k).take j))),by and_intros<;>rfl,E.snoc X hs.1 _ _ C S,by dsimp only;rw [ot]⟩⟩
   ·rintro ⟨k1,k2,ks,os⟩ V3 l3 ⟨H,K⟩;dsimp only at H K;subst K;dsimp only;have WA:=H.len;have Y3:k1<=U+1:=by rw [WA,cn,Qq2];split<;>simp
    refine ⟨rfl,fun z V'=>CR V' z.1 z.2.1 z.2.2 (La A B k++((LK A B k).take (j+1)).flatMap (gj k)),⟨fun F=>?_,fun F=>?_⟩,?_⟩
    ·have F:s.b=false:=by simpa using F
     simp only [F,Qz9,if_false] at ft;rw [ft,←Qy4,←Qy4];refine ⟨by omega,H.le,H.cap,rfl,Py,fun sp c' C S=>⟨(k1+1,c',_),by and_intros<;>rfl,H.snoc (r2.le l3) hs.2 _ _ C S⟩⟩
    ·have F:s.b=true:=by simpa using F
     simp only [F,if_true,Qz5] at ft;rw [ft,←Qy4];exact ⟨(k1,k2,ks),by and_intros<;>rfl,H⟩
    ·rintro ⟨P,Y,ms⟩ V4 l4 a2;dsimp only at a2;exact ⟨rfl,(P,Y,ms,((j+1:Nat):Int),_),by dsimp only;omega,by and_intros<;>rfl,j+1,rfl,by omega,a2,rfl⟩
  ·have hj:¬(j:Int)<(LK A B k).length:=of_decide_eq_false hj;obtain rfl:j=(LK A B k).length:=by omega
   rw [Qk2] at *;refine ⟨(U,w2,us,((k+1:Nat):Int),Fl A k (jO (LK A B k))),by dsimp only;omega,by and_intros<;>rfl,k+1,rfl,by omega,?_,IK hk⟩;rw [←Br hk];exact E
 have N:¬(k:Int)<2:=of_decide_eq_false N;obtain rfl:k=2:=by omega
 have G:CR V1 Q z2 vs (lr A B):=G;have cl:(lr A B).length<50:=by rw [zX];exact kL
 have YT:=G.len;have ZK:=G.le;rw [show NQ A B 2=Ck A B [] from rfl];have M:∀l:List dV,Ck A B l≠[]:=fun l h=>by cases h
 refine ⟨fun z V'=>∃cs:List dV,SR V' Q z cs/\cs.Perm (lr A B)/\cs.Pairwise (fun x y=>x.1<=y.1),⟨fun h0=>?_,fun h0 V7 l7 bk e7 h7=>?_⟩,?_⟩
 ·subst h0;have C:=G.cap;rw [Qj9] at C;obtain rfl:z2=0:=by omega
  obtain rfl:Q=0:=by omega
  have a3:lr A B=[]:=List.eq_nil_of_length_eq_zero (by omega);exact ⟨rfl,fun V5 l5=>tY.mono fun r V6 l6 hr=>⟨hr,[],by and_intros<;>rfl,[],⟨Row.nil,rfl,by simp⟩,by rw [a3],List.Pairwise.nil⟩⟩
 ·have c4:0<(lr A B).length:=List.length_pos_iff.2 (G.ne h0);rw [FJ h0,MW (show 0<z2 by omega)];refine (so (V7.ay [bk]) bk _ _ _ (lr A B) zX (e7 h0) ⟨by simp,h7 h0⟩ ⟨G.row.le fun _ _ g=>RC.le g fun b o h=>l7 b o h,YT,cl⟩).mono ?_;rintro r V8 l8 ⟨rfl,a4,cs,e8,UT,hp,O⟩;refine ⟨rfl,h0,a4,fun e=>?_,e8,a4,by and_intros<;>rfl,cs,UT.le (fu _),hp,O⟩;have C:=UT.row.iI (by decide);rw [e,hp.length_eq,Qj9] at C;omega
 rintro WB V9 l9 ⟨cs,a5,hp,O⟩;have zl:=a5.len;have a0:=fun c (h:c∈cs)=>JX (hp.mem_iff.1 h);refine ⟨rfl,fun fK b8 ab ob ea ha K ho b9=>?_⟩;rw [FJ (M [])];refine (yG (V:=fK.ay [ab,ob]) (x:=jO A+fB 0 []) (y:=jO B+fB 1 []) (acc:=acc) ea ⟨by simp,ha⟩ (K (M _)) ⟨by simp,ho (M _)⟩ (b9 (M _)) hf).mono ?_;rintro r eO bA ⟨rfl,e1,e2⟩
 refine ⟨_,rfl,e1,M _,Ck A B [],M _,e2,fun z V'=>∃(i:Nat)(last:Sp)(out:List Sp),z.2.2.2.2.1=(i:Int)/\i<=cs.length/\out.length<=i/\K8 acc A B cs i z.2.2.2.1 last out/\z.2.2.2.2.2.1=Ck A B (cs.take i)/\IR V' z.1 z.2.1 z.2.2.1 out /\
   RR V' (.agg #[.int .i64 z.2.2.2.2.2.2.1,.int .i64 z.2.2.2.2.2.2.2.1,.pointer z.2.2.2.2.2.2.2.2.1]) last.lo/\RR V' (.agg #[.int .i64 z.2.2.2.2.2.2.2.2.2.1,.int .i64 z.2.2.2.2.2.2.2.2.2.2.1,.pointer z.2.2.2.2.2.2.2.2.2.2.2.1]) last.hi/\last.a=z.2.2.2.2.2.2.2.2.2.2.2.2.1/\last.b=z.2.2.2.2.2.2.2.2.2.2.2.2.2,
  fun z=>cs.length-z.2.2.2.2.1.toNat,⟨(0,0,[],_,0,Ck A B [],0,0,none,0,0,none,true,false),by and_intros<;>rfl,0,⟨0,0,true,false⟩,[],rfl,Qq9 _,Qq9 _,Jm (acc:=acc) (by show acc (decide ((0:Int)<jO A+0)) (decide ((0:Int)<jO B+0))=_;rw [Ww0,Ww0]) hp gA gB O,rfl,IR.nil,RR.zero _,RR.zero _,rfl,rfl⟩,?_⟩
 rintro ⟨P,Y,us,d,iz,ov,x1,x2,p,y1,y2,q,la,lb⟩ gW cu ⟨i,last,out,e5,NO,oi,hI,Uu,v,X,r2,f1,f2⟩;dsimp only at e5 hI Uu v X r2 f1 f2;subst e5 Uu f1 f2;dsimp only;have ml:=v.len;refine ⟨rfl,fun hi=>?_,fun hi=>?_⟩
 ·have hi:(i:Int)<Q:=of_decide_eq_true hi;have I:i<cs.length:=by omega
  have PY:SR gW Q WB cs:=a5.le fun b o h=>cu b o (bA b o (b8 b o h));have gd:∀j (h:j<cs.length),cs.getD j dC=cs[j]:=fun j h=>by rw [Qw3,Qq1 h];rfl
  obtain ⟨x,y,pp,a,b,g,x',y',p',ev,hr,a6⟩:=PY.get I;rw [gd i I] at ev hr a6;rw [Qy2] at g;have ev:=congrArg Array.toList (Value.agg.inj ev);simp only [Qk7,Value.int.injEq,Value.pointer.injEq,true_and,and_true] at ev;obtain ⟨rfl,rfl,rfl,rfl,rfl⟩:=ev;obtain ⟨ck,cd⟩:=a0 _ (Qw7 I);have U:i64.wrap ((i:Int)+1)=((i+1:Nat):Int):=by rw [ar (by omega)];rfl
  have tk:cs.take (i+1)=cs.take i++[cs[i]]:=by rw [Qh1,Qq1 I];rfl
  have a7:(Ck A B (cs.take i)).set (0+cs[i].2.1.toNat*1) (.int .i64 (i64.wrap (M3 A B (cs.take i) cs[i].2.1+cs[i].2.2)))=Ck A B (cs.take (i+1)):=by
   have b1:=Ap (a:=A);have b2:=Ap (a:=B);have b3:=AG (k:=0) (l:=cs.take i) fun c G=>(a0 c (Qb7 G)).2;have b4:=AG (k:=1) (l:=cs.take i) fun c G=>(a0 c (Qb7 G)).2;rw [Qq5] at b3 b4;have b5:-3000<=M3 A B (cs.take i) cs[i].2.1/\M3 A B (cs.take i) cs[i].2.1<=3000:=by unfold M3;split<;>omega
   rw [ar (by omega),KC ck,tk]
  rw [U,Qq0,Qq0];refine ⟨⟨by omega,by omega⟩,by omega,x,y,pp,_,_,g,⟨by omega,by omega⟩,_,KB ck,⟨by omega,by omega⟩,by rw [show (Ck A B (cs.take i)).length=2 from rfl];omega,?_⟩;rw [a7];refine ⟨fun t V'=>(t=true->∃h:i+1<cs.length,cs[i].1=cs[i+1].1)/\(t=false->∀h:i+1<cs.length,cs[i].1<cs[i+1].1),⟨fun C=>?_,fun C=>?_⟩,?_⟩
  ·have C:((i+1:Nat):Int)<Q:=of_decide_eq_true C;have Qv:i+1<cs.length:=by omega
   obtain ⟨u,w,pw,a',b',g',x',y',p',T,a8,Z⟩:=PY.get Qv;rw [gd _ Qv] at a8 Z;rw [Qy2] at g';have T:=congrArg Array.toList (Value.agg.inj T);simp only [Qk7,Value.int.injEq,Value.pointer.injEq,true_and] at T;obtain ⟨rfl,rfl,rfl,-⟩:=T;refine ⟨⟨by omega,by omega⟩,by omega,u,w,pw,⟨by omega,?_⟩,fun lx cD=>(jU (a8.le cD) (hr.le cD) Z a6 (by decide)).mono ?_⟩
   ·have:∀l:List Value,l.take 3=(l.take 5).take 3:=fun l=>by rw [Qp3];rfl
    rw [this,Qz2,g'.2];rfl
   ·rintro r mr eB rfl;refine ⟨_,rfl,_,by and_intros<;>rfl,fun h=>⟨Qv,Eq.symm (of_decide_eq_true h)⟩,fun h _=>?_⟩;have h:=of_decide_eq_false h;have:=Qb6.1 O i (i+1) I Qv (by omega);grind
  ·have C:¬((i+1:Nat):Int)<Q:=of_decide_eq_false C;exact ⟨false,by and_intros<;>rfl,(fun h=>nomatch h),fun _ h=>absurd h (by omega)⟩
  rintro t mV dw ⟨ht,c2⟩;refine ⟨rfl,fun e=>?_,fun e rz dY Wo XK ea ha K ho a9=>?_⟩
  ·obtain ⟨C,S⟩:=ht e;exact ⟨(P,Y,us,d,((i+1:Nat):Int),Ck A B (cs.take (i+1)),x1,x2,p,y1,y2,q,last.a,last.b),by dsimp only;omega,by and_intros<;>rfl,i+1,last,out,rfl,by omega,by omega,KW hI C S,rfl,v.mono dw,X.le dw,r2.le dw,rfl,rfl⟩
  rw [FJ (M _)];refine (yG (V:=rz.ay [Wo,XK]) (x:=jO A+fB 0 (cs.take (i+1))) (y:=jO B+fB 1 (cs.take (i+1))) (acc:=acc) ea ⟨by simp,ha⟩ (K (M _)) ⟨by simp,ho (M _)⟩ (a9 (M _)) hf).mono ?_;rintro r pR dR ⟨rfl,Ot,c3⟩;have st:=KX hI I (c2 e) hp gA gB O rfl;generalize acc (decide ((0:Int)<jO A+fB 0 (cs.take (i+1)))) (decide ((0:Int)<jO B+fB 1 (cs.take (i+1))))=now at st ⊢;have L:gW.Le pR.shut:=fun b o h=>dR b o (dY b o (dw b o h))
  have same:now=d->IR pR.shut P Y us (vM d now last cs[i].1 out)/\RR pR.shut (.agg #[.int .i64 x1,.int .i64 x2,.pointer p]) (iS d now last cs[i].1).lo/\RR pR.shut (.agg #[.int .i64 y1,.int .i64 y2,.pointer q]) (iS d now last cs[i].1).hi /\
    last.a=(iS d now last cs[i].1).a/\last.b=(iS d now last cs[i].1).b:=fun h=>by
   subst h;unfold vM iS;cases now<;>exact ⟨v.mono L,X.le L,r2.le L,rfl,rfl⟩
  refine ⟨_,rfl,Ot,M _,Ck A B (cs.take (i+1)),M _,c3,fun z V'=>IR V' z.1 z.2.1 z.2.2.1 (vM d now last cs[i].1 out)/\RR V' (.agg #[.int .i64 z.2.2.2.1,.int .i64 z.2.2.2.2.1,.pointer z.2.2.2.2.2.1]) (iS d now last cs[i].1).lo /\
   RR V' (.agg #[.int .i64 z.2.2.2.2.2.2.1,.int .i64 z.2.2.2.2.2.2.2.1,.pointer z.2.2.2.2.2.2.2.2.1]) (iS d now last cs[i].1).hi/\z.2.2.2.2.2.2.2.2.2.1=(iS d now last cs[i].1).a/\z.2.2.2.2.2.2.2.2.2.2=(iS d now last cs[i].1).b,
   ⟨fun hn=>⟨fun hw=>?_,fun hw=>⟨fun a1=>⟨fun J=>?_,fun _=>?_⟩,fun a1=>?_⟩⟩,fun hn=>⟨fun hw=>⟨fun J=>?_,fun J=>?_⟩,fun hw=>?_⟩⟩,?_⟩
  ·have hw:d=false:=by simpa using hw
   subst hn hw;exact ⟨(P,Y,us,x,y,pp,0,0,none,false,false),by and_intros<;>rfl,v.mono L,hr.le L,RR.zero _,rfl,rfl⟩
  ·rw [hn] at J;cases J
  ·exact ⟨(P,Y,us,x1,x2,p,y1,y2,q,last.a,last.b),by and_intros<;>rfl,same (hn.trans a1.symm)⟩
  ·rw [a1] at hw;cases hw
  ·subst hn hw;exact ⟨by omega,v.le,v.cap,rfl,Pz,fun sp c' C S=>⟨(P+1,c',_,x1,x2,p,x,y,pp,last.a,last.b),by and_intros<;>rfl,(v.mono L).snoc (s:=⟨last.lo,cs[i].1,last.a,last.b⟩) (X.le L) (hr.le L) C S,X.le L,hr.le L,rfl,rfl⟩⟩
  ·rw [hn] at J;cases J
  ·exact ⟨(P,Y,us,x1,x2,p,y1,y2,q,last.a,last.b),by and_intros<;>rfl,same (hn.trans hw.symm)⟩
  ·rintro ⟨k1,k2,ks,u1,u2,pu,t1,t2,pt,ua,ub⟩ wS hJ ⟨OG,b0,b6,g1,g2⟩;dsimp only at OG b0 b6 g1 g2;subst g1 g2;dsimp only
   have ol:(vM d now last cs[i].1 out).length<=i+1:=by
    unfold vM;split
    ·rw [Qq2];simp;omega
    ·omega
   exact ⟨rfl,(k1,k2,ks,now,((i+1:Nat):Int),Ck A B (cs.take (i+1)),u1,u2,pu,t1,t2,pt,_,_),by dsimp only;omega,by and_intros<;>rfl,i+1,_,_,rfl,by omega,ol,st,rfl,OG,b0,b6,rfl,rfl⟩
 ·have hi:¬(i:Int)<Q:=of_decide_eq_false hi;obtain rfl:i=cs.length:=by omega
  have fin:=KV hI hacc;refine ⟨fun z V'=>IR V' z.1 z.2.1 z.2.2 (combL op A B),⟨fun hw=>?_,fun hw=>?_⟩,?_⟩
  ·subst hw;refine ⟨by omega,v.le,v.cap,rfl,Pz,fun sp c' C S=>⟨(P+1,c',_),by and_intros<;>rfl,?_⟩⟩;rw [←fin];have:=hI.fr rfl;rw [this.1] at r2;exact v.snoc (s:=j8 last) X r2 C S
  ·subst hw;refine ⟨(P,Y,us),by and_intros<;>rfl,?_⟩;rw [←fin];simpa [vN] using v
  ·rintro ⟨k1,k2,ks⟩ Dk iW h;dsimp only at h;obtain rfl:=h.len;exact ⟨rfl,fun FQ pS bk F=>⟨_,_,_,rfl,e_.dJ F (h.row.le fun _ _ g=>pV.le g pS) (by decide) h.le⟩⟩
theorem Rd (a b:Bool)(W:View):aa prog 177 #[.bool a,.bool b] W fun r _=>r=.bool ((fun x _=>x:Bool->Bool->Bool) a b):=
 xI a b W _ fun V l=>rfl
theorem DD {V:View}{p:OA}{n c:Nat}{A:List Sp}(hA:e_ 8 pV V p n A)(hg:∀s∈A,s.good)(hs:∀s∈A,s.sz 1000000)(hn:A.length<=1000)(hf:fe A<50)(so:tO (fe A)) :
  aa prog 127 #[.slice p n c] V fun r V'=>∃q m e,r=.slice q m e/\e_ 8 pV V' q m (combL 1 A []):=by
 refine CU p n c V _ fun d a=>(HF (op:=1) (acc:=fun x _=>x) (fun t=>by simp [opB,inB]) (hA.le a fun _ _ g=>pV.le g a) (e_.nil (p:=none)) hg (fun s h=>by cases h) hs (fun s h=>by cases h) hn (by decide) (by have:fe []=0:=rfl;omega) so Rd).mono ?_;rintro r f i ⟨q,m,e,rfl,g⟩;exact ⟨_,_,_,rfl,fun j b=>⟨_,_,_,rfl,g.le b fun _ _ g=>pV.le g b⟩⟩
theorem inB_nil (t:Rat):inB [] t=false:=rfl
def bE (l:List L3):List L3:=l.foldl (fun o x=>j_ x o) []
theorem bD (l:List L3):(bE l).Pairwise pT/\∀x,x∈bE l↔x∈l:=by
 have:∀(l o:List L3),o.Pairwise pT->(l.foldl (fun o x=>j_ x o) o).Pairwise pT/\∀x,x∈l.foldl (fun o x=>j_ x o) o↔x∈o\/x∈l:=by
  intro l
  induction l with
  | nil=>intro o h;exact ⟨h,fun x=>by simp⟩
  | cons y r ih=>
   intro o h;obtain ⟨a,b⟩:=ih (j_ y o) (BZ h);refine ⟨a,fun x=>?_⟩;rw [Qm8,b x,uQ,Qq6];constructor
   ·rintro ((h|h)|h)<;>simp [h]
   ·rintro (h|h|h)<;>simp [h]
 obtain ⟨a,b⟩:=this l [] List.Pairwise.nil;exact ⟨a,fun x=>by rw [bE,b x];simp⟩
theorem Gs {l m:List L3}(h:∀x,x∈l↔x∈m):bE l=bE m:=
 zF (bD l).1 (bD m).1 fun x=>by rw [(bD l).2 x,(bD m).2 x];exact h x
def aJ (m:L3)(l:List (L3×Sp)):List Sp:=(l.filter fun x=>decide (x.1=m)).map Prod.snd
def joinF (l:List (L3×Sp)):List (L3×Sp):=(bE (l.map Prod.fst)).flatMap fun m=>(combL 1 (aJ m l) []).map fun s=>(m,s)
theorem Gc {A B:List Sp}(h:A.Perm B):combL 1 A []=combL 1 B []:=by
 refine reg_eq (endsL (A++[])++endsL (B++[])) (comb_reg ..) (comb_reg ..) fun t a=>?_;rw [Qw2,not_or] at a;rw [comb_inB 1 _ _ a.1,comb_inB 1 _ _ a.2]
 have:inB A t=inB B t:=by
  unfold inB;rw [Qz3,Qh5,Qh5];exact ⟨fun ⟨x,b,c⟩=>⟨x,h.mem_iff.1 b,c⟩,fun ⟨x,b,c⟩=>⟨x,h.mem_iff.2 b,c⟩⟩
 rw [this]
theorem D6 {l m:List (L3×Sp)}(h:l.Perm m):joinF l=joinF m:=by
 unfold joinF;rw [Gs (l:=l.map Prod.fst) (m:=m.map Prod.fst) fun x=>(h.map _).mem_iff];refine congrArg (fun f=>(bE (m.map Prod.fst)).flatMap f) (funext fun k=>?_);rw [Gc (A:=aJ k l) (B:=aJ k m) ((h.filter _).map _)]
theorem joinF_snoc {P Q:List (L3×Sp)}{m:L3}(hP:∀x∈P,pT x.1 m)(hQ:∀x∈Q,x.1=m)(hne:Q≠[]) :
  joinF (P++Q)=joinF P++(combL 1 (Q.map Prod.snd) []).map fun s=>(m,s):=by
 have i:bE ((P++Q).map Prod.fst)=bE (P.map Prod.fst)++[m]:=by
  obtain ⟨j,k⟩:=bD ((P++Q).map Prod.fst);obtain ⟨n,g⟩:=bD (P.map Prod.fst);refine zF j (Qg2.2 ⟨n,List.pairwise_singleton _ _,fun x c y d=>?_⟩) fun x=>?_
  ·rw [Qx0.1 d];obtain ⟨z,b,rfl⟩:=Qy5.1 ((g x).1 c);exact hP z b
  ·rw [k x,Qm9,Qw2,Qw2,g x,Qx0];refine or_congr_right ⟨fun h=>?_,fun h=>?_⟩
   ·obtain ⟨z,b,rfl⟩:=Qy5.1 h;exact hQ z b
   ·obtain ⟨z,b⟩:=List.exists_mem_of_ne_nil Q hne;exact Qy5.2 ⟨z,b,(hQ z b).trans h.symm⟩
 have c:∀x∈bE (P.map Prod.fst),aJ x (P++Q)=aJ x P:=fun x c=>by
  obtain ⟨z,b,rfl⟩:=Qy5.1 (((bD _).2 x).1 c);have f:=hP z b;unfold aJ;rw [Qr9,(Qs4 (l:=Q)).2 fun y d=>?_,Qz5];intro e;have e:y.1=z.1:=of_decide_eq_true e;rw [←e,hQ y d] at f;exact zf f
 have hm:aJ m (P++Q)=Q.map Prod.snd:=by
  unfold aJ;rw [Qr9,(Qs4 (l:=P)).2 fun y d=>?_,Qn3,(List.filter_eq_self (l:=Q)).2 fun y d=>decide_eq_true (hQ y d)];intro e;have e:y.1=m:=of_decide_eq_true e;exact zf (e▸hP y d)
 unfold joinF;rw [i,Qc6,List.flatMap_singleton,hm];congr 1;generalize bE (P.map Prod.fst)=L at c
 induction L with
 | nil=>rfl
 | cons a r ih=>rw [Qw5,Qw5,c a (Qv5 ..),ih fun x h=>c x (Qq8 _ h)]
theorem Fx {α:Type}{sz:Nat}{R R':View->Value->α->Prop}{V V':View}{vs:List Value}{l:List α}(h:Row sz R V vs l)(m:∀v a,a∈l->R V v a->R' V' v a):Row sz R' V' vs l:=
 ⟨fun i b=>by obtain ⟨xs,c,d,e⟩:=h.at_ i b;exact ⟨xs,c,m _ _ (Qw7 b) d,e⟩⟩
theorem En {V:View}{ws:List Value}{m:List (L3×Sp)}(h:Row 17 oE V ws m){i:Nat}(hi:i<m.length) :
  ∃(x1 x2:Int)(p:OA)(y1 y2:Int)(q:OA)(z1 z2:Int)(r:OA)(u1 u2:Int)(t:OA)(w1 w2:Int)(o:OA),((i*17+0)+9<=ws.length/\(ws.drop (i*17+0)).take 9=[.int .i64 x1,.int .i64 x2,.pointer p,.int .i64 y1,.int .i64 y2,.pointer q,.int .i64 z1,.int .i64 z2,.pointer r]) /\
   ((i*17+9)+8<=ws.length/\(ws.drop (i*17+9)).take 8=[.int .i64 u1,.int .i64 u2,.pointer t,.int .i64 w1,.int .i64 w2,.pointer o,.bool m[i].2.a,.bool m[i].2.b]) /\
   wR V (.agg #[.int .i64 x1,.int .i64 x2,.pointer p,.int .i64 y1,.int .i64 y2,.pointer q,.int .i64 z1,.int .i64 z2,.pointer r]) m[i].1/\pV V (.agg #[.int .i64 u1,.int .i64 u2,.pointer t,.int .i64 w1,.int .i64 w2,.pointer o,.bool m[i].2.a,.bool m[i].2.b]) m[i].2:=by
 obtain ⟨xs,-,c,k,f⟩:=h.get (d:=wM) hi (by decide);have e:m.getD i wM=m[i]:=by rw [Qw3,Qq1 hi];rfl
 rw [e] at c;obtain ⟨_,_,_,_,_,_,_,_,_,_,_,_,_,_,_,ex,g,j⟩:=c;have ex:=congrArg Array.toList (Value.agg.inj ex);dsimp only at ex;subst ex;refine ⟨_,_,_,_,_,_,_,_,_,_,_,_,_,_,_,⟨by omega,?_⟩,⟨by omega,?_⟩,g,j⟩
 ·have:=congrArg (List.take 9) f;rw [Qp3] at this;exact this
 ·have:=congrArg (List.drop 9) f;rw [List.drop_take,Qm6] at this;exact this
theorem KN {V:View}{xs:List Value}{x:Sp}(h:pV V (.agg xs.toArray) x):∀v∈xs,v.oneCell'=true:=by
 obtain ⟨_,_,_,_,_,_,ex,-,-⟩:=h;have ex:=congrArg Array.toList (Value.agg.inj ex);dsimp only at ex;subst ex;intro v a;simp only [Qq6,Qk1,or_false] at a;rcases a with rfl|rfl|rfl|rfl|rfl|rfl|rfl|rfl<;>rfl
theorem Pj {a b c:L3}(h:pT a b)(h':¬iD c b<0):pT a c:=by
 by_cases e:b=c
 ·rw [←e];exact h
 ·exact LB h (Ij h' fun k=>e k.symm)
set_option maxHeartbeats 2000000 in
theorem FZ {V:View}{p:OA}{n c:Nat}{fs:List (L3×Sp)}(h:e_ 17 oE V p n fs)(h0:fs=[]->p=none)(kL:fs.length<20)(hb:∀f∈fs,gN 10000 f.1)(hg:∀f∈fs,f.2.good)(hs:∀f∈fs,f.2.sz 1000000)(so:∀i,i<=2*fs.length->tO i) :
  aa prog 66 #[.slice p n c] V fun r V'=>∃q m e,r=.slice q m e/\e_ 17 oE V' q m (joinF fs):=by
 obtain rfl:=h.len;refine vT p _ c V _ fun V1 l1=>(Hy (h.le l1 fun _ _ g=>pU.le g l1) (by omega) h0).mono ?_;rintro r V2-⟨Y,vs,a1,a2,e,rfl,hle,Z,vf,row,lW⟩;refine ⟨Y,vs,a1,fun h=>.inl (a2 h),none,fs.length,e,rfl,?_⟩;have A:Row 17 oE (V2.shut.cp (vs≠[]) Y) vs fs:=row.le fun _ _ g=>pU.le g fun b o h=>h;clear a1 a2 row lW;generalize V2.shut.cp (vs≠[]) Y=W at A ⊢;refine ⟨fun ws V'=>∃m:List (L3×Sp),m.Perm fs/\(m.Pairwise fun x y=>¬iD y.1 x.1<0)/\Row 17 oE V' ws m,⟨fun D=>?_,fun D V5 l5 T e1 e2=>?_⟩,?_⟩
 ·have a0:fs=[]:=Qp6 fun h=>vf.2 h D;subst a0;obtain rfl:=Z.1 D;refine ⟨rfl,fun V3 l3=>oK.mono ?_⟩;rintro r V4 l4 rfl;exact ⟨rfl,vs,by and_intros<;>rfl,[],.refl _,List.Pairwise.nil,Row.nil⟩
 ·have a3:e≠0:=fun h=>D (Z.2 h);have My:∀b,mA b e=some ⟨b,0,none⟩:=fun b=>by unfold mA;rw [if_neg a3]
  rw [My];refine (wT (V:=V5.ay [vb vs V5.w.heap.size T]) (lb:=T) (vs:=vs) (l:=fs) (e1 D) ⟨by simp [FJ D],e2 D⟩ ⟨Fx A fun v a ha g=>⟨pU.le g fun b o h=>l5 b o h,hb a ha⟩,rfl,by omega⟩ kL).mono ?_;rintro r V6 l6 ⟨rfl,ws,m,e3,sr,pm,pw⟩;have MX:=pm.length_eq
  have hw:ws≠[]:=fun e=>by
   have:=sr.row.iI (by decide);rw [e,MX] at this;exact vf.1 D (Qw4.1 (by rw [Qj9] at this;omega))
  exact ⟨rfl,D,ws,hw,e3,ws,by and_intros<;>rfl,m,pm,pw,Fx sr.row fun v a _ g=>pU.le g.1 fun b o h=>h⟩
 rintro ws V7 l7 ⟨m,pm,pw,P⟩;have MX:=pm.length_eq;rw [D6 pm.symm]
 replace hb:∀f∈m,gN 10000 f.1:=fun f G=>hb f (pm.mem_iff.1 G)
 replace hg:∀f∈m,f.2.good:=fun f G=>hg f (pm.mem_iff.1 G)
 replace hs:∀f∈m,f.2.sz 1000000:=fun f G=>hs f (pm.mem_iff.1 G)
 rw [←MX] at kL hle so ⊢;clear h0 h pm A Z vf;have Q:∀i j (u:i<m.length) (H:j<m.length),i<j->¬iD m[j].1 m[i].1<0:=fun i j u H=>Qb6.1 pw i j u H;refine ⟨rfl,fun z V'=>∃j:Nat,z.2.2.2=(j:Int)/\j<=m.length/\GR 17 oE V' z.1 z.2.1 z.2.2.1 (joinF (m.take j))/\(joinF (m.take j)).length<=50*j/\∀x∈m.take j,∀y∈m.drop j,pT x.1 y.1,fun z=>m.length-z.2.2.2.toNat,⟨(0,0,[],0),by and_intros<;>rfl,0,rfl,Qq9 _,GR.nil,Qq9 _,fun x d=>by simp at d⟩,?_⟩;rintro ⟨n1,c1,os,i1⟩ V8 l8 ⟨j,ej,G_,I,ol,sep⟩;dsimp only at ej I;subst ej;refine ⟨rfl,fun B=>?_,fun B rz dY T K=>?_⟩;rotate_left
 ·have B:¬(j:Int)<(m.length:Nat):=of_decide_eq_false B;obtain rfl:j=m.length:=by omega
  rw [Qk2] at I;have:=e_.dJ K (I.row.le fun _ _ g=>pU.le g dY) (by decide) (by rw [←I.len];exact I.le);rw [←I.len] at this;exact ⟨_,_,_,rfl,this⟩
 have B:(j:Int)<(m.length:Nat):=of_decide_eq_true B;have H:j<m.length:=by omega
 dsimp only;have XC:V7.Le V8:=l8;refine ⟨fun z V'=>∃k:Nat,z.2.2.2=(k:Int)/\j<=k/\k<=m.length/\GR 8 pV V' z.1 z.2.1 z.2.2.1 (((m.take k).drop j).map Prod.snd)/\∀x∈(m.take k).drop j,x.1=m[j].1,fun z=>m.length-z.2.2.2.toNat,⟨(0,0,[],(j:Int)),by and_intros<;>rfl,j,rfl,Qq3 _,by omega,?_,?_⟩,?_⟩
 ·rw [Qs3 (by rw [Qq5];omega)];exact GR.nil
 ·rw [Qs3 (by rw [Qq5];omega)];intro x d;cases d
 rintro ⟨n2,c2,us,i2⟩ V9 l9 ⟨k,ek,jk,U1,E,same⟩;dsimp only at ek E;subst ek;have RU:Row 17 oE V9 ws m:=P.le fun _ _ g=>pU.le g (XC.trans l9);obtain ⟨b1,b2,b3,b4,b5,b6,b7,b8,b9,-,-,-,-,-,-,jl,-,jr,-⟩:=En RU H;have a4:=hb _ (Qw7 H);refine ⟨rfl,fun b V'=>V9.Le V'/\b=decide (∃h:k<m.length,m[k].1=m[j].1),⟨fun t=>?_,fun t=>?_⟩,?_⟩
 ·have t:(k:Int)<(m.length:Nat):=of_decide_eq_true t;have t:k<m.length:=by omega
  dsimp only;rw [Qq0,Qq0];obtain ⟨d1,d2,d3,d4,d5,d6,d7,d8,d9,-,-,-,-,-,-,kl,-,U,-⟩:=En RU t;refine ⟨⟨by omega,by omega⟩,hle,d1,d2,d3,d4,d5,d6,d7,d8,d9,kl,⟨by omega,by omega⟩,hle,b1,b2,b3,b4,b5,b6,b7,b8,b9,jl,fun fK L=>(Kl (wR.le U L) (wR.le jr L) (hb _ (Qw7 t)) a4).mono ?_⟩;rintro r eO bA rfl;exact ⟨_,rfl,_,by and_intros<;>rfl,L.trans bA,decide_eq_decide.2 ⟨fun h=>⟨t,h⟩,fun ⟨_,h⟩=>h⟩⟩
 ·have t:¬(k:Int)<(m.length:Nat):=of_decide_eq_false t;exact ⟨false,by and_intros<;>rfl,View.Le.refl _,(decide_eq_false fun ⟨h,_⟩=>by omega).symm⟩
 rintro b gW cu ⟨R,rfl⟩;refine ⟨rfl,fun t=>?_,fun t lx cD T K=>?_⟩
 ·obtain ⟨t,WI⟩:=of_decide_eq_true t;have w:i64.wrap ((k:Int)+1)=((k+1:Nat):Int):=by rw [ar (by omega)];rfl
  dsimp only;rw [Qq0,w];obtain ⟨-,-,-,-,-,-,-,-,-,d1,d2,d3,d4,d5,d6,-,kl,-,U⟩:=En (RU.le fun _ _ g=>pU.le g R) t
  have tk:(m.take (k+1)).drop j=(m.take k).drop j++[m[k]]:=by
   rw [←Qb0 t,List.drop_append_of_le_length (by rw [Qq5];omega)]
  have sl:=E.len;rw [Qj1,Qz0,Qq5] at sl;refine ⟨⟨by omega,by omega⟩,hle,d1,d2,d3,d4,d5,d6,_,_,kl,by omega,E.le,E.cap,rfl,KN (V:=gW) (x:=m[k].2) U,fun sp c' k1 k2=>⟨(n2+1,c',_,((k+1:Nat):Int)),by dsimp only;omega,by and_intros<;>rfl,k+1,rfl,by omega,t,?_,?_⟩⟩
  ·rw [tk,Qm9];exact (E.mono fun _ _ g=>pV.le g R).snoc rfl U (by decide) k1 k2
  ·rw [tk];intro x d;rcases Qw2.1 d with d|d
   ·exact same x d
   ·rw [Qx0.1 d];exact WI
 have t:¬∃h:k<m.length,m[k].1=m[j].1:=of_decide_eq_false t;have Xy:j<k:=Nat.lt_of_le_of_ne jk fun e=>by subst e;exact t ⟨H,rfl⟩
 have sub:∀x∈(m.take k).drop j,x∈m:=fun x d=>Qb7 (Qd5 d);have hA:=e_.dJ K (E.row.le fun _ _ g=>pV.le g (R.trans cD)) (by decide) (by rw [←E.len];exact E.le);rw [←E.len] at hA;have Al:(((m.take k).drop j).map Prod.snd).length<20:=by rw [Qj1,Qz0,Qq5];omega
 have G:=HP (((m.take k).drop j).map Prod.snd);refine (DD hA (fun s M=>by obtain ⟨x,d,rfl⟩:=Qy5.1 M;exact hg x (sub x d)) (fun s M=>by obtain ⟨x,d,rfl⟩:=Qy5.1 M;exact hs x (sub x d)) (by omega) (by omega) (so _ (by rw [Qj1,Qz0,Qq5] at G;omega))).mono ?_;rintro r mr eB ⟨q,n3,c3,rfl,hC⟩;refine ⟨_,_,_,rfl,fun J=>?_⟩;have Fe:=l9.trans (R.trans (cD.trans eB))
 have sn:joinF (m.take k)=joinF (m.take j)++(combL 1 (((m.take k).drop j).map Prod.snd) []).map fun s=>(m[j].1,s):=by
  have e:m.take k=m.take j++(m.take k).drop j:=by
   conv=>lhs;rw [←Qj4 j (m.take k),Qp3,Qy8 (by omega)]
  conv=>lhs;rw [e]
  refine joinF_snoc (fun x d=>sep x d _ (Qg1.2 ⟨0,by rw [Qz0];omega,by rw [Qg7];rfl⟩)) same fun h=>?_;have:=congrArg List.length h;rw [Qz0,Qq5] at this;simp at this;omega
 have cl:=HG 1 (((m.take k).drop j).map Prod.snd) [];have f0:fe []=0:=rfl;generalize combL 1 (((m.take k).drop j).map Prod.snd) []=C at hC sn cl;obtain rfl:=hC.len;refine ⟨fun z V'=>∃i:Nat,z.2.2.2=(i:Int)/\i<=C.length/\GR 17 oE V' z.1 z.2.1 z.2.2.1 (joinF (m.take j)++(C.take i).map fun s=>(m[j].1,s)),fun z=>C.length-z.2.2.2.toNat,⟨(n1,c1,os,0),by and_intros<;>rfl,0,rfl,Qq9 _,?_⟩,?_⟩
 ·rw [Qc7,Wx8,Qz5];exact I.mono fun _ _ g=>pU.le g Fe
 rintro ⟨n4,c4,ts,i4⟩ mV dw ⟨i,ei,NO,N⟩;dsimp only at ei N;subst ei;refine ⟨rfl,fun u=>?_,fun u=>?_⟩
 ·have u:(i:Int)<(C.length:Nat):=of_decide_eq_true u;have u:i<C.length:=by omega
  have w:i64.wrap ((i:Int)+1)=((i+1:Nat):Int):=by rw [ar (by omega)];rfl
  dsimp only;rw [Qq0,Qq0,w];obtain ⟨ad,h0,xs,-,y2,F⟩:=(hC.le dw fun _ _ g=>pV.le g dw).at_ i u;obtain ⟨_,_,_,_,_,_,ex,g1,g2⟩:=y2;have ex:=congrArg Array.toList (Value.agg.inj ex);dsimp only at ex;subst ex;have he:pU mV (.agg #[.int .i64 b1,.int .i64 b2,.pointer b3,.int .i64 b4,.int .i64 b5,.pointer b6,.int .i64 b7,.int .i64 b8,.pointer b9,.int .i64 _,.int .i64 _,.pointer _,.int .i64 _,.int .i64 _,.pointer _,.bool C[i].a,.bool C[i].b]) m[j].1 C[i]:=⟨_,_,_,_,_,_,_,_,_,_,_,_,_,_,_,rfl,wR.le jr (R.trans (cD.trans (eB.trans dw))),_,_,_,_,_,_,rfl,g1,g2⟩;have tl:=N.len;rw [Qq2,Qj1,Qq5] at tl;refine ⟨aQ h0,⟨by omega,by omega⟩,_,_,_,_,_,_,_,_,ad,h0,F 0 _ rfl,F 1 _ rfl,F 2 _ rfl,F 3 _ rfl,F 4 _ rfl,F 5 _ rfl,F 6 _ rfl,F 7 _ rfl,⟨by omega,by omega⟩,hle,b1,b2,b3,b4,b5,b6,b7,b8,b9,jl,by omega,N.le,N.cap,rfl,vz (V:=mV) (x:=(_,_)) he,fun sp c' k1 k2=>⟨(n4+1,c',_,((i+1:Nat):Int)),by dsimp only;omega,by and_intros<;>rfl,i+1,rfl,u,?_⟩⟩;rw [←Qb0 u,Qm9,←Qy4];exact N.snoc (a:=(m[j].1,C[i])) rfl he (by decide) k1 k2
 ·have u:¬(i:Int)<(C.length:Nat):=of_decide_eq_false u;obtain rfl:i=C.length:=by omega
  rw [Qk2] at N;refine ⟨(n4,c4,ts,(k:Int)),by dsimp only;omega,by and_intros<;>rfl,k,rfl,U1,by rw [sn];exact N,by rw [sn,Qq2,Qj1];omega,fun x d y hy=>?_⟩;obtain ⟨X,Xb,rfl⟩:=Qg1.1 hy;rw [Qz0] at Xb;rw [Qg7];have O:k<m.length:=by omega
  have S:pT m[j].1 m[k].1:=Ij (Q j k H O Xy) fun e=>t ⟨O,e⟩
  have Xd:pT m[j].1 m[k+X].1:=by
   by_cases e:X=0
   ·subst e;exact S
   ·exact Pj S (Q k (k+X) O (by omega) (by omega))
  have e:m.take k=m.take j++(m.take k).drop j:=by
   conv=>lhs;rw [←Qj4 j (m.take k),Qp3,Qy8 (by omega)]
  rw [e] at d;rcases Qw2.1 d with d|d
  ·exact sep x d _ (Qg1.2 ⟨k+X-j,by rw [Qz0];omega,by rw [Qg7];congr 1;omega⟩)
  ·rw [same x d];exact Xd
theorem Fw {V:View}{p:OA}{n:Nat}{fs:List (L3×Sp)}(h:e_ 17 oE V p n fs):He V p n fs:=⟨h.len,fun i a=>by
 obtain ⟨b,c,xs,-,d,e⟩:=h.at_ i a;exact ⟨b,c,xs,d,e⟩⟩
theorem Bu {V:View}{p:OA}{n c:Nat}{fs:List (L3×Sp)}(h:oD V p n fs)(kL:fs.length<20)(hb:∀f∈fs,gN 10000 f.1)(hs:∀f∈fs,f.2.sz 1000000)(ho:∀f∈fs,Dp f.1 f.2)(hl:(joinF fs).length<=1000)(so:∀i,i<=2*fs.length->tO i) :
  aa prog 25 #[.slice p n c] V fun r V'=>∃q m e,r=.tuple #[.slice q m e,.nilIface]/\oD V' q m (joinF fs):=by
 have l:∀f∈joinF fs,gN 1000000 f.1/\f.2.sz 1000000:=fun f a=>by
  obtain ⟨m,hm,a⟩:=Qw6.1 a;obtain ⟨s,b,rfl⟩:=Qy5.1 a;obtain ⟨g,o,rfl⟩:=Qy5.1 (((bD _).2 _).1 hm);have z:=hb g o;refine ⟨⟨z.1.mono (by omega),z.2.1.mono (by omega),z.2.2.mono (by omega)⟩,E5 (by decide) (fun u hu=>?_) (fun u hu=>by cases hu) s b⟩;obtain ⟨x,t,rfl⟩:=Qy5.1 hu;exact hs x (Qn9.1 t).1
 refine qS p n c V _ fun D v=>(JQ (h.le v) (by omega) (fun f a=>⟨⟨(hb f a).1.mono (by omega),(hb f a).2.1.mono (by omega),(hb f a).2.2.mono (by omega)⟩,hs f a⟩) ho (k:=1000000)).mono ?_;rintro r E F ⟨G,H,I,rfl,w,y⟩;refine ⟨_,_,_,_,rfl,(fun h=>nomatch h),fun _ J d=>(FZ (w.le d fun _ _ g=>pU.le g d) y kL hb (fun f a=>(ho f a).2) hs so).mono ?_⟩;rintro r K L ⟨M,N,O,rfl,A⟩;refine ⟨_,_,_,rfl,fun P j=>(tZ (Fw (A.le j fun _ _ g=>pU.le g j)) hl l).mono ?_⟩;rintro r Q R ⟨S,T,U,rfl,B⟩;exact ⟨_,_,_,rfl,fun W C=>⟨_,_,_,rfl,B.le C⟩⟩
def L8 (V:View)(v:Value)(x:L3×Sp):Prop:=zB V v x.1 x.2
theorem lj {V:View}{p:OA}{n c:Nat}{fs:List (L3×Sp)}(h:e_ 14 jQ V p n fs)(hn:fs.length<=1000000){k:Nat}(hs:∀f∈fs,gN k f.1/\f.2.sz k)(hk:k<=1099511627776:=by omega) :
  aa prog 26 #[.slice p n c] V fun r V'=>∃q m e,r=.slice q m e/\e_ 14 L8 V' q m fs:=by
 obtain rfl:=h.len;refine rf p _ c V _ ⟨fun z V'=>∃j:Nat,z.2.2.2=(j:Int)/\j<=fs.length/\GR 14 L8 V' z.1 z.2.1 z.2.2.1 (fs.take j),fun z=>fs.length-z.2.2.2.toNat,⟨(0,0,[],0),by and_intros<;>rfl,0,rfl,Qq9 _,GR.nil⟩,?_⟩;rintro ⟨B,C,K,L⟩ M t ⟨j,u,N,d⟩;dsimp only at u d;subst u;have l:=d.len;refine ⟨rfl,fun b=>?_,fun b O D P E=>?_⟩;rotate_left
 ·have b:¬(j:Int)<fs.length:=of_decide_eq_false b;obtain rfl:j=fs.length:=by omega
  rw [Qk2] at d l;subst l;exact ⟨_,_,C,rfl,e_.dJ E (d.row.le fun _ _ g=>zB.le g D) (by decide) d.le⟩
 have b:(j:Int)<fs.length:=of_decide_eq_true b;have i:j<fs.length:=by omega
 have w:i64.wrap ((j:Int)+1)=((j+1:Nat):Int):=by rw [ar (by omega)];rfl
 dsimp only;rw [Qq0,w];obtain ⟨F,v,xs,Q,x,a⟩:=(h.le t fun _ _ g=>jQ.le g t).at_ j i;have o:=x;obtain ⟨_,_,_,_,_,_,_,_,_,_,_,_,_,_,_,_,_,_,_,_,_,_,_,_,_,_,ex,-,-⟩:=x;have ex:=congrArg Array.toList (Value.agg.inj ex);dsimp only at ex;subst ex;obtain ⟨s1,s2⟩:=hs _ (Qw7 i);rw [Qq5] at l;refine ⟨aQ v,⟨by omega,by omega⟩,_,_,_,_,_,_,_,_,_,_,_,_,_,_,_,_,_,_,_,_,_,_,_,_,_,_,_,_,F,v,a 0 _ rfl,a 1 _ rfl,a 2 _ rfl,a 3 _ rfl,a 4 _ rfl,a 5 _ rfl,a 6 _ rfl,a 7 _ rfl,a 8 _ rfl,a 9 _ rfl,a 10 _ rfl,a 11 _ rfl,a 12 _ rfl,a 13 _ rfl,fun R y=>(uo (jQ.le o y) s1 s2 hk).mono ?_⟩;rintro r S G A;have s:=A;obtain ⟨_,_,_,_,_,_,_,_,_,_,_,_,_,_,_,_,_,_,_,_,_,_,_,_,_,_,rfl,-,-⟩:=A;refine ⟨_,_,_,_,_,_,_,_,_,_,_,_,_,_,_,_,_,_,_,_,_,_,_,_,_,_,_,_,rfl,by omega,d.le,d.cap,rfl,LD,fun sp H I J=>⟨(B+1,H,_,((j+1:Nat):Int)),by dsimp only;omega,by and_intros<;>rfl,j+1,rfl,i,?_⟩⟩;rw [←Qb0 i];exact (d.mono fun _ _ g=>zB.le g (y.trans G)).snoc rfl s (by decide) I J
theorem tI {V:View}{xs:List Value}{x:L3×Sp}(h:jQ V (.agg xs.toArray) x):∀v∈xs,v.oneCell'=true:=by
 obtain ⟨_,_,_,_,_,_,_,_,_,_,_,_,_,_,_,_,_,_,_,_,_,_,_,_,_,_,ex⟩:=pj h;have ex:=congrArg Array.toList (Value.agg.inj ex);dsimp only at ex;subst ex;exact LD
theorem Kv {l:L3}(h:vm l=true):vm (revL l)=true:=by
 unfold vm revL bF at *;simp only [Qd6] at *;simpa using h
def Dq (fs:List (L3×Sp)):Prop:=∀f∈fs,Dp f.1 f.2/\gN 1000 f.1/\f.2.sz 5000
theorem Dq.snoc {fs:List (L3×Sp)}{f:L3×Sp}(h:Dq fs)(h1:Dp f.1 f.2)(h2:gN 1000 f.1)(h3:f.2.sz 5000):Dq (fs++[f]):=fun g a=>by
 rcases Qw2.1 a with a|a
 ·exact h g a
 ·rw [Qx0.1 a];exact ⟨h1,h2,h3⟩
theorem Rc {V:View}{tb:Nat}{p:OA}{n c:Nat}{at_:Int}(hr:ES V p n)(hn:n<=400)(hw:jR V tb p n c at_)(hx:V.X tb)(h0:0<=at_) :
  aa prog 63 #[.pointer (some ⟨tb,0,none⟩),.int .i64 4] V fun r V'=>∃(bm:Nat)(vs:List Value)(e:Nat)(fs:List (L3×Sp))(at':Int),r=.slice (mA bm e) fs.length e/\(vs≠[]->V'.w.heap[bm]?=some (.cells vs.toArray 36 (0,0)))/\(vs≠[]->V.w.heap.size<=bm) /\
   GR 14 jQ (V'.cp (vs≠[]) bm) fs.length e vs fs/\V.Le (V'.cp (vs≠[]) bm)/\fs.length<=4/\Dq fs/\0<=at'/\jR V' tb p n c at':=by
 have N:i64.wrap ((4:Int)+1)=5:=ar (by omega);refine rj tb p n c at_ 4 V _ hw hx ?_;rw [N];refine fun O C j P Q=>(jy (V:=O.ay [j]) 5 (hr.le fun b o h=>C b o h) hn P ⟨by simp,Q⟩ h0 (by omega)).mono ?_;rintro r R S ⟨x,T,rfl,x0,x1,t1,k⟩;obtain ⟨i0,rfl⟩:∃i:Nat,x=i:=⟨x.toNat,by omega⟩;have U:V.Le R:=fun b o h=>S b o (C b o h)
 refine ⟨_,rfl,_,_,_,_,k,fun z V'=>V.Le V'/\∃(A:List (L3×Sp))(i:Nat),z.2.2.2.1=(i:Int)/\i+A.length<=4/\z.2.2.2.2.1=p/\z.2.2.2.2.2.1=n/\z.2.2.2.2.2.2.1=c/\0<=z.2.2.2.2.2.2.2/\GR 14 jQ V' z.1 z.2.1 z.2.2.1 A/\Dq A,fun z=>z.2.2.2.1.toNat,
  ⟨(0,0,[],(i0:Int),p,n,c,T),by and_intros<;>rfl,(fun b o h=>U b o h),[],i0,rfl,by rw [Qj9];omega,rfl,rfl,rfl,t1,GR.nil,fun q W=>by cases W⟩,?_⟩
 rintro ⟨Y,Z,us,z4,tp,tn,tc,ta⟩ V3 l3 ⟨m,A,i,D,hA,E,f,F,t,d,G⟩;dsimp only at D E f F t d;subst D E f F;have Qt:=d.len;refine ⟨rfl,fun a V4 H Um e9 h9=>(Rb (V:=V4.ay [Um]) (hr.le fun b o h=>H b o (m b o h)) hn e9 ⟨by simp,h9⟩ t).mono ?_,fun a V6 bk u f I J=>?_⟩
 ·have a:(i:Int)>0:=of_decide_eq_true a;have w:i64.wrap ((i:Int)-1)=((i-1:Nat):Int):=by rw [ar (by omega)];omega
  rintro r v l5 ⟨l,s,y,K,WK,X3,X7,t2,B⟩;have L:jQ v r (l,s):=K;have M:V3.Le v:=fun b o h=>l5 b o (H b o h);obtain ⟨_,_,_,_,_,_,_,_,_,_,_,_,_,_,_,_,_,_,_,_,_,_,_,_,_,_,rfl⟩:=pj K;dsimp only;rw [w]
  refine ⟨_,_,_,_,_,_,_,_,_,_,_,_,_,_,_,_,_,_,_,_,_,_,_,_,_,_,_,_,rfl,_,_,_,_,B,by omega,d.le,d.cap,rfl,tI L,fun sp c' k1 k2=>⟨(Y+1,c',_,((i-1:Nat):Int),tp,tn,tc,y),by dsimp only;omega,by and_intros<;>rfl,(fun b o h=>M b o (m b o h)),A++[(l,s)],i-1,rfl,by rw [Qq2,Qm5];omega,rfl,rfl,rfl,t2,
   (d.mono (V':=v.shut) fun _ _ g=>jQ.le g fun b o h=>M b o h).snoc rfl (jQ.le L fun b o h=>h) (by decide) k1 k2,G.snoc WK X3 X7⟩⟩
 ·dsimp only at u f I J ⊢;subst Qt;exact ⟨bk,us,Z,A,ta,rfl,I,fun h=>(J h).elim id False.elim,d.mono fun _ _ g=>jQ.le g u,fun b o h=>u b o (m b o h),by omega,G,t,f⟩
theorem Na {V:View}{ws:List Value}{m:List (L3×Sp)}(h:Row 14 jQ V ws m){i:Nat}(hi:i<m.length) :
  ∃b1 p1 n1 c1 b2 p2 n2 c2 b3 p3 n3 c3,((i*14+0)+6<=ws.length/\(ws.drop (i*14+0)).take 6=[.bool b1,.slice p1 n1 c1,.bool b2,.slice p2 n2 c2,.bool b3,.slice p3 n3 c3]) /\
   RL V (.agg #[.bool b1,.slice p1 n1 c1,.bool b2,.slice p2 n2 c2,.bool b3,.slice p3 n3 c3]) m[i].1.1 m[i].1.2.1 m[i].1.2.2:=by
 obtain ⟨xs,-,a,f,b⟩:=h.get (d:=wM) hi (by decide);have e:m.getD i wM=m[i]:=by rw [Qw3,Qq1 hi];rfl
 rw [e] at a;obtain ⟨_,_,_,_,_,_,_,_,_,_,_,_,_,_,_,_,_,_,_,_,_,_,_,_,_,_,ex,c,g⟩:=a;have ex:=congrArg Array.toList (Value.agg.inj ex);dsimp only at ex;subst ex;refine ⟨_,_,_,_,_,_,_,_,_,_,_,_,⟨by omega,?_⟩,c⟩;have:=congrArg (List.take 6) b;rw [Qp3] at this;exact this
set_option maxHeartbeats 1000000 in
theorem zP {V:View}{tb:Nat}{p:OA}{n c:Nat}{at_:Int}(hr:ES V p n)(hn:n<=400)(hw:jR V tb p n c at_)(hx:V.X tb)(h0:0<=at_) :
  aa prog 24 #[.pointer (some ⟨tb,0,none⟩)] V fun r V'=>∃(q:OA)(m e:Nat)(fs:List (L3×Sp))(at':Int),r=.slice q m e/\e_ 14 jQ V' q m fs/\fs.length<=8/\Dq fs/\0<=at'/\jR V' tb p n c at':=by
 refine xR tb p n c at_ V _ hw hx fun V1 l1 a0 e1 h1=>(Rc (V:=V1.ay [a0]) (hr.le fun b o h=>l1 b o h) hn e1 ⟨by simp,h1⟩ h0).mono ?_;rintro r V2-⟨L,C,e,fs,G4,rfl,a1,a2,f,lW,f4,a3,t1,a4⟩;refine ⟨L,C,a1,fun h=>.inl (a2 h),none,fs.length,e,rfl,_,_,_,_,a4,?_⟩;have f:GR 14 jQ (V2.shut.cp (C≠[]) L) fs.length e C fs:=f.mono fun _ _ g=>jQ.le g fun b o h=>h;have lW:V.Le (V2.shut.cp (C≠[]) L):=fun b o h=>lW b o (l1 b o h);generalize V2.shut.cp (C≠[]) L=W at *
 refine ⟨fun z V'=>V.Le V'/\∃(A:List (L3×Sp))(i:Nat),z.2.2.2.1=(i:Int)/\i<=fs.length/\fs.length<=A.length/\A.length<=fs.length+i/\z.2.2.2.2.1=p/\z.2.2.2.2.2.1=n/\z.2.2.2.2.2.2.1=c/\0<=z.2.2.2.2.2.2.2/\GR 14 jQ V' z.1 z.2.1 z.2.2.1 A/\Dq A,fun z=>fs.length-z.2.2.2.1.toNat,
  ⟨(fs.length,e,C,0,p,n,c,G4),by and_intros<;>rfl,lW,fs,0,rfl,Qq9 _,Qq3 _,Qq3 _,rfl,rfl,rfl,t1,f,a3⟩,?_⟩
 rintro ⟨w1,w2,us,z4,M,N,O,ta⟩ V3 l3 ⟨F,A,i,e4,hi,hA,a9,e5,D,e7,ht,d,G⟩;dsimp only at e4 e5 D e7 ht d;subst e4 e5 D e7;have Qt:=d.len;refine ⟨rfl,fun j V4 l4 Mg a5 a6=>(jy (V:=V4.ay [Mg]) 4 (hr.le fun b o h=>l4 b o (F b o h)) hn a5 ⟨by simp,a6⟩ ht (by omega)).mono ?_,fun j gW cu k a7 hb=>?_⟩;rotate_left
 ·have:=e_.dJ hb (d.row.le fun _ _ g=>jQ.le g cu) (by decide) (by rw [←Qt];exact d.le);rw [←Qt] at this;exact ⟨_,_,_,A,ta,rfl,this,by omega,G,ht,a7⟩
 have j:(i:Int)<(fs.length:Nat):=of_decide_eq_true j;have w:i64.wrap ((i:Int)+1)=((i+1:Nat):Int):=by rw [ar (by omega)];rfl
 rintro r P l5 ⟨x,I,rfl,-,-,t2,a8⟩;have l:V3.Le P:=fun b o h=>l5 b o (l4 b o h);have J:i<A.length:=by omega
 obtain ⟨Q,R,T,U,Y,Z,n2,c2,b3,p3,n3,c3,rl,gl⟩:=Na (d.row.le fun _ _ g=>jQ.le g l) J;obtain ⟨ok,sl,-⟩:=G _ (Qw7 J);dsimp only;rw [Qq0,w];have S:∀{E:View} {k:Nat},P.Le E->E.w.heap[k]?=some (.cells #[.slice M N O,.int .i64 I] 88 (0,0))->E.H k->_:=fun {E} {k} l6 D h6=>Up (V:=E.ay [k]) (hr.le fun b o h=>l6 b o (l b o (F b o h))) hn D ⟨by simp,h6⟩ t2;refine ⟨_,rfl,_,_,_,_,a8,fun _=>⟨⟨by omega,by omega⟩,d.le,Q,R,T,U,Y,Z,n2,c2,b3,p3,n3,c3,rl,fun E l6 k D h6=>(S (fun b o h=>l6 b o h) D h6).mono ?_⟩,fun _=>⟨fun _=>⟨⟨by omega,by omega⟩,d.le,Q,R,T,U,Y,Z,n2,c2,b3,p3,n3,c3,rl,fun V8 l8 k e8 h8=>(S (fun b o h=>l8 b o h) e8 h8).mono ?_⟩,fun _=>⟨(w1,w2,us,((i+1:Nat):Int),M,N,O,I),by dsimp only;omega,by and_intros<;>rfl,(fun b o h=>l b o (F b o h)),A,i+1,rfl,by omega,hA,by omega,rfl,rfl,rfl,t2,d.mono fun _ _ g=>jQ.le g fun b o h=>l b o h,G⟩⟩⟩
 ·rintro r V7 l7 ⟨s,t,gs,hc,u,K,t3,v⟩;have y:=gs;obtain ⟨d1,q1,m1,f1,q2,m2,f2,d2,q3,m3,f3,q4,m4,Rf,rfl⟩:=po gs;have Sm:P.Le V7:=fun b o h=>l7 b o (l6 b o h);have he:jQ V7 (.agg #[.bool Q,.slice R T U,.bool Y,.slice Z n2 c2,.bool b3,.slice p3 n3 c3,.bool d1,.slice q1 m1 f1,.slice q2 m2 f2,.bool d2,.slice q3 m3 f3,.slice q4 m4 Rf,.bool s.a,.bool s.b]) (A[i].1,s):=⟨_,_,_,_,_,_,_,_,_,_,_,_,_,_,_,_,_,_,_,_,_,_,_,_,_,_,rfl,gl.le Sm,y⟩
  refine ⟨_,_,_,_,_,_,_,_,_,_,_,_,_,_,_,_,rfl,_,_,_,_,v,by omega,d.le,d.cap,rfl,tI he,fun sp c' k1 k2=>⟨(w1+1,c',_,((i+1:Nat):Int),M,N,O,t),by dsimp only;omega,by and_intros<;>rfl,(fun b o h=>Sm b o (l b o (F b o h))),A++[(A[i].1,s)],i+1,rfl,by omega,by rw [Qq2];omega,by rw [Qq2,Qm5];omega,rfl,rfl,rfl,t3,
   (d.mono (V':=V7.shut) fun _ _ g=>jQ.le g fun b o h=>Sm b o (l b o h)).snoc rfl (jQ.le he fun b o h=>h) (by decide) k1 k2,G.snoc ⟨ok.1,hc,u⟩ sl ⟨Sz.mono K.1,Sz.mono K.2⟩⟩⟩
 ·rintro r V9 l9 ⟨s,t,gs,hc,u,K,t3,v⟩;have y:=gs;obtain ⟨d1,q1,m1,f1,q2,m2,f2,d2,q3,m3,f3,q4,m4,Rf,rfl⟩:=po gs;have U3:P.Le V9:=fun b o h=>l9 b o (l8 b o h);refine ⟨_,_,_,_,_,_,_,_,_,_,_,_,_,_,_,_,rfl,_,_,_,_,v,fun fK B=>?_⟩;have he:RF fK (.agg #[.bool Q,.slice R T U,.bool Y,.slice Z n2 c2,.bool b3,.slice p3 n3 c3,.bool d1,.slice q1 m1 f1,.slice q2 m2 f2,.bool d2,.slice q3 m3 f3,.slice q4 m4 Rf,.bool s.a,.bool s.b]) A[i].1 s:=⟨_,_,_,_,_,_,_,_,_,_,_,_,_,_,_,_,_,_,_,_,_,_,_,_,_,_,rfl,gl.le fun b o h=>B b o (U3 b o h),y.le fun b o h=>B b o h⟩;refine (BE he).mono ?_;rintro r eO bA gv;have UE:jQ eO r (revL A[i].1,s.neg):=gv;obtain ⟨_,_,_,_,_,_,_,_,_,_,_,_,_,_,_,_,_,_,_,_,_,_,_,_,_,_,rfl⟩:=pj gv;have Lv:V3.Le eO:=fun b o h=>bA b o (B b o (U3 b o (l b o h)))
  refine ⟨_,_,_,_,_,_,_,_,_,_,_,_,_,_,_,_,_,_,_,_,_,_,_,_,_,_,_,_,rfl,by omega,d.le,d.cap,rfl,tI UE,fun sp c' k1 k2=>⟨(w1+1,c',_,((i+1:Nat):Int),M,N,O,t),by dsimp only;omega,by and_intros<;>rfl,(fun b o h=>Lv b o (F b o h)),A++[(revL A[i].1,s.neg)],i+1,rfl,by omega,by rw [Qq2];omega,by rw [Qq2,Qm5];omega,rfl,rfl,rfl,t3,
   (d.mono (V':=eO) fun _ _ g=>jQ.le g Lv).snoc rfl UE (by decide) k1 k2,G.snoc ⟨Kv ok.1,Iw ⟨hc,u⟩⟩ sl.rev (Sp.MY ⟨Sz.mono K.1,Sz.mono K.2⟩)⟩⟩
theorem Fg {s:Sp}(h:s.a=false):s.Cb.length=1:=by unfold Sp.Cb;rw [h];rfl
theorem E9 {s:Sp}(h:s.b=false):s.Ba.length=1:=by unfold Sp.Ba;rw [h];rfl
theorem Ft:∀{l:List Sp},rS l->(∀s∈l,s.a=false)->2*l.length<=fe l+1
 | [],_,_=>Qq9 _
 | [s],_,h=>by
  have:=Fg (h s (Qv5 ..));rw [mC,Qq2,Qm5];omega
 | s::z::r,h,ha=>by
  have c:=Ft h.tail fun x b=>ha x (Qq8 _ b);have d:=Fg (ha s (Qv5 ..));have e:=E9 (h.Dv (Qv5 ..)).1;rw [mC,Qq2,Qx2];omega
theorem M9:∀{l:List Sp},rS l->2*l.length<=fe l+2
 | [],_=>Qq9 _
 | [s],_=>by rw [Qm5];omega
 | s::z::r,h=>by
  have ih:=Ft h.tail fun x a=>(h.Dv a).2.1;have b:=E9 (h.Dv (Qv5 ..)).1;rw [mC,Qq2,Qx2];omega
theorem yH (A:List Sp):(combL 1 A []).length<=A.length+1:=by
 have a:=M9 (comb_reg 1 A []);have b:=JY 1 A [];have c:=HP A;have d:fe []=0:=rfl;omega
theorem uH {α:Type}(p:α->Bool):∀l:List α,(l.filter p).length+(l.filter fun x=>!p x).length=l.length
 | []=>rfl
 | x::r=>by
  have ih:=uH p r;rw [Qp8,Qp8];cases p x<;>simp<;>omega
theorem Cm:∀(L:List L3)(l:List (L3×Sp)),L.Pairwise pT->(L.map fun m=>(aJ m l).length).sum<=l.length
 | [],_,_=>Qq9 _
 | m::L,l,h=>by
  obtain ⟨h1,h2⟩:=Qk9.1 h
  have e:(L.map fun a=>(aJ a l).length)=L.map fun a=>(aJ a (l.filter fun x=>!decide (x.1=m))).length:=by
   refine Qj8 fun a hm=>?_;unfold aJ;rw [List.filter_filter];congr 2;refine List.filter_congr fun x _=>?_;by_cases c:x.1=a
   ·have:¬x.1=m:=fun e=>zf (show pT m m from by have:=h1 a hm;rw [←c,e] at this;exact this);simp [c,this];rw [c] at this;simpa using this
   ·simp [c]
  have b:=Cm L (l.filter fun x=>!decide (x.1=m)) h2;have f:=uH (fun x:L3×Sp=>decide (x.1=m)) l;rw [Qb9,List.sum_cons,e];have g:(aJ m l).length=(l.filter fun x=>decide (x.1=m)).length:=by unfold aJ;rw [Qj1]
  omega
theorem uZ (l:List L3):(bE l).length<=l.length:=by
 have:∀(l o:List L3),(l.foldl (fun o x=>j_ x o) o).length<=o.length+l.length:=by
  intro l
  induction l with
  | nil=>exact fun o=>Qq3 _
  | cons y r ih=>intro o;have a:=ih (j_ y o);have b:=B0 y o;rw [Qm8,Qx2];omega
 have:=this l [];simpa [bE] using this
theorem y_ (l:List (L3×Sp)):(joinF l).length<=2*l.length:=by
 have b:=Cm (bE (l.map Prod.fst)) l (bD _).1;have a:=uZ (l.map Prod.fst);rw [Qj1] at a;unfold joinF;generalize bE (l.map Prod.fst)=L at *
 have c:(L.flatMap fun m=>(combL 1 (aJ m l) []).map fun s=>(m,s)).length<=(L.map fun m=>(aJ m l).length).sum+L.length:=by
  clear b a
  induction L with
  | nil=>exact Qq3 _
  | cons m r ih=>
   have:=yH (aJ m l);rw [Qw5,Qq2,Qj1,Qb9,List.sum_cons,Qx2];omega
 omega
theorem H7 {l:List (L3×Sp)}{k m:Nat}(hm:1<=m)(h:∀f∈l,Dp f.1 f.2/\gN k f.1/\f.2.sz m):∀f∈joinF l,Dp f.1 f.2/\gN k f.1/\f.2.sz m:=fun f a=>by
 obtain ⟨m,hm,a⟩:=Qw6.1 a;obtain ⟨s,b,rfl⟩:=Qy5.1 a;obtain ⟨g,c,rfl⟩:=Qy5.1 (((bD _).2 _).1 hm);refine ⟨⟨(h g c).1.1,(comb_reg ..).1 s b⟩,(h g c).2.1,E5 (by assumption) (fun u hu=>?_) (fun u hu=>by cases hu) s b⟩;obtain ⟨x,d,rfl⟩:=Qy5.1 hu;exact (h x (Qn9.1 d).1).2.2
theorem HH {A:List Sp}(h:rS A):combL 1 A []=A:=by
 refine reg_eq (endsL (A++[])) (comb_reg ..) h fun t a=>?_;rw [comb_inB 1 _ _ a,inB_nil];unfold opB;simp
theorem vG (C:L3->List Sp)(m:L3):∀L:List L3,L.Pairwise pT->aJ m (L.flatMap fun m'=>(C m').map fun s=>(m',s))=if m∈L then C m else []
 | [],_=>rfl
 | k::L,h=>by
  obtain ⟨h1,h2⟩:=Qk9.1 h;have b:=vG C m L h2
  have f:aJ m ((k::L).flatMap fun m'=>(C m').map fun s=>(m',s))=aJ m ((C k).map fun s=>(k,s))++aJ m (L.flatMap fun m'=>(C m').map fun s=>(m',s)):=by
   unfold aJ;rw [Qw5,Qr9,Qm9]
  rw [f,b];by_cases c:m=k
  ·subst c;rw [if_neg fun hm=>zf (h1 m hm),if_pos (Qv5 ..),Qz5];unfold aJ;rw [List.filter_eq_self.2 fun x a=>by obtain ⟨s,-,rfl⟩:=Qy5.1 a;exact decide_eq_true rfl,Qs8];exact List.map_id _
  ·have e:aJ m ((C k).map fun s=>(k,s))=[]:=by
    unfold aJ;rw [Qs4.2 fun x a=>by obtain ⟨s,-,rfl⟩:=Qy5.1 a;simp;exact fun h=>c h.symm];rfl
   rw [e,Qn3];by_cases d:m∈L
   ·rw [if_pos d,if_pos (Qq8 _ d)]
   ·rw [if_neg d,if_neg fun h=>by rcases Qq6.1 h with h|h;exact c h;exact d h]
theorem lJ (C:L3->List Sp):∀L:List L3,((L.filter fun m=>!(C m).isEmpty).flatMap fun m=>(C m).map fun s=>(m,s))=L.flatMap fun m=>(C m).map fun s=>(m,s)
 | []=>rfl
 | k::L=>by
  rw [Qp8,Qw5]
  cases h:C k with
  | nil=>simp [lJ C L]
  | cons a r=>simp [lJ C L,h]
theorem uK {α β:Type}{f g:α->List β}:∀{L:List α},(∀m∈L,f m=g m)->L.flatMap f=L.flatMap g
 | [],_=>rfl
 | a::r,h=>by rw [Qw5,Qw5,h a (Qv5 ..),uK fun m hm=>h m (Qq8 _ hm)]
theorem B4 (l:List (L3×Sp)):joinF (joinF l)=joinF l:=by
 obtain ⟨c,t⟩:=bD (l.map Prod.fst);have e:joinF l=(bE (l.map Prod.fst)).flatMap fun m=>(combL 1 (aJ m l) []).map fun s=>(m,s):=rfl;generalize bE (l.map Prod.fst)=L at *;obtain ⟨C,d⟩:∃C:L3->List Sp,C=fun m=>combL 1 (aJ m l) []:=⟨_,rfl⟩;have e:joinF l=L.flatMap fun m=>(C m).map fun s=>(m,s):=by rw [e,d]
 have i:∀m,rS (C m):=fun m=>by rw [d];exact comb_reg ..
 obtain ⟨j,n⟩:=bD ((joinF l).map Prod.fst)
 have o:bE ((joinF l).map Prod.fst)=L.filter fun m=>!(C m).isEmpty:=by
  refine zF j (c.filter _) fun m=>?_;rw [n m,Qn9,e];constructor
  ·intro h;obtain ⟨x,b,rfl⟩:=Qy5.1 h;obtain ⟨k,p,b⟩:=Qw6.1 b;obtain ⟨s,f,rfl⟩:=Qy5.1 b;refine ⟨p,?_⟩
   cases h:C k with
   | nil=>rw [h] at f;cases f
   | cons a r=>simp [h]
  ·rintro ⟨hm,g⟩
   cases h:C m with
   | nil=>rw [h] at g;simp at g
   | cons a r=>exact Qy5.2 ⟨(m,a),Qw6.2 ⟨m,hm,Qy5.2 ⟨a,by rw [h];exact Qv5 ..,rfl⟩⟩,rfl⟩
 have q:joinF (joinF l)=(bE ((joinF l).map Prod.fst)).flatMap fun m=>(combL 1 (aJ m (joinF l)) []).map fun s=>(m,s):=rfl;rw [q,o];rw [show ((L.filter fun m=>!(C m).isEmpty).flatMap fun m=>(combL 1 (aJ m (joinF l)) []).map fun s=>(m,s))=(L.filter fun m=>!(C m).isEmpty).flatMap fun m=>(C m).map fun s=>(m,s) from ?_,lJ,←e];refine uK fun m hm=>?_;have hm:=(Qn9.1 hm).1;rw [e,vG C m L c,if_pos hm,HH (i m)]
theorem Ii {V:View}{p:OA}{n:Nat}{fs:List (L3×Sp)}(h:e_ 14 jQ V p n fs){i:Nat}(hi:i<fs.length) :
  p.isSome=true/\∃b1 p1 n1 c1 b2 p2 n2 c2 b3 p3 n3 c3 b p' n' c' p'' n'' c'' d q m e q' m' e',∃a,ah p (i*14)=some a/\V.at (a.add 0) (.bool b1)/\V.at (a.add 1) (.slice p1 n1 c1)/\V.at (a.add 2) (.bool b2)/\V.at (a.add 3) (.slice p2 n2 c2)/\V.at (a.add 4) (.bool b3)/\V.at (a.add 5) (.slice p3 n3 c3) /\
   V.at (a.add 6) (.bool b)/\V.at (a.add 7) (.slice p' n' c')/\V.at (a.add 8) (.slice p'' n'' c'')/\V.at (a.add 9) (.bool d)/\V.at (a.add 10) (.slice q m e)/\V.at (a.add 11) (.slice q' m' e')/\V.at (a.add 12) (.bool fs[i].2.a)/\V.at (a.add 13) (.bool fs[i].2.b) /\
   wJ V (.agg #[.bool b1,.slice p1 n1 c1,.bool b2,.slice p2 n2 c2,.bool b3,.slice p3 n3 c3]) fs[i].1/\oB V (.agg #[.bool b,.slice p' n' c',.slice p'' n'' c'',.bool d,.slice q m e,.slice q' m' e',.bool fs[i].2.a,.bool fs[i].2.b]) fs[i].2:=by
 obtain ⟨g,f,xs,-,j,c⟩:=h.at_ i hi;obtain ⟨_,_,_,_,_,_,_,_,_,_,_,_,_,_,_,_,_,_,_,_,_,_,_,_,_,_,ex,k,l⟩:=j;have ex:=congrArg Array.toList (Value.agg.inj ex);dsimp only at ex;subst ex;exact ⟨aQ f,_,_,_,_,_,_,_,_,_,_,_,_,_,_,_,_,_,_,_,_,_,_,_,_,_,_,g,f,c 0 _ rfl,c 1 _ rfl,c 2 _ rfl,c 3 _ rfl,c 4 _ rfl,c 5 _ rfl,c 6 _ rfl,c 7 _ rfl,c 8 _ rfl,c 9 _ rfl,c 10 _ rfl,c 11 _ rfl,c 12 _ rfl,c 13 _ rfl,k,l⟩
theorem B9 {l:List (L3×Sp)}{i:Nat}(hi:i<l.length):bE ((l.take (i+1)).map Prod.fst)=j_ l[i].1 (bE ((l.take i).map Prod.fst)):=by
 rw [←Qb0 hi,Qm9];unfold bE;rw [List.foldl_append];rfl
theorem AD {l:List (L3×Sp)}{i:Nat}(hi:i<l.length)(m:L3):aJ m (l.take (i+1))=aJ m (l.take i)++if l[i].1=m then [l[i].2] else []:=by
 unfold aJ;rw [←Qb0 hi,Qr9,Qm9];congr 1;by_cases h:l[i].1=m
 ·rw [if_pos h];simp [Qp8,h]
 ·rw [if_neg h];simp [Qp8,h]
theorem KR {V:View}{xs:List Value}{x:Sp}(h:oB V (.agg xs.toArray) x):∀v∈xs,v.oneCell'=true:=by
 obtain ⟨_,_,_,_,_,_,_,_,_,_,_,_,_,_,ex,-,-⟩:=h;have ex:=congrArg Array.toList (Value.agg.inj ex);dsimp only at ex;subst ex;intro v a;simp only [Qq6,Qk1,or_false] at a;rcases a with rfl|rfl|rfl|rfl|rfl|rfl|rfl|rfl<;>rfl
set_option maxHeartbeats 2000000 in
theorem zU {V:View}{p:OA}{n c:Nat}{fs:List (L3×Sp)}(h:e_ 14 jQ V p n fs)(hn:fs.length<=1000){k:Nat}(hs:∀f∈fs,gN k f.1/\f.2.sz k)(hk:4*k+8<274877906944:=by omega) :
  aa prog 27 #[.slice p n c] V fun r V'=>∃q m e,r=.slice q m e/\e_ 14 jQ V' q m (joinF fs):=by
 obtain rfl:=h.len
 refine x_ p _ c V _ ⟨fun z V'=>∃i:Nat,z.2.2.2=(i:Int)/\i<=fs.length/\GR 6 wJ V' z.1 z.2.1 z.2.2.1 (bE ((fs.take i).map Prod.fst)),fun z=>fs.length-z.2.2.2.toNat,
  ⟨(0,0,[],0),by and_intros<;>rfl,0,rfl,Qq9 _,GR.nil⟩,?_⟩
 rintro ⟨K,w2,us,z4⟩ V1 l1 ⟨i,v,NO,M⟩;dsimp only at v M;subst v;have g1:=M.len;have fc:=M.le;have fv:=M.cap;have fx:=M.row
 have Mr:∀q∈bE ((fs.take i).map Prod.fst),gN k q:=fun q hq=>by
  obtain ⟨y,hy,rfl⟩:=Qy5.1 (((bD _).2 q).1 hq);exact (hs y (Qb7 hy)).1
 have UK:(bE ((fs.take i).map Prod.fst)).length<=1000:=by
  have:=uZ ((fs.take i).map Prod.fst);rw [Qj1,Qq5] at this;omega
 refine ⟨rfl,fun d=>?_,fun d=>?_⟩
 ·have d:(i:Int)<fs.length:=of_decide_eq_true d;have N:i<fs.length:=by omega
  have w:i64.wrap ((i:Int)+1)=((i+1:Nat):Int):=by rw [ar (by omega)];rfl
  dsimp only;rw [Qq0,w];obtain ⟨is,eb,ep,en,ec,fb,fp,fn,fe,gb,gp,gn,gc,P,Q,R,S,T,U,W,X,Y,RO,Z,RT,OK,b0,ad,ha,a0,a1,a2,a3,a4,a5,a6,a7,a8,a9,N1,N2,E,Qo,A,-⟩:=Ii (h.le l1 fun _ _ g=>jQ.le g l1) N;have Li:=B9 N;have b4:=(hs _ (Qw7 N)).1;clear M;generalize bE ((fs.take i).map Prod.fst)=O at *;refine ⟨is,⟨by omega,by omega⟩,eb,ep,en,ec,fb,fp,fn,fe,gb,gp,gn,gc,P,Q,R,S,T,U,W,X,Y,RO,Z,RT,OK,b0,_,_,ad,ha,a0,a1,a2,a3,a4,a5,a6,a7,a8,a9,N1,N2,E,Qo,?_⟩;clear a0 a1 a2 a3 a4 a5 a6 a7 a8 a9 N1 N2 E Qo ha;generalize fs[i].1=x at *;refine ⟨fun z _=>∃j:Nat,z=(j:Int)/\j<=O.length/\∀(L:Nat)(h:L<O.length),L<j->iD O[L] x<0,fun z=>O.length-z.toNat,⟨0,by and_intros<;>rfl,0,rfl,Qq9 _,fun L _ h=>absurd h (Qd8 L)⟩,?_⟩;rintro z V2 l2 ⟨j,rfl,G_,jl⟩;have wj:i64.wrap ((j:Int)+1)=((j+1:Nat):Int):=by rw [ar (by omega)];rfl
  rw [Qq0,wj];refine ⟨rfl,fun z _=>z=true↔∃h:j<O.length,iD O[j] x<0,⟨fun d=>?_,fun d=>⟨false,by and_intros<;>rfl,?_⟩⟩,?_⟩
  ·have d:(j:Int)<(K:Int):=of_decide_eq_true d;have o:j<O.length:=by omega
   obtain ⟨b1,p1,n1,c1,b2,p2,n2,c2,b3,p3,n3,c3,eH,J1,hr⟩:=Ep fx o;refine ⟨⟨by omega,by omega⟩,fc,b1,p1,n1,c1,b2,p2,n2,c2,b3,p3,n3,c3,⟨eH,J1⟩,fun V5 l5=>(lF (wJ.le hr (l2.trans l5)) (wJ.le A (l2.trans l5)) (Mr _ (Qw7 o)) b4).mono ?_⟩;rintro r V6 l6 rfl;exact ⟨_,rfl,_,by and_intros<;>rfl,by dsimp only;rw [decide_eq_true_eq];exact ⟨fun h=>⟨o,h⟩,fun ⟨_,h⟩=>h⟩⟩
  ·have d:¬(j:Int)<(K:Int):=of_decide_eq_false d;exact ⟨(fun h=>nomatch h),fun ⟨h,_⟩=>absurd h (by omega)⟩
  rintro z V7 l7 O3;refine ⟨rfl,fun l=>?_,fun l=>?_⟩
  ·obtain ⟨o,b6⟩:=O3.1 l;refine ⟨((j+1:Nat):Int),by (try dsimp only);omega,by and_intros<;>rfl,j+1,rfl,o,fun L h c0=>?_⟩;by_cases e:L=j
   ·subst e;exact b6
   ·exact jl L h (by omega)
  have b7:∀h:j<O.length,¬iD O[j] x<0:=fun h F=>by
   have:=O3.2 ⟨h,F⟩;rw [l] at this;cases this
  have u:=Ki O j G_ jl b7;have dR:=l2.trans l7;refine ⟨fun z _=>z=true↔¬∃h:j<O.length,O[j]=x,⟨fun he=>⟨true,by and_intros<;>rfl,?_⟩,fun he=>?_⟩,?_⟩
  ·have he:(j:Int)=(K:Int):=by simpa using he
   exact ⟨fun _ ⟨h,_⟩=>absurd h (by omega),fun _=>rfl⟩
  ·have he:¬(j:Int)=(K:Int):=by simpa using he
   have o:j<O.length:=by omega
   obtain ⟨b1,p1,n1,c1,b2,p2,n2,c2,b3,p3,n3,c3,eH,J1,hr⟩:=Ep fx o;refine ⟨⟨by omega,by omega⟩,fc,b1,p1,n1,c1,b2,p2,n2,c2,b3,p3,n3,c3,⟨eH,J1⟩,fun V8 l8=>(lF (wJ.le hr (dR.trans l8)) (wJ.le A (dR.trans l8)) (Mr _ (Qw7 o)) b4).mono ?_⟩;rintro r V9 l9 rfl;exact ⟨_,rfl,_,by and_intros<;>rfl,by dsimp only;rw [bne_iff_ne,ne_eq,zY];exact ⟨fun h ⟨_,F⟩=>h F,fun h F=>h ⟨o,F⟩⟩⟩
  rintro z fK G H4;have MP:=dR.trans G;refine ⟨rfl,fun l eO bA bk hb J=>?_,fun l=>?_⟩
  ·have b8:=H4.1 l;rw [if_neg b8] at u;obtain ⟨xs,ys,x1,x2,x3,y1,y2,y3,r1,r2,r3,r4,r5⟩:=E_ (V:=eO) (GR.mono ⟨g1,fc,fv,fx⟩ fun _ _ g=>wJ.le g (MP.trans bA)) (by decide) (fun _ _=>KO) hb (es:=[_,_,_,_,_,_]) rfl (wJ.le A (MP.trans bA)) (j:=j);refine ⟨⟨by omega,by omega⟩,⟨by omega,by omega⟩,⟨by omega,by omega⟩,xs,x1,x2,by omega,Qq3 _,Qq3 6,x2,x3,fun c7 J2 sp c' h1 h2=>?_⟩;rw [r1,r2];refine ⟨ys,y1,y2,Qq3 _,y3,by omega,by omega,r3,r4,fun b9 B h3 h4=>⟨(j+(1+(K-j)),B,_,((i+1:Nat):Int)),by dsimp only;omega,by and_intros<;>first|rfl|omega,i+1,rfl,N,?_⟩⟩;show GR 6 wJ _ _ _ _ (bE ((fs.take (i+1)).map Prod.fst));rw [Li,u];exact r5 b9 B h3 h4
  ·have hex:∃h:j<O.length,O[j]=x:=Qp6 fun h=>by have:=H4.2 h;rw [l] at this;cases this
   rw [if_pos hex] at u;refine ⟨(K,w2,us,((i+1:Nat):Int)),by dsimp only;omega,by and_intros<;>rfl,i+1,rfl,N,?_⟩;show GR 6 wJ _ _ _ _ (bE ((fs.take (i+1)).map Prod.fst));rw [Li,u];exact ⟨g1,fc,fv,fx.le fun _ _ g=>wJ.le g MP⟩
 have d:¬(i:Int)<fs.length:=of_decide_eq_false d;obtain rfl:i=fs.length:=by omega
 rw [Qk2] at g1 fx Mr UK;have eJ:joinF fs=(bE (fs.map Prod.fst)).flatMap fun m=>(combL 1 (aJ m fs) []).map fun s=>(m,s):=rfl;rw [eJ];clear eJ M;generalize bE (fs.map Prod.fst)=O at *;obtain ⟨C,hC⟩:∃C:L3->List Sp,C=fun m=>combL 1 (aJ m fs) []:=⟨_,rfl⟩;have b5:∀m,(aJ m fs).length<=fs.length:=fun m=>by unfold aJ;rw [Qj1];exact List.length_filter_le ..
 have Cl:∀m,(C m).length<=fs.length+1:=fun m=>by rw [hC];exact Qx6 (yH _) (Nat.succ_le_succ (b5 m))
 rw [show (fun m=>(combL 1 (aJ m fs) []).map fun s=>(m,s))=fun m=>(C m).map fun s=>(m,s) from by rw [hC]]
 refine ⟨fun z V'=>∃a:Nat,z.2.2.2=(a:Int)/\a<=O.length/\GR 14 jQ V' z.1 z.2.1 z.2.2.1 ((O.take a).flatMap fun m=>(C m).map fun s=>(m,s))/\((O.take a).flatMap fun m=>(C m).map fun s=>(m,s)).length<=1001*a,fun z=>O.length-z.2.2.2.toNat,
  ⟨(0,0,[],0),by and_intros<;>rfl,0,rfl,Qq9 _,GR.nil,Qq9 _⟩,?_⟩
 rintro ⟨n2,c2,os,z4⟩ fK G ⟨a,v,Y2,og,XL⟩;dsimp only at v og;subst v;refine ⟨rfl,fun d=>?_,fun d pR dR bk hb=>?_⟩;rotate_left
 ·have d:¬(a:Int)<(K:Nat):=of_decide_eq_false d;obtain rfl:a=O.length:=by omega
  rw [Qk2] at og;have:=e_.dJ hb (og.row.le fun _ _ g=>jQ.le g dR) (by decide) (by rw [←og.len];exact og.le);rw [←og.len] at this;exact ⟨_,_,_,rfl,this⟩
 have d:(a:Int)<(K:Nat):=of_decide_eq_true d;have ha:a<O.length:=by omega
 have wa:i64.wrap ((a:Int)+1)=((a+1:Nat):Int):=by rw [ar (by omega)];rfl
 dsimp only;rw [Qq0,wa];obtain ⟨b1,p1,n1,c1,b2,p2,Su,B,b3,p3,n3,c3,eH,J1,hm⟩:=Ep (fx.le fun _ _ g=>wJ.le g G) ha;have X_:=Mr _ (Qw7 ha);have tk:O.take (a+1)=O.take a++[O[a]]:=(Qb0 ha).symm;have fm:(O.take (a+1)).flatMap (fun m=>(C m).map fun s=>(m,s))=(O.take a).flatMap (fun m=>(C m).map fun s=>(m,s))++(C O[a]).map fun s=>(O[a],s):=by rw [tk,Qc6,List.flatMap_singleton]
 have YV:=Cl O[a];have Zy:=b5 O[a];have eC:C O[a]=combL 1 (aJ O[a] fs) []:=by rw [hC]
 generalize O[a]=m at *
 refine ⟨⟨by omega,by omega⟩,fc,b1,p1,n1,c1,b2,p2,Su,B,b3,p3,n3,c3,⟨eH,J1⟩,fun z V'=>∃j:Nat,z.2.2.2=(j:Int)/\j<=fs.length/\GR 8 oB V' z.1 z.2.1 z.2.2.1 (aJ m (fs.take j)),fun z=>fs.length-z.2.2.2.toNat,
  ⟨(0,0,[],0),by and_intros<;>rfl,0,rfl,Qq9 _,GR.nil⟩,?_⟩
 rintro ⟨n4,c4,vs,z4⟩ eO bA ⟨j,v,G_,H⟩;dsimp only at v H;subst v;have Tg:=H.len;refine ⟨rfl,fun d=>?_,fun d mr eB bk hb=>?_⟩
 ·have d:(j:Int)<fs.length:=of_decide_eq_true d;have o:j<fs.length:=by omega
  have w:i64.wrap ((j:Int)+1)=((j+1:Nat):Int):=by rw [ar (by omega)];rfl
  dsimp only;rw [Qq0,w];have Lt:=G.trans bA;obtain ⟨is,eb,ep,en,ec,fb,fp,fn,fe,gb,gp,gn,gc,P,Q,R,S,T,U,W,X,Y,RO,Z,RT,OK,b0,ad,h0,a0,a1,a2,a3,a4,a5,a6,a7,a8,a9,N1,N2,E,Qo,A,I⟩:=Ii (h.le (l1.trans Lt) fun _ _ g=>jQ.le g (l1.trans Lt)) o;have ss:=AD o m;have sl:(aJ m (fs.take j)).length<=1000:=by unfold aJ;rw [Qj1];have:=List.length_filter_le (fun x:L3×Sp=>decide (x.1=m)) (fs.take j);rw [Qq5] at this;omega
  refine ⟨is,⟨by omega,by omega⟩,eb,ep,en,ec,fb,fp,fn,fe,gb,gp,gn,gc,P,Q,R,S,T,U,W,X,Y,RO,Z,RT,OK,b0,_,_,ad,h0,a0,a1,a2,a3,a4,a5,a6,a7,a8,a9,N1,N2,E,Qo,fun gW cu=>(lF (wJ.le A cu) (wJ.le hm (bA.trans cu)) (hs _ (Qw7 o)).1 X_).mono ?_⟩;rintro r lx cD rfl;refine ⟨_,rfl,fun l=>?_,fun l=>⟨(n4,c4,vs,((j+1:Nat):Int)),by dsimp only;omega,by and_intros<;>rfl,j+1,rfl,o,?_⟩⟩
  ·have l:=zY.1 (beq_iff_eq.1 l);rw [if_pos l] at ss;refine ⟨by omega,H.le,H.cap,rfl,KR I,fun sp c' k1 k2=>⟨(n4+1,c',_,((j+1:Nat):Int)),by dsimp only;omega,by and_intros<;>rfl,j+1,rfl,o,?_⟩⟩;rw [ss];exact (H.mono (V':=lx) fun _ _ g=>oB.le g (cu.trans cD)).snoc rfl (oB.le I (cu.trans cD)) (by decide) k1 k2
  ·have l:¬fs[j].1=m:=fun e=>by rw [zY.2 e] at l;cases l
   rw [if_neg l,Qz5] at ss;rw [ss];exact H.mono fun _ _ g=>oB.le g (cu.trans cD)
 have d:¬(j:Int)<fs.length:=of_decide_eq_false d;obtain rfl:j=fs.length:=by omega
 rw [Qk2] at H Tg;have hA:=e_.dJ hb (H.row.le fun _ _ g=>oB.le g eB) (by decide) (by rw [←Tg];exact H.le);rw [←Tg] at hA;refine (sE (op:=1) (la':=aJ m fs) (lb':=[]) (Aj hA) ⟨rfl,fun i N=>absurd N (Qd8 i)⟩ (by rw [Qj9];omega) (fun s F=>by obtain ⟨f,hf,rfl⟩:=Qy5.1 F;exact (hs f (Qn9.1 hf).1).2) (fun s F=>by cases F) hk).mono ?_;rintro r mV dw ⟨q,n5,c5,rfl,hR⟩;rw [←eC] at hR;have hR:=hR.So;refine ⟨_,_,_,rfl,fun J=>?_⟩;clear eC;generalize C m=D at *;obtain rfl:=hR.len;have H9:=bA.trans (eB.trans dw);refine ⟨fun z V'=>∃t:Nat,z.2.2.2=(t:Int)/\t<=D.length/\GR 14 jQ V' z.1 z.2.1 z.2.2.1 ((O.take a).flatMap (fun m=>(C m).map fun s=>(m,s))++(D.take t).map fun s=>(m,s)),fun z=>D.length-z.2.2.2.toNat,⟨(n2,c2,os,0),by and_intros<;>rfl,0,rfl,Qq9 _,?_⟩,?_⟩
 ·rw [Qc7,Wx8,Qz5];exact og.mono fun _ _ g=>jQ.le g H9
 rintro ⟨n6,c6,ts,z4⟩ rz dY ⟨t,v,Zz,tg⟩;dsimp only at v tg;subst v;have Ya:=tg.len;rw [Qq2,Qj1,Qq5] at Ya;refine ⟨rfl,fun d=>?_,fun d=>?_⟩
 ·have d:(t:Int)<(D.length:Nat):=of_decide_eq_true d;have ht:t<D.length:=by omega
  have w:i64.wrap ((t:Int)+1)=((t+1:Nat):Int):=by rw [ar (by omega)];rfl
  dsimp only;rw [Qq0,w];obtain ⟨is,d1,q1,m1,f1,q2,m2,f2,d2,q3,m3,f3,q4,m4,f4,ad,h0,a0,a1,a2,a3,a4,a5,a6,a7,I⟩:=Ks (hR.le dY fun _ _ g=>oB.le g dY) ht;have he:jQ rz (.agg #[.bool b1,.slice p1 n1 c1,.bool b2,.slice p2 Su B,.bool b3,.slice p3 n3 c3,.bool d1,.slice q1 m1 f1,.slice q2 m2 f2,.bool d2,.slice q3 m3 f3,.slice q4 m4 f4,.bool D[t].a,.bool D[t].b]) (m,D[t]):=⟨_,_,_,_,_,_,_,_,_,_,_,_,_,_,_,_,_,_,_,_,_,_,_,_,_,_,rfl,wJ.le hm (H9.trans dY),I⟩;refine ⟨is,⟨by omega,by omega⟩,_,_,_,_,_,_,_,_,_,_,_,_,_,_,_,_,ad,h0,a0,a1,a2,a3,a4,a5,a6,a7,by omega,tg.le,tg.cap,rfl,tI he,fun sp c' k1 k2=>⟨(n6+1,c',_,((t+1:Nat):Int)),by dsimp only;omega,by and_intros<;>rfl,t+1,rfl,ht,?_⟩⟩;rw [←Qb0 ht,Qm9,←Qy4];exact tg.snoc (a:=(m,D[t])) rfl he (by decide) k1 k2
 ·have d:¬(t:Int)<(D.length:Nat):=of_decide_eq_false d;obtain rfl:t=D.length:=by omega
  rw [Qk2] at tg;exact ⟨(n6,c6,ts,((a+1:Nat):Int)),by dsimp only;omega,by and_intros<;>rfl,a+1,rfl,ha,by rw [fm];exact tg,by rw [fm,Qq2,Qj1];omega⟩
theorem Fv {V:View}{p:OA}{n:Nat}{fs:List (L3×Sp)}(h:e_ 14 L8 V p n fs):oD V p n fs:=⟨h.len,fun i a=>by
 obtain ⟨b,c,xs,-,d,e⟩:=h.at_ i a;exact ⟨b,c,xs,d,e⟩⟩
theorem F_ {V:View}{p q:OA}{n c m e:Nat}{fs:List (L3×Sp)}(hp:oD V p n fs)(hq:e_ 14 jQ V q m fs){k:Nat}(hs:∀f∈fs,gN k f.1/\f.2.sz k)(hk:k<=1099511627776)(hn:fs.length<=1000000:=by omega) :
  aa prog 22 #[.slice p n c,.slice q m e] V fun r V'=>r=.bool true:=by
 refine qW p n c q m e V _ fun h a=>(lj (hq.le a fun _ _ g=>jQ.le g a) hn hs hk).mono ?_;rintro r l d ⟨u,i,j,rfl,g⟩;refine ⟨_,_,_,rfl,fun o b=>(mX (hp.le (a.trans (d.trans b))) (Fv (g.le b fun _ _ g=>zB.le g b)) hs hk).mono ?_⟩;rintro r s t rfl;exact ⟨_,rfl,fun v w=>rfl⟩
theorem sk {V:View}{lp:OA}{ln lc:Nat}(hr:ES V lp ln)(hc:ln<=lc) :
  aa prog 4 #[.slice lp ln lc] V fun r V'=>r=.bool true:=by
 refine kZ lp ln lc V _ fun T U=>(BF hc).mono ?_;rintro r V2 X ⟨y,rfl,l,Y⟩;refine ⟨y,_,_,_,_,rfl,l,Y,fun z Z Ul G h4=>?_⟩;have k:T.Le z:=Ic X l Z;have s:min ln 400<=400:=Nat.min_le_right _ _;have hr:ES V lp (min ln 400):=fun i hi=>hr i (Qx7 hi (Nat.min_le_left _ _));generalize min ln 400=n at *;have H8:V.Le z:=U.trans k;refine (zP (V:=z.ay [Ul]) (hr.le fun b o h=>H8 b o h) s G ⟨by simp,h4⟩ (Wx2 0)).mono ?_;rintro r V4 l4 ⟨q0,n0,e0,x,G4,rfl,t,h8,d,t1,A⟩;have H:∀f∈x,gN 5000 f.1/\f.2.sz 5000:=fun f a=>⟨⟨(d f a).2.1.1.mono (by omega),(d f a).2.1.2.1.mono (by omega),(d f a).2.1.2.2.mono (by omega)⟩,(d f a).2.2⟩;have j:∀f∈x,Dp f.1 f.2/\gN 1000 f.1/\f.2.sz 5000:=d;have u:=H7 (by decide) j;have Zf:=y_ x;have I:∀f∈joinF x,gN 5000 f.1/\f.2.sz 5000:=fun f a=>⟨⟨(u f a).2.1.1.mono (by omega),(u f a).2.1.2.1.mono (by omega),(u f a).2.1.2.2.mono (by omega)⟩,(u f a).2.2⟩
 have J:∀{W:View} {p:OA} {n c:Nat} {gs:List (L3×Sp)},gs.length<=16->(∀f∈gs,Dp f.1 f.2/\gN 1000 f.1/\f.2.sz 5000)->oD W p n gs->aa prog 25 #[.slice p n c] W fun r V'=>∃q m e,r=.tuple #[.slice q m e,.nilIface]/\oD V' q m (joinF gs):=fun {W p n c gs} hl ok h=>
  Bu h (by omega) (fun f a=>by have:=(ok f a).2.1;exact ⟨this.1.mono (by omega),this.2.1.mono (by omega),this.2.2.mono (by omega)⟩) (fun f a=>by have:=(ok f a).2.2;exact ⟨this.1.mono (by omega),this.2.mono (by omega)⟩) (fun f a=>(ok f a).1) (by have:=y_ gs;omega) (fun i _=>Nd i)
 refine ⟨_,_,_,rfl,_,_,_,_,A,fun V5 B=>(lj (t.le (fun b o h=>B b o h) fun _ _ g=>jQ.le g fun b o h=>B b o h) (by omega) H).mono ?_⟩;rintro r V6 l6 ⟨q1,n1,e1,rfl,hx⟩;have C:V4.Le V6:=fun b o h=>l6 b o (B b o h);refine ⟨_,_,_,rfl,fun V7 D=>(J (by omega) j (Fv (hx.le D fun _ _ g=>zB.le g D))).mono ?_⟩;rintro r V8 l8 ⟨q2,n2,e2,rfl,E⟩;refine ⟨_,_,_,_,rfl,fun V9 K=>(J (by omega) u (E.le K)).mono ?_⟩;rintro r fK F ⟨q3,n3,e3,rfl,v⟩;rw [B4] at v;refine ⟨_,_,_,_,rfl,fun eO L=>HD.mono ?_⟩;rintro r gW M rfl;have N:=K.trans (F.trans (L.trans M));have O:=C.trans (D.trans (l8.trans N));refine ⟨_,rfl,fun _=>⟨yZ,fun _=>⟨yZ,fun _ lx k=>(zU (t.le (O.trans k) fun _ _ g=>jQ.le g (O.trans k)) (by omega) H).mono ?_,(fun h=>nomatch h)⟩,(fun h=>nomatch h)⟩,(fun h=>nomatch h)⟩;rintro r mr P ⟨q4,n4,G,rfl,hj⟩;have Q:=N.trans (k.trans P);refine ⟨_,_,_,rfl,fun mV w=>(F_ (E.le (Q.trans w)) (hj.le w fun _ _ g=>jQ.le g w) I (by omega)).mono ?_⟩;rintro r rz R rfl;refine ⟨_,rfl,fun _ pR S=>(mX (E.le (Q.trans (w.trans (R.trans S)))) (v.le (L.trans (M.trans (k.trans (P.trans (w.trans (R.trans S))))))) I (by omega)).mono ?_,(fun h=>nomatch h)⟩;rintro r wS hJ rfl;exact ⟨_,rfl,fun Dk iW=>rfl⟩
end Go.Proofs.Tryz
