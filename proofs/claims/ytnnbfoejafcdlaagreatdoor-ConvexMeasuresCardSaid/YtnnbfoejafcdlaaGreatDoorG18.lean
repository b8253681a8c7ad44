import Derived.Test.YtnnbfoejafcdlaaGreatDoorG17
import Derived.Test.YtnnbfoejafcdlaaGreatDoorG15
import Derived.Test.YtnnbfoejafcdlaaGreatDoorG16
import Derived.Test.YtnnbfoejafcdlaaGreatDoorG5
import Derived.Test.YtnnbfoejafcdlaaGreatDoorG9
import Derived.Test.YtnnbfoejafcdlaaGreatDoorG7
import Derived.Test.YtnnbfoejafcdlaaGreatDoorG8
set_option linter.unusedVariables false
open Go.IntKind (i64 u64 u32)
namespace Go.Proofs.Tryz
open Go.bM Go.fR
def Lo (v:ai.V2):ai.V2:=(-v.1,-v.2)
def eu (S:List L3):List ai.V2:=S.flatMap fun l=>[ai.au l,Lo (ai.au l)]
def ib (S:List L3)(v:ai.V2):Bool:=S.all fun l=>decide (0<=ai.cr (ai.au l) v)
def FE (S:List L3):Bool:=decide (S≠[])&&(eu S).all fun v=>!ib S v
theorem DP (S:List L3):(eu S).length=2*S.length:=by
 unfold eu
 induction S with
 | nil=>rfl
 | cons l r ih=>rw [List.flatMap_cons,List.length_append,ih];simp;omega
theorem IH {S:List L3}{i:Nat}(h:i<S.length):eu (S.take (i+1))=eu (S.take i)++[ai.au S[i],Lo (ai.au S[i])]:=by
 unfold eu
 rw [←List.take_append_getElem h,List.flatMap_append]
 simp
theorem Bk {S:List L3}{v:ai.V2}:ib S v=true↔∀l∈S,0<=ai.cr (ai.au l) v:=by
 unfold ib
 rw [List.all_eq_true]
 exact ⟨fun h l a=>of_decide_eq_true (h l a),fun h l a=>decide_eq_true (h l a)⟩
theorem MM {M:List L3}{c:List Sd}(h:gV M c)(hk:∀m∈M,dH m=true):FE (c.map Prod.fst)=oG c:=by
 have b:=(JT c).trans (Pw h hk)
 have d:FE (c.map Prod.fst)=true↔c.map Prod.fst≠[]/\∀u∈c.map Prod.fst,(¬∀l∈c.map Prod.fst,0<=ai.cr (ai.au l) (ai.au u))/\¬∀l∈c.map Prod.fst,0<=ai.cr (ai.au l) (-(ai.au u).1,-(ai.au u).2):=by
  unfold FE
  rw [Bool.and_eq_true,decide_eq_true_eq,List.all_eq_true]
  refine and_congr Iff.rfl ?_
  generalize c.map Prod.fst=S
  constructor
  ·intro g u hu
   have k:∀v,v∈[ai.au u,Lo (ai.au u)]->¬∀l∈S,0<=ai.cr (ai.au l) v:=fun v a f=>by
    have:=g v (List.mem_flatMap.2 ⟨u,hu,a⟩)
    rw [Bk.2 f] at this;cases this
   exact ⟨k _ (by simp),k (Lo (ai.au u)) (by simp)⟩
  ·intro g v a
   obtain ⟨u,hu,a⟩:=List.mem_flatMap.1 a
   obtain ⟨i,j⟩:=g u hu
   cases e:ib S v
   ·rfl
   ·exfalso
    have:=Bk.1 e
    simp only [List.mem_cons,List.not_mem_nil,or_false] at a
    rcases a with rfl|rfl
    ·exact i this
    ·exact j this
 cases b1:FE (c.map Prod.fst)<;>cases b2:oG c<;>first|rfl|exfalso
 ·rw [b2] at b;rw [b1] at d;have:=d.2 (b.1 rfl);cases this
 ·rw [b2] at b;rw [b1] at d;have:=b.2 (d.1 rfl);cases this
theorem N0 {R:View->Value->Rat×Rat->Prop}{V:View}{a b:List Value}{p q:Rat×Rat}(la:a.length=6)(lb:b.length=6)(ha:R V (.agg a.toArray) p)(hb:R V (.agg b.toArray) q):Row 6 R V (a++b) [p,q]:=by
 have:=jK (V:=V) (sp:=[]) (row_one la ha) (row_one lb hb) (by decide)
 rw [List.append_nil,List.take_of_length_le (by simp;omega)] at this
 exact this
theorem Qq {b1 b2 b3 b4:Bool}{p1 p2 p3 p4 q1 q2 q3 q4:OA}{n1 c1 n2 c2 n3 c3 n4 c4 m1 d1 m2 d2 m3 d3 m4 d4:Nat}:∀v∈([.bool b1,.slice p1 n1 c1,.slice p2 n2 c2,.bool b2,.slice p3 n3 c3,.slice p4 n4 c4,.bool b3,.slice q1 m1 d1,.slice q2 m2 d2,.bool b4,.slice q3 m3 d3,.slice q4 m4 d4]:List Value),v.oneCell'=true:=fun v a=>by
 simp only [List.mem_cons,List.not_mem_nil,or_false] at a
 rcases a with rfl|rfl|rfl|rfl|rfl|rfl|rfl|rfl|rfl|rfl|rfl|rfl<;>rfl
theorem MZ {S:List L3}(hb:∀l∈S,Bd l):∀v∈eu S,Sz 1000 v.1/\Sz 1000 v.2:=fun v a=>by
 obtain ⟨l,b,a⟩:=List.mem_flatMap.1 a
 obtain ⟨s1,s2⟩:=eo (hb l b)
 simp only [List.mem_cons,List.not_mem_nil,or_false] at a
 rcases a with rfl|rfl
 ·exact ⟨s1,s2⟩
 ·exact ⟨s1.neg,s2.neg⟩
theorem TO (x:Rat):decide (x.num.sign≥0)=decide (0<=x):=by
 refine decide_eq_decide.2 ?_
 rcases ko x with ⟨h,e⟩|⟨h,e⟩|⟨h,e⟩<;>rw [e]
 ·rw [h];decide
 ·exact ⟨fun _=>Rat.le_of_lt h,fun _=>by decide⟩
 ·exact ⟨fun g=>absurd g (by decide),fun g=>by grind⟩
theorem t_ {V:View}{p:OA}{n c:Nat}{S:List L3}(h:cB 6 ck V p n S)(hb:∀l∈S,Bd l)(hn:S.length<=100000) :
  ab prog 31 #[.slice p n c] V fun r V'=>r=.bool (FE S):=by
 obtain rfl:=h.len
 have hL:∀{W:View},V.Le W->cB 6 ck W p S.length S:=fun g=>h.le g fun _ _ k=>ck.le k g
 refine te p _ c V _ ⟨fun z V'=>∃j:Nat,z.2.2.2=(j:Int)/\j<=S.length/\GR 6 jS V' z.1 z.2.1 z.2.2.1 (eu (S.take j)),fun z=>S.length-z.2.2.2.toNat,⟨(0,0,[],0),by and_intros<;>first|rfl|trivial,0,rfl,Nat.zero_le _,GR.nil⟩,?_⟩
 rintro ⟨H,z2,vs,z4⟩ V1 l1 ⟨j,e4,AU,m⟩
 dsimp only at e4 m
 subst e4
 refine ⟨rfl,fun d=>?_,fun d=>?_⟩
 ·have d:(j:Int)<S.length:=of_decide_eq_true d
  have q:j<S.length:=by omega
  have w:i64.wrap ((j:Int)+1)=((j+1:Nat):Int):=by rw [ay (by omega)];rfl
  dsimp only
  rw [w,Int.toNat_natCast]
  obtain ⟨I,b1,J,K,M,b2,N,O,P,b3,Q,R,T,a,U,X,Y,Z,a3,a4,a5,G⟩:=i_ (hL l1) q
  have y:=hb _ (List.getElem_mem q)
  have o:=y.fa
  have A:=eo y
  have ds:=IH q
  have dl:=DP (S.take j)
  rw [List.length_take] at dl
  generalize S[j]=L at *
  refine ⟨I,⟨by omega,by omega⟩,b1,J,K,M,b2,N,O,P,b3,Q,R,T,a,U,X,Y,Z,a3,a4,a5,fun V2 l2=>(bN (G.le l2) o.1 o.2.1 o.2.2 (by omega)).mono ?_⟩
  rintro r V3 l3 B
  have t:jS V3 r (ai.au L):=B
  obtain ⟨_,_,_,_,_,_,_,_,_,_,_,_,rfl,-⟩:=B
  refine ⟨_,_,_,_,_,_,_,_,_,_,_,_,_,_,rfl,fun V4 l4=>(bN (G.le (l2.trans (l3.trans l4))) o.1 o.2.1 o.2.2 (by omega)).mono ?_⟩
  rintro r V5 l5 g2
  have a6:jS V5 r (ai.au L):=g2
  obtain ⟨_,_,_,_,_,_,_,_,_,_,_,_,rfl,-⟩:=g2
  refine ⟨_,_,_,_,_,_,_,_,_,_,_,_,_,_,rfl,fun V6 l6=>(Dx (p:=ai.au L) (jS.le a6 l6) A.1 A.2 (by omega)).mono ?_⟩
  rintro r V7 l7 C
  have iR:jS V7 r (Lo (ai.au L)):=C
  obtain ⟨_,_,_,_,_,_,_,_,_,_,_,_,rfl,-⟩:=C
  have cQ:=l2.trans (l3.trans (l4.trans (l5.trans (l6.trans l7))))
  have gl:=m.len
  refine ⟨_,_,_,_,_,_,_,_,_,_,_,_,_,_,rfl,by omega,m.le,m.cap,rfl,Qq,fun sp c' h1 h2=>⟨(H+2,c',_,((j+1:Nat):Int)),by dsimp only;omega,by and_intros<;>first|rfl|trivial,j+1,rfl,q,?_⟩⟩
  have hR:=jK (sp:=sp) (m.row.le (V':=V7) fun _ _ g=>jS.le g cQ) (N0 (a:=[_,_,_,_,_,_]) (b:=[_,_,_,_,_,_]) rfl rfl (jS.le t (l4.trans (l5.trans (l6.trans l7)))) iR) (by decide)
  dsimp only
  rw [ds]
  have b0:=m.cap
  rw [gl] at *
  refine ⟨by rw [List.length_append];rfl,by omega,?_,hR⟩
  rw [List.length_append,List.length_append,List.length_take]
  simp only [List.length_cons,List.length_nil]
  have:=m.row.iM (by decide)
  omega
 have d:¬(j:Int)<S.length:=of_decide_eq_false d
 obtain rfl:j=S.length:=by omega
 rw [List.take_length] at m
 have gl:=m.len
 have dl:=DP S
 refine ⟨fun x V8 l8=>?_,fun x=>?_⟩
 ·have x:((H:Nat):Int)=0:=by simpa using x
  have e:S=[]:=List.length_eq_zero_iff.1 (by omega)
  rw [e];rfl
 have x:¬((H:Nat):Int)=0:=by simpa using x
 have a7:S≠[]:=fun e=>x (have:=List.length_eq_zero_iff.2 e;by omega)
 subst gl
 refine ⟨fun z _=>∃i:Nat,z=(i:Int)/\i<=(eu S).length/\∀(k:Nat)(g:k<(eu S).length),k<i->ib S (eu S)[k]=false,fun z=>((eu S).length-z).toNat,⟨0,by and_intros<;>first|rfl|trivial,0,rfl,Nat.zero_le _,fun k _ g=>absurd g (Nat.not_lt_zero k)⟩,?_⟩
 rintro z V9 l9 ⟨i,rfl,Us,s⟩
 refine ⟨rfl,fun d=>?_,fun d pe dF=>?_⟩
 rotate_left
 ·have d:¬(i:Int)<(eu S).length:=of_decide_eq_false d
  obtain rfl:i=(eu S).length:=by omega
  unfold FE
  rw [decide_eq_true a7,Bool.true_and]
  have:((eu S).all fun v=>!ib S v)=true:=by
   rw [List.all_eq_true]
   intro v hv
   obtain ⟨k,hk,rfl⟩:=List.mem_iff_getElem.1 hv
   rw [s k hk hk];rfl
  rw [this]
 have d:(i:Int)<(eu S).length:=of_decide_eq_true d
 have q:i<(eu S).length:=by omega
 have w:i64.wrap ((i:Int)+1)=((i+1:Nat):Int):=by rw [ay (by omega)];rfl
 rw [w,Int.toNat_natCast]
 obtain ⟨b1,J,K,M,N,O,P,b2,Q,R,T,p4,n4,c4,fh,Kh,gv⟩:=GO jS.shape (m.row.le (V':=V9) fun _ _ g=>jS.le g l9) q
 obtain ⟨a8,a9⟩:=MZ hb _ (List.getElem_mem q)
 have D:(eu S)[i]∈eu S:=List.getElem_mem q
 have Uy:ib S (eu S)[i]=false->∀(k:Nat)(g:k<(eu S).length),k<i+1->ib S (eu S)[k]=false:=fun e k g hk=>by
  by_cases e':k=i
  ·subst e';exact e
  ·exact s k g (by omega)
 generalize (eu S)[i]=v at *
 refine ⟨⟨by omega,by omega⟩,m.le,b1,J,K,M,N,O,P,b2,Q,R,T,p4,n4,c4,⟨fh,Kh⟩,fun z _=>∃j:Nat,z.2=(j:Int)/\j<=S.length/\z.1=ib (S.take j) v,fun z=>(S.length-z.2).toNat,⟨(true,0),by and_intros<;>first|rfl|trivial,0,rfl,Nat.zero_le _,rfl⟩,?_⟩
 rintro ⟨st,b5⟩ iI E ⟨j,ej,AU,f⟩
 dsimp only at ej f ⊢
 subst ej
 refine ⟨rfl,fun d=>?_,fun d=>⟨fun u mZ cQ=>?_,fun u=>⟨((i+1:Nat):Int),by omega,by and_intros<;>first|rfl|trivial,i+1,rfl,q,Uy ?_⟩⟩⟩
 rotate_left
 ·have d:¬(j:Int)<S.length:=of_decide_eq_false d
  obtain rfl:j=S.length:=by omega
  rw [List.take_length] at f
  unfold FE
  have:((eu S).all fun v=>!ib S v)=false:=by
   rw [List.all_eq_false]
   exact ⟨v,D,by rw [←f,u];decide⟩
  rw [this,Bool.and_false]
 ·have d:¬(j:Int)<S.length:=of_decide_eq_false d
  obtain rfl:j=S.length:=by omega
  rw [List.take_length] at f
  rw [←f,u]
 have d:(j:Int)<S.length:=of_decide_eq_true d
 have F:j<S.length:=by omega
 have w:i64.wrap ((j:Int)+1)=((j+1:Nat):Int):=by rw [ay (by omega)];rfl
 rw [w,Int.toNat_natCast]
 have KE:=l9.trans E
 obtain ⟨I,d1,q1,m1,k1,d2,q2,m2,k2,d3,q3,m3,k3,a,U,X,Y,Z,a3,a4,a5,G⟩:=i_ (hL (l1.trans KE)) F
 have y:=hb _ (List.getElem_mem F)
 have o:=y.fa
 have A:=eo y
 have et:ib (S.take (j+1)) v=(ib (S.take j) v&&decide (0<=ai.cr (ai.au S[j]) v)):=by
  unfold ib
  rw [←List.take_append_getElem F,List.all_append]
  simp
 generalize S[j]=L at *
 refine ⟨I,⟨by omega,by omega⟩,d1,q1,m1,k1,d2,q2,m2,k2,d3,q3,m3,k3,a,U,X,Y,Z,a3,a4,a5,fun u ie bA=>(bN (G.le bA) o.1 o.2.1 o.2.2 (by omega)).mono ?_,fun u=>⟨(false,((j+1:Nat):Int)),by dsimp only;omega,by and_intros<;>first|rfl|trivial,j+1,rfl,F,?_⟩⟩
 rotate_left
 ·dsimp only
  rw [et,←f,u];rfl
 rintro r lL bY B
 have t:jS lL r (ai.au L):=B
 obtain ⟨_,_,_,_,_,_,_,_,_,_,_,_,rfl,-⟩:=B
 refine ⟨_,_,_,_,_,_,_,_,_,_,_,_,_,_,rfl,fun o_ cg=>(fy (k:=1000) (RP.le t cg) (RP.le gv (E.trans (bA.trans (bY.trans cg)))) A.1 A.2 a8 a9 (by omega)).mono ?_⟩
 rintro r mJ c_ C
 have iR:RQ mJ r (ai.cr (ai.au L) v):=C
 obtain ⟨_,_,_,_,_,_,rfl⟩:=C.shape
 refine ⟨_,_,_,_,_,_,_,rfl,fun lN dp=>(iy (iR.le dp)).mono ?_⟩
 rintro r kr cV rfl
 refine ⟨_,rfl,(_,((j+1:Nat):Int)),by dsimp only;omega,by and_intros<;>first|rfl|trivial,j+1,rfl,F,?_⟩
 dsimp only
 rw [et,←f,u,Bool.true_and,←TO]
 rfl
theorem HK (x:L3):∀(O:List L3)(j:Nat),j<=O.length->(∀(i':Nat)(h:i'<O.length),i'<j->ai.cS (ai.au O[i']) (ai.au x)<0)->(∀h:j<O.length,¬ai.cS (ai.au O[j]) (ai.au x)<0) ->
  oJ x O=if ∃h:j<O.length,O[j]=x then O else O.take j++x::O.drop j
 | [],j,hj,_,_=>by
  rw [if_neg (fun ⟨h,_⟩=>absurd h (Nat.not_lt_zero _))]
  simp [oJ]
 | u::r,0,_,_,hge=>by
  have h0:¬ai.cS (ai.au u) (ai.au x)<0:=hge (Nat.zero_lt_succ _)
  unfold oJ
  rw [if_neg h0]
  by_cases e:u=x
  ·rw [if_pos e,if_pos ⟨Nat.zero_lt_succ _,e⟩]
  ·rw [if_neg e,if_neg (fun ⟨_,h⟩=>e h)];rfl
 | u::r,j+1,hj,hlt,hge=>by
  have h0:ai.cS (ai.au u) (ai.au x)<0:=hlt 0 (Nat.zero_lt_succ _) (Nat.zero_lt_succ _)
  unfold oJ
  rw [if_pos h0,HK x r j (by simpa using hj) (fun i' h a=>hlt (i'+1) (by simpa using h) (by omega)) (fun h=>hge (by simpa using h))]
  by_cases c:∃h:j<r.length,r[j]=x
  ·obtain ⟨h,e⟩:=c
   rw [if_pos ⟨h,e⟩,if_pos ⟨by simpa using h,e⟩]
  ·rw [if_neg c,if_neg (fun ⟨h,e⟩=>c ⟨by simpa using h,e⟩)];rfl
theorem oP {V:View}{p:OA}{n c:Nat}{ls:List L3}(h:cB 6 ck V p n ls)(hb:∀l∈ls,Bd l)(hk:∀l∈ls,dH l=true)(hl:ls.length<=1000) :
  ab prog 27 #[.slice p n c] V fun r V'=>∃q m e,r=.tuple #[.slice q m e,.bool (decide (ls=[]\/mC ls ls []≠[]))]/\cB 6 ck V' q m (mC ls ls []):=by
 obtain rfl:=h.len
 refine yf p _ c V _ ⟨fun z V'=>∃(i:Nat)(O:List L3),z.2.2.2=(i:Int)/\i<=ls.length/\O.length<=i/\(∀q∈O,q∈ls)/\mC ls ls []=mC ls (ls.drop i) O/\GR 6 ck V' z.1 z.2.1 z.2.2.1 O,fun z=>ls.length-z.2.2.2.toNat,
  ⟨(0,0,[],0),by and_intros<;>rfl,0,[],rfl,Nat.zero_le _,Nat.zero_le _,(fun q hq=>by cases hq),by rw [List.drop_zero],GR.nil⟩,?_⟩
 rintro ⟨k,F,us,z4⟩ V1 l1 ⟨i,O,e4,Us,b9,hO,y,N⟩
 dsimp only at e4 N
 subst e4
 have g1:=N.len
 have P:=N.le
 have fv:=N.cap
 have B:=N.row
 refine ⟨rfl,fun d=>?_,fun d=>?_⟩
 rotate_left
 ·have d:¬(i:Int)<ls.length:=of_decide_eq_false d
  obtain rfl:i=ls.length:=by omega
  rw [List.drop_length] at y
  have y:mC ls ls []=O:=y
  rw [y]
  subst g1
  refine ⟨fun I kr cV K hb=>?_,fun I kr cV K hb=>?_⟩
  ·have I:((ls.length:Nat):Int)=0:=by simpa using I
   refine ⟨_,_,F,?_,cB.eZ hb (B.le fun _ _ g=>ck.le g cV) (by decide) P⟩
   rw [decide_eq_true (.inl (List.length_eq_zero_iff.1 (by omega)))]
  ·have I:¬((ls.length:Nat):Int)=0:=by simpa using I
   refine ⟨_,_,F,?_,cB.eZ hb (B.le fun _ _ g=>ck.le g cV) (by decide) P⟩
   congr 5
   refine decide_eq_decide.2 ⟨fun h=>.inr fun e=>by rw [e] at h;simp at h,fun h=>?_⟩
   rcases h with h|h
   ·rw [h] at I;exact absurd rfl I
   ·have:=List.length_pos_iff.2 h;omega
 have d:(i:Int)<ls.length:=of_decide_eq_true d
 have G:i<ls.length:=by omega
 have w:i64.wrap ((i:Int)+1)=((i+1:Nat):Int):=by rw [ay (by omega)];rfl
 dsimp only
 rw [Int.toNat_natCast,w]
 obtain ⟨ad,ha,xs,-,hf,o⟩:=(h.le l1 fun _ _ g=>ck.le g l1).at_ i G
 have a5:=hf
 obtain ⟨Q,R,S,T,U,W,fn,X,Y,Z,gn,gc,ex⟩:=cI hf
 have ex:=congrArg Array.toList (Value.agg.inj ex)
 dsimp only at ex
 subst ex
 have ed:ls.drop i=ls[i]::ls.drop (i+1):=List.drop_eq_getElem_cons G
 have a6:mC ls (ls[i]::ls.drop (i+1)) O=mC ls (ls.drop (i+1)) (if (dV ls[i] ls bD).isSome=true then oJ ls[i] O else O):=rfl
 rw [ed,a6] at y
 have L:Bd ls[i]:=hb _ (List.getElem_mem G)
 have a7:ls[i]∈ls:=List.getElem_mem G
 have ZE:∀q∈O,Bd q:=fun q hq=>hb q (hO q hq)
 clear N
 refine ⟨kf ha,⟨by omega,by omega⟩,Q,R,S,T,U,W,fn,X,Y,Z,gn,gc,ad,ha,o 0 _ rfl,o 1 _ rfl,o 2 _ rfl,o 3 _ rfl,o 4 _ rfl,o 5 _ rfl,fun V2 l2=>(qi (h.le (l1.trans l2) fun _ _ g=>ck.le g (l1.trans l2)) hb hk hl G).mono ?_⟩
 generalize ls[i]=x at *
 rintro r V3 l3 ⟨u,s,rfl,gs,-,-⟩
 obtain ⟨_,_,_,_,_,_,_,_,_,_,_,_,_,_,rfl⟩:=xf gs
 refine ⟨_,_,_,_,_,_,_,_,_,_,_,_,_,_,_,_,_,rfl,fun t=>?_,fun t=>?_⟩
 ·rw [Bool.not_eq_true'] at t
  rw [t,if_neg (by decide)] at y
  exact ⟨(k,F,us,((i+1:Nat):Int)),by dsimp only;omega,by and_intros<;>rfl,i+1,O,rfl,G,by omega,hO,y,g1,P,fv,B.le fun _ _ g=>ck.le g (l2.trans l3)⟩
 rw [Bool.not_eq_false'] at t
 rw [t,if_pos rfl] at y
 have M:ck V1 _ x:=a5
 refine ⟨fun z _=>∃j:Nat,z=(j:Int)/\j<=O.length/\∀(H:Nat)(h:H<O.length),H<j->ai.cS (ai.au O[H]) (ai.au x)<0,fun z=>O.length-z.toNat,⟨0,by and_intros<;>rfl,0,rfl,Nat.zero_le _,fun H _ h=>absurd h (Nat.not_lt_zero H)⟩,?_⟩
 rintro z V4 l4 ⟨j,rfl,AU,jl⟩
 have wj:i64.wrap ((j:Int)+1)=((j+1:Nat):Int):=by rw [ay (by omega)];rfl
 rw [Int.toNat_natCast,wj]
 have c_:=l2.trans (l3.trans l4)
 have sx:=L.fa
 have dx:=eo L
 refine ⟨rfl,fun z _=>z=true↔∃h:j<O.length,ai.cS (ai.au O[j]) (ai.au x)<0,⟨fun d=>?_,fun d=>⟨false,by and_intros<;>rfl,?_⟩⟩,?_⟩
 ·have d:(j:Int)<(k:Int):=of_decide_eq_true d
  have C:j<O.length:=by omega
  have a0:=ZE _ (List.getElem_mem C)
  have sj:=a0.fa
  have dj:=eo a0
  obtain ⟨b1,p1,n1,c1,b2,p2,n2,c2,b3,p3,n3,c3,fh,Kh,hr⟩:=GP B C
  refine ⟨⟨by omega,by omega⟩,P,b1,p1,n1,c1,b2,p2,n2,c2,b3,p3,n3,c3,⟨fh,Kh⟩,fun V5 l5=>(bN (hr.le (c_.trans l5)) sj.1 sj.2.1 sj.2.2 (by omega)).mono ?_⟩
  rintro r V6 l6 gd
  have Zc:=gd
  obtain ⟨_,_,_,_,_,_,_,_,_,_,_,_,rfl,-⟩:=gd
  refine ⟨_,_,_,_,_,_,_,_,_,_,_,_,_,_,rfl,fun V7 l7=>(bN (RL.le M (c_.trans (l5.trans (l6.trans l7)))) sx.1 sx.2.1 sx.2.2 (by omega)).mono ?_⟩
  rintro r V8 l8 ge
  have a8:=ge
  obtain ⟨_,_,_,_,_,_,_,_,_,_,_,_,rfl,-⟩:=ge
  refine ⟨_,_,_,_,_,_,_,_,_,_,_,_,_,_,rfl,fun V9 l9=>(yJ (a:=ai.au O[j]) (b:=ai.au x) (Zc.le (l7.trans (l8.trans l9))) (a8.le l9) dj.1 dj.2 dx.1 dx.2 (by omega)).mono ?_⟩
  rintro r iI a1 rfl
  exact ⟨_,rfl,decide (ai.cS (ai.au O[j]) (ai.au x)<0),by and_intros<;>rfl,by dsimp only;rw [decide_eq_true_eq];exact ⟨fun h=>⟨C,h⟩,fun ⟨_,h⟩=>h⟩⟩
 ·have d:¬(j:Int)<(k:Int):=of_decide_eq_false d
  exact ⟨(fun h=>nomatch h),fun ⟨h,_⟩=>absurd h (by omega)⟩
 rintro z V7 l7 ZT
 refine ⟨rfl,fun t=>?_,fun t=>?_⟩
 ·obtain ⟨C,a9⟩:=ZT.1 t
  refine ⟨((j+1:Nat):Int),by dsimp only;omega,by and_intros<;>rfl,j+1,rfl,C,fun H h c0=>?_⟩
  by_cases e:H=j
  ·subst e;exact a9
  ·exact jl H h (by omega)
 have b0:∀h:j<O.length,¬ai.cS (ai.au O[j]) (ai.au x)<0:=fun h h'=>by
  have:=ZT.2 ⟨h,h'⟩
  rw [t] at this;cases this
 have f:=HK x O j AU jl b0
 have Sm:∀q∈oJ x O,q∈ls:=fun q hq=>(nC.1 hq).elim (fun e=>e▸a7) (hO q)
 have cQ:=c_.trans l7
 refine ⟨fun z _=>z=true↔∃h:j<O.length,O[j]=x,⟨fun d=>?_,fun d=>⟨false,by and_intros<;>rfl,?_⟩⟩,?_⟩
 ·have d:(j:Int)<(k:Int):=of_decide_eq_true d
  have C:j<O.length:=by omega
  obtain ⟨b1,p1,n1,c1,b2,p2,n2,c2,b3,p3,n3,c3,fh,Kh,hr⟩:=GP B C
  refine ⟨⟨by omega,by omega⟩,P,b1,p1,n1,c1,b2,p2,n2,c2,b3,p3,n3,c3,⟨fh,Kh⟩,fun V8 l8=>(tC (hr.le (cQ.trans l8)) (RL.le M (cQ.trans l8)) (ZE _ (List.getElem_mem C)).fa L.fa (by omega)).mono ?_⟩
  rintro r V9 l9 rfl
  exact ⟨_,rfl,(FY O[j] x==(0:Int)),by and_intros<;>rfl,by dsimp only;rw [DF,decide_eq_true_eq];exact ⟨fun h=>⟨C,h⟩,fun ⟨_,h⟩=>h⟩⟩
 ·have d:¬(j:Int)<(k:Int):=of_decide_eq_false d
  exact ⟨(fun h=>nomatch h),fun ⟨h,_⟩=>absurd h (by omega)⟩
 rintro z iI a1 SI
 have KE:=cQ.trans a1
 refine ⟨rfl,fun t=>?_,fun t ie bA K hb J=>?_⟩
 ·have hex:=SI.1 t
  rw [if_pos hex] at f
  rw [f] at y
  exact ⟨(k,F,us,((i+1:Nat):Int)),by dsimp only;omega,by and_intros<;>rfl,i+1,O,rfl,G,by omega,hO,y,g1,P,fv,B.le fun _ _ g=>ck.le g KE⟩
 ·have b5:¬∃h:j<O.length,O[j]=x:=fun h=>by have:=SI.2 h;rw [t] at this;cases this
  rw [if_neg b5] at f
  have c4:=B.iM (by decide)
  have Vq:=B.le (V':=ie) fun _ _ g=>ck.le g (KE.trans bA)
  have a2:ck ie _ x:=ck.le M (KE.trans bA)
  have t1:(us.take (j*6)).length=j*6:=by rw [List.length_take];omega
  have t2:((us.take (O.length*6)).drop (j*6)).length=(k-j)*6:=by rw [List.length_drop,List.length_take,g1];omega
  have oc:∀v∈(us.take (O.length*6)).drop (j*6),v.oneCell'=true:=by
   intro v D
   obtain ⟨m,hm,e⟩:=List.mem_iff_getElem.1 (List.mem_of_mem_drop D)
   have a3:m<O.length*6:=by rw [List.length_take] at hm;omega
   have:=List.getElem?_eq_getElem hm
   rw [e,List.getElem?_take,if_pos a3] at this
   exact qN B (by decide) (fun _ _=>NX) a3 this
  have a4:0<F->us≠[]:=fun hw e=>by rw [e] at fv;simp at fv;omega
  have OG:0<F->mA K F=some ⟨K,0,none⟩:=fun hw=>by unfold mA;rw [if_neg (by omega)]
  have at_:∀m v,m<O.length*6->us[m]?=some v->ie.at ⟨K,m,none⟩ v:=fun m v hm D=>gH (hb (a4 (by omega))) D
  refine ⟨⟨by omega,by omega⟩,⟨by omega,by omega⟩,⟨by omega,by omega⟩,(us.take (O.length*6)).drop (j*6),?_,t2,by omega,Nat.le_refl _,Nat.le_refl 6,t2,oc,fun c5 J2 sp c' h1 h2=>?_⟩
  ·intro m v hm
   have E:=(List.getElem?_eq_some_iff.1 hm).1
   rw [t2] at E
   rw [List.getElem?_drop,List.getElem?_take,if_pos (by omega)] at hm
   have:=at_ (j*6+m) v (by omega) hm
   refine ⟨⟨K,j*6,none⟩,?_,?_⟩
   ·unfold mX
    rw [if_neg (by omega),OG (by omega)]
    simp [ag,add_zero']
   ·rw [←add_zero',pX,add_zero'];exact this
  ·have A:([.bool Q,.slice R S T,.bool U,.slice W fn X,.bool Y,.slice Z gn gc]++(us.take (O.length*6)).drop (j*6):List Value).length=(1+(k-j))*6:=by
    rw [List.length_append,t2];simp only [List.length_cons,List.length_nil];omega
   have b6:cC (([.bool Q,.slice R S T,.bool U,.slice W fn X,.bool Y,.slice Z gn gc]:List Value).take (1*6)++(us.take (O.length*6)).drop (j*6)++sp) 0 ((1+(k-j))*6)=[.bool Q,.slice R S T,.bool U,.slice W fn X,.bool Y,.slice Z gn gc]++(us.take (O.length*6)).drop (j*6):=by
    have e3:(([.bool Q,.slice R S T,.bool U,.slice W fn X,.bool Y,.slice Z gn gc]:List Value).take (1*6))=[.bool Q,.slice R S T,.bool U,.slice W fn X,.bool Y,.slice Z gn gc]:=rfl
    rw [e3]
    unfold cC
    rw [Nat.ble_eq_true_of_le (by rw [List.length_append,A];omega),cond_true,List.drop_zero,List.take_append_of_le_length (by rw [A];exact Nat.le_refl _),List.take_of_length_le (by rw [A];exact Nat.le_refl _)]
   have b7:(1+(k-j))*6 / 6=1+(k-j):=Nat.mul_div_cancel _ (by decide)
   rw [b6,A,b7]
   refine ⟨us.take (j*6),?_,t1,Nat.le_refl _,?_,by omega,by omega,rfl,?_,fun c6 b8 h3 h4=>⟨(j+(1+(k-j)),b8,_,((i+1:Nat):Int)),by dsimp only;omega,by and_intros<;>first|rfl|omega,i+1,oJ x O,rfl,G,?_,Sm,y,?_⟩⟩
   ·intro m v hm
    have E:=(List.getElem?_eq_some_iff.1 hm).1
    rw [t1] at E
    rw [List.getElem?_take,if_pos E] at hm
    exact ⟨⟨K,0,none⟩,OG (by omega),by rw [add_zero'];exact at_ m v (by omega) hm⟩
   ·intro hN
    by_cases hw:0<F
    ·rw [OG hw] at hN;cases hN
    ·omega
   ·intro v D
    rcases List.mem_append.1 D with D|D
    ·exact Lm v D
    ·exact oc v D
   ·rw [f,List.length_append,List.length_take,List.length_cons,List.length_drop]
    omega
   ·show GR 6 ck _ _ _ _ (oJ x O)
    rw [f]
    refine ⟨?_,h3,?_,xd Vq AU rfl a2 (by decide)⟩
    ·show j+(1+(k-j))=_
     rw [List.length_append,List.length_take,List.length_cons,List.length_drop]
     omega
    ·dsimp only
     rw [List.length_append,List.length_append,t1,A]
     omega
theorem yL {V:View}{lp:OA}{ln lc:Nat}{ls:List L3}{pv vv:Value}{p v:Rat×Rat}(h:cB 6 ck V lp ln ls)(hb:∀l∈ls,Bd l)(hl:ls.length<=1000)(hp:RP V pv p.1 p.2)(hv:RP V vv v.1 v.2)(s1:Sz 60000000 p.1)(s2:Sz 60000000 p.2)(s3:Sz 6000 v.1)(s4:Sz 6000 v.2) :
  ab prog 118 #[.slice lp ln lc,pv,vv] V fun r V'=>RP V' r (p.1+ls.foldl (ai.Cg p v) 1*v.1) (p.2+ls.foldl (ai.Cg p v) 1*v.2)/\Sz 500000000 (p.1+ls.foldl (ai.Cg p v) 1*v.1)/\Sz 500000000 (p.2+ls.foldl (ai.Cg p v) 1*v.2):=by
 have hn:=h.len
 subst hn
 have d:=hp
 have u:=hv
 obtain ⟨_,_,_,_,_,_,_,_,_,_,_,_,rfl,-⟩:=hp
 obtain ⟨_,_,_,_,_,_,_,_,_,_,_,_,rfl,-⟩:=hv
 refine zQ lp ls.length lc _ _ _ _ _ _ _ _ _ _ _ _ _ _ _ _ _ _ _ _ _ _ _ _ _ _ _ _ V _ fun V1 l1=>(eI 1 (by omega) (by omega)).mono ?_
 rintro r V2 l2 g
 have K:=g
 obtain ⟨_,_,_,_,_,_,rfl⟩:=g.shape
 have KD:=l1.trans l2
 refine ⟨_,_,_,_,_,_,_,rfl,fun z V'=>∃i:Nat,z.1=(i:Int)/\i<=ls.length/\RQ V' (.agg #[.bool z.2.1,.slice z.2.2.1 z.2.2.2.1 z.2.2.2.2.1,.slice z.2.2.2.2.2.1 z.2.2.2.2.2.2.1 z.2.2.2.2.2.2.2]) ((ls.take i).foldl (ai.Cg p v) 1)/\Sz 400000000 ((ls.take i).foldl (ai.Cg p v) 1),fun z=>(ls.length-z.1).toNat,⟨(0,_,_,_,_,_,_,_),by and_intros<;>first|rfl|trivial,0,rfl,Nat.zero_le _,K,uZ.mono (by omega)⟩,?_⟩
 rintro ⟨z,zb,zp,zn,w,zq,zm,ze⟩ V3 l3 ⟨i,e,hi,gs,ss⟩
 dsimp only at e gs ⊢
 subst e
 have j:=KD.trans l3
 refine ⟨by trivial,fun c=>?_,fun c UY L=>?_⟩
 ·have c:i<ls.length:=by have:=of_decide_eq_true c;omega
  have w1:i64.wrap ((i:Int)+1)=((i+1:Nat):Int):=by rw [ay (by omega)];rfl
  rw [w1,Int.toNat_natCast]
  obtain ⟨is,b1,p1,n1,c1,b2,p2,n2,c2,b3,p3,n3,c3,a,M,a0,a1,a2,a3,a4,a5,m⟩:=i_ (h.le j fun _ _ g=>ck.le g j) c
  have N:=hb _ (List.getElem_mem c)
  have sl:=N.fa
  have et:=Lh (p:=p) (v:=v) c 1
  generalize ls[i]=A at *
  generalize (ls.take i).foldl (ai.Cg p v) 1=s at *
  have next:∀{W:View} {b:Bool} {q1 q2:OA} {m1 d1 m2 d2:Nat} {s':Rat},RQ W (.agg #[.bool b,.slice q1 m1 d1,.slice q2 m2 d2]) s'->Sz 400000000 s'->ai.Cg p v s A=s'->∃i':Nat,((i+1:Nat):Int)=(i':Int)/\i'<=ls.length/\RQ W (.agg #[.bool b,.slice q1 m1 d1,.slice q2 m2 d2]) ((ls.take i').foldl (ai.Cg p v) 1)/\Sz 400000000 ((ls.take i').foldl (ai.Cg p v) 1):=fun n f e=>⟨i+1,rfl,c,by rw [et,e];exact n,by rw [et,e];exact f⟩
  have t1:Sz 70000000 (p.1+((1:Int):Rat)*v.1):=(s1.add (uZ.mul s3)).mono (by omega)
  have t2:Sz 70000000 (p.2+((1:Int):Rat)*v.2):=(s2.add (uZ.mul s4)).mono (by omega)
  refine ⟨is,⟨by omega,by omega⟩,b1,p1,n1,c1,b2,p2,n2,c2,b3,p3,n3,c3,a,M,a0,a1,a2,a3,a4,a5,fun V4 l4=>(eI 1 (by omega) (by omega)).mono ?_⟩
  rintro r V5 l5 g
  have K:=g
  obtain ⟨_,_,_,_,_,_,rfl⟩:=g.shape
  have O:=l4.trans l5
  refine ⟨_,_,_,_,_,_,_,rfl,fun V6 C=>(iz (d.le (j.trans (O.trans C))) (K.le C) (u.le (j.trans (O.trans C))) s1 s2 (uZ.mono (by omega)) s3 s4 (by omega)).mono ?_⟩
  rintro r V7 l7 B
  have P:=B
  obtain ⟨_,_,_,_,_,_,_,_,_,_,_,_,rfl,-⟩:=B
  have KQ:=O.trans (C.trans l7)
  refine ⟨_,_,_,_,_,_,_,_,_,_,_,_,_,_,rfl,fun V8 Q=>(il (k:=70000000) (m.le (KQ.trans Q)) (P.le Q) (sl.1.mono (by omega)) (sl.2.1.mono (by omega)) (sl.2.2.mono (by omega)) t1 t2 (by omega)).mono ?_⟩
  rintro r V9 l9 gA
  have VJ:RQ V9 r (ar A (p.1+((1:Int):Rat)*v.1) (p.2+((1:Int):Rat)*v.2)):=gA
  obtain ⟨_,_,_,_,_,_,rfl⟩:=gA.shape
  have R:=KQ.trans (Q.trans l9)
  refine ⟨_,_,_,_,_,_,_,rfl,fun iI o=>(il (k:=70000000) (m.le (R.trans o)) (d.le (j.trans (R.trans o))) (sl.1.mono (by omega)) (sl.2.1.mono (by omega)) (sl.2.2.mono (by omega)) (s1.mono (by omega)) (s2.mono (by omega)) (by omega)).mono ?_⟩
  rintro r ie bA gB
  have Sa:RQ ie r (ar A p.1 p.2):=gB
  obtain ⟨_,_,_,_,_,_,rfl⟩:=gB.shape
  have zA:=TR N (p:=((p.1+((1:Int):Rat)*v.1),(p.2+((1:Int):Rat)*v.2))) t1 t2
  have D:=TR N s1 s2
  have W7:=R.trans (o.trans bA)
  refine ⟨_,_,_,_,_,_,_,rfl,fun lL S=>(hJ (VJ.le (o.trans (bA.trans S))) (Sa.le S) zA D (by omega)).mono ?_⟩
  rintro r o_ cg gc
  have ec:ar A (p.1+((1:Int):Rat)*v.1) (p.2+((1:Int):Rat)*v.2)-ar A p.1 p.2=ai.nv A v:=by
   have:=ai.fP A p v 1
   have e1:((1:Int):Rat)=1:=rfl
   rw [e1,this];grind
  have w:=zA.sub D
  dsimp only at w
  rw [ec] at gc w
  have OB:=gc
  obtain ⟨_,_,_,_,_,_,rfl⟩:=gc.shape
  have W8:=W7.trans (S.trans cg)
  refine ⟨_,_,_,_,_,_,_,rfl,fun mJ T=>(iy (OB.le T)).mono ?_⟩
  rintro r lN dp rfl
  have E:=W8.trans (T.trans dp)
  refine ⟨_,rfl,fun q=>⟨(((i+1:Nat):Int),_,_,_,_,_,_,_),by dsimp only;omega,by and_intros<;>first|rfl|trivial,next (gs.le E) ss ?_⟩,fun q kr F=>(Cs (x:=p.1) (y:=p.2) (m.le (E.trans F)) (d.le (j.trans (E.trans F))) ⟨sl.1.mono (Nat.le_trans (by omega) (Nat.le_refl 60000000)),sl.2.1.mono (by omega),sl.2.2.mono (by omega)⟩ s1 s2 (by omega)).mono ?_⟩
  ·unfold ai.Cg;rw [if_pos (.inl (ai.fN.1 (beq_iff_eq.1 q)))]
  have q:ai.nv A v≠0:=fun e=>by rw [ai.fN.2 e] at q;cases q
  rintro r mZ cQ rfl
  have G:=E.trans (F.trans cQ)
  refine ⟨_,rfl,fun v0=>⟨(((i+1:Nat):Int),_,_,_,_,_,_,_),by dsimp only;omega,by and_intros<;>first|rfl|trivial,next (gs.le G) ss ?_⟩,fun v0 pe H=>(il (k:=70000000) (m.le (G.trans H)) (d.le (j.trans (G.trans H))) (sl.1.mono (by omega)) (sl.2.1.mono (by omega)) (sl.2.2.mono (by omega)) (s1.mono (by omega)) (s2.mono (by omega)) (by omega)).mono ?_⟩
  ·unfold ai.Cg;rw [if_pos (.inr (ai.fN.1 (beq_iff_eq.1 v0)))]
  have v0:ar A p.1 p.2≠0:=fun e=>by rw [ai.fN.2 e] at v0;cases v0
  have U:¬(ai.nv A v=0\/ar A p.1 p.2=0):=fun h=>h.elim q v0
  rintro r tj dq gD
  have X:RQ tj r (ar A p.1 p.2):=gD
  obtain ⟨_,_,_,_,_,_,rfl⟩:=gD.shape
  refine ⟨_,_,_,_,_,_,_,rfl,fun yF Y=>(hE (X.le Y) (OB.le (T.trans (dp.trans (F.trans (cQ.trans (H.trans (dq.trans Y))))))) (fun e=>q (Rat.num_eq_zero.1 e)) D w (by omega)).mono ?_⟩
  rintro r uJ fB gt
  have Z:=gt
  obtain ⟨_,_,_,_,_,_,rfl⟩:=gt.shape
  have zt:=(D.mul (cP w)).neg
  refine ⟨_,_,_,_,_,_,_,rfl,fun tm iF=>(FP (Z.le iF)).mono ?_⟩
  rintro r yx gT go
  have t:=go
  obtain ⟨_,_,_,_,_,_,rfl⟩:=go.shape
  have D9:=G.trans (H.trans (dq.trans (Y.trans (fB.trans (iF.trans gT)))))
  refine ⟨_,_,_,_,_,_,_,rfl,fun Ik I=>(iy (t.le I)).mono ?_⟩
  rintro r Hq mO rfl
  have SQ:=D9.trans (I.trans mO)
  have eh:-(ar A p.1 p.2*(ai.nv A v)⁻¹)*((2:Int):Rat)⁻¹=-(ar A p.1 p.2*(ai.nv A v)⁻¹)*(1 / 2):=by rw [show (((2:Int):Rat))⁻¹=1 / 2 by decide +kernel]
  have zh:Sz 400000000 (-(ar A p.1 p.2*(ai.nv A v)⁻¹)*((2:Int):Rat)⁻¹):=(zt.mul (cP (Fv (z:=2) (by omega)))).mono (by omega)
  refine ⟨_,rfl,fun n JB mo=>(lZ (t.le (I.trans (mO.trans mo))) zt (by omega)).mono ?_,fun n=>⟨(((i+1:Nat):Int),_,_,_,_,_,_,_),by dsimp only;omega,by and_intros<;>first|rfl|trivial,next (gs.le SQ) ss ?_⟩⟩
  ·have n:-(ar A p.1 p.2*(ai.nv A v)⁻¹)>0:=ai.mP.1 (of_decide_eq_true n)
   rintro r MI kA gh
   have a6:=gh
   obtain ⟨_,_,_,_,_,_,rfl⟩:=gh.shape
   have SR:=SQ.trans (mo.trans kA)
   refine ⟨_,_,_,_,_,_,_,rfl,fun MJ J=>(lX (a6.le J) (gs.le (SR.trans J)) zh ss (by omega)).mono ?_⟩
   rintro r Q2 yA rfl
   refine ⟨_,rfl,fun f Mv AX=>(lZ (t.le (I.trans (mO.trans (mo.trans (kA.trans (J.trans (yA.trans AX))))))) zt (by omega)).mono ?_,fun f=>⟨(((i+1:Nat):Int),_,_,_,_,_,_,_),by dsimp only;omega,by and_intros<;>first|rfl|trivial,next (gs.le (SR.trans (J.trans yA))) ss ?_⟩⟩
   ·have f:=oo.1 (of_decide_eq_true f)
    rintro r Rn D8 gk
    have a7:=gk
    obtain ⟨_,_,_,_,_,_,rfl⟩:=gk.shape
    refine ⟨_,_,_,_,_,_,_,rfl,(((i+1:Nat):Int),_,_,_,_,_,_,_),by dsimp only;omega,by and_intros<;>first|rfl|trivial,next a7 zh ?_⟩
    rw [eh] at f ⊢
    unfold ai.Cg;rw [if_neg U,if_pos ⟨n,f⟩]
   ·have f:¬_:=fun h=>of_decide_eq_false f (oo.2 h)
    rw [eh] at f
    unfold ai.Cg;rw [if_neg U,if_neg fun h=>f h.2]
  ·have n:¬_:=fun h=>of_decide_eq_false n (ai.mP.2 h)
   unfold ai.Cg;rw [if_neg U,if_neg fun h=>n h.1]
 ·have c:i=ls.length:=by have:=of_decide_eq_false c;omega
  subst c
  rw [List.take_length] at gs ss
  generalize ls.foldl (ai.Cg p v) 1=s at *
  refine (iz (d.le (j.trans L)) (gs.le L) (u.le (j.trans L)) s1 s2 ss (s3.mono (by omega)) (s4.mono (by omega)) (by omega)).mono ?_
  rintro r Uh Da B
  have P:=B
  obtain ⟨_,_,_,_,_,_,_,_,_,_,_,_,rfl,-⟩:=B
  exact ⟨_,_,_,_,_,_,_,_,_,_,_,_,_,_,rfl,fun YA Nq=>⟨P.le Nq,(s1.add (ss.mul s3)).mono (by omega),(s2.add (ss.mul s4)).mono (by omega)⟩⟩
def D2 (ls:List L3):Bool:=decide (ls=[]\/∃l∈ls,(dV l ls bD).isSome=true)
theorem Ky {ls:List L3}(hk:∀m∈ls,dH m=true):D2 ls=true↔∃q,ai.pos ls q:=by
 unfold D2
 rw [decide_eq_true_eq,←I1 hk]
 refine or_congr Iff.rfl ⟨fun ⟨l,a,b⟩=>⟨l,a,(uN (Ch (hk l a))).1 b⟩,fun ⟨l,a,b⟩=>⟨l,a,(uN (Ch (hk l a))).2 b⟩⟩
theorem H4 (V:View):RP V (.agg #[.bool false,.slice none 0 0,.slice none 0 0,.bool false,.slice none 0 0,.slice none 0 0]) 0 0:=⟨_,_,_,_,_,_,_,_,_,_,_,_,rfl,TH _,TH _⟩
theorem yQ {V:View}{cp:OA}{cn cc:Nat}{ls:List L3}(h:cB 6 ck V cp cn ls)(hb:∀l∈ls,Bd l)(hk:∀l∈ls,dH l=true)(hl:ls.length<=1000) :
  ab prog 51 #[.slice cp cn cc] V fun r V'=>∃u p,r=.tuple #[u,.bool (D2 ls)]/\RP V' u (Prod.fst p) (Prod.snd p):=by
 have Y:=h.len
 subst Y
 refine yh cp ls.length cc V _ ⟨fun c Z l1=>?_,fun c=>⟨fun z _=>∃i:Nat,z=(i:Int)/\i<=ls.length/\∀(k:Nat)(g:k<ls.length),k<i->(dV ls[k] ls bD).isSome=false,fun z=>(ls.length-z).toNat,⟨0,by and_intros<;>rfl,0,rfl,Nat.zero_le _,fun k _ g=>absurd g (Nat.not_lt_zero k)⟩,?_⟩⟩
 ·have e:ls=[]:=List.length_eq_zero_iff.1 (by have:=of_decide_eq_true c;omega)
  refine ⟨_,(0,0),?_,H4 Z⟩
  rw [show D2 ls=true from decide_eq_true (.inl e)]
 have c:ls.length≠0:=fun e=>by rw [e] at c;cases c
 rintro z V2 q ⟨i,rfl,hi,I⟩
 refine ⟨by trivial,fun b=>?_,fun b kr cV=>?_⟩
 rotate_left
 ·have e:i=ls.length:=by have:=of_decide_eq_false b;omega
  subst e
  refine ⟨_,(0,0),?_,H4 kr⟩
  rw [show D2 ls=false from decide_eq_false ?_]
  rintro (g|⟨l,g1,J⟩)
  ·rw [g] at c;exact c rfl
  ·obtain ⟨k,M,rfl⟩:=List.mem_iff_getElem.1 g1
   rw [I k M M] at J;cases J
 have b:i<ls.length:=by have:=of_decide_eq_true b;omega
 have w1:i64.wrap ((i:Int)+1)=((i+1:Nat):Int):=by rw [ay (by omega)];rfl
 rw [w1,Int.toNat_natCast]
 have t:∀{W:View},V.Le W->cB 6 ck W cp ls.length ls:=fun g=>h.le g fun _ _ k=>ck.le k g
 obtain ⟨is,b1,p1,n1,c1,b2,p2,n2,c2,b3,p3,n3,c3,a,w,a0,a1,a2,a3,a4,a5,f⟩:=i_ (t q) b
 have N:=hb _ (List.getElem_mem b)
 have ok:=hk _ (List.getElem_mem b)
 have hm:=List.getElem_mem b
 have sl:=N.fa
 have nz:=Ch ok
 have x:=eo N
 have y:(dV ls[i] ls bD).isSome=false->∀(k:Nat)(g:k<ls.length),k<i+1->(dV ls[k] ls bD).isSome=false:=fun e k g a6=>by
  by_cases e':k=i
  ·subst e';exact e
  ·exact I k g (by omega)
 refine ⟨is,⟨by omega,by omega⟩,b1,p1,n1,c1,b2,p2,n2,c2,b3,p3,n3,c3,a,w,a0,a1,a2,a3,a4,a5,fun V3 O=>(qi (t (q.trans O)) hb hk hl b).mono ?_⟩
 generalize ls[i]=L at *
 rintro r V4 l4 ⟨u,s,rfl,gs,ss,-⟩
 have A:=gs
 obtain ⟨_,_,_,_,_,_,_,_,_,_,_,_,_,_,rfl⟩:=xf gs
 have P:=O.trans l4
 refine ⟨_,_,_,_,_,_,_,_,_,_,_,_,_,_,_,_,_,rfl,fun B V5 C=>(bN (f.le (P.trans C)) sl.1 sl.2.1 sl.2.2 (by omega)).mono ?_,fun B=>⟨((i+1:Nat):Int),by dsimp only;omega,by and_intros<;>rfl,i+1,rfl,b,y B⟩⟩
 rintro r V6 Q R
 have Zc:=R
 obtain ⟨_,_,_,_,_,_,_,_,_,_,_,_,rfl,yy,D⟩:=R
 have mo:=P.trans (C.trans Q)
 refine ⟨_,_,_,_,_,_,_,_,_,_,_,_,_,_,rfl,fun V7 m=>(vJ (A.le (C.trans (Q.trans m))) ss (by omega)).mono ?_⟩
 rintro r V8 E S
 have PJ:=S
 obtain ⟨_,_,_,_,_,_,rfl⟩:=S.shape
 have F:=CD ss
 have T:=mo.trans (m.trans E)
 refine ⟨_,_,_,_,_,_,_,rfl,fun V9 j=>(XQ (f.le (T.trans j)) (PJ.le j) nz (sl.up (K:=200010) (by omega)) F (by omega)).mono ?_⟩
 rintro r iI d U
 have Sb:=U
 obtain ⟨_,_,_,_,_,_,_,_,_,_,_,_,rfl,-⟩:=U
 have W5:=T.trans (j.trans d)
 refine ⟨_,_,_,_,_,_,_,_,_,_,_,_,_,_,rfl,fun ie n=>(jz (D.le ((m.trans E).trans ((j.trans d).trans n))) x.2 (by omega)).mono ?_⟩
 rintro r lL G go
 have H:=go
 obtain ⟨_,_,_,_,_,_,rfl⟩:=go.shape
 have W6:=W5.trans (n.trans G)
 have sx:=(Cz (sl.up (K:=200010) (by omega)) F).mono (show _<=60000000 by omega)
 have sy:=(CA (sl.up (K:=200010) (by omega)) F).mono (show _<=60000000 by omega)
 refine ⟨_,_,_,_,_,_,_,rfl,fun o_ o=>(yL (p:=(fm L s.bG,fu L s.bG)) (v:=(-(-((L.1:Int):Rat)),((L.2.1:Int):Rat))) (t (q.trans (W6.trans o))) hb hl (Sb.le (n.trans (G.trans o))) ⟨_,_,_,_,_,_,_,_,_,_,_,_,rfl,H.le o,yy.le ((m.trans E).trans ((j.trans d).trans ((n.trans G).trans o)))⟩ sx sy (Sz.mono x.2.neg (by omega)) (Sz.mono x.1 (by omega))).mono ?_⟩
 rintro r mJ c_ ⟨X,-,-⟩
 have V_:=X
 obtain ⟨_,_,_,_,_,_,_,_,_,_,_,_,rfl,-⟩:=X
 refine ⟨_,_,_,_,_,_,_,_,_,_,_,_,_,_,rfl,fun lN dp=>⟨_,(_,_),?_,V_.le dp⟩⟩
 rw [show D2 ls=true from decide_eq_true (.inr ⟨L,hm,B⟩)]
def IF (ls:List L3)(x:Rat×Rat):Int:=if D2 ls=true then (if ∀l∈ls,0<=ar l x.1 x.2 then (if ∃l∈ls,ar l x.1 x.2=0 then 1 else 2) else 0) else 0
theorem NJ {ls:List L3}(q:ai.V2):ai.pos ls q↔ai.pos ls.reverse q:=⟨fun h m hm=>h m (List.mem_reverse.1 hm),fun h m hm=>h m (List.mem_reverse.2 hm)⟩
theorem Kz {ls:List L3}(hk:∀m∈ls,dH m=true){c:List Sd}(e:bK ls [] []=some c):D2 ls=true:=by
 obtain ⟨q,a⟩:=((nk hk).1 c e).2.1.pos
 exact (Ky hk).2 ⟨q,(NJ q).2 a⟩
theorem MW {ls:List L3}(hk:∀m∈ls,dH m=true){c:List Sd}(e:bK ls [] []=some c)(x:Rat×Rat):IF ls x=MV c x:=by
 have i:=((nk hk).1 c e).2.1
 have j:∀m∈ls.reverse,dH m=true:=fun m hm=>hk m (List.mem_reverse.1 hm)
 obtain ⟨k,n⟩:=DE i j x
 have f:IY c x=true↔∀m∈ls,0<=ar m x.1 x.2:=by
  unfold IY
  rw [List.all_eq_true]
  refine Iff.trans ⟨fun h s a=>of_decide_eq_true (h s a),fun h s a=>decide_eq_true (h s a)⟩ (k.trans ⟨fun h m hm=>h m (List.mem_reverse.2 hm),fun h m hm=>h m (List.mem_reverse.1 hm)⟩)
 have g:Re c x=true↔∀m∈ls,0<ar m x.1 x.2:=by
  unfold Re
  rw [List.all_eq_true]
  refine Iff.trans ⟨fun h s a=>of_decide_eq_true (h s a),fun h s a=>decide_eq_true (h s a)⟩ (n.trans ⟨fun h m hm=>h m (List.mem_reverse.2 hm),fun h m hm=>h m (List.mem_reverse.1 hm)⟩)
 unfold IF MV
 rw [if_pos (Kz hk e)]
 by_cases b:IY c x=true
 ·rw [if_pos b,if_pos (f.1 b)]
  by_cases d:Re c x=true
  ·rw [if_pos d,if_neg]
   rintro ⟨l,o,q⟩
   have:=g.1 d l o
   grind
  ·rw [if_neg d,if_pos]
   refine Classical.byContradiction fun p=>d (g.2 fun m hm=>?_)
   have r:=f.1 b m hm
   have t:ar m x.1 x.2≠0:=fun h=>p ⟨m,hm,h⟩
   grind
 ·rw [if_neg b,if_neg (fun h=>b (f.2 h))]
theorem yP {V:View}{cp:OA}{cn cc:Nat}{ls:List L3}(h:cB 6 ck V cp cn ls)(hb:∀l∈ls,Bd l)(hk:∀l∈ls,dH l=true)(hl:ls.length<=1000){pv:Value}{x:Rat×Rat}(hp:RP V pv x.1 x.2)(s1:Sz 1000000000 x.1)(s2:Sz 1000000000 x.2) :
  ab prog 33 #[.slice cp cn cc,pv] V fun r V'=>r=.int .i64 (IF ls x):=by
 have I:=h.len
 subst I
 have y:=hp
 obtain ⟨_,_,_,_,_,_,_,_,_,_,_,_,rfl,-⟩:=hp
 have D:∀{W:View},V.Le W->cB 6 ck W cp ls.length ls:=fun g=>h.le g fun _ _ k=>ck.le k g
 refine yg cp ls.length cc _ _ _ _ _ _ _ _ _ _ _ _ _ _ V _ fun V1 E=>(yQ (D E) hb hk hl).mono ?_
 rintro r V2 J ⟨u,p,rfl,M⟩
 obtain ⟨_,_,_,_,_,_,_,_,_,_,_,_,rfl,-⟩:=M
 have N:=E.trans J
 refine ⟨_,_,_,_,_,_,_,_,_,_,_,_,_,_,_,rfl,fun j V3 l3=>?_,fun j=>⟨fun z _=>∃i:Nat,z.2=(i:Int)/\i<=ls.length/\(∀l∈ls.take i,0<=ar l x.1 x.2)/\z.1=if ∃l∈ls.take i,ar l x.1 x.2=0 then 1 else 2,fun z=>(ls.length-z.2).toNat,⟨(2,0),by and_intros<;>rfl,0,rfl,Nat.zero_le _,(fun l hl=>by rw [List.take_zero] at hl;cases hl),by rw [List.take_zero];rfl⟩,?_⟩⟩
 ·rw [Bool.not_eq_true'] at j
  unfold IF
  rw [j];rfl
 rw [Bool.not_eq_false'] at j
 rintro ⟨o,z⟩ V4 O ⟨i,e,hi,d,s⟩
 dsimp only at e s ⊢
 subst e
 have F:=N.trans O
 refine ⟨by trivial,fun c=>?_,fun c V8 l8=>?_⟩
 rotate_left
 ·have e:i=ls.length:=by have:=of_decide_eq_false c;omega
  subst e
  rw [List.take_length] at d s
  unfold IF
  rw [if_pos j,if_pos d,s]
 have c:i<ls.length:=by have:=of_decide_eq_true c;omega
 have P:i64.wrap ((i:Int)+1)=((i+1:Nat):Int):=by rw [ay (by omega)];rfl
 rw [P,Int.toNat_natCast]
 obtain ⟨is,b1,Q,R,n,b2,S,T,U,b3,X,Y,Z,a,A,a0,a1,a2,a3,a4,a5,B⟩:=i_ (D F) c
 have bd:=hb _ (List.getElem_mem c)
 have hm:=List.getElem_mem c
 have sl:=bd.fa
 have G:ls.take (i+1)=ls.take i++[ls[i]]:=(List.take_append_getElem c).symm
 generalize ls[i]=L at *
 refine ⟨is,⟨by omega,by omega⟩,b1,Q,R,n,b2,S,T,U,b3,X,Y,Z,a,A,a0,a1,a2,a3,a4,a5,fun V5 H=>(Cs (B.le H) (y.le (F.trans H)) (sl.up (K:=1000000000) (by omega)) s1 s2 (by omega)).mono ?_⟩
 rintro r V6 l6 rfl
 have next:∀{C:Int},0<=ar L x.1 x.2->(C=if ar L x.1 x.2=0 then 1 else o)->∃i':Nat,((i+1:Nat):Int)=(i':Int)/\i'<=ls.length/\(∀l∈ls.take i',0<=ar l x.1 x.2)/\C=if ∃l∈ls.take i',ar l x.1 x.2=0 then 1 else 2:=fun {C} g1 g2=>by
  refine ⟨i+1,rfl,c,fun l hl=>?_,?_⟩
  ·rw [G] at hl
   rcases List.mem_append.1 hl with h|h
   ·exact d l h
   ·rw [List.mem_singleton.1 h];exact g1
  ·rw [g2,s,G]
   by_cases t:ar L x.1 x.2=0
   ·rw [if_pos t,if_pos ⟨L,List.mem_append_right _ (List.mem_singleton.2 rfl),t⟩]
   ·rw [if_neg t]
    by_cases n:∃l∈ls.take i,ar l x.1 x.2=0
    ·obtain ⟨l,v,m⟩:=n
     rw [if_pos ⟨l,v,m⟩,if_pos ⟨l,List.mem_append_left _ v,m⟩]
    ·rw [if_neg n,if_neg]
     rintro ⟨l,v,m⟩
     rcases List.mem_append.1 v with h|h
     ·exact n ⟨l,h,m⟩
     ·rw [List.mem_singleton.1 h] at m;exact t m
 have w:=ko (ar L x.1 x.2)
 refine ⟨_,rfl,fun f V7 l7=>?_,fun f=>⟨fun b=>⟨(1,((i+1:Nat):Int)),by dsimp only;omega,by and_intros<;>rfl,next ?_ ?_⟩,fun b=>⟨(o,((i+1:Nat):Int)),by dsimp only;omega,by and_intros<;>rfl,next ?_ ?_⟩⟩⟩
 ·have f:(ar L x.1 x.2).num.sign=-1:=by simpa using f
  have q:¬0<=ar L x.1 x.2:=by
   rcases w with ⟨g,e⟩|⟨g,e⟩|⟨g,e⟩<;>first|(rw [e] at f;omega)|grind
  unfold IF
  rw [if_pos j,if_neg (fun h=>q (h L hm))]
 ·have b:(ar L x.1 x.2).num.sign=0:=by simpa using b
  rcases w with ⟨g,e⟩|⟨g,e⟩|⟨g,e⟩<;>first|(rw [e] at b;omega)|grind
 ·have b:(ar L x.1 x.2).num.sign=0:=by simpa using b
  rw [if_pos]
  rcases w with ⟨g,e⟩|⟨g,e⟩|⟨g,e⟩<;>first|(rw [e] at b;omega)|grind
 ·have f:¬(ar L x.1 x.2).num.sign=-1:=by simpa using f
  rcases w with ⟨g,e⟩|⟨g,e⟩|⟨g,e⟩<;>first|(rw [e] at f;omega)|grind
 ·have b:¬(ar L x.1 x.2).num.sign=0:=by simpa using b
  rw [if_neg]
  intro h0
  rw [h0] at b;exact b rfl
end Go.Proofs.Tryz
namespace Go.Proofs.Tryz
open Go.bM
set_option maxRecDepth 100000
end Go.Proofs.Tryz
namespace Go.Proofs.Tryz
open Go.bM Go.fR
theorem LL {ls:List L3}(hk:∀m∈ls,dH m=true){c:List Sd}(e:bK ls [] []=some c):decide (ls=[]\/mC ls ls []≠[])=true/\mC ls ls []=c.map Prod.fst:=by
 obtain ⟨a,d,b⟩:=(nk hk).1 c e
 exact ⟨decide_eq_true b,a⟩
theorem LK {ls:List L3}(hk:∀m∈ls,dH m=true)(e:bK ls [] []=none):decide (ls=[]\/mC ls ls []≠[])=false:=by
 obtain ⟨a,b,c⟩:=(nk hk).2 e
 exact decide_eq_false fun h=>h.elim b fun h=>h a
theorem LU {M:List L3}{c:List Sd}(h:gV M c)(hb:∀m∈M,Bd m):∀l∈c.map Prod.fst,Bd l:=fun l a=>by
 obtain ⟨s,b,rfl⟩:=List.mem_map.1 a
 exact hb _ (h.mem s b).1
theorem Qz {ls:List L3}(hk:∀m∈ls,Bd m):∀m∈ls.reverse,Bd m:=fun m hm=>hk m (List.mem_reverse.1 hm)
end Go.Proofs.Tryz
namespace Go.Proofs.Tryz
open Go.bM
set_option maxRecDepth 100000
end Go.Proofs.Tryz
namespace Go.Proofs.Tryz
open Go.bM Go.fR
theorem MS {V:View}{v:Value}{x y:Rat}(h:Hn V v x y){k:Nat}(s1:Sz k x)(s2:Sz k y)(hk:k<=274877906944):ab prog 34 #[v] V fun r V'=>RP V' r x y:=by
 obtain ⟨_,_,_,_,_,_,_,_,_,_,_,_,_,_,rfl,e,f⟩:=h
 refine Fp _ _ _ _ _ _ _ _ _ _ _ _ _ _ V _ fun n c=>(BE (e.le c) s1 hk).mono ?_
 rintro r V2 g ⟨o,p,q,s,t,u,rfl,i,j⟩
 refine ⟨_,_,_,_,_,_,_,rfl,fun w b=>(BE (f.le (c.trans (g.trans b))) s2 hk).mono ?_⟩
 rintro r z d ⟨A,B,C,D,E,F,rfl,l,m⟩
 exact ⟨_,_,_,_,_,_,_,rfl,fun G a=>⟨_,_,_,_,_,_,_,_,_,_,_,_,rfl,⟨_,_,_,_,_,_,rfl,i.le (b.trans (d.trans a)),j.le (b.trans (d.trans a))⟩,⟨_,_,_,_,_,_,rfl,l.le a,m.le a⟩⟩⟩
theorem PA {M:List L3}{c:List Sd}(h:gV M c){x:Rat×Rat}(hx:ai.pos M x):MV c x=2:=by
 have b:Re c x=true:=by
  unfold Re
  rw [List.all_eq_true]
  exact fun s a=>decide_eq_true (hx _ (h.mem s a).1)
 have d:IY c x=true:=by
  unfold IY
  rw [List.all_eq_true]
  exact fun s a=>decide_eq_true (Rat.le_of_lt (hx _ (h.mem s a).1))
 unfold MV
 rw [if_pos d,if_pos b]
theorem I2 {M:List L3}{c:List Sd}(h:gV M c)(hk:∀m∈M,dH m=true):ai.pos M (wk c):=by
 cases c with
 | nil=>
  have:M=[]:=Classical.byContradiction fun b=>by
   obtain ⟨q,a⟩:=h.pos
   obtain ⟨l,d,e⟩:=ai.BZ (BU hk a) (fun m hm=>wR (hk m hm)) a b
   obtain ⟨v,f⟩:=h.all l d e
   cases f
  rw [this]
  exact fun m hm=>by cases hm
 | cons s r=>exact Kx h hk rfl
theorem qa {V:View}{v:Value}{q:Rat}(h:RA V v q){k:Nat}(s:Sz k q)(hk:k<=274877906944):ab prog 93 #[v] V fun r V'=>r=.bool true:=by
 have a:=h
 obtain ⟨p,n,c,l,b,m,rfl,A,o⟩:=h
 have t:=o.len
 refine sW _ p n c l b m V _ fun B d=>(BE (a.le d) s hk).mono ?_
 rintro r V2 u g
 have w:=g
 obtain ⟨_,_,_,_,_,_,rfl⟩:=g.shape
 refine ⟨_,_,_,_,_,_,_,rfl,fun C f=>(j_ (w.le f) s (by omega)).mono ?_⟩
 rintro r D x k
 have y:=k
 obtain ⟨_,_,_,_,_,_,_,rfl⟩:=k.shape
 refine ⟨_,_,_,_,_,_,_,rfl,fun E i=>(ik (a.le (d.trans (u.trans (f.trans (x.trans i))))) (y.le i) s (by omega)).mono ?_⟩
 rintro r F G rfl
 have j:0<b:=by
  rw [t]
  refine List.length_pos_iff.2 fun e=>?_
  have:=ae q.den
  rw [e] at this
  exact q.den_nz this.symm
 refine ⟨_,rfl,fun _ H I=>?_,(fun z=>by simp at z)⟩
 rw [decide_eq_true (by omega)]
theorem BD {V:View}{v:Value}{x y:Rat}(h:Hn V v x y){k:Nat}(s1:Sz k x)(s2:Sz k y)(hk:k<=274877906944):ab prog 32 #[v] V fun r V'=>r=.bool true:=by
 obtain ⟨_,_,_,_,_,_,_,_,_,_,_,_,_,_,rfl,b,c⟩:=h
 refine sZ _ _ _ _ _ _ _ _ _ _ _ _ _ _ V _ fun g a=>(qa (b.le a) s1 hk).mono ?_
 rintro r V2 d rfl
 refine ⟨_,rfl,fun _ i e=>(qa (c.le (a.trans (d.trans e))) s2 hk).mono ?_,(fun f=>by cases f)⟩
 rintro r j l rfl
 exact ⟨_,rfl,fun m n=>rfl⟩
set_option maxHeartbeats 1000000 in
theorem lU {V:View}{lp:OA}{ln lc:Nat}(hr:JA V lp ln)(hc:ln<=lc){yi ye yu:Value}(E:Er V yi ye yu) :
  ab prog 5 #[.slice lp ln lc] V fun r V'=>r=.bool true:=by
 refine lH lp ln lc V _ fun V1 l1=>(DC hc).mono ?_
 rintro r V2 l2 ⟨tb,rfl,I,hb⟩
 have Z:JA V lp (min ln 400):=fun i hi=>hr i (by have:=Nat.min_le_left ln 400;omega)
 have Sl:min ln 400<=400:=Nat.min_le_right ln 400
 generalize min ln 400=mm at *
 refine ⟨tb,lp,mm,lc,0,rfl,I,hb,fun V3 l3 a0 e3 h3=>?_⟩
 have Yz:V.Le V3:=l1.trans (KW l2 I l3)
 refine (Px (V:=V3.bz [a0]) (Z.le fun b o h=>Yz b o h) Sl e3 ⟨by simp,h3⟩ (Int.le_refl 0)).mono ?_
 rintro r V4 l4 ⟨JP,ls,q,n1,c1,t1,a1,rfl,hL,hlen,J⟩
 have e:∀l∈ls,dH l=true:=fun l hl=>(J l hl).1
 have d:∀l∈ls,Bd l:=fun l hl=>(J l hl).2
 refine ⟨_,_,_,rfl,_,_,_,_,a1,fun V5 l5=>?_⟩
 have OP:V4.Le V5:=fun b o h=>l5 b o h
 have L5:V.Le V5:=fun b o h=>OP b o (l4 b o (Yz b o h))
 have j:cB 6 ck V5 q n1 ls:=hL.le OP fun _ _ g=>ck.le g OP
 refine (oQ j (by omega) d).mono ?_
 rintro r V6 H ⟨q2,n2,c2,rfl,hW⟩
 have A:∀{W:View},V6.Le W->cB 6 rH W q2 n2 ls:=fun l=>cB.q (hW.le l fun _ _ g=>ck.le g l)
 have u:A7 ls=true:=Qo (by omega) e
 have k:=L5.trans H
 refine ⟨_,_,_,rfl,fun V7 l7=>(j7 (A l7) d (E.le (k.trans l7))).mono ?_⟩
 rintro r V8 l8 hV
 have B:=l7.trans l8
 cases hcan:bK ls [] [] with
 | none=>
  obtain rfl:=hV.Rg u hcan
  refine ⟨_,_,_,_,rfl,fun V9 v=>(kU (A (B.trans v)) d (E.le (k.trans (B.trans v)))).mono ?_⟩
  rintro r iI s hB
  obtain rfl:=hB.Rg u hcan
  have C:=B.trans (v.trans s)
  refine ⟨_,_,rfl,fun ie z=>(kx (A (C.trans z)) d (E.le (k.trans (C.trans z)))).mono ?_⟩
  rintro r lL R T
  obtain rfl:=T.Rg u hcan
  have D:=C.trans (z.trans R)
  refine ⟨_,_,_,_,_,_,_,_,rfl,fun o_ t=>(nf (A (D.trans t)) d (E.le (k.trans (D.trans t)))).mono ?_⟩
  rintro r mJ K hI
  obtain rfl:=hI.Rg u hcan
  have F:=D.trans (t.trans K)
  refine ⟨_,_,_,_,_,_,_,_,_,_,_,_,_,_,_,rfl,fun lN G=>(oP (j.le (H.trans (F.trans G)) fun _ _ g=>ck.le g (H.trans (F.trans G))) d e (by omega)).mono ?_⟩
  rintro r kr cV ⟨qu,nu,cu,rfl,hU⟩
  have U:=k.trans (F.trans (G.trans cV))
  rw [LK e hcan]
  refine ⟨_,_,_,_,rfl,fun _ mZ cQ=>(ky (E.le (U.trans cQ))).mono ?_,(fun a=>by cases a)⟩
  rintro r pe dF rfl
  have Rl:=U.trans (cQ.trans dF)
  refine ⟨_,rfl,fun _=>⟨_,⟨_,rfl,(E.le Rl).emp⟩,fun tj dq=>(dD E.se).mono ?_⟩,(fun a=>by cases a)⟩
  rintro r yF gy rfl
  have Yw:=Rl.trans (dq.trans gy)
  refine ⟨_,rfl,fun _=>⟨_,⟨_,rfl,(E.le Yw).emp⟩,fun uJ fB=>(dD E.se).mono ?_⟩,(fun a=>by cases a)⟩
  rintro r tm iF rfl
  have Yx:=Yw.trans (fB.trans iF)
  refine ⟨_,rfl,fun _=>⟨_,⟨_,rfl,(E.le Yx).emp⟩,fun yx gT=>(dD E.se).mono ?_⟩,(fun a=>by cases a)⟩
  rintro r Ik nE rfl
  have a2:=Yx.trans (gT.trans nE)
  refine ⟨_,rfl,fun _=>⟨_,⟨_,rfl,(E.le a2).emp⟩,fun Hq mO=>(dD E.se).mono ?_⟩,(fun a=>by cases a)⟩
  rintro r JB mo rfl
  exact ⟨_,rfl,fun _=>⟨fun _ MI kA=>rfl,(fun a=>by simp at a)⟩,(fun a=>by cases a)⟩
 | some cs=>
  have X:=((nk e).1 cs hcan).2.1
  have ZL:∀m∈ls.reverse,dH m=true:=QA e
  have L:=PA X (I2 X ZL)
  rw [←MW e hcan] at L
  have a3:=MM X ZL
  have M:=LU X (Qz d)
  have Vm:=rS hcan
  rw [List.length_nil] at Vm
  have c0:(cs.map Prod.fst).length<=1000:=by rw [List.length_map];omega
  have c6:=va (cs.map Prod.fst)
  obtain ⟨q3,n3,c3,rfl,a4,c7⟩:=hV.some u hcan
  refine ⟨_,_,_,_,rfl,fun V9 v=>(kU (A (B.trans v)) d (E.le (k.trans (B.trans v)))).mono ?_⟩
  rintro r iI s hB
  obtain rfl:=hB.some u hcan
  have C:=B.trans (v.trans s)
  refine ⟨_,_,rfl,fun ie z=>(kx (A (C.trans z)) d (E.le (k.trans (C.trans z)))).mono ?_⟩
  rintro r lL R T
  have D:=C.trans (z.trans R)
  have key:∃w y,r=.tuple #[w,y]/\(∃b p n c p' n' c',w=.agg #[.bool b,.slice p n c,.slice p' n' c'])/\((oG cs=false/\y=yu)\/(oG cs=true/\y=.nilIface/\RA lL w (tw (kM (cs.map Prod.fst))*((2:Int):Rat)⁻¹)/\Sz 10000000010 (tw (kM (cs.map Prod.fst))*((2:Int):Rat)⁻¹))):=by
   obtain ⟨h1,h2⟩:=T.some u hcan
   cases f:oG cs with
   | false=>exact ⟨_,_,h1 f,⟨_,_,_,_,_,_,_,rfl⟩,.inl ⟨rfl,rfl⟩⟩
   | true=>
    obtain ⟨w,e1,e2,e3⟩:=h2 f
    exact ⟨_,_,e1,e2.shape,.inr ⟨rfl,rfl,e2,e3⟩⟩
  obtain ⟨wa,ya,rfl,⟨_,_,_,_,_,_,_,rfl⟩,a5⟩:=key
  clear T
  refine ⟨_,_,_,_,_,_,_,_,rfl,fun o_ t=>(nf (A (D.trans t)) d (E.le (k.trans (D.trans t)))).mono ?_⟩
  rintro r mJ K hI
  obtain ⟨wi,rfl,hp,z1,z2⟩:=hI.some u hcan
  generalize wk cs=P at *
  have N:=hp
  obtain ⟨_,_,_,_,_,_,_,_,_,_,_,_,_,_,rfl,-⟩:=hp
  have F:=D.trans (t.trans K)
  refine ⟨_,_,_,_,_,_,_,_,_,_,_,_,_,_,_,rfl,fun lN G=>(oP (j.le (H.trans (F.trans G)) fun _ _ g=>ck.le g (H.trans (F.trans G))) d e (by omega)).mono ?_⟩
  rintro r kr cV ⟨qu,nu,cu,rfl,hU⟩
  have O:=G.trans cV
  have OU:=F.trans O
  have U:=k.trans OU
  obtain ⟨e1,Q6⟩:=LL e hcan
  rw [Q6] at hU
  rw [e1]
  generalize cs.map Prod.fst=S at *
  have Wr:∀{W:View},kr.Le W->cB 6 ck W qu nu S:=fun l=>hU.le l fun _ _ g=>ck.le g l
  refine ⟨_,_,_,_,rfl,(fun a=>by cases a),fun _=>⟨fL.1,(fun a=>by cases a),fun _=>⟨fL.1,(fun a=>by cases a),fun _=>⟨fL.1,(fun a=>by cases a),fun _ c8 KQ=>(kY (Wr KQ) M (by omega)).mono ?_⟩⟩⟩⟩
  rintro r c9 KR ⟨q4,n4,c4,rfl,a6⟩
  have Qf:=KQ.trans KR
  refine ⟨_,_,_,rfl,fun d0 I4=>(qg (a6.le I4 fun _ _ g=>jS.le g I4) (by omega) (Hk M) (by omega)).mono ?_⟩
  rintro r d1 Rf ⟨q5,n5,c5,rfl,a7⟩
  have Gi:=Qf.trans (I4.trans Rf)
  have OW:=(v.trans s).trans ((z.trans R).trans ((t.trans K).trans O))
  refine ⟨_,_,_,rfl,fun d2 Q=>(ni (a4.le (OW.trans (Gi.trans Q)) fun _ _ g=>gE.le g (OW.trans (Gi.trans Q))) (a7.le Q fun _ _ g=>gE.le g Q) (by omega) (Hk M) (by omega)).mono ?_⟩
  rintro r d3 SW rfl
  have KJ:=Gi.trans (Q.trans SW)
  refine ⟨_,rfl,(fun a=>by cases a),fun _ d4 SX=>(t_ (Wr (KJ.trans SX)) M (by omega)).mono ?_⟩
  rintro r d5 Xa rfl
  have KK:=KJ.trans (SX.trans Xa)
  refine ⟨_,rfl,(fun a=>by rw [a3] at a;simp at a),fun _ U0 OQ=>(BD (N.le (O.trans (KK.trans OQ))) z1 z2 (by omega)).mono ?_⟩
  rintro r Ui KT rfl
  have KL:=KK.trans (OQ.trans KT)
  refine ⟨_,rfl,(fun a=>by cases a),fun _ U1 ZX=>(MS (N.le (O.trans (KL.trans ZX))) z1 z2 (by omega)).mono ?_⟩
  rintro r YC a8 gP
  have a9:=gP
  obtain ⟨_,_,_,_,_,_,_,_,_,_,_,_,rfl,-⟩:=gP
  have Gj:=KL.trans (ZX.trans a8)
  have OS:=H.trans OU
  refine ⟨_,_,_,_,_,_,_,_,_,_,_,_,_,_,rfl,fun U2 Y=>(yP (x:=P) (j.le (OS.trans (Gj.trans Y)) fun _ _ g=>ck.le g (OS.trans (Gj.trans Y))) d e (by omega) (a9.le Y) (z1.mono (by omega)) (z2.mono (by omega))).mono ?_⟩
  rintro r YD b0 rfl
  have KM:=Gj.trans (Y.trans b0)
  have UR:=U.trans KM
  rw [L]
  rcases a5 with ⟨f,rfl⟩|⟨f,rfl,gA,sA⟩
  ·refine ⟨_,rfl,(fun a=>by simp at a),fun _=>⟨fun _ YF ZY=>(ky (E.le (UR.trans ZY))).mono ?_,(fun a=>by rw [f] at a;cases a)⟩⟩
   rintro r U3 b5 rfl
   refine ⟨_,rfl,fun _=>⟨_,⟨_,rfl,(E.le (UR.trans (ZY.trans b5))).X9⟩,fun YG d6=>(dD E.su).mono ?_⟩,(fun a=>by cases a)⟩
   rintro r U4 d7 rfl
   exact ⟨_,rfl,fun YH Xb=>rfl⟩
  ·refine ⟨_,rfl,(fun a=>by simp at a),fun _=>⟨(fun a=>by rw [f] at a;cases a),fun _ YJ ZZ=>(ky (E.le (UR.trans ZZ))).mono ?_⟩⟩
   rintro r U5 b6 rfl
   have KN:=KM.trans (ZZ.trans b6)
   refine ⟨_,rfl,fun _=>⟨fL.1,fun _ YK Z3=>(BN (Wr (KN.trans Z3)) M (by omega)).mono ?_,(fun a=>by cases a)⟩,(fun a=>by cases a)⟩
   rintro r U6 b7 gB
   have Sa:=gB
   obtain ⟨_,_,_,_,_,_,rfl⟩:=gB.shape
   refine ⟨_,_,_,_,_,_,_,rfl,fun YL Z7=>(j_ (Sa.le Z7) sA (by omega)).mono ?_⟩
   rintro r U7 b8 gC
   have b9:=gC
   obtain ⟨_,_,_,_,_,_,_,rfl⟩:=gC.shape
   have Qe:=(t.trans K).trans (O.trans (KN.trans (Z3.trans (b7.trans (Z7.trans b8)))))
   refine ⟨_,_,_,_,_,_,_,rfl,fun YM Uw=>(ik (gA.le (Qe.trans Uw)) (b9.le Uw) sA (by omega)).mono ?_⟩
   rintro r U8 B rfl
   exact ⟨_,rfl,fun d8 d9=>by simp⟩
end Go.Proofs.Tryz
