import Derived.Test.YtnnbfoejafcdlaaGreatDoorH16
import Derived.Test.YtnnbfoejafcdlaaGreatDoorH15
import Derived.Test.YtnnbfoejafcdlaaGreatDoorH14
import Derived.Test.YtnnbfoejafcdlaaGreatDoorH13
import Derived.Test.YtnnbfoejafcdlaaGreatDoorH8
import Derived.Test.YtnnbfoejafcdlaaGreatDoorH5
import Derived.Test.YtnnbfoejafcdlaaGreatDoorH12
set_option linter.unusedVariables false
open Go.IntKind (i64 u64 u32)
namespace Go.Proofs.Tryz
open Go.bE Go.dP
theorem Mp {V:View}{p:OA}{n:Nat}{al:List L3}(h:cB 9 xo V p n al){i:Nat}(hi:i<al.length) :
  p.isSome=true/\∃(x1 x2:Int)(q1:OA)(y1 y2:Int)(q2:OA)(z1 z2:Int)(q3:OA)(a:Addr),ah p (i*9)=some a/\V.at (a.add 0) (.int .i64 x1)/\V.at (a.add 1) (.int .i64 x2)/\V.at (a.add 2) (.pointer q1)/\V.at (a.add 3) (.int .i64 y1)/\V.at (a.add 4) (.int .i64 y2)/\V.at (a.add 5) (.pointer q2)/\V.at (a.add 6) (.int .i64 z1)/\V.at (a.add 7) (.int .i64 z2)/\V.at (a.add 8) (.pointer q3) /\
   xo V (.agg #[.int .i64 x1,.int .i64 x2,.pointer q1,.int .i64 y1,.int .i64 y2,.pointer q2,.int .i64 z1,.int .i64 z2,.pointer q3]) al[i]:=by
 obtain ⟨ad,h0,xs,h1,h2,h3⟩:=h.at_ i hi
 have h20:=h2
 obtain ⟨_,_,_,_,_,_,_,_,_,e⟩:=h2.shape
 have e:=congrArg Array.toList (Value.agg.inj e)
 dsimp only at e
 subst e
 refine ⟨?_,_,_,_,_,_,_,_,_,_,ad,h0,h3 0 _ rfl,h3 1 _ rfl,h3 2 _ rfl,h3 3 _ rfl,h3 4 _ rfl,h3 5 _ rfl,h3 6 _ rfl,h3 7 _ rfl,h3 8 _ rfl,h20⟩
 cases p with
 | none=>cases h0
 | some a=>rfl
theorem Ry {x1 x2:Int}{q1:OA}{y1 y2:Int}{q2:OA}{z1 z2:Int}{q3:OA}:∀v∈([.int .i64 x1,.int .i64 x2,.pointer q1,.int .i64 y1,.int .i64 y2,.pointer q2,.int .i64 z1,.int .i64 z2,.pointer q3]:List Value),v.oneCell'=true:=by
 intro v hm
 simp only [List.mem_cons,List.not_mem_nil,or_false] at hm
 rcases hm with rfl|rfl|rfl|rfl|rfl|rfl|rfl|rfl|rfl<;>rfl
theorem Is {V:View}{v:Value}{l:L3}(h:lG V v l):∃(b1:Bool)(p1:OA)(n1 c1:Nat)(b2:Bool)(p2:OA)(n2 c2:Nat)(b3:Bool)(p3:OA)(n3 c3:Nat),v=.agg #[.bool b1,.slice p1 n1 c1,.bool b2,.slice p2 n2 c2,.bool b3,.slice p3 n3 c3]:=by
 rcases h with h|⟨-,b1,p,n,c,xs,b2,q,m,e',ys,b3,s,i,j,zs,hv,-⟩
 ·exact fC h
 ·exact ⟨b1,p,n,c,b2,q,m,e',b3,s,i,j,hv⟩
theorem GV {V:View}{p:OA}{n:Nat}{al:List L3}(h:cB 6 lG V p n al){i:Nat}(hi:i<al.length) :
  p.isSome=true/\∃(b1:Bool)(p1:OA)(n1 c1:Nat)(b2:Bool)(p2:OA)(n2 c2:Nat)(b3:Bool)(p3:OA)(n3 c3:Nat)(a:Addr),ah p (i*6)=some a/\V.at (a.add 0) (.bool b1)/\V.at (a.add 1) (.slice p1 n1 c1)/\V.at (a.add 2) (.bool b2)/\V.at (a.add 3) (.slice p2 n2 c2)/\V.at (a.add 4) (.bool b3)/\V.at (a.add 5) (.slice p3 n3 c3) /\
   lG V (.agg #[.bool b1,.slice p1 n1 c1,.bool b2,.slice p2 n2 c2,.bool b3,.slice p3 n3 c3]) al[i]:=by
 obtain ⟨ad,h0,xs,h1,h2,h3⟩:=h.at_ i hi
 have h20:=h2
 obtain ⟨_,_,_,_,_,_,_,_,_,_,_,_,e⟩:=Is h2
 have e:=congrArg Array.toList (Value.agg.inj e)
 dsimp only at e
 subst e
 refine ⟨?_,_,_,_,_,_,_,_,_,_,_,_,_,ad,h0,h3 0 _ rfl,h3 1 _ rfl,h3 2 _ rfl,h3 3 _ rfl,h3 4 _ rfl,h3 5 _ rfl,h20⟩
 cases p with
 | none=>cases h0
 | some a=>rfl
def q_ (ls:List L3):Bool:=decide (ls.length<=1024)&&ls.all dO
theorem mU {V:View}{p:OA}{n c:Nat}{ls:List L3}(h:cB 6 lG V p n ls)(hb:∀l∈ls,Bd l) :
  ab prog 65 #[.agg #[.slice p n c]] V fun r V'=>∃q m e,r=.tuple #[.slice q m e,.bool (q_ ls)]/\(q_ ls=true->cB 9 xo V' q m ls):=by
 obtain rfl:=h.len
 refine wD p _ c V _ ⟨fun hg V1 l1=>?_,fun hg=>⟨fun z V'=>∃i:Nat,z.2.2.2=(i:Int)/\i<=ls.length/\GR 9 xo V' z.1 z.2.1 z.2.2.1 (ls.take i)/\(ls.take i).all dO=true,fun z=>ls.length-z.2.2.2.toNat,⟨(0,0,[],0),by and_intros<;>rfl,0,rfl,Nat.zero_le _,GR.nil,rfl⟩,?_⟩⟩
 ·have hg:¬ls.length<=1024:=by have:=of_decide_eq_true hg;omega
  have e:q_ ls=false:=by unfold q_;rw [decide_eq_false hg];rfl
  rw [e]
  exact ⟨_,_,_,rfl,fun h=>by cases h⟩
 have hle:ls.length<=1024:=by have:=of_decide_eq_false hg;omega
 have e0:q_ ls=ls.all dO:=by unfold q_;rw [decide_eq_true hle];rfl
 rintro ⟨z1,z2,vs,z4⟩ V2 l2 ⟨i,e4,XP,hgr,hall⟩
 dsimp only at e4 hgr
 subst e4
 have zl:=hgr.len
 rw [List.length_take] at zl
 refine ⟨rfl,fun hlt=>?_,fun hlt V6 l6 bk hbk=>?_⟩
 ·have hlt:(i:Int)<ls.length:=of_decide_eq_true hlt
  have hi:i<ls.length:=by omega
  have w:i64.wrap ((i:Int)+1)=((i+1:Nat):Int):=by rw [aB (by omega)];rfl
  dsimp only
  rw [Int.toNat_natCast,w]
  obtain ⟨is,b1,p1,n1,c1,b2,p2,n2,c2,b3,p3,n3,c3,a,had,a0,a1,a2,a3,a4,a5,hl1⟩:=GV (h.le l2 fun _ _ g=>lG.le g l2) hi
  have bd:=hb _ (List.getElem_mem hi)
  refine ⟨is,⟨by omega,by omega⟩,_,_,_,_,_,_,_,_,_,_,_,_,a,had,a0,a1,a2,a3,a4,a5,fun V3 l3=>(AA (hl1.le l3) bd).mono ?_⟩
  rintro r V4 l4 ⟨w4,rfl,⟨_,_,_,_,_,_,_,_,_,rfl⟩,hok⟩
  have ZT:(ls.take (i+1)).all dO=dO ls[i]:=by rw [List.take_add_one,List.getElem?_eq_getElem hi,List.all_append,hall];simp
  refine ⟨_,_,_,_,_,_,_,_,_,_,rfl,fun hf V5 l5=>?_,fun hf=>⟨by omega,hgr.le,hgr.cap,rfl,Ry,fun sp c' h1 h2=>⟨(z1+1,c',_,((i+1:Nat):Int)),by dsimp only;omega,by and_intros<;>rfl,i+1,rfl,hi,?_,?_⟩⟩⟩
  ·have hf:dO ls[i]=false:=by simpa using hf
   have e:ls.all dO=false:=by
    rw [List.all_eq_false]
    exact ⟨_,List.getElem_mem hi,by rw [hf];exact Bool.false_ne_true⟩
   rw [e0,e]
   exact ⟨_,_,_,rfl,fun h=>by cases h⟩
  ·have hf:dO ls[i]=true:=by simpa using hf
   dsimp only
   rw [List.take_add_one,List.getElem?_eq_getElem hi]
   exact (hgr.mono (V':=V4) fun _ _ g=>xo.le g (l3.trans l4)).snoc rfl ⟨hok hf,bd⟩ (by decide) h1 h2
  ·rw [ZT];simpa using hf
 ·have hlt:¬(i:Int)<ls.length:=of_decide_eq_false hlt
  obtain rfl:i=ls.length:=by omega
  rw [List.take_length] at hgr hall
  rw [e0,hall]
  obtain rfl:=hgr.len
  exact ⟨_,_,_,rfl,fun _=>cB.iz hbk (hgr.row.le fun _ _ g=>xo.le g l6) (by decide) hgr.le⟩
theorem C4 (x:Sd):∀r:List Sd,(mg x r).length=r.length+1
 | []=>rfl
 | s::r=>by
  unfold mg
  split
  ·rw [List.length_cons,C4 x r,List.length_cons]
  ·rfl
theorem zG {c c':List Sd}{l:L3}(e:fZ c l=some c'):c'.length<=c.length+1:=by
 unfold fZ at e
 split at e
 ·cases e
  rw [C4]
  have:=uY c l
  omega
 ·split at e
  ·cases e;omega
  ·cases e
theorem CA (l:L3)(r M:List L3)(c:List Sd):bw (l::r) M c=match fZ c l with|some c'=>bw r (l::M) c'|none=>none:=rfl
theorem kH {V:View}{p:OA}{n c:Nat}{ls:List L3}(h:cB 9 xo V p n ls)(ho:∀l∈ls,dO l=true)(hn:ls.length<=2000) :
  ab prog 66 #[.slice p n c] V fun r V'=>∃q m e,r=.tuple #[.slice q m e,.bool (bw ls [] []).isSome]/\(bw ls [] []=none->r=.tuple #[.slice none 0 0,.bool false])/\(∀c',bw ls [] []=some c'->cB 17 fX V' q m c'/\m<=e):=by
 obtain rfl:=h.len
 refine BL p _ c V _ ⟨fun z V'=>∃(i:Nat)(M:List L3)(cs:List Sd),z.2.2.2.2=(i:Int)/\i<=ls.length/\z.2.2.2.1=true/\bw ls [] []=bw (ls.drop i) M cs/\ji M cs/\(∀m∈M,dO m=true)/\cs.length<=i/\cB 17 fX V' z.1 z.2.1 cs/\z.2.1<=z.2.2.1,fun z=>ls.length-z.2.2.2.2.toNat,
  ⟨(none,0,0,true,0),by and_intros<;>rfl,0,[],[],rfl,Nat.zero_le _,rfl,rfl,ji.nil,(fun m hm=>by cases hm),Nat.le_refl _,cB.nil,Nat.le_refl _⟩,?_⟩
 rintro ⟨zp,zn,zc,zb,zi⟩ V1 l1 ⟨i,M,cs,e1,XP,e2,hcan,hC,hM,hcl,hL,hcap⟩
 dsimp only at e1 e2 hL hcap
 subst e1 e2
 refine ⟨rfl,fun hlt=>?_,fun hlt=>⟨(fun hf=>by cases hf),fun _ V7 l7=>?_⟩⟩
 ·have hlt:(i:Int)<ls.length:=of_decide_eq_true hlt
  have hi:i<ls.length:=by omega
  have w:i64.wrap ((i:Int)+1)=((i+1:Nat):Int):=by rw [aB (by omega)];rfl
  dsimp only
  rw [Int.toNat_natCast,w]
  obtain ⟨is,x1,x2,q1,y1,y2,q2,z1,z2,q3,a,had,a0,a1,a2,a3,a4,a5,a6,a7,a8,hl1⟩:=Mp (h.le l1 fun _ _ g=>xo.le g l1) hi
  have ok:=ho _ (List.getElem_mem hi)
  have ed:ls.drop i=ls[i]::ls.drop (i+1):=List.drop_eq_getElem_cons hi
  rw [ed,CA] at hcan
  refine ⟨is,⟨by omega,by omega⟩,_,_,_,_,_,_,_,_,_,a,had,a0,a1,a2,a3,a4,a5,a6,a7,a8,fun V2 l2=>(Cm (hL.le l2 fun _ _ g=>fX.le g l2) (hl1.le l2).1 hl1.2 (by omega) hC.rM).mono ?_⟩
  rintro r V3 l3 ⟨q,m,e,rfl,hr⟩
  refine ⟨_,_,_,_,rfl,fun hf=>⟨fun _ V4 l4=>?_,fun hf'=>by rw [hf] at hf';cases hf'⟩,fun hf=>?_⟩
  ·have hf:fZ cs ls[i]=none:=by simpa using hf
   rw [hf] at hcan
   have hcan:bw ls [] []=none:=hcan
   rw [hcan]
   exact ⟨none,0,0,rfl,fun _=>rfl,fun c' e=>by cases e⟩
  ·have hf:(fZ cs ls[i]).isSome=true:=by simpa using hf
   obtain ⟨c',e'⟩:=Option.isSome_iff_exists.1 hf
   rw [e'] at hcan
   have hcan:bw ls [] []=bw (ls.drop (i+1)) (ls[i]::M) c':=hcan
   refine ⟨(q,m,e,(fZ cs ls[i]).isSome,((i+1:Nat):Int)),by dsimp only;omega,by and_intros<;>rfl,i+1,ls[i]::M,c',rfl,hi,hf,hcan,(Gy hC hM ok).1 c' e',List.forall_mem_cons.2 ⟨ok,hM⟩,?_,(hr c' e').1,(hr c' e').2 hcap⟩
   have:=zG e'
   omega
 ·have hlt:¬(i:Int)<ls.length:=of_decide_eq_false hlt
  obtain rfl:i=ls.length:=by omega
  rw [List.drop_length] at hcan
  have hcan:bw ls [] []=some cs:=hcan
  rw [hcan]
  refine ⟨zp,zn,zc,rfl,(fun h=>by cases h),fun c' e=>?_⟩
  cases e
  exact ⟨hL.le l7 fun _ _ g=>fX.le g l7,hcap⟩
theorem EI {V:View}{p:OA}{n c:Nat}{cs:List Sd}(h:cB 17 fX V p n cs)(hn:cs.length<=100000) :
  ab prog 70 #[.slice p n c] V fun r V'=>∃q m e,r=.agg #[.slice q m e]/\cB 6 fE V' q m (cs.map Prod.fst)/\m<=e:=by
 obtain rfl:=h.len
 refine tm p _ c V _ ⟨fun z V'=>∃j:Nat,z.1=(j:Int)/\j<=cs.length/\GR 6 fE V' z.2.1 z.2.2.1 z.2.2.2 ((cs.map Prod.fst).take j),fun z=>cs.length-z.1.toNat,⟨(0,0,0,[]),by and_intros<;>rfl,0,rfl,Nat.zero_le _,GR.nil⟩,?_⟩
 rintro ⟨z1,z2,z3,vs⟩ V1 l1 ⟨j,e4,GM,hg⟩
 dsimp only at e4 hg
 subst e4
 have zl:=hg.len
 rw [List.length_take,List.length_map] at zl
 refine ⟨rfl,fun hlt=>?_,fun hlt V4 l4 bk hb=>?_⟩
 ·have hlt:(j:Int)<cs.length:=of_decide_eq_true hlt
  have hi:j<cs.length:=by omega
  have w:i64.wrap ((j:Int)+1)=((j+1:Nat):Int):=by rw [aB (by omega)];rfl
  dsimp only
  rw [Int.toNat_natCast,w]
  obtain ⟨ps,a1,a2,a3,a4,a5,a6,a7,a8,a9,b1,b2,b3,b4,b5,b6,a,ha,k0,k1,k2,k3,k4,k5,k6,k7,k8,k9,k10,k11,k12,k13,k14,k15,k16,hr⟩:=iw (h.le l1 fun _ _ g=>fX.le g l1) hi
  obtain ⟨rl,ri,-,-⟩:=hr.both
  obtain ⟨s1,s2,s3⟩:=hr.2.1.sz
  refine ⟨ps,⟨by omega,by omega⟩,_,_,_,_,_,_,_,_,_,_,_,_,_,_,_,_,_,a,ha,k0,k1,k2,k3,k4,k5,k6,k7,k8,k9,k10,k11,k12,k13,k14,k15,k16,fun V2 l2=>(HA (rl.le l2) s1 s2 s3 (by omega)).mono ?_⟩
  rintro r V3 l3 gr
  have g0:fE V3 r cs[j].1:=xh.WW gr
  obtain ⟨_,_,_,_,_,_,_,_,_,_,_,_,rfl⟩:=fC g0
  refine ⟨_,_,_,_,_,_,_,_,_,_,_,_,rfl,by omega,hg.le,hg.cap,rfl,Mt,fun sp c' h1 h2=>⟨(((j+1:Nat):Int),z2+1,c',_),by dsimp only;omega,by and_intros<;>rfl,j+1,rfl,hi,?_⟩⟩
  dsimp only
  rw [List.take_add_one,List.getElem?_map,List.getElem?_eq_getElem hi]
  exact (hg.mono (V':=V3) fun _ _ g=>fE.le g (l2.trans l3)).snoc rfl g0 (by decide) h1 h2
 ·have hlt:¬(j:Int)<cs.length:=of_decide_eq_false hlt
  obtain rfl:j=cs.length:=by omega
  rw [List.take_of_length_le (by rw [List.length_map];exact Nat.le_refl _)] at hg
  obtain rfl:=hg.len
  exact ⟨_,_,_,rfl,cB.iz hb (hg.row.le fun _ _ g=>fE.le g l4) (by decide) hg.le,hg.le⟩
def Ci (c:List Sd):Bool:=decide (c≠[])&&c.all fun s=>!s.2.a&&!s.2.b
theorem uB {V:View}{p:OA}{n c:Nat}{cs:List Sd}(h:cB 17 fX V p n cs)(hn:cs.length<=100000) :
  ab prog 81 #[.slice p n c] V fun r V'=>r=.bool (Ci cs):=by
 obtain rfl:=h.len
 refine nE p _ c V _ ⟨fun z V'=>∃j:Nat,z=(j:Int)/\j<=cs.length/\((cs.take j).all fun s=>!s.2.a&&!s.2.b)=true,fun z=>cs.length-z.toNat,⟨0,by and_intros<;>rfl,0,rfl,Nat.zero_le _,rfl⟩,?_⟩
 rintro z1 V1 l1 ⟨j,rfl,GM,hall⟩
 refine ⟨rfl,fun hlt=>?_,fun hlt V4 l4=>?_⟩
 ·have hlt:(j:Int)<cs.length:=of_decide_eq_true hlt
  have hi:j<cs.length:=by omega
  have w:i64.wrap ((j:Int)+1)=((j+1:Nat):Int):=by rw [aB (by omega)];rfl
  rw [Int.toNat_natCast,w]
  obtain ⟨ps,a1,a2,a3,a4,a5,a6,a7,a8,a9,b1,b2,b3,b4,b5,b6,a,ha,k0,k1,k2,k3,k4,k5,k6,k7,k8,k9,k10,k11,k12,k13,k14,k15,k16,hr⟩:=iw (h.le l1 fun _ _ g=>fX.le g l1) hi
  have bad:(cs[j].2.a=true\/cs[j].2.b=true)->Ci cs=false:=fun xR=>by
   unfold Ci
   rw [Bool.and_eq_false_iff,List.all_eq_false]
   refine .inr ⟨_,List.getElem_mem hi,?_⟩
   rcases xR with h|h<;>simp [h]
  refine ⟨ps,⟨by omega,by omega⟩,_,_,_,_,_,_,_,_,_,_,_,_,_,_,_,_,_,a,ha,k0,k1,k2,k3,k4,k5,k6,k7,k8,k9,k10,k11,k12,k13,k14,k15,k16,fun h1 V2 l2=>by rw [bad (.inl h1)],fun h1=>⟨fun h2 V3 l3=>by rw [bad (.inr h2)],fun h2=>⟨((j+1:Nat):Int),by dsimp only;omega,by and_intros<;>rfl,j+1,rfl,hi,?_⟩⟩⟩
  rw [List.take_add_one,List.getElem?_eq_getElem hi,List.all_append,hall]
  simp [h1,h2]
 ·have hlt:¬(j:Int)<cs.length:=of_decide_eq_false hlt
  obtain rfl:j=cs.length:=by omega
  rw [List.take_length] at hall
  unfold Ci
  rw [hall,Bool.and_true]
  congr 1
  cases cs with
  | nil=>rfl
  | cons s r=>simp
def Et (S:List L3)(i:Nat):Option aq.V2:=if 0<aq.cr (aq.ax (S.getD i (0,0,0))) (aq.ax (S.getD ((i+1)%S.length) (0,0,0))) then some (GW (S.getD i (0,0,0)) (S.getD ((i+1)%S.length) (0,0,0)),GX (S.getD i (0,0,0)) (S.getD ((i+1)%S.length) (0,0,0))) else none
theorem M6 (S:List L3):nF S=(List.range S.length).filterMap (Et S):=rfl
theorem Eu (S:List L3)(i:Nat):(List.range (i+1)).filterMap (Et S)=(List.range i).filterMap (Et S)++(Et S i).toList:=by
 rw [List.range_succ,List.filterMap_append]
 congr 1
theorem Hl (S:List L3):(nF S).length<=S.length:=by
 have:=List.length_filterMap_le (Et S) (List.range S.length)
 rw [List.length_range] at this
 exact this
theorem jw {α:Type}{l:List α}{i:Nat}{d:α}(h:i<l.length):l.getD i d=l[i]:=by rw [List.getD_eq_getElem?_getD,List.getElem?_eq_getElem h];rfl
theorem CE (l m:L3):aq.cr (aq.ax l) (aq.ax m)=aU l m:=by unfold aq.cr aq.ax aU;grind
theorem lC {V:View}{p:OA}{n c:Nat}{cs:List Sd}(h:cB 17 fX V p n cs)(hn:cs.length<=100000) :
  ab prog 79 #[.slice p n c] V fun r V'=>∃q m e,r=.slice q m e/\cB 6 (EA 20000) V' q m (nF (cs.map Prod.fst)):=by
 obtain rfl:=h.len
 have hml:(cs.map Prod.fst).length=cs.length:=List.length_map ..
 refine mL p _ c V _ ⟨fun z V'=>∃j:Nat,z.2.2.2=(j:Int)/\j<=cs.length/\z.1<=j/\GR 6 (EA 20000) V' z.1 z.2.1 z.2.2.1 ((List.range j).filterMap (Et (cs.map Prod.fst))),fun z=>cs.length-z.2.2.2.toNat,⟨(0,0,[],0),by and_intros<;>first|rfl|trivial,0,rfl,Nat.zero_le _,Nat.le_refl _,GR.nil⟩,?_⟩
 rintro ⟨z1,z2,vs,z4⟩ V1 l1 ⟨j,e4,GM,zle,hg⟩
 dsimp only at e4 hg zle
 subst e4
 refine ⟨rfl,fun hlt=>?_,fun hlt mQ bV bk hb=>?_⟩
 ·have hlt:(j:Int)<cs.length:=of_decide_eq_true hlt
  have hi:j<cs.length:=by omega
  have w:i64.wrap ((j:Int)+1)=((j+1:Nat):Int):=by rw [aB (by omega)];rfl
  have hm:(((j+1:Nat):Int)).tmod (cs.length:Int)=(((j+1)%cs.length:Nat):Int):=by rw [Int.ofNat_tmod]
  have hk:(j+1)%cs.length<cs.length:=Nat.mod_lt _ (by omega)
  dsimp only
  rw [w,hm]
  simp only [Int.toNat_natCast]
  obtain ⟨ps,a1,a2,a3,a4,a5,a6,a7,a8,a9,b1,b2,b3,b4,b5,b6,a,ha,k0,k1,k2,k3,k4,k5,k6,k7,k8,k9,k10,k11,k12,k13,k14,k15,k16,hr⟩:=iw (h.le l1 fun _ _ g=>fX.le g l1) hi
  obtain ⟨rl,-,-,-⟩:=hr.both
  obtain ⟨-,c1,c2,c3,c4,c5,c6,c7,c8,c9,d1,d2,d3,d4,d5,d6,aa,ZB,m0,m1,m2,m3,m4,m5,m6,m7,m8,m9,m10,m11,m12,m13,m14,m15,m16,hr'⟩:=iw (h.le l1 fun _ _ g=>fX.le g l1) hk
  obtain ⟨rl',-,-,-⟩:=hr'.both
  have sl:=hr.2.1
  have sl':=hr'.2.1
  have ev:Et (cs.map Prod.fst) j=if 0<aU cs[j].1 cs[(j+1)%cs.length].1 then some (GW cs[j].1 cs[(j+1)%cs.length].1,GX cs[j].1 cs[(j+1)%cs.length].1) else none:=by
   unfold Et
   rw [hml,jw (by omega:j<(cs.map Prod.fst).length),jw (by omega:(j+1)%cs.length<(cs.map Prod.fst).length),List.getElem_map,List.getElem_map,CE]
  generalize cs[j]=S at *
  generalize cs[(j+1)%cs.length]=T at *
  refine ⟨ps,⟨by omega,by omega⟩,_,_,_,_,_,_,_,_,_,_,_,_,_,_,_,_,_,a,ha,k0,k1,k2,k3,k4,k5,k6,k7,k8,k9,k10,k11,k12,k13,k14,k15,k16,by omega,ps,⟨by omega,by omega⟩,_,_,_,_,_,_,_,_,_,_,_,_,_,_,_,_,_,aa,ZB,m0,m1,m2,m3,m4,m5,m6,m7,m8,m9,m10,m11,m12,m13,m14,m15,m16,fun V2 l2=>(GN (rl.le l2) sl).mono ?_⟩
  rintro r V3 l3 g1
  have g10:=g1
  obtain ⟨_,_,_,_,_,_,rfl,-,-⟩:=g1
  refine ⟨_,_,_,_,_,_,rfl,fun V4 l4=>(GN (rl'.le (l2.trans (l3.trans l4))) sl').mono ?_⟩
  rintro r V5 l5 g2
  have g20:=g2
  obtain ⟨_,_,_,_,_,_,rfl,-,-⟩:=g2
  refine ⟨_,_,_,_,_,_,rfl,fun V6 l6=>(fL (g10.le (l4.trans (l5.trans l6))) (g20.le l6) (i_ sl).1 (i_ sl).2 (i_ sl').1 (i_ sl').2 (by omega)).mono ?_⟩
  rintro r V7 l7 g3
  have kD:RR V7 r (aU S.1 T.1):=by rw [←CE];exact g3
  obtain ⟨_,_,_,rfl⟩:=kD.shape
  refine ⟨_,_,_,rfl,fun V8 l8=>(eO (kD.le l8) (k:=5000) ((qa sl.lA sl'.lA).mono (by omega)) (by omega)).mono ?_⟩
  rintro r V9 l9 rfl
  have dA:V1.Le V9:=l2.trans (l3.trans (l4.trans (l5.trans (l6.trans (l7.trans (l8.trans l9))))))
  refine ⟨_,rfl,fun hc jG l10=>(Hy (rl.le (dA.trans l10)) (rl'.le (dA.trans l10)) sl.lA sl'.lA (by omega)).mono ?_,fun hc=>⟨(z1,z2,vs,((j+1:Nat):Int)),by dsimp only;omega,by and_intros<;>first|rfl|trivial,j+1,rfl,hi,by dsimp only;omega,?_⟩⟩
  ·have hc:0<aU S.1 T.1:=aq.mz.1 (of_decide_eq_true hc)
   rintro r jZ bI ⟨Ye,rfl,⟨_,_,_,_,_,_,rfl⟩,hme⟩
   have gm:=hme (by grind)
   obtain ⟨sx,sy⟩:=R9 sl.lA sl'.lA
   refine ⟨_,_,_,_,_,_,_,rfl,by omega,hg.le,hg.cap,rfl,Rx,fun sp c' h1 h2=>⟨(z1+1,c',_,((j+1:Nat):Int)),by dsimp only;omega,by and_intros<;>first|rfl|trivial,j+1,rfl,hi,by dsimp only;omega,?_⟩⟩
   dsimp only
   rw [Eu,ev,if_pos hc]
   exact (hg.mono (V':=jZ) fun _ _ g=>EA.le g (dA.trans (l10.trans bI))).snoc (a:=(GW S.1 T.1,GX S.1 T.1)) rfl ⟨gm,sx.mono (by omega),sy.mono (by omega)⟩ (by decide) h1 h2
  ·have hc:¬0<aU S.1 T.1:=fun h=>of_decide_eq_false hc (aq.mz.2 h)
   dsimp only
   rw [Eu,ev,if_neg hc,Option.toList_none,List.append_nil]
   exact hg.mono fun _ _ g=>EA.le g dA
 ·have hlt:¬(j:Int)<cs.length:=of_decide_eq_false hlt
  obtain rfl:j=cs.length:=by omega
  rw [←hml,←M6] at hg
  obtain rfl:=hg.len
  exact ⟨_,_,_,rfl,cB.iz hb (hg.row.le fun _ _ g=>EA.le g bV) (by decide) hg.le⟩
def Se (l:List aq.V2)(k:Nat):Rat:=((List.range k).map fun i=>aq.cr (l.getD i (0,0)) (l.getD ((i+1)%l.length) (0,0))).sum
theorem DT (l:List aq.V2)(k:Nat):Se l (k+1)=Se l k+aq.cr (l.getD k (0,0)) (l.getD ((k+1)%l.length) (0,0)):=by
 unfold Se
 rw [List.range_succ,List.map_append,List.sum_append]
 simp [Rat.add_zero]
theorem EN {V:View}{p:OA}{n c:Nat}{l:List aq.V2}(h:cB 6 (EA 20000) V p n l)(hn:l.length<=100000) :
  ab prog 139 #[.slice p n c] V fun r V'=>RR V' r (tw l*((2:Int):Rat)⁻¹)/\Sz (100000*l.length+10) (tw l*((2:Int):Rat)⁻¹):=by
 obtain rfl:=h.len
 have step:∀k,k<=l.length->(∀i,i<l.length->Sz 20000 (l.getD i (0,0)).1/\Sz 20000 (l.getD i (0,0)).2)->Sz (100000*k+4) (Se l k):=by
  intro k
  induction k with
  | zero=>exact fun _ _=>MZ _ (by omega)
  | succ k ih=>
   intro hk hs
   rw [DT]
   obtain ⟨s1,s2⟩:=hs k (by omega)
   obtain ⟨s3,s4⟩:=hs _ (Nat.mod_lt (k+1) (show l.length>0 by omega))
   exact ((ih (by omega) hs).add ((s1.mul s4).sub (s2.mul s3))).mono (by omega)
 have hsz:∀i,i<l.length->Sz 20000 (l.getD i (0,0)).1/\Sz 20000 (l.getD i (0,0)).2:=fun i hi=>by
  obtain ⟨-,_,_,_,_,_,_,_,-,-,-,-,-,-,-,g⟩:=pM h hi
  rw [jw hi]
  exact g.2
 refine D2 p _ c V _ ⟨fun z V'=>∃j:Nat,z.1=(j:Int)/\j<=l.length/\RR V' (.agg #[.int .i64 z.2.1,.int .i64 z.2.2.1,.pointer z.2.2.2]) (Se l j),fun z=>l.length-z.1.toNat,⟨(0,0,0,none),by and_intros<;>first|rfl|trivial,0,rfl,Nat.zero_le _,RR.zero _⟩,?_⟩
 rintro ⟨z1,z2,z3,z4⟩ V1 l1 ⟨j,e4,GM,hg⟩
 dsimp only at e4 hg
 subst e4
 refine ⟨rfl,fun hlt=>?_,fun hlt V6 l6=>?_⟩
 ·have hlt:(j:Int)<l.length:=of_decide_eq_true hlt
  have hi:j<l.length:=by omega
  have w:i64.wrap ((j:Int)+1)=((j+1:Nat):Int):=by rw [aB (by omega)];rfl
  have hm:(((j+1:Nat):Int)).tmod (l.length:Int)=(((j+1)%l.length:Nat):Int):=by rw [Int.ofNat_tmod]
  have hk:(j+1)%l.length<l.length:=Nat.mod_lt _ (by omega)
  dsimp only
  rw [w,hm]
  simp only [Int.toNat_natCast]
  obtain ⟨ps,x,y,q,x',y',q',a,ha,a0,a1,a2,a3,a4,a5,gu⟩:=pM (h.le l1 fun _ _ g=>EA.le g l1) hi
  obtain ⟨-,u,v,t,u',v',t',b,hb,b0,b1,b2,b3,b4,b5,gw⟩:=pM (h.le l1 fun _ _ g=>EA.le g l1) hk
  have et:=DT l j
  rw [jw hi,jw hk] at et
  have sj:=step j GM hsz
  generalize l[j]=S at *
  generalize l[(j+1)%l.length]=T at *
  refine ⟨ps,⟨by omega,by omega⟩,_,_,_,_,_,_,a,ha,a0,a1,a2,a3,a4,a5,by omega,ps,⟨by omega,by omega⟩,_,_,_,_,_,_,b,hb,b0,b1,b2,b3,b4,b5,fun V2 l2=>(fL (gu.1.le l2) (gw.1.le l2) gu.2.1 gu.2.2 gw.2.1 gw.2.2 (by omega)).mono ?_⟩
  rintro r V3 l3 g3
  have kD:RR V3 r (aq.cr S T):=g3
  obtain ⟨_,_,_,rfl⟩:=kD.shape
  refine ⟨_,_,_,rfl,fun V4 l4=>(jm (hg.le (l2.trans (l3.trans l4))) (kD.le l4) sj ((gu.2.1.mul gw.2.2).sub (gu.2.2.mul gw.2.1)) (by omega)).mono ?_⟩
  rintro r V5 l5 g5
  have JA:=g5
  obtain ⟨_,_,_,rfl⟩:=g5.shape
  exact ⟨_,_,_,rfl,(((j+1:Nat):Int),_,_,_),by dsimp only;omega,by and_intros<;>first|rfl|trivial,j+1,rfl,hi,by rw [et];exact JA⟩
 ·have hlt:¬(j:Int)<l.length:=of_decide_eq_false hlt
  obtain rfl:j=l.length:=by omega
  have sj:=step l.length (Nat.le_refl _) hsz
  refine (Cp (hg.le l6) sj (by omega)).mono ?_
  rintro r V7 l7 g7
  have LS:=g7
  obtain ⟨_,_,_,rfl⟩:=g7.shape
  exact ⟨_,_,_,rfl,fun V8 l8=>⟨LS.le l8,(sj.mul (cY ue)).mono (by omega)⟩⟩
theorem Cl {V:View}{p:OA}{n c:Nat}{cs:List Sd}(h:cB 17 fX V p n cs)(hn:cs.length<=100000) :
  ab prog 82 #[.slice p n c] V fun r V'=>RR V' r (tw (nF (cs.map Prod.fst))*((2:Int):Rat)⁻¹)/\Sz 10000000010 (tw (nF (cs.map Prod.fst))*((2:Int):Rat)⁻¹):=by
 refine rq p n c V _ fun V1 l1=>(lC (h.le l1 fun _ _ g=>fX.le g l1) hn).mono ?_
 rintro r V2 l2 ⟨q,m,e,rfl,g⟩
 have vl:=Hl (cs.map Prod.fst)
 rw [List.length_map] at vl
 refine ⟨_,_,_,rfl,fun V3 l3=>(EN (g.le l3 fun _ _ g=>EA.le g l3) (by omega)).mono ?_⟩
 rintro r V4 l4 ⟨g4,s4⟩
 have E6:=g4
 obtain ⟨_,_,_,rfl⟩:=g4.shape
 exact ⟨_,_,_,rfl,fun V5 l5=>⟨E6.le l5,s4.mono (by omega)⟩⟩
structure Er (V:View) (yi ye yu:Value):Prop where
 inv:B_ V 0 yi
 emp:B_ V 1 ye
 X_:B_ V 2 yu
 si:ED yi
 se:ED ye
 su:ED yu
theorem Er.le {V V':View}{yi ye yu:Value}(h:Er V yi ye yu)(l:V.Le V'):Er V' yi ye yu:=⟨h.inv.le l,h.emp.le l,h.X_.le l,h.si,h.se,h.su⟩
theorem zM {y:Value}(h:ED y):IsIface y/\cF y=false:=by obtain ⟨a,rfl⟩:=h;exact ⟨.inr ⟨_,_,rfl⟩,rfl⟩
theorem ju:IsIface .nilIface/\cF .nilIface=true:=⟨.inl rfl,rfl⟩
def Ev (ls:List L3)(bad SU:Prop)(some_:List Sd->Prop):Prop:=(q_ ls=false/\bad)\/(q_ ls=true/\bw ls [] []=none/\SU)\/(q_ ls=true/\∃c,bw ls [] []=some c/\some_ c)
theorem Ev.bad {ls:List L3}{p q:Prop}{s:List Sd->Prop}(h:Ev ls p q s)(e:q_ ls=false):p:=by
 rcases h with ⟨-,h⟩|⟨h,-⟩|⟨h,-⟩
 ·exact h
 ·rw [e] at h;cases h
 ·rw [e] at h;cases h
theorem Ev.SU {ls:List L3}{p q:Prop}{s:List Sd->Prop}(h:Ev ls p q s)(e:q_ ls=true)(e':bw ls [] []=none):q:=by
 rcases h with ⟨h,-⟩|⟨-,-,h⟩|⟨-,c,h,-⟩
 ·rw [e] at h;cases h
 ·exact h
 ·rw [e'] at h;cases h
theorem Ev.some {ls:List L3}{p q:Prop}{s:List Sd->Prop}{c:List Sd}(h:Ev ls p q s)(e:q_ ls=true)(e':bw ls [] []=Option.some c):s c:=by
 rcases h with ⟨h,-⟩|⟨-,h,-⟩|⟨-,c',h,h'⟩
 ·rw [e] at h;cases h
 ·rw [e'] at h;cases h
 ·rw [e'] at h;cases h;exact h'
theorem Ev.imp {ls:List L3}{p q p' q':Prop}{s s':List Sd->Prop}(h:Ev ls p q s)(hp:p->p')(hq:q->q')(hs:∀c,bw ls [] []=Option.some c->s c->s' c):Ev ls p' q' s':=by
 rcases h with ⟨h,h'⟩|⟨h,h1,h'⟩|⟨h,c,h1,h'⟩
 ·exact .inl ⟨h,hp h'⟩
 ·exact .inr (.inl ⟨h,h1,hq h'⟩)
 ·exact .inr (.inr ⟨h,c,h1,hs c h1 h'⟩)
theorem gP {ls:List L3}(h:q_ ls=true):ls.length<=1024/\∀l∈ls,dO l=true:=by
 unfold q_ at h
 rw [Bool.and_eq_true,decide_eq_true_eq,List.all_eq_true] at h
 exact h
theorem zF:∀{ls M:List L3} {c c':List Sd},bw ls M c=some c'->c'.length<=c.length+ls.length
 | [],_,_,_,e=>by cases e;simp
 | l::r,M,c,c',e=>by
  unfold bw at e
  cases h:fZ c l with
  | none=>rw [h] at e;cases e
  | some c1=>
   rw [h] at e
   have:=zF e
   have:=zG h
   rw [List.length_cons];omega
theorem uS {ls:List L3}{c:List Sd}(e:bw ls [] []=some c)(h:q_ ls=true):c.length<=100000:=by
 have:=zF e
 have:=(gP h).1
 rw [List.length_nil] at *
 omega
theorem lW {V:View}{p:OA}{n c:Nat}{ls:List L3}(h:cB 6 lG V p n ls)(hb:∀l∈ls,Bd l):ab prog 15 #[.agg #[.slice p n c]] V fun r V'=>r=.bool (q_ ls):=by
 refine th p n c V _ fun V1 l1=>(mU (h.le l1 fun _ _ g=>lG.le g l1) hb).mono ?_
 rintro r V2 l2 ⟨q,m,e,rfl,-⟩
 exact ⟨_,_,_,_,rfl,fun V3 l3=>rfl⟩
theorem uD {V:View}{p:OA}{n c:Nat}{ls:List L3}(h:cB 6 lG V p n ls)(hb:∀l∈ls,Bd l){yi ye yu:Value}(E:Er V yi ye yu) :
  ab prog 16 #[.agg #[.slice p n c]] V fun r V'=>Ev ls (r=.tuple #[.bool false,yi]) (r=.tuple #[.bool true,.nilIface]) fun _=>r=.tuple #[.bool false,.nilIface]:=by
 refine tg p n c V _ fun V1 l1=>(mU (h.le l1 fun _ _ g=>lG.le g l1) hb).mono ?_
 rintro r V2 l2 ⟨q,m,e,rfl,g⟩
 have L2:=l1.trans l2
 refine ⟨_,_,_,_,rfl,fun ho=>⟨yi,⟨_,rfl,(E.le L2).inv⟩,fun V3 l3=>.inl ⟨by simpa using ho,rfl⟩⟩,fun ho V4 l4=>?_⟩
 have ho:q_ ls=true:=by simpa using ho
 have hg:=g ho
 refine (kH (hg.le l4 fun _ _ g=>xo.le g l4) (gP ho).2 (by have:=(gP ho).1;omega)).mono ?_
 rintro r V5 l5 ⟨q',m',e',rfl,-,-⟩
 refine ⟨_,_,_,_,rfl,fun V6 l6=>?_⟩
 cases hc:bw ls [] [] with
 | none=>exact .inr (.inl ⟨ho,hc,rfl⟩)
 | some cs=>exact .inr (.inr ⟨ho,cs,hc,rfl⟩)
def Yw (V':View)(r:Value)(ls:List L3)(yi ye:Value):Prop:=Ev ls (r=.tuple #[.slice none 0 0,yi]) (r=.tuple #[.slice none 0 0,ye]) fun cs=>(∃q m e,r=.tuple #[.slice q m e,.nilIface]/\cB 17 fX V' q m cs/\m<=e)/\ji ls.reverse cs/\cs.length<=100000
theorem jI {V:View}{p:OA}{n c:Nat}{ls:List L3}(h:cB 6 lG V p n ls)(hb:∀l∈ls,Bd l){yi ye yu:Value}(E:Er V yi ye yu) :
  ab prog 69 #[.agg #[.slice p n c]] V fun r V'=>Yw V' r ls yi ye:=by
 refine wu p n c V _ fun V1 l1=>(mU (h.le l1 fun _ _ g=>lG.le g l1) hb).mono ?_
 rintro r V2 l2 ⟨q,m,e,rfl,g⟩
 have L2:=l1.trans l2
 refine ⟨_,_,_,_,rfl,fun ho=>⟨yi,⟨_,rfl,(E.le L2).inv⟩,fun V3 l3=>.inl ⟨by simpa using ho,rfl⟩⟩,fun ho V4 l4=>?_⟩
 have ho:q_ ls=true:=by simpa using ho
 have hg:=g ho
 refine (kH (hg.le l4 fun _ _ g=>xo.le g l4) (gP ho).2 (by have:=(gP ho).1;omega)).mono ?_
 rintro r V5 l5 ⟨q',m',e',rfl,hn,hs⟩
 refine ⟨_,_,_,_,rfl,fun hf=>⟨ye,⟨_,rfl,(E.le (L2.trans (l4.trans l5))).emp⟩,fun V6 l6=>.inr (.inl ⟨ho,by simpa using hf,rfl⟩)⟩,fun hf V7 l7=>?_⟩
 have hf:(bw ls [] []).isSome=true:=by simpa using hf
 obtain ⟨cs,hc⟩:=Option.isSome_iff_exists.1 hf
 have hC:=(uU ji.nil (fun m hm=>by cases hm) (gP ho).2).1 cs hc
 rw [List.append_nil] at hC
 exact .inr (.inr ⟨ho,cs,hc,⟨_,_,_,rfl,(hs cs hc).1.le l7 fun _ _ g=>fX.le g l7,(hs cs hc).2⟩,hC,uS hc ho⟩)
theorem lU {V:View}{p:OA}{n c:Nat}{ls:List L3}(h:cB 6 lG V p n ls)(hb:∀l∈ls,Bd l){yi ye yu:Value}(E:Er V yi ye yu) :
  ab prog 18 #[.agg #[.slice p n c]] V fun r V'=>Ev ls (r=.tuple #[.agg #[.slice none 0 0],yi]) (r=.tuple #[.agg #[.slice none 0 0],ye]) fun cs=>∃q m e,r=.tuple #[.agg #[.slice q m e],.nilIface]/\cB 6 fE V' q m (cs.map Prod.fst)/\m<=e:=by
 refine s_ p n c V _ fun V1 l1=>(jI (h.le l1 fun _ _ g=>lG.le g l1) hb (E.le l1)).mono ?_
 rintro r V2 l2 (⟨ho,rfl⟩|⟨ho,hc,rfl⟩|⟨ho,cs,hc,⟨q,m,e,rfl,hL,-⟩,hC,hl⟩)
 ·obtain ⟨i1,i2⟩:=zM E.si
  exact ⟨_,_,_,_,rfl,i1,fun _ V3 l3=>.inl ⟨ho,rfl⟩,fun hf=>by rw [i2] at hf;cases hf⟩
 ·obtain ⟨i1,i2⟩:=zM E.se
  exact ⟨_,_,_,_,rfl,i1,fun _ V3 l3=>.inr (.inl ⟨ho,hc,rfl⟩),fun hf=>by rw [i2] at hf;cases hf⟩
 ·refine ⟨_,_,_,_,rfl,ju.1,(fun hf=>by cases hf),fun _ V4 l4=>(EI (hL.le l4 fun _ _ g=>fX.le g l4) hl).mono ?_⟩
  rintro r V5 l5 ⟨q',m',e',rfl,g,hm⟩
  exact ⟨_,_,_,rfl,fun V6 l6=>.inr (.inr ⟨ho,cs,hc,_,_,_,rfl,g.le l6 fun _ _ g=>fE.le g l6,hm⟩)⟩
def f_ (V:View)(v:Value)(c:Rat×Rat):Prop:=IY V v c.1 c.2
theorem f_.le {V V':View}{v:Value}{c:Rat×Rat}(h:f_ V v c)(l:V.Le V'):f_ V' v c:=IY.le h l
theorem ND {b:Bool}{p:OA}{n c:Nat}{p':OA}{n' c':Nat}{d:Bool}{q:OA}{m e:Nat}{q':OA}{m' e':Nat}:∀v∈([.bool b,.slice p n c,.slice p' n' c',.bool d,.slice q m e,.slice q' m' e']:List Value),v.oneCell'=true:=by
 intro v hm
 simp only [List.mem_cons,List.not_mem_nil,or_false] at hm
 rcases hm with rfl|rfl|rfl|rfl|rfl|rfl<;>rfl
theorem oY {V:View}{p:OA}{n c:Nat}{ls:List L3}(h:cB 6 lG V p n ls)(hb:∀l∈ls,Bd l){yi ye yu:Value}(E:Er V yi ye yu) :
  ab prog 23 #[.agg #[.slice p n c]] V fun r V'=>Ev ls (r=.tuple #[.slice none 0 0,yi]) (r=.tuple #[.slice none 0 0,ye]) fun cs=>∃q m e,r=.tuple #[.slice q m e,.nilIface]/\cB 6 f_ V' q m (nF (cs.map Prod.fst))/\∀x∈nF (cs.map Prod.fst),Sz 20000 x.1/\Sz 20000 x.2:=by
 refine oG p n c V _ fun V1 l1=>(jI (h.le l1 fun _ _ g=>lG.le g l1) hb (E.le l1)).mono ?_
 rintro r V2 l2 (⟨ho,rfl⟩|⟨ho,hc,rfl⟩|⟨ho,cs,hc,⟨q,m,e,rfl,hL,-⟩,hC,hl⟩)
 ·obtain ⟨i1,i2⟩:=zM E.si
  exact ⟨_,_,_,_,rfl,i1,fun _ V3 l3=>.inl ⟨ho,rfl⟩,fun hf=>by rw [i2] at hf;cases hf⟩
 ·obtain ⟨i1,i2⟩:=zM E.se
  exact ⟨_,_,_,_,rfl,i1,fun _ V3 l3=>.inr (.inl ⟨ho,hc,rfl⟩),fun hf=>by rw [i2] at hf;cases hf⟩
 ·refine ⟨_,_,_,_,rfl,ju.1,(fun hf=>by cases hf),fun _ V4 l4=>(lC (hL.le l4 fun _ _ g=>fX.le g l4) hl).mono ?_⟩
  rintro r V5 l5 ⟨q',m',e',rfl,g⟩
  have vl:=Hl (cs.map Prod.fst)
  rw [List.length_map] at vl
  have R:∀{r:Value} {V':View},(∃q m e,r=.tuple #[.slice q m e,.nilIface]/\cB 6 f_ V' q m (nF (cs.map Prod.fst))/\∀x∈nF (cs.map Prod.fst),Sz 20000 x.1/\Sz 20000 x.2)->Ev ls (r=.tuple #[.slice none 0 0,yi]) (r=.tuple #[.slice none 0 0,ye]) fun cs=>∃q m e,r=.tuple #[.slice q m e,.nilIface]/\cB 6 f_ V' q m (nF (cs.map Prod.fst))/\∀x∈nF (cs.map Prod.fst),Sz 20000 x.1/\Sz 20000 x.2:=fun h=>.inr (.inr ⟨ho,cs,hc,h⟩)
  generalize nF (cs.map Prod.fst)=A at *
  have hsz:∀x∈A,Sz 20000 x.1/\Sz 20000 x.2:=fun x hx=>by
   obtain ⟨i,hi,rfl⟩:=List.mem_iff_getElem.1 hx
   obtain ⟨-,_,_,_,_,_,_,_,-,-,-,-,-,-,-,g⟩:=pM g hi
   exact g.2
  obtain rfl:=g.len
  refine ⟨_,_,_,rfl,fun z V'=>∃j:Nat,z.2.2.2=(j:Int)/\j<=A.length/\GR 6 f_ V' z.1 z.2.1 z.2.2.1 (A.take j),fun z=>A.length-z.2.2.2.toNat,⟨(0,0,[],0),by and_intros<;>rfl,0,rfl,Nat.zero_le _,GR.nil⟩,?_⟩
  rintro ⟨z1,z2,vs,z4⟩ V6 l6 ⟨j,e4,GM,hg⟩
  dsimp only at e4 hg
  subst e4
  have zl:=hg.len
  rw [List.length_take] at zl
  refine ⟨rfl,fun hlt=>?_,fun hlt V9 l9 bk hbk=>?_⟩
  ·have hlt:(j:Int)<A.length:=of_decide_eq_true hlt
   have hi:j<A.length:=by omega
   have w:i64.wrap ((j:Int)+1)=((j+1:Nat):Int):=by rw [aB (by omega)];rfl
   dsimp only
   rw [Int.toNat_natCast,w]
   obtain ⟨ps,x,y,t,x',y',t',a,ha,a0,a1,a2,a3,a4,a5,gu⟩:=pM (g.le l6 fun _ _ g=>EA.le g l6) hi
   refine ⟨ps,⟨by omega,by omega⟩,_,_,_,_,_,_,a,ha,a0,a1,a2,a3,a4,a5,fun V7 l7=>(AB (gu.1.le l7) gu.2.1 gu.2.2 (by omega)).mono ?_⟩
   rintro r V8 l8 gr
   have g0:f_ V8 r A[j]:=gr
   obtain ⟨_,_,_,_,_,_,_,_,_,_,_,_,_,_,rfl,-⟩:=gr
   refine ⟨_,_,_,_,_,_,_,_,_,_,_,_,_,_,rfl,by omega,hg.le,hg.cap,rfl,ND,fun sp c' h1 h2=>⟨(z1+1,c',_,((j+1:Nat):Int)),by dsimp only;omega,by and_intros<;>rfl,j+1,rfl,hi,?_⟩⟩
   dsimp only
   rw [List.take_add_one,List.getElem?_eq_getElem hi]
   exact (hg.mono (V':=V8) fun _ _ g=>f_.le g (l7.trans l8)).snoc rfl g0 (by decide) h1 h2
  ·have hlt:¬(j:Int)<A.length:=of_decide_eq_false hlt
   obtain rfl:j=A.length:=by omega
   rw [List.take_length] at hg
   have e1:=hg.len
   refine R ⟨mA bk z2,z1,z2,rfl,?_,hsz⟩
   rw [e1]
   exact cB.iz hbk (hg.row.le fun _ _ g=>f_.le g l9) (by decide) (by have:=hg.le;omega)
theorem nH {V:View}{p:OA}{n c:Nat}{ls:List L3}(h:cB 6 lG V p n ls)(hb:∀l∈ls,Bd l){yi ye yu:Value}(E:Er V yi ye yu) :
  ab prog 25 #[.agg #[.slice p n c]] V fun r V'=>Ev ls (r=.tuple #[.agg #[.bool false,.slice none 0 0,.slice none 0 0],yi]) (r=.tuple #[.agg #[.bool false,.slice none 0 0,.slice none 0 0],ye])
   fun cs=>(Ci cs=false->r=.tuple #[.agg #[.bool false,.slice none 0 0,.slice none 0 0],yu])/\(Ci cs=true->∃w,r=.tuple #[w,.nilIface]/\RA V' w (tw (nF (cs.map Prod.fst))*((2:Int):Rat)⁻¹)/\Sz 10000000010 (tw (nF (cs.map Prod.fst))*((2:Int):Rat)⁻¹)):=by
 refine wq p n c V _ fun V1 l1=>(jI (h.le l1 fun _ _ g=>lG.le g l1) hb (E.le l1)).mono ?_
 rintro r V2 l2 (⟨ho,rfl⟩|⟨ho,hc,rfl⟩|⟨ho,cs,hc,⟨q,m,e,rfl,hL,-⟩,hC,hl⟩)
 ·obtain ⟨i1,i2⟩:=zM E.si
  exact ⟨_,_,_,_,rfl,i1,fun _ V3 l3=>.inl ⟨ho,rfl⟩,fun hf=>by rw [i2] at hf;cases hf⟩
 ·obtain ⟨i1,i2⟩:=zM E.se
  exact ⟨_,_,_,_,rfl,i1,fun _ V3 l3=>.inr (.inl ⟨ho,hc,rfl⟩),fun hf=>by rw [i2] at hf;cases hf⟩
 ·have L2:=l1.trans l2
  refine ⟨_,_,_,_,rfl,ju.1,(fun hf=>by cases hf),fun _ V4 l4=>(uB (hL.le l4 fun _ _ g=>fX.le g l4) hl).mono ?_⟩
  rintro r V5 l5 rfl
  refine ⟨_,rfl,fun hf=>⟨yu,⟨_,rfl,(E.le (L2.trans (l4.trans l5))).X_⟩,fun V6 l6=>.inr (.inr ⟨ho,cs,hc,fun _=>rfl,fun ht=>by rw [ht] at hf;cases hf⟩)⟩,fun hf V7 l7=>?_⟩
  have hf:Ci cs=true:=by simpa using hf
  have lO:=l4.trans (l5.trans l7)
  refine (Cl (hL.le lO fun _ _ g=>fX.le g lO) hl).mono ?_
  rintro r V8 l8 ⟨g,sg⟩
  have g0:=g
  obtain ⟨_,_,_,rfl⟩:=g.shape
  refine ⟨_,_,_,rfl,fun V9 l9=>(Az (g0.le l9) sg (by omega)).mono ?_⟩
  rintro r jG l10 ga
  have TR:=ga
  obtain ⟨_,_,_,_,_,_,_,rfl⟩:=ga.shape
  exact ⟨_,_,_,_,_,_,_,rfl,fun jZ bI=>.inr (.inr ⟨ho,cs,hc,(fun ht=>by rw [hf] at ht;cases ht),fun _=>⟨_,rfl,TR.le bI,sg⟩⟩)⟩
structure Rl where
 b1:Bool
 xs:List Nat
 b2:Bool
 ys:List Nat
 b3:Bool
 zs:List Nat
def Hq (V:View)(v:Value)(r:Rl):Prop:=Na V v r.b1 r.xs r.b2 r.ys r.b3 r.zs
theorem Hq.le {V V':View}{v:Value}{r:Rl}(h:Hq V v r)(l:V.Le V'):Hq V' v r:=Na.le h l
def Rl.short (r:Rl):Prop:=r.xs.length<=3/\r.ys.length<=3/\r.zs.length<=3
def Rl.ln (r:Rl):L3:=if iA r.b1 r.xs r.b2 r.ys r.b3 r.zs then Dc r.b1 r.xs r.b2 r.ys r.b3 r.zs else (0,0,0)
theorem Rl.bd {V:View}{v:Value}{r:Rl}(h:Hq V v r)(hs:r.short):Bd r.ln:=by
 obtain ⟨_,_,_,_,_,_,_,_,_,e,h1,h2,h3⟩:=h
 have le:=G6 (a:=96) (b:=1000) (by omega)
 have a1:=fg (b:=r.b1) h1.cZ hs.1
 have a2:=fg (b:=r.b2) h2.cZ hs.2.1
 have a3:=fg (b:=r.b3) h3.cZ hs.2.2
 have z:=Nat.two_pow_pos 1000
 unfold Rl.ln Bd
 split
 ·unfold Dc;dsimp only;exact ⟨Nat.lt_of_lt_of_le a1 le,Nat.lt_of_lt_of_le a2 le,Nat.lt_of_lt_of_le a3 le⟩
 ·exact ⟨z,z,z⟩
theorem Rl.X2 {V:View}{v:Value}{r:Rl}(h:Hq V v r)(hs:r.short):lG V v r.ln:=by
 obtain ⟨p1,n1,c1,p2,n2,c2,p3,n3,c3,rfl,h1,h2,h3⟩:=h
 have a1:=fg (b:=r.b1) h1.cZ hs.1
 have a2:=fg (b:=r.b2) h2.cZ hs.2.1
 have a3:=fg (b:=r.b3) h3.cZ hs.2.2
 unfold Rl.ln
 cases ho:iA r.b1 r.xs r.b2 r.ys r.b3 r.zs
 ·rw [if_neg (by decide)]
  refine .inr ⟨by decide,_,_,_,_,_,_,_,_,_,_,_,_,_,_,_,rfl,h1,h2,h3,ho,⟨by have:=hs.1;omega,by have:=hs.2.1;omega,by have:=hs.2.2;omega⟩,(jS a1 (by omega)).mono (by omega),(jS a2 (by omega)).mono (by omega),(jS a3 (by omega)).mono (by omega)⟩
 ·rw [if_pos rfl]
  exact .inl (NH ho h1 h2 h3)
theorem Mo {V:View}{p:OA}{n:Nat}{rs:List Rl}(h:cB 6 Hq V p n rs)(hs:∀r∈rs,r.short):cB 6 lG V p n (rs.map Rl.ln)/\∀l∈rs.map Rl.ln,Bd l:=by
 refine ⟨⟨by rw [List.length_map];exact h.len,fun i hi=>?_⟩,fun l hl=>?_⟩
 ·rw [List.length_map] at hi
  obtain ⟨ad,h0,xs,h1,h2,h3⟩:=h.at_ i hi
  refine ⟨ad,h0,xs,h1,?_,h3⟩
  rw [List.getElem_map]
  exact Rl.X2 h2 (hs _ (List.getElem_mem hi))
 ·obtain ⟨r,hr,rfl⟩:=List.mem_map.1 hl
  obtain ⟨i,hi,rfl⟩:=List.mem_iff_getElem.1 hr
  obtain ⟨ad,h0,xs,h1,h2,h3⟩:=h.at_ i hi
  exact Rl.bd h2 (hs _ hr)
theorem Mq {V:View}{p:OA}{n:Nat}{al:List Rl}(h:cB 6 Hq V p n al){i:Nat}(hi:i<al.length) :
  p.isSome=true/\∃(b1:Bool)(p1:OA)(n1 c1:Nat)(b2:Bool)(p2:OA)(n2 c2:Nat)(b3:Bool)(p3:OA)(n3 c3:Nat)(a:Addr),ah p (i*6)=some a/\V.at (a.add 0) (.bool b1)/\V.at (a.add 1) (.slice p1 n1 c1)/\V.at (a.add 2) (.bool b2)/\V.at (a.add 3) (.slice p2 n2 c2)/\V.at (a.add 4) (.bool b3)/\V.at (a.add 5) (.slice p3 n3 c3) /\
   n1=al[i].xs.length/\n2=al[i].ys.length/\n3=al[i].zs.length:=by
 obtain ⟨ad,h0,xs,h1,h2,h3⟩:=h.at_ i hi
 obtain ⟨p1,n1,c1,p2,n2,c2,p3,n3,c3,e,g1,g2,g3⟩:=h2
 have e:=congrArg Array.toList (Value.agg.inj e)
 dsimp only at e
 subst e
 refine ⟨?_,_,_,_,_,_,_,_,_,_,_,_,_,ad,h0,h3 0 _ rfl,h3 1 _ rfl,h3 2 _ rfl,h3 3 _ rfl,h3 4 _ rfl,h3 5 _ rfl,g1.len,g2.len,g3.len⟩
 cases p with
 | none=>cases h0
 | some a=>rfl
theorem Hz {V:View}{p:OA}{n c:Nat}{rs:List Rl}(N:Int)(h:cB 6 Hq V p n rs)(hn:rs.length<=1000000) :
  ab prog 47 #[.int .i64 N,.slice p n c] V fun r V'=>∃b,r=.bool b/\(b=true->∀r∈rs,(r.xs.length:Int)<=N/\(r.ys.length:Int)<=N/\(r.zs.length:Int)<=N):=by
 obtain rfl:=h.len
 refine tJ N p _ c V _ ⟨fun z _=>∃j:Nat,z=(j:Int)/\j<=rs.length/\∀r∈rs.take j,(r.xs.length:Int)<=N/\(r.ys.length:Int)<=N/\(r.zs.length:Int)<=N,fun z=>(rs.length-z).toNat,⟨0,by and_intros<;>rfl,0,rfl,Nat.zero_le _,(fun r hr=>by rw [List.take_zero] at hr;cases hr)⟩,?_⟩
 rintro z V1 l1 ⟨j,rfl,GM,hall⟩
 refine ⟨rfl,fun hlt=>?_,fun hlt V5 l5=>⟨true,rfl,fun _=>?_⟩⟩
 ·have hlt:(j:Int)<rs.length:=of_decide_eq_true hlt
  have hj:j<rs.length:=by omega
  have w:i64.wrap ((j:Int)+1)=((j+1:Nat):Int):=by rw [aB (by omega)];rfl
  rw [w,Int.toNat_natCast]
  obtain ⟨is,b1,p1,n1,c1,b2,p2,n2,c2,b3,p3,n3,c3,a,ha,a0,a1,a2,a3,a4,a5,e1,e2,e3⟩:=Mq (h.le l1 fun _ _ g=>Hq.le g l1) hj
  have et:rs.take (j+1)=rs.take j++[rs[j]]:=(List.take_append_getElem hj).symm
  generalize rs[j]=R at *
  subst e1 e2 e3
  refine ⟨is,⟨by omega,by omega⟩,b1,p1,_,c1,b2,p2,_,c2,b3,p3,_,c3,a,ha,a0,a1,a2,a3,a4,a5,fun V2 l2 bk2 hb2=>?_⟩
  have hl:PR V2 (some ⟨bk2,0,none⟩) 3 [R.xs.length,R.ys.length,R.zs.length]:=by
   refine ⟨rfl,fun i hi=>?_⟩
   have hv:=fun x hx=>eH (i:=i) (v:=x) (xs:=[Value.slice p1 R.xs.length c1,.slice p2 R.ys.length c2,.slice p3 R.zs.length c3]) hb2 hx
   have ha:ah (some ⟨bk2,0,none⟩) (i*1)=some ⟨bk2,i,none⟩:=by simp [ah,add_zero']
   have hi:i=0\/i=1\/i=2:=by have:i<3:=hi;omega
   rcases hi with rfl|rfl|rfl
   ·exact ⟨_,_,_,ha,hv _ rfl⟩
   ·exact ⟨_,_,_,ha,hv _ rfl⟩
   ·exact ⟨_,_,_,ha,hv _ rfl⟩
  refine (LD N hl (by simp)).mono ?_
  rintro r V3 l3 ⟨b,rfl,hb⟩
  refine ⟨_,rfl,fun J=>⟨fun h V4 l4=>⟨false,rfl,(fun h=>nomatch h)⟩,fun h=>⟨((j+1:Nat):Int),by first|omega|(dsimp only;omega),by and_intros<;>rfl,j+1,rfl,hj,fun r hr=>?_⟩⟩⟩
  rw [Bool.not_eq_false'] at h
  have hb:=hb h
  rw [et] at hr
  rcases List.mem_append.1 hr with hr|hr
  ·exact hall r hr
  ·rw [List.mem_singleton.1 hr]
   exact ⟨hb _ (by simp),hb _ (by simp),hb _ (by simp)⟩
 ·have hlt:¬(j:Int)<rs.length:=of_decide_eq_false hlt
  obtain rfl:j=rs.length:=by omega
  rw [List.take_length] at hall
  exact hall
theorem AL {V:View}{p:OA}{n c:Nat}{ls:List L3}(h:cB 6 lG V p n ls)(hb:∀l∈ls,Bd l)(hn:ls.length<=1000) :
  ab prog 49 #[.agg #[.slice p n c]] V fun r V'=>∃q m e,r=.tuple #[.slice q m e,.bool (q_ ls)]/\(q_ ls=true->cB 6 fE V' q m ls):=by
 obtain rfl:=h.len
 refine yL p _ c V _ ⟨fun z V'=>∃j:Nat,z.2.2.2=(j:Int)/\j<=ls.length/\(∀l∈ls.take j,dO l=true)/\GR 6 fE V' z.1 z.2.1 z.2.2.1 (ls.take j),fun z=>ls.length-z.2.2.2.toNat,⟨(0,0,[],0),by and_intros<;>first|rfl|trivial,0,rfl,Nat.zero_le _,(fun r hr=>by rw [List.take_zero] at hr;cases hr),GR.nil⟩,?_⟩
 rintro ⟨z1,z2,vs,z4⟩ V1 l1 ⟨j,e4,GM,hall,hg⟩
 dsimp only at e4 hg
 subst e4
 refine ⟨rfl,fun hlt=>?_,fun hlt V5 l5 bk hbk=>?_⟩
 ·have hlt:(j:Int)<ls.length:=of_decide_eq_true hlt
  have hj:j<ls.length:=by omega
  have w:i64.wrap ((j:Int)+1)=((j+1:Nat):Int):=by rw [aB (by omega)];rfl
  dsimp only
  rw [w,Int.toNat_natCast]
  obtain ⟨is,b1,p1,n1,c1,b2,p2,n2,c2,b3,p3,n3,c3,a,ha,a0,a1,a2,a3,a4,a5,g⟩:=GV (h.le l1 fun _ _ g=>lG.le g l1) hj
  have et:ls.take (j+1)=ls.take j++[ls[j]]:=(List.take_append_getElem hj).symm
  have bd:=hb _ (List.getElem_mem hj)
  have hm:=List.getElem_mem hj
  have tl:(ls.take j).length=j:=by rw [List.length_take];omega
  have gl:=hg.len
  generalize ls[j]=L at *
  refine ⟨is,⟨by omega,by omega⟩,b1,p1,n1,c1,b2,p2,n2,c2,b3,p3,n3,c3,a,ha,a0,a1,a2,a3,a4,a5,fun V2 l2=>(AF (g.le l2) bd).mono ?_⟩
  rintro r V3 l3 ⟨w,rfl,⟨d1,q1,m1,k1,d2,q2,m2,k2,d3,q3,m3,k3,rfl⟩,hw⟩
  refine ⟨_,_,_,_,_,_,_,_,_,_,_,_,_,rfl,fun ho V4 l4=>?_,fun ho=>⟨by omega,hg.le,hg.cap,rfl,Mt,fun sp c' h1 h2=>⟨(z1+1,c',_,((j+1:Nat):Int)),by dsimp only;omega,by and_intros<;>first|rfl|trivial,j+1,rfl,hj,fun l hl=>?_,?_⟩⟩⟩
  ·have e:q_ ls=false:=by
    cases e:q_ ls
    ·rfl
    ·rw [(gP e).2 L hm] at ho;cases ho
   exact ⟨_,_,_,by rw [e],fun h=>by rw [e] at h;cases h⟩
  ·rw [et] at hl
   rcases List.mem_append.1 hl with hl|hl
   ·exact hall l hl
   ·rw [List.mem_singleton.1 hl];simpa using ho
  ·dsimp only
   rw [et]
   have cC:=l2.trans l3
   exact (hg.mono (V':=V3) fun _ _ g=>fE.le g cC).snoc (a:=L) rfl (hw (by simpa using ho)) (by decide) h1 h2
 ·have hlt:¬(j:Int)<ls.length:=of_decide_eq_false hlt
  obtain rfl:j=ls.length:=by omega
  rw [List.take_length] at hg hall
  obtain rfl:=hg.len
  refine ⟨_,_,z2,?_,fun _=>cB.iz hbk (hg.row.le fun _ _ g=>fE.le g l5) (by decide) hg.le⟩
  have e:q_ ls=decide (ls.length<=1024):=by
   unfold q_
   rw [List.all_eq_true.2 hall,Bool.and_true]
  rw [e]
  congr 5
  exact decide_eq_decide.2 ⟨fun h=>by omega,fun h=>by omega⟩
end Go.Proofs.Tryz
namespace Go.Proofs.YtnnbfoejafcdlaaGreatDoor
open Go.ChangeShapes Go.WideShapes Go.ChangeAt Go.RowKit Go.bE Go.dP Go.Proofs.Tryz
set_option maxRecDepth 100000 in
theorem H8 {H:Type}{enc:TypeId×Value->H}{W:World}(fuel:Nat)(cs:List Value)(y:DataW H×List MemPlace)(hl:cs.length=6)(h:DataW.trod enc Tryz.prog W 0 (fun _=>true) true fuel 42 cs=some y):∃r:Rl,Hq (View.all W) (.agg cs.toArray) r:=by
 obtain ⟨c0,r0,rfl,z0⟩:=ew hl
 obtain ⟨c1,r1,rfl,z1⟩:=ew z0
 obtain ⟨c2,r2,rfl,z2⟩:=ew z1
 obtain ⟨c3,r3,rfl,z3⟩:=ew z2
 obtain ⟨c4,r4,rfl,z4⟩:=ew z3
 obtain ⟨c5,r5,rfl,z5⟩:=ew z4
 obtain rfl:=List.length_eq_zero_iff.1 z5
 obtain ⟨b1,d1,b2,d2,b3,d3,g,-⟩:=Mm h
 exact ⟨⟨b1,d1,b2,d2,b3,d3⟩,g⟩
set_option maxRecDepth 100000 in
theorem Jj {H:Type}{enc:TypeId×Value->H}{W:World}{r:Reach}{b0:Nat}{v:Value}{d:DataW H}{p:List MemPlace}(hv:Value.okWide Tryz.prog W r b0 37 v)(h:DataW.Trod enc Tryz.prog W 0 (fun _=>true) true 37 v d p) :
  ∃q n c rs,v=.agg #[.slice q n c]/\n<=c/\cB 6 Hq (View.all W) q n rs:=by
 obtain ⟨⟨cs⟩,rfl,hsz⟩:=okWide_struct Tryz.underlying37 hv
 have hsz:cs.length=1:=hsz.trans (by kernel_rfl)
 obtain ⟨c0,r0,rfl,z0⟩:=ew hsz
 obtain rfl:=List.length_eq_zero_iff.1 z0
 obtain ⟨fuel,hf⟩:=h
 obtain ⟨us,m,-,-,-,hl,Up⟩:=DataW.trod_struct Tryz.underlying37 hf
 obtain ⟨y0,h0⟩:=eT Up hl 0 rfl (show Tryz.prog.cellsOf 35=1 by kernel_rfl)
 obtain ⟨q,n,c,rfl,hc,hn,rs,hr⟩:=Bf Tryz.underlying35 (show Tryz.prog.cellsOf 42=6 by kernel_rfl) H8 h0
 exact ⟨q,n,c,rs,rfl,hc,hr⟩
end Go.Proofs.YtnnbfoejafcdlaaGreatDoor
namespace Go.Proofs.Tryz
open Go.bE Go.dP
theorem Ob {V:View}{v:Value}{q:Rat}(h:RA V v q){k:Nat}(hs:Sz k q)(hk:k<=274877906944):ab prog 43 #[v] V fun r V'=>RQ V' r q:=by
 obtain ⟨b,xs,ys,hr,-,e,hl⟩:=RE.raw (no:=false) ⟨(fun h=>nomatch h),fun _=>h⟩ (fun h=>nomatch h)
 obtain ⟨m1,m2⟩:=hl k hs
 have e:sS b xs ys=q:=e
 rw [←e]
 exact qG hr (by omega) (by omega)
theorem AH {V:View}{p:OA}{n c:Nat}{ls:List L3}(h:cB 6 fE V p n ls)(hn:ls.length<=1000000)(hs:∀l∈ls,Bd l) :
  ab prog 71 #[.slice p n c] V fun r V'=>∃q m e,r=.slice q m e/\cB 6 fE V' q m ls:=by
 obtain rfl:=h.len
 refine yI p _ c V _ ⟨fun z V'=>∃j:Nat,z.2.2.2=(j:Int)/\j<=ls.length/\GR 6 fE V' z.1 z.2.1 z.2.2.1 (ls.take j),fun z=>ls.length-z.2.2.2.toNat,⟨(0,0,[],0),by and_intros<;>rfl,0,rfl,Nat.zero_le _,GR.nil⟩,?_⟩
 rintro ⟨z1,z2,vs,z4⟩ V1 l1 ⟨j,e4,GM,hg⟩
 dsimp only at e4 hg
 subst e4
 have zl:=hg.len
 rw [List.length_take] at zl
 refine ⟨rfl,fun hlt=>?_,fun hlt V4 l4 bk hb=>?_⟩
 ·have hlt:(j:Int)<ls.length:=of_decide_eq_true hlt
  have hi:j<ls.length:=by omega
  obtain ⟨ad,ha,xs,-,hf,hat⟩:=(h.le l1 fun _ _ g=>fE.le g l1).at_ j hi
  have hf0:=hf
  obtain ⟨_,_,_,_,_,_,_,_,_,_,_,_,ex⟩:=fC hf
  have ex:=congrArg Array.toList (Value.agg.inj ex)
  dsimp only at ex
  subst ex
  have w:i64.wrap ((j:Int)+1)=((j+1:Nat):Int):=by rw [aB (by omega)];rfl
  dsimp only
  rw [Int.toNat_natCast,w]
  obtain ⟨d1,d2,d3⟩:=(hs _ (List.getElem_mem hi)).ag
  refine ⟨gX ha,⟨by omega,by omega⟩,_,_,_,_,_,_,_,_,_,_,_,_,ad,ha,hat 0 _ rfl,hat 1 _ rfl,hat 2 _ rfl,hat 3 _ rfl,hat 4 _ rfl,hat 5 _ rfl,fun V2 l2=>(Cy (hf0.le l2) (by omega) (by omega) (by omega)).mono ?_⟩
  rintro r V3 l3 g
  have g0:fE V3 r ls[j]:=g
  obtain ⟨_,_,_,_,_,_,_,_,_,_,_,_,rfl⟩:=fC g0
  refine ⟨_,_,_,_,_,_,_,_,_,_,_,_,rfl,by omega,hg.le,hg.cap,rfl,Mt,fun sp c' h1 h2=>⟨(z1+1,c',_,((j+1:Nat):Int)),by dsimp only;omega,by and_intros<;>rfl,j+1,rfl,hi,?_⟩⟩
  dsimp only
  rw [List.take_add_one,List.getElem?_eq_getElem hi]
  exact (hg.mono (V':=V3) fun _ _ g=>fE.le g (l2.trans l3)).snoc rfl g0 (by decide) h1 h2
 ·have hlt:¬(j:Int)<ls.length:=of_decide_eq_false hlt
  obtain rfl:j=ls.length:=by omega
  rw [List.take_length] at hg
  obtain rfl:=hg.len
  exact ⟨_,_,_,rfl,cB.iz hb (hg.row.le fun _ _ g=>fE.le g l4) (by decide) hg.le⟩
theorem uL {V:View}{p:OA}{n c:Nat}{q:OA}{m d:Nat}{A:List L3}(hA:cB 6 fE V p n A)(hB:cB 6 fE V q m A)(hn:A.length<=1000000)(hs:∀l∈A,Bd l) :
  ab prog 111 #[.slice p n c,.slice q m d] V fun r V'=>r=.bool true:=by
 obtain rfl:=hA.len
 obtain rfl:=hB.len
 refine tG p _ c q _ d V _ ⟨fun h=>by simp at h,fun _=>⟨fun z V'=>∃j:Nat,z=(j:Int)/\j<=A.length,fun z=>A.length-z.toNat,⟨0,by and_intros<;>rfl,0,rfl,Nat.zero_le _⟩,?_⟩⟩
 rintro z V2 l2 ⟨j,rfl,GM⟩
 refine ⟨rfl,fun hlt=>?_,fun hlt V6 l6=>rfl⟩
 have hlt:(j:Int)<A.length:=of_decide_eq_true hlt
 have hi:j<A.length:=by omega
 obtain ⟨ad,ha,xs,-,hf,hat⟩:=(hA.le l2 fun _ _ g=>fE.le g l2).at_ j hi
 obtain ⟨Tv,ha',ys,-,hf',hat'⟩:=(hB.le l2 fun _ _ g=>fE.le g l2).at_ j hi
 have hf0:=hf
 have Uo:=hf'
 obtain ⟨_,_,_,_,_,_,_,_,_,_,_,_,ex⟩:=fC hf
 obtain ⟨_,_,_,_,_,_,_,_,_,_,_,_,ey⟩:=fC hf'
 have ex:=congrArg Array.toList (Value.agg.inj ex)
 have ey:=congrArg Array.toList (Value.agg.inj ey)
 dsimp only at ex ey
 subst ex ey
 have w:i64.wrap ((j:Int)+1)=((j+1:Nat):Int):=by rw [aB (by omega)];rfl
 rw [Int.toNat_natCast,w]
 obtain ⟨d1,d2,d3⟩:=(hs _ (List.getElem_mem hi)).ag
 refine ⟨gX ha,⟨by omega,by omega⟩,_,_,_,_,_,_,_,_,_,_,_,_,ad,ha,hat 0 _ rfl,hat 1 _ rfl,hat 2 _ rfl,hat 3 _ rfl,hat 4 _ rfl,hat 5 _ rfl,gX ha',⟨by omega,by omega⟩,_,_,_,_,_,_,_,_,_,_,_,_,Tv,ha',hat' 0 _ rfl,hat' 1 _ rfl,hat' 2 _ rfl,hat' 3 _ rfl,hat' 4 _ rfl,hat' 5 _ rfl,fun V3 l3=>(xH (hf0.le l3) (Uo.le l3) (by omega) (by omega) (by omega)).mono ?_⟩
 rintro r V4 l4 rfl
 rw [decide_eq_true ⟨rfl,rfl,rfl⟩]
 exact ⟨_,rfl,(fun h=>nomatch h),fun _=>⟨((j+1:Nat):Int),by dsimp only;omega,by and_intros<;>rfl,j+1,rfl,hi⟩⟩
def tO (V:View)(v:Value)(c:Rat×Rat):Prop:=RP V v c.1 c.2
theorem tO.le {V V':View}{v:Value}{c:Rat×Rat}(h:tO V v c)(l:V.Le V'):tO V' v c:=RP.le h l
theorem tO.shape {V:View}{v:Value}{c:Rat×Rat}(h:tO V v c):∃(b:Bool)(p:OA)(n c:Nat)(p':OA)(n' c':Nat)(d:Bool)(q:OA)(m e:Nat)(q':OA)(m' e':Nat),v=.agg #[.bool b,.slice p n c,.slice p' n' c',.bool d,.slice q m e,.slice q' m' e']:=by
 obtain ⟨p,n,c,p',n',c',q,m,e,q',m',e',h,-⟩:=h
 exact ⟨_,p,n,c,p',n',c',_,q,m,e,q',m',e',h⟩
theorem f_.shape {V:View}{v:Value}{c:Rat×Rat}(h:f_ V v c):∃(b:Bool)(p:OA)(n c:Nat)(p':OA)(n' c':Nat)(d:Bool)(q:OA)(m e:Nat)(q':OA)(m' e':Nat),v=.agg #[.bool b,.slice p n c,.slice p' n' c',.bool d,.slice q m e,.slice q' m' e']:=by
 obtain ⟨_,_,_,_,_,_,_,_,_,_,_,_,_,_,h,-⟩:=h
 exact ⟨_,_,_,_,_,_,_,_,_,_,_,_,_,_,h⟩
theorem Fo {R:View->Value->Rat×Rat->Prop}(sh:∀{V v c},R V v c->∃(b:Bool)(p:OA)(n c:Nat)(p':OA)(n' c':Nat)(d:Bool)(q:OA)(m e:Nat)(q':OA)(m' e':Nat),v=.agg #[.bool b,.slice p n c,.slice p' n' c',.bool d,.slice q m e,.slice q' m' e'])
  {V:View}{p:OA}{n:Nat}{al:List (Rat×Rat)}(h:cB 6 R V p n al){i:Nat}(hi:i<al.length) :
  p.isSome=true/\∃(b1:Bool)(p1:OA)(n1 c1:Nat)(p2:OA)(n2 c2:Nat)(b2:Bool)(p3:OA)(n3 c3:Nat)(p4:OA)(n4 c4:Nat)(a:Addr),ah p (i*6)=some a/\V.at (a.add 0) (.bool b1)/\V.at (a.add 1) (.slice p1 n1 c1)/\V.at (a.add 2) (.slice p2 n2 c2)/\V.at (a.add 3) (.bool b2)/\V.at (a.add 4) (.slice p3 n3 c3)/\V.at (a.add 5) (.slice p4 n4 c4) /\
   R V (.agg #[.bool b1,.slice p1 n1 c1,.slice p2 n2 c2,.bool b2,.slice p3 n3 c3,.slice p4 n4 c4]) al[i]:=by
 obtain ⟨ad,h0,xs,h1,h2,h3⟩:=h.at_ i hi
 have h20:=h2
 obtain ⟨_,_,_,_,_,_,_,_,_,_,_,_,_,_,e⟩:=sh h2
 have e:=congrArg Array.toList (Value.agg.inj e)
 dsimp only at e
 subst e
 refine ⟨?_,_,_,_,_,_,_,_,_,_,_,_,_,_,_,ad,h0,h3 0 _ rfl,h3 1 _ rfl,h3 2 _ rfl,h3 3 _ rfl,h3 4 _ rfl,h3 5 _ rfl,h20⟩
 cases p with
 | none=>cases h0
 | some a=>rfl
theorem KH {R:View->Value->Rat×Rat->Prop}(sh:∀{V v c},R V v c->∃(b:Bool)(p:OA)(n c:Nat)(p':OA)(n' c':Nat)(d:Bool)(q:OA)(m e:Nat)(q':OA)(m' e':Nat),v=.agg #[.bool b,.slice p n c,.slice p' n' c',.bool d,.slice q m e,.slice q' m' e'])
  {V:View}{vs:List Value}{al:List (Rat×Rat)}(h:Row 6 R V vs al){i:Nat}(hi:i<al.length) :
  ∃(b1:Bool)(p1:OA)(n1 c1:Nat)(p2:OA)(n2 c2:Nat)(b2:Bool)(p3:OA)(n3 c3:Nat)(p4:OA)(n4 c4:Nat),i*6+6<=vs.length/\(vs.drop (i*6)).take 6=[.bool b1,.slice p1 n1 c1,.slice p2 n2 c2,.bool b2,.slice p3 n3 c3,.slice p4 n4 c4] /\
   R V (.agg #[.bool b1,.slice p1 n1 c1,.slice p2 n2 c2,.bool b2,.slice p3 n3 c3,.slice p4 n4 c4]) al[i]:=by
 obtain ⟨xs,h1,h2,h3⟩:=h.at_ i hi
 have hl:=h.kW (by decide)
 have h20:=h2
 obtain ⟨_,_,_,_,_,_,_,_,_,_,_,_,_,_,e⟩:=sh h2
 have e:=congrArg Array.toList (Value.agg.inj e)
 dsimp only at e
 subst e
 refine ⟨_,_,_,_,_,_,_,_,_,_,_,_,_,_,by omega,?_,h20⟩
 apply List.ext_getElem?
 intro j
 rw [List.getElem?_take]
 split
 ·rename_i hj
  rw [List.getElem?_drop]
  exact h3 j _ (List.getElem?_eq_getElem (by show j<6;omega))▸(List.getElem?_eq_getElem (by show j<6;omega)).symm
 ·rename_i hj
  rw [List.getElem?_eq_none (by show 6<=j;omega)]
theorem AJ {V:View}{p:OA}{n c:Nat}{A:List (Rat×Rat)}(h:cB 6 tO V p n A)(hn:A.length<=1000000){k:Nat}(hs:∀x∈A,Sz k x.1/\Sz k x.2)(hk:k<=1099511627776) :
  ab prog 29 #[.slice p n c] V fun r V'=>∃q m e,r=.slice q m e/\cB 6 f_ V' q m A:=by
 obtain rfl:=h.len
 refine yJ p _ c V _ ⟨fun z V'=>∃j:Nat,z.2.2.2=(j:Int)/\j<=A.length/\GR 6 f_ V' z.1 z.2.1 z.2.2.1 (A.take j),fun z=>A.length-z.2.2.2.toNat,⟨(0,0,[],0),by and_intros<;>rfl,0,rfl,Nat.zero_le _,GR.nil⟩,?_⟩
 rintro ⟨z1,z2,vs,z4⟩ V1 l1 ⟨j,e4,GM,hg⟩
 dsimp only at e4 hg
 subst e4
 have zl:=hg.len
 rw [List.length_take] at zl
 refine ⟨rfl,fun hlt=>?_,fun hlt V4 l4 bk hb=>?_⟩
 ·have hlt:(j:Int)<A.length:=of_decide_eq_true hlt
  have hi:j<A.length:=by omega
  have w:i64.wrap ((j:Int)+1)=((j+1:Nat):Int):=by rw [aB (by omega)];rfl
  dsimp only
  rw [Int.toNat_natCast,w]
  obtain ⟨ps,b1,p1,n1,c1,p2,n2,c2,b2,p3,n3,c3,p4,n4,c4,a,ha,a0,a1,a2,a3,a4,a5,g⟩:=Fo tO.shape (h.le l1 fun _ _ g=>tO.le g l1) hi
  obtain ⟨s1,s2⟩:=hs _ (List.getElem_mem hi)
  refine ⟨ps,⟨by omega,by omega⟩,_,_,_,_,_,_,_,_,_,_,_,_,_,_,a,ha,a0,a1,a2,a3,a4,a5,fun V2 l2=>(Cz (g.le l2) s1 s2 hk).mono ?_⟩
  rintro r V3 l3 gr
  have g0:f_ V3 r A[j]:=gr
  obtain ⟨_,_,_,_,_,_,_,_,_,_,_,_,_,_,rfl⟩:=g0.shape
  refine ⟨_,_,_,_,_,_,_,_,_,_,_,_,_,_,rfl,by omega,hg.le,hg.cap,rfl,ND,fun sp c' h1 h2=>⟨(z1+1,c',_,((j+1:Nat):Int)),by dsimp only;omega,by and_intros<;>rfl,j+1,rfl,hi,?_⟩⟩
  dsimp only
  rw [List.take_add_one,List.getElem?_eq_getElem hi]
  exact (hg.mono (V':=V3) fun _ _ g=>f_.le g (l2.trans l3)).snoc rfl g0 (by decide) h1 h2
 ·have hlt:¬(j:Int)<A.length:=of_decide_eq_false hlt
  obtain rfl:j=A.length:=by omega
  rw [List.take_length] at hg
  obtain rfl:=hg.len
  exact ⟨_,_,_,rfl,cB.iz hb (hg.row.le fun _ _ g=>f_.le g l4) (by decide) hg.le⟩
theorem uM {V:View}{p:OA}{n c:Nat}{q:OA}{m d:Nat}{A:List (Rat×Rat)}(hA:cB 6 f_ V p n A)(hB:cB 6 f_ V q m A)(hn:A.length<=1000000){k:Nat}(hs:∀x∈A,Sz k x.1/\Sz k x.2)(hk:k<=1099511627776) :
  ab prog 28 #[.slice p n c,.slice q m d] V fun r V'=>r=.bool true:=by
 obtain rfl:=hA.len
 obtain rfl:=hB.len
 refine tH p _ c q _ d V _ ⟨fun h=>by simp at h,fun _=>⟨fun z V'=>∃j:Nat,z=(j:Int)/\j<=A.length,fun z=>A.length-z.toNat,⟨0,by and_intros<;>rfl,0,rfl,Nat.zero_le _⟩,?_⟩⟩
 rintro z V2 l2 ⟨j,rfl,GM⟩
 refine ⟨rfl,fun hlt=>?_,fun hlt V6 l6=>rfl⟩
 have hlt:(j:Int)<A.length:=of_decide_eq_true hlt
 have hi:j<A.length:=by omega
 have w:i64.wrap ((j:Int)+1)=((j+1:Nat):Int):=by rw [aB (by omega)];rfl
 rw [Int.toNat_natCast,w]
 obtain ⟨ps,b1,p1,n1,c1,p2,n2,c2,b2,p3,n3,c3,p4,n4,c4,a,ha,a0,a1,a2,a3,a4,a5,g⟩:=Fo f_.shape (hA.le l2 fun _ _ g=>f_.le g l2) hi
 obtain ⟨ps',b1',RB,n1',c1',Vb,U5,c2',b2',Vc,U6,c3',p4',n4',Za,a',ha',a0',a1',Y7,a3',a4',Y8,g'⟩:=Fo f_.shape (hB.le l2 fun _ _ g=>f_.le g l2) hi
 obtain ⟨s1,s2⟩:=hs _ (List.getElem_mem hi)
 refine ⟨ps,⟨by omega,by omega⟩,_,_,_,_,_,_,_,_,_,_,_,_,_,_,a,ha,a0,a1,a2,a3,a4,a5,ps',⟨by omega,by omega⟩,_,_,_,_,_,_,_,_,_,_,_,_,_,_,a',ha',a0',a1',Y7,a3',a4',Y8,fun V3 l3=>(xI (f_.le g l3) (f_.le g' l3) s1 s2 hk).mono ?_⟩
 rintro r V4 l4 rfl
 rw [decide_eq_true ⟨rfl,rfl⟩]
 exact ⟨_,rfl,(fun h=>nomatch h),fun _=>⟨((j+1:Nat):Int),by dsimp only;omega,by and_intros<;>rfl,j+1,rfl,hi⟩⟩
theorem cB.q {V:View}{p:OA}{n:Nat}{ls:List L3}(h:cB 6 fE V p n ls):cB 6 lG V p n ls:=⟨h.len,fun i hi=>by
 obtain ⟨ad,h0,xs,h1,h2,h3⟩:=h.at_ i hi
 exact ⟨ad,h0,xs,h1,.inl h2,h3⟩⟩
theorem xK {V:View}{p:OA}{n c:Nat}{ls:List L3}(h:cB 6 fE V p n ls)(hn:ls.length<=1000000)(hs:∀l∈ls,Bd l) :
  ab prog 19 #[.slice p n c] V fun r V'=>∃q m e,r=.agg #[.slice q m e]/\cB 6 fE V' q m ls:=by
 refine wZ p n c V _ fun V1 l1=>(AH (h.le l1 fun _ _ g=>fE.le g l1) hn hs).mono ?_
 rintro r V2 l2 ⟨q,m,e,rfl,g⟩
 exact ⟨_,_,_,rfl,fun V3 l3=>⟨_,_,_,rfl,g.le l3 fun _ _ g=>fE.le g l3⟩⟩
theorem AM {V:View}{p:OA}{n c:Nat}{q:OA}{m d:Nat}{A:List L3}(hA:cB 6 fE V p n A)(hB:cB 6 fE V q m A)(hn:A.length<=1000000)(hs:∀l∈A,Bd l) :
  ab prog 46 #[.agg #[.slice p n c],.agg #[.slice q m d]] V fun r V'=>r=.bool true:=by
 refine yM p n c q m d V _ fun V1 l1=>(uL (hA.le l1 fun _ _ g=>fE.le g l1) (hB.le l1 fun _ _ g=>fE.le g l1) hn hs).mono ?_
 rintro r V2 l2 rfl
 exact ⟨_,rfl,fun V3 l3=>rfl⟩
def Ex:List L3:=[(0,1,0),(-1,0,1),(0,-1,1),(1,0,0)]
def qu:List (Rat×Rat):=[(((0:Int):Rat),((0:Int):Rat)),(((1:Int):Rat),((0:Int):Rat)),(((1:Int):Rat),((1:Int):Rat)),(((0:Int):Rat),((1:Int):Rat))]
def S1:List (Rat×Rat):=[(((1:Int):Rat),((0:Int):Rat)),(((1:Int):Rat),((1:Int):Rat)),(((0:Int):Rat),((1:Int):Rat)),(((0:Int):Rat),((0:Int):Rat))]
theorem Pb:∀i:Fin 4,¬((qu.getD i (0,0)).1=(qu.getD ((i+1)%4) (0,0)).1/\(qu.getD i (0,0)).2=(qu.getD ((i+1)%4) (0,0)).2)/\FR (qu.getD i (0,0)).1 (qu.getD i (0,0)).2 (qu.getD ((i+1)%4) (0,0)).1 (qu.getD ((i+1)%4) (0,0)).2=Ex.getD i (0,0,0):=by decide +kernel
theorem Pa:(bw Ex [] []).map (fun c=>(c.map Prod.fst,Ci c))=some (Ex,true):=by decide +kernel
theorem Pc:nF Ex=S1:=by decide +kernel
theorem MV:tw (nF Ex)*((2:Int):Rat)⁻¹=((1:Int):Rat):=by decide +kernel
theorem KN:q_ Ex=true:=by decide
theorem Fv {z:Int}(k:Nat)(hk:k≠0)(h:z.natAbs<=1):z.natAbs<2^k:=Nat.lt_of_le_of_lt h (Nat.one_lt_two_pow hk)
theorem Mu {l:L3}(k:Nat)(hk:k≠0)(h:l.1.natAbs<=1/\l.2.1.natAbs<=1/\l.2.2.natAbs<=1):l.1.natAbs<2^k/\l.2.1.natAbs<2^k/\l.2.2.natAbs<2^k:=⟨Fv k hk h.1,Fv k hk h.2.1,Fv k hk h.2.2⟩
theorem KO:∀l∈Ex,l.1.natAbs<=1/\l.2.1.natAbs<=1/\l.2.2.natAbs<=1:=by decide
theorem DP:∀l∈Ex,Bd l:=fun l hl=>Mu 1000 (by decide) (KO l hl)
theorem FM:∀x∈qu,Sz 2 x.1/\Sz 2 x.2:=by
 have h0:Sz 2 ((0:Int):Rat):=⟨by show (0:Int).natAbs<_;decide,by show (1:Nat)<_;decide⟩
 intro x hx
 simp only [qu,List.mem_cons,List.not_mem_nil,or_false] at hx
 rcases hx with rfl|rfl|rfl|rfl<;>exact ⟨by first|exact h0|exact fT,by first|exact h0|exact fT⟩
theorem KP:∀x∈S1,Sz 2 x.1/\Sz 2 x.2:=fun x hx=>FM x (by
 simp only [S1,List.mem_cons,List.not_mem_nil,or_false] at hx
 simp only [qu,List.mem_cons,List.not_mem_nil,or_false]
 rcases hx with rfl|rfl|rfl|rfl
 ·exact .inr (.inl rfl)
 ·exact .inr (.inr (.inl rfl))
 ·exact .inr (.inr (.inr rfl))
 ·exact .inl rfl)
theorem DI {R:View->Value->Rat×Rat->Prop}{V:View}{a b c d:List Value}{p q r s:Rat×Rat}(la:a.length=6)(lb:b.length=6)(lc:c.length=6)(ld:d.length=6)(ha:R V (.agg a.toArray) p)(hb:R V (.agg b.toArray) q)(hc:R V (.agg c.toArray) r)(hd:R V (.agg d.toArray) s) :
  Row 6 R V (a++(b++(c++d))) [p,q,r,s]:=by
 have h1:=ow (sp:=[]) (row_one lc hc) (row_one ld hd) (by decide)
 have h2:=ow (sp:=[]) (row_one lb hb) h1 (by decide)
 have h3:=ow (sp:=[]) (row_one la ha) h2 (by decide)
 have tk:∀{x:List Value},x.length=6->x.take (1*6)=x:=fun h=>List.take_of_length_le (by omega)
 simp only [List.length_singleton,List.length_cons,List.length_nil,Nat.zero_add,tk la,tk lb,tk lc,List.append_nil,List.cons_append,List.nil_append] at h3
 exact h3
theorem uG {V:View}:ab prog 38 #[] V fun r V'=>∃(bk n c:Nat)(vs:List Value),r=.slice (mA bk c) n c/\(vs≠[]->V'.w.heap[bk]?=some (.cells vs.toArray 27 (0,0)))/\(vs≠[]->V.w.heap.size<=bk)/\GR 6 fE (V'.mf (vs≠[]) bk) n c vs Ex:=by
 have xy:∀{W:View} (x y:Int),x.natAbs<=1->y.natAbs<=1->ab prog 12 #[.int .i64 x,.int .i64 y] W fun r V'=>RP V' r (x:Rat) (y:Rat):=fun x y h h'=>uN x y (by omega) (by omega) (by omega) (by omega)
 refine tE V _ fun V1 l1=>(xy 0 0 (by decide) (by decide)).mono ?_
 rintro r V2 l2 g1
 have g10:tO V2 r (((0:Int):Rat),((0:Int):Rat)):=g1
 obtain ⟨_,_,_,_,_,_,_,_,_,_,_,_,_,_,rfl⟩:=g10.shape
 refine ⟨_,_,_,_,_,_,_,_,_,_,_,_,_,_,rfl,fun V3 l3=>(xy 1 0 (by decide) (by decide)).mono ?_⟩
 rintro r V4 l4 g2
 have g20:tO V4 r (((1:Int):Rat),((0:Int):Rat)):=g2
 obtain ⟨_,_,_,_,_,_,_,_,_,_,_,_,_,_,rfl⟩:=g20.shape
 refine ⟨_,_,_,_,_,_,_,_,_,_,_,_,_,_,rfl,fun V5 l5=>(xy 1 1 (by decide) (by decide)).mono ?_⟩
 rintro r V6 l6 g3
 have kD:tO V6 r (((1:Int):Rat),((1:Int):Rat)):=g3
 obtain ⟨_,_,_,_,_,_,_,_,_,_,_,_,_,_,rfl⟩:=kD.shape
 refine ⟨_,_,_,_,_,_,_,_,_,_,_,_,_,_,rfl,fun V7 l7=>(xy 0 1 (by decide) (by decide)).mono ?_⟩
 rintro r V8 l8 g4
 have E6:tO V8 r (((0:Int):Rat),((1:Int):Rat)):=g4
 obtain ⟨_,_,_,_,_,_,_,_,_,_,_,_,_,_,rfl⟩:=E6.shape
 have XT:=l7.trans l8
 have H7:=l5.trans (l6.trans XT)
 have hrow:Row 6 tO V8 _ qu:=DI (a:=[_,_,_,_,_,_]) (b:=[_,_,_,_,_,_]) (c:=[_,_,_,_,_,_]) (d:=[_,_,_,_,_,_]) rfl rfl rfl rfl (g10.le (l3.trans (l4.trans H7))) (g20.le H7) (kD.le XT) E6
 refine ⟨_,_,_,_,_,_,_,_,_,_,_,_,_,_,rfl,fun z V'=>∃j:Nat,z.2.2.2.1=(j:Int)/\j<=4/\Row 6 tO V' z.2.2.2.2 qu/\GR 6 fE V' z.1 z.2.1 z.2.2.1 (Ex.take j),fun z=>4-z.2.2.2.1.toNat,⟨(0,0,[],0,_),by and_intros<;>rfl,0,rfl,by omega,hrow,GR.nil⟩,?_⟩
 rintro ⟨z1,z2,vs,z4,ps⟩ V9 l9 ⟨j,e4,GM,hps,hg⟩
 dsimp only at e4 hg hps
 subst e4
 have zl:=hg.len
 rw [List.length_take] at zl
 have hq4:Ex.length=4:=rfl
 have hp4:qu.length=4:=rfl
 refine ⟨rfl,fun hlt=>?_,fun hlt mQ bk bV hb hfr=>?_⟩
 ·have hlt:(j:Int)<4:=of_decide_eq_true hlt
  have hi:j<4:=by omega
  have w:i64.wrap ((j:Int)+1)=((j+1:Nat):Int):=by rw [aB (by omega)];rfl
  have hm:(((j+1:Nat):Int)).tmod (4:Int)=(((j+1)%4:Nat):Int):=by
   have:=Int.ofNat_tmod (j+1) 4
   exact this.symm
  dsimp only
  rw [w,hm]
  simp only [Int.toNat_natCast,Nat.zero_add]
  obtain ⟨b1,p1,n1,c1,p2,n2,c2,b2,p3,n3,c3,p4,n4,c4,lp,ep,gp⟩:=KH tO.shape hps (i:=j) (by omega)
  obtain ⟨b1',RB,n1',c1',Vb,U5,c2',b2',Vc,U6,c3',p4',n4',Za,lp',SI,Zq⟩:=KH tO.shape hps (i:=(j+1)%4) (by omega)
  obtain ⟨hne,hth⟩:=Pb ⟨j,hi⟩
  have ej:qu.getD j (0,0)=qu[j]:=jw (by omega)
  have Ze:qu.getD ((j+1)%4) (0,0)=qu[(j+1)%4]:=jw (by omega)
  have el:Ex.getD j (0,0,0)=Ex[j]:=jw (by omega)
  have hne:¬((qu.getD j (0,0)).1=(qu.getD ((j+1)%4) (0,0)).1/\(qu.getD j (0,0)).2=(qu.getD ((j+1)%4) (0,0)).2):=hne
  have hth:FR (qu.getD j (0,0)).1 (qu.getD j (0,0)).2 (qu.getD ((j+1)%4) (0,0)).1 (qu.getD ((j+1)%4) (0,0)).2=Ex.getD j (0,0,0):=hth
  rw [ej,Ze] at hne hth
  rw [el] at hth
  obtain ⟨s1,s2⟩:=FM _ (List.getElem_mem (show j<qu.length by omega))
  obtain ⟨s3,s4⟩:=FM _ (List.getElem_mem (show (j+1)%4<qu.length by omega))
  refine ⟨⟨by omega,by omega⟩,_,_,_,_,_,_,_,_,_,_,_,_,_,_,⟨lp,ep⟩,by decide,⟨by omega,by omega⟩,_,_,_,_,_,_,_,_,_,_,_,_,_,_,⟨lp',SI⟩,fun jG l10=>(Ip (tO.le gp l10) (tO.le Zq l10) s1 s2 s3 s4 (by omega) (by omega)).mono ?_⟩
  rintro r jZ bI ⟨-,hr⟩
  obtain ⟨l,rfl,gl⟩:=hr hne
  have SK:fE jZ l Ex[j]:=by rw [←hth];exact gl
  obtain ⟨_,_,_,_,_,_,_,_,_,_,_,_,rfl⟩:=fC SK
  refine ⟨_,_,_,_,_,_,_,_,_,_,_,_,_,rfl,by omega,hg.le,hg.cap,rfl,Mt,fun sp c' h1 h2=>⟨(z1+1,c',_,((j+1:Nat):Int),ps),by dsimp only;omega,by and_intros<;>first|rfl|trivial,j+1,rfl,by omega,hps.le fun _ _ g=>tO.le g (l10.trans bI),?_⟩⟩
  dsimp only
  rw [List.take_add_one,List.getElem?_eq_getElem (by omega)]
  exact (hg.mono (V':=jZ) fun _ _ g=>fE.le g (l10.trans bI)).snoc rfl SK (by decide) h1 h2
 ·have hlt:¬(j:Int)<4:=of_decide_eq_false hlt
  obtain rfl:j=4:=by omega
  exact ⟨bk,z1,z2,vs,rfl,hb,fun h=>(hfr h).elim id False.elim,hg.mono fun _ _ g=>fE.le g bV⟩
set_option maxHeartbeats 1000000 in
theorem eQ {V:View}{yi ye yu:Value}(E:Er V yi ye yu):ab prog 14 #[] V fun r V'=>r=.bool true:=by
 have xy:∀{W:View} (x y:Int),x.natAbs<=1->y.natAbs<=1->ab prog 12 #[.int .i64 x,.int .i64 y] W fun r V'=>RP V' r (x:Rat) (y:Rat):=fun x y h h'=>uN x y (by omega) (by omega) (by omega) (by omega)
 obtain ⟨cs,hcs,e1⟩:=Option.map_eq_some_iff.1 Pa
 obtain ⟨e1,e2⟩:=Prod.mk.inj e1
 refine wL V _ fun V1 l1=>uG.mono ?_
 rintro r V2 l2 ⟨bm,n,c,vm,rfl,f1,f2,hg⟩
 refine ⟨bm,vm,f1,fun h=>.inl (f2 h),none,n,c,rfl,fun V3 l3 bk hbk=>?_⟩
 have cC:V1.Le V3:=(Db l2 fun h=>.inl (f2 h)).trans l3
 have hL:cB 6 fE V3 (mA bk c) n Ex:=by
  rw [hg.len]
  exact cB.iz hbk (hg.row.le fun _ _ g=>fE.le g fun b o h=>l3 b o h) (by decide) (by have:=hg.le;have:=hg.len;omega)
 refine (xK hL (by decide) DP).mono ?_
 rintro r V4 l4 ⟨q,m,e,rfl,hW⟩
 have L4:=l1.trans (cC.trans l4)
 refine ⟨_,_,_,rfl,fun J V5 l5=>(nH (cB.q (hW.le l5 fun _ _ g=>fE.le g l5)) DP (E.le (L4.trans l5))).mono ?_⟩
 rintro r V6 l6 hA
 obtain ⟨-,hA⟩:=hA.some KN hcs
 obtain ⟨wa,rfl,gA,sA⟩:=hA e2
 rw [e1,MV] at gA
 have TM:=gA
 obtain ⟨_,_,_,_,_,_,_,rfl⟩:=gA.shape
 have l46:=l5.trans l6
 refine ⟨_,_,_,_,_,_,_,_,rfl,fun V7 l7=>(lU (cB.q (hW.le (l46.trans l7) fun _ _ g=>fE.le g (l46.trans l7))) DP (E.le (L4.trans (l46.trans l7)))).mono ?_⟩
 rintro r V8 l8 hC0
 obtain ⟨q1,m1,d1,rfl,hC,-⟩:=hC0.some KN hcs
 clear hC0
 rw [e1] at hC
 have H7:=l46.trans (l7.trans l8)
 refine ⟨_,_,_,_,rfl,fun V9 l9=>(oY (cB.q (hW.le (H7.trans l9) fun _ _ g=>fE.le g (H7.trans l9))) DP (E.le (L4.trans (H7.trans l9)))).mono ?_⟩
 rintro r jG l10 Qu
 obtain ⟨q2,m2,d2,rfl,hV,-⟩:=Qu.some KN hcs
 clear Qu
 rw [e1,Pc] at hV
 have GQ:=l9.trans l10
 have Q3:=H7.trans GQ
 refine ⟨_,_,_,_,rfl,ju.1,fun _=>⟨ju.1,fun _=>⟨ju.1,fun _ jZ bI=>?_,fun h=>by cases h⟩,fun h=>by cases h⟩,fun h=>by cases h⟩
 refine (AM (hW.le (Q3.trans bI) fun _ _ g=>fE.le g (Q3.trans bI)) (hC.le (GQ.trans bI) fun _ _ g=>fE.le g (GQ.trans bI)) (by decide) DP).mono ?_
 rintro r mQ bV rfl
 have Q5:=l7.trans (l8.trans (GQ.trans (bI.trans bV)))
 refine ⟨_,rfl,fun _ qv cC=>(Ob (TM.le (Q5.trans cC)) (k:=2) fT (by omega)).mono ?_,fun h=>by cases h⟩
 rintro r mS du gq
 have On:=gq
 obtain ⟨_,_,_,_,_,_,rfl⟩:=gq.shape
 refine ⟨_,_,_,_,_,_,_,rfl,fun lH dv=>(fN 1 (by omega) (by omega)).mono ?_⟩
 rintro r lP cX g1
 have g10:=g1
 obtain ⟨_,_,_,_,_,_,rfl⟩:=g1.shape
 refine ⟨_,_,_,_,_,_,_,rfl,fun mT c_=>(oZ (On.le (dv.trans (cX.trans c_))) (g10.le c_) fT fT (by omega)).mono ?_⟩
 rintro r qt cR rfl
 have JR:=cC.trans (du.trans (dv.trans (cX.trans (c_.trans cR))))
 refine ⟨_,rfl,fun _ rK dA=>(xy 1 0 (by decide) (by decide)).mono ?_,fun h=>by
  rw [show eR ((1:Int):Rat) ((1:Int):Rat)=0 from mW.1 rfl] at h;cases h⟩
 rintro r yV fG h1
 have h10:tO yV r (((1:Int):Rat),((0:Int):Rat)):=h1
 obtain ⟨_,_,_,_,_,_,_,_,_,_,_,_,_,_,rfl⟩:=h10.shape
 refine ⟨_,_,_,_,_,_,_,_,_,_,_,_,_,_,rfl,fun ui fv=>(xy 1 1 (by decide) (by decide)).mono ?_⟩
 rintro r uj gF h2
 have h20:tO uj r (((1:Int):Rat),((1:Int):Rat)):=h2
 obtain ⟨_,_,_,_,_,_,_,_,_,_,_,_,_,_,rfl⟩:=h20.shape
 refine ⟨_,_,_,_,_,_,_,_,_,_,_,_,_,_,rfl,fun xu gY=>(xy 0 1 (by decide) (by decide)).mono ?_⟩
 rintro r Gp lN h3
 have Xy:tO Gp r (((0:Int):Rat),((1:Int):Rat)):=h3
 obtain ⟨_,_,_,_,_,_,_,_,_,_,_,_,_,_,rfl⟩:=Xy.shape
 refine ⟨_,_,_,_,_,_,_,_,_,_,_,_,_,_,rfl,fun Gq lQ=>(xy 0 0 (by decide) (by decide)).mono ?_⟩
 rintro r IZ lE h4
 have SL:tO IZ r (((0:Int):Rat),((0:Int):Rat)):=h4
 obtain ⟨_,_,_,_,_,_,_,_,_,_,_,_,_,_,rfl⟩:=SL.shape
 have JU:=lQ.trans lE
 have Bc:=gY.trans (lN.trans JU)
 refine ⟨_,_,_,_,_,_,_,_,_,_,_,_,_,_,rfl,fun Ng lO bk hb=>?_⟩
 have hrow:Row 6 tO Ng _ S1:=DI (a:=[_,_,_,_,_,_]) (b:=[_,_,_,_,_,_]) (c:=[_,_,_,_,_,_]) (d:=[_,_,_,_,_,_]) rfl rfl rfl rfl (h10.le (fv.trans (gF.trans (Bc.trans lO)))) (h20.le (Bc.trans lO)) (Xy.le (JU.trans lO)) (SL.le lO)
 refine (AJ (cB.Kf hb hrow) (by decide) KP (by omega)).mono ?_
 rintro r Nh tX ⟨q3,m3,d3,rfl,hP⟩
 refine ⟨_,_,_,rfl,fun _ Px xS=>(uM (hV.le (bI.trans (bV.trans (JR.trans (dA.trans (fG.trans (fv.trans (gF.trans (Bc.trans (lO.trans (tX.trans xS)))))))))) fun _ _ g=>f_.le g (bI.trans (bV.trans (JR.trans (dA.trans (fG.trans (fv.trans (gF.trans (Bc.trans (lO.trans (tX.trans xS)))))))))) ) (hP.le xS fun _ _ g=>f_.le g xS) (by decide) KP (by omega)).mono ?_⟩
 rintro r Lf xT rfl
 exact ⟨_,rfl,fun PV C_=>rfl⟩
end Go.Proofs.Tryz
namespace Go.Proofs.Tryz
open Go.bE
set_option maxRecDepth 100000
end Go.Proofs.Tryz
namespace Go.Proofs.Tryz
open Go.bE Go.dP
theorem uJ {V:View}{v:Value}{q:Rat}(h:RQ V v q):ab prog 42 #[v] V fun r V'=>r=.int .i64 q.num.sign:=by
 obtain ⟨_,_,_,_,_,_,rfl,h1,-⟩:=h
 exact tQ q h1
theorem pL {V:View}{p:OA}{n:Nat}{al:List L3}(h:cB 6 fE V p n al){i:Nat}(hi:i<al.length) :
  p.isSome=true/\∃(b1:Bool)(p1:OA)(n1 c1:Nat)(b2:Bool)(p2:OA)(n2 c2:Nat)(b3:Bool)(p3:OA)(n3 c3:Nat)(a:Addr),ah p (i*6)=some a/\V.at (a.add 0) (.bool b1)/\V.at (a.add 1) (.slice p1 n1 c1)/\V.at (a.add 2) (.bool b2)/\V.at (a.add 3) (.slice p2 n2 c2)/\V.at (a.add 4) (.bool b3)/\V.at (a.add 5) (.slice p3 n3 c3) /\
   fE V (.agg #[.bool b1,.slice p1 n1 c1,.bool b2,.slice p2 n2 c2,.bool b3,.slice p3 n3 c3]) al[i]:=by
 obtain ⟨ad,h0,xs,h1,h2,h3⟩:=h.at_ i hi
 have h20:=h2
 obtain ⟨_,_,_,_,_,_,_,_,_,_,_,_,e⟩:=fC h2
 have e:=congrArg Array.toList (Value.agg.inj e)
 dsimp only at e
 subst e
 refine ⟨?_,_,_,_,_,_,_,_,_,_,_,_,_,ad,h0,h3 0 _ rfl,h3 1 _ rfl,h3 2 _ rfl,h3 3 _ rfl,h3 4 _ rfl,h3 5 _ rfl,h20⟩
 cases p with
 | none=>cases h0
 | some a=>rfl
theorem MX {l m:L3}{k:Nat}(sl:jX k l)(sm:jX k m):Sz (20*k+20) (GW l m)/\Sz (20*k+20) (GX l m):=by
 unfold GW GX aU
 obtain ⟨a1,a2,a3⟩:=sl
 obtain ⟨b1,b2,b3⟩:=sm
 exact ⟨(Sz.mul ((a2.mul b3).sub (a3.mul b2)) (cY ((a1.mul b2).sub (a2.mul b1)))).mono (by omega),(Sz.mul ((a3.mul b1).sub (a1.mul b3)) (cY ((a1.mul b2).sub (a2.mul b1)))).mono (by omega)⟩
def Pw (k:Nat)(V:View)(v:Value)(c:Rat×Rat):Prop:=RP V v c.1 c.2/\Sz k c.1/\Sz k c.2
theorem Pw.le {k:Nat}{V V':View}{v:Value}{c:Rat×Rat}(h:Pw k V v c)(l:V.Le V'):Pw k V' v c:=⟨h.1.le l,h.2⟩
theorem Pw.mono {k m:Nat}{V:View}{v:Value}{c:Rat×Rat}(h:Pw k V v c)(l:k<=m):Pw m V v c:=⟨h.1,h.2.1.mono l,h.2.2.mono l⟩
def LL:L3:=(0,1,0)
structure Tk (V:View) (y z:Value):Prop where
 inv:B_ V 0 y
 lim:B_ V 3 z
 yE:ED y
 zE:ED z
theorem Tk.le {V V':View}{y z:Value}(h:Tk V y z)(l:V.Le V'):Tk V' y z:=⟨h.inv.le l,h.lim.le l,h.yE,h.zE⟩
theorem AT.leaf {V:View}(i:Bool):AT V (.agg #[.int .i64 (rt 0 (.leaf i)),.slice none 0 0]) (rt 0 (.leaf i)) (wr 0 (.leaf i)):=⟨_,_,_,rfl,NS.nil⟩
def ch:Nat->Tr
 | 0=>.leaf false
 | m+1=>.node LL (.leaf true) (ch m)
def Ho (V:View)(vs:List Value)(i:Nat)(d:Nd):Prop:=∃(b1:Bool)(p1:OA)(n1 c1:Nat)(b2:Bool)(p2:OA)(n2 c2:Nat)(b3:Bool)(p3:OA)(n3 c3:Nat),
 (∀j v,([.bool b1,.slice p1 n1 c1,.bool b2,.slice p2 n2 c2,.bool b3,.slice p3 n3 c3,.int .i64 d.left,.int .i64 d.right]:List Value)[j]?=some v->vs[i*8+j]?=some v) /\
 lG V (.agg #[.bool b1,.slice p1 n1 c1,.bool b2,.slice p2 n2 c2,.bool b3,.slice p3 n3 c3]) d.ln
theorem Ho.le {V V':View}{vs:List Value}{i:Nat}{d:Nd}(h:Ho V vs i d)(hl:V.Le V'):Ho V' vs i d:=by
 obtain ⟨b1,p1,n1,c1,b2,p2,n2,c2,b3,p3,n3,c3,h1,h2⟩:=h
 exact ⟨b1,p1,n1,c1,b2,p2,n2,c2,b3,p3,n3,c3,h1,h2.le hl⟩
theorem Kr {vs xs:List Value}{k i:Nat}(hx:xs.length=8)(h:k*8+8<=vs.length)(hi:i<k*8\/k*8+8<=i):(vs.take (k*8)++xs++vs.drop (k*8+8))[i]?=vs[i]?:=by
 have ht:(vs.take (k*8)).length=k*8:=by rw [List.length_take];omega
 rcases hi with hi|hi
 ·rw [List.append_assoc,List.getElem?_append_left (by omega),List.getElem?_take,if_pos hi]
 ·rw [List.getElem?_append_right (by rw [List.length_append];omega),List.length_append,ht,hx,List.getElem?_drop]
  congr 1
  omega
theorem lt8 {a b c d e f g h v:Value}{j:Nat}(hv:([a,b,c,d,e,f,g,h]:List Value)[j]?=some v):j<8:=by
 rcases Nat.lt_or_ge j 8 with hj|hj
 ·exact hj
 ·rw [List.getElem?_eq_none (by simpa using hj)] at hv;cases hv
theorem Ho.out {V:View}{vs xs:List Value}{k i:Nat}{d:Nd}(h:Ho V vs i d)(hx:xs.length=8)(hk:k*8+8<=vs.length)(hi:i≠k):Ho V (vs.take (k*8)++xs++vs.drop (k*8+8)) i d:=by
 obtain ⟨b1,p1,n1,c1,b2,p2,n2,c2,b3,p3,n3,c3,h1,h2⟩:=h
 refine ⟨b1,p1,n1,c1,b2,p2,n2,c2,b3,p3,n3,c3,fun j v hv=>?_,h2⟩
 have:=lt8 hv
 rw [Kr hx hk (by omega)]
 exact h1 j v hv
def vm (n b m:Nat):Nat:=(n-1-m+(n-b))%n
theorem Iw (l:List (Rat×Rat)):∃m:List (Rat×Rat),m.Perm l/\m.Pairwise fun x y=>¬Qj y x<0:=by
 refine ⟨l.mergeSort (fun x y=>decide (¬Qj y x<0)),List.mergeSort_perm ..,?_⟩
 refine (List.pairwise_mergeSort (le:=fun x y=>decide (¬Qj y x<0)) (fun a b c h1 h2=>?_) (fun a b=>?_) l).imp fun h=>of_decide_eq_true h
 ·exact decide_eq_true (aq.uu c b a (of_decide_eq_true h2) (of_decide_eq_true h1))
 ·by_cases h:Qj b a<0
  ·have:=aq.tP b a h
   rw [Bool.or_eq_true]
   exact .inr (decide_eq_true this)
  ·rw [Bool.or_eq_true]
   exact .inl (decide_eq_true h)
theorem indep {t:Tr}{l:L3}(ho:(Tr.node l t t).Lb fun l=>¬(l.1=0/\l.2.1=0)){p:Rat×Rat}{a b:Int}(h1:Gl t p a)(h2:Gl (.node l t t) p b):a=b:=by
 obtain ⟨m,pm,pw⟩:=Iw (KB (aq.ko (.node l t t) p))
 obtain ⟨ry,cv⟩:=MH (Ms ho) pm pw
 have sm:=Iu ry
 have sub:∀x∈aq.ko t p,x∈aq.ko (.node l t t) p:=fun x hx=>by
  rw [aq.ko]
  by_cases e:ar l p.1 p.2≥0
  ·rw [if_pos e];exact List.mem_append_right _ (List.mem_append_left _ hx)
  ·rw [if_pos (show ar l p.1 p.2<=0 by grind)];exact List.mem_append_right _ (List.mem_append_right _ hx)
 have e1:=h1 _ _ ry sm fun l hl=>cv l (sub l hl)
 have e2:=h2 _ _ ry sm cv
 generalize KJ (xN eP m)=S at *
 have key:∀v∈S,aq.DR (.node l t t) p v=aq.DR t p v:=fun v hv=>by
  have n:=cv.gen (aq.MT ry sm v hv)
  have:=(aq.wm n fun l _=>⟨id,id⟩).2
  rw [aq.DR] at this ⊢
  split
  ·rfl
  ·rename_i q
   rw [if_neg q] at this
   split
   ·rfl
   ·rename_i q'
    rw [if_neg q'] at this
    cases this
 have k1:aq.anyS (.node l t t) p S=aq.anyS t p S:=by
  unfold aq.anyS
  rw [Bool.eq_iff_iff,List.any_eq_true,List.any_eq_true]
  constructor
  ·rintro ⟨x,hx,h⟩;exact ⟨x,hx,by rw [←key x hx];exact h⟩
  ·rintro ⟨x,hx,h⟩;exact ⟨x,hx,by rw [key x hx];exact h⟩
 have k2:aq.Lu (.node l t t) p S=aq.Lu t p S:=by
  unfold aq.Lu
  rw [Bool.eq_iff_iff,List.all_eq_true,List.all_eq_true]
  constructor
  ·intro h x hx;rw [←key x hx];exact h x hx
  ·intro h x hx;rw [key x hx];exact h x hx
 rw [e1,e2,k1,k2]
end Go.Proofs.Tryz
namespace Go.bE
def View.bare (V:View)(b:Nat):View:=⟨V.w,fun x=>V.H x/\x≠b,fun x=>V.X x/\x≠b,fun x h=>V.hH x h.1,fun x h=>⟨V.hX x h.1,h.2⟩⟩
theorem ab.bare {P:Program}{f:FuncId}{args:Array Value}{V:View}{b:Nat}{R:Value->View->Prop}(hs:b<V.w.heap.size)(h:ab P f args (V.bare b) R) :
  ab P f args V fun r V'=>V'.w.heap[b]?=V.w.heap[b]?/\R r (V'.bare b):=by
 refine ⟨h.1,h.2.mono fun _ w' ⟨r,he,hx,hr⟩=>⟨r,he,⟨hx.size,fun x h1 h2=>hx.bG x h1 fun h=>h2 h.1,hx.os,hx.tape,hx.out⟩,hx.bG b hs (fun h=>h.2 rfl),hr⟩⟩
def M9 (V:View)(b:Nat):Prop:=∃(cs:Array Value)(ty:TypeId)(m:Nat×Nat),V.w.heap[b]?=some (.cells cs ty m)/\∀v∈cs,∀k z,v≠.int k z
theorem M9.ne {V:View}{b:Nat}(h:M9 V b){a:Addr}{k:IntKind}{z:Int}(ha:(V.bare b).at a (.int k z)):a.block≠b:=by
 obtain ⟨cs,ty,m,hb,hn⟩:=h
 intro e
 have h2:=ha.2
 unfold World.cell? at h2
 rw [e] at h2
 have hb':(V.bare b).w.heap[b]?=some (.cells cs ty m):=hb
 rw [hb'] at h2
 dsimp only at h2
 split at h2
 ·cases h2
 ·obtain ⟨hi,e2⟩:=Array.getElem?_eq_some_iff.1 h2
  exact hn _ (e2▸Array.getElem_mem hi) k z rfl
end Go.bE
namespace Go.Proofs.Tryz
open Go.bE Go.dP
theorem mX {a b:Rat}:eR a b<0↔a<b:=by
 constructor
 ·intro h
  by_cases c:a<b
  ·exact c
  ·by_cases e:a=b
   ·have:=mW.1 e;omega
   ·have:=tR.1 (show b<a by grind);omega
 ·intro h;have:=AQ.1 h;omega
theorem uc:Sz 10 ((1:Int):Rat):=X7 (z:=1) (by omega)
theorem R_ {l:L3}(h:Bd l){k:Nat}{p:Rat×Rat}(s1:Sz k p.1)(s2:Sz k p.2):Sz (2*k+3010) (ar l p.1 p.2):=by
 have:=h.lA
 exact (((this.1.mul s1).add (this.2.1.mul s2)).add this.2.2).mono (by omega)
theorem Kc {p v:Rat×Rat}{ls:List L3}{i:Nat}(h:i<ls.length)(s:Rat):(ls.take (i+1)).foldl (aq.Bi p v) s=aq.Bi p v ((ls.take i).foldl (aq.Bi p v) s) ls[i]:=by
 rw [←List.take_append_getElem h,List.foldl_append]
 rfl
theorem GA {a b:Rat}:eR a b>0↔b<a:=by
 constructor
 ·intro h
  rcases mY a b with ⟨g,e⟩|⟨g,e⟩|⟨g,e⟩<;>first|omega|exact g
 ·intro h;have:=tR.1 h;omega
abbrev Yx:=Bool×OA×Nat×Nat×OA×Nat×Nat×Bool×OA×Nat×Nat×OA×Nat×Nat×Bool×Bool
def SH (z:Yx):Value:=.agg #[.bool z.1,.slice z.2.1 z.2.2.1 z.2.2.2.1,.slice z.2.2.2.2.1 z.2.2.2.2.2.1 z.2.2.2.2.2.2.1,.bool z.2.2.2.2.2.2.2.1,.slice z.2.2.2.2.2.2.2.2.1 z.2.2.2.2.2.2.2.2.2.1 z.2.2.2.2.2.2.2.2.2.2.1,.slice z.2.2.2.2.2.2.2.2.2.2.2.1 z.2.2.2.2.2.2.2.2.2.2.2.2.1 z.2.2.2.2.2.2.2.2.2.2.2.2.2.1,.bool z.2.2.2.2.2.2.2.2.2.2.2.2.2.2.1,.bool z.2.2.2.2.2.2.2.2.2.2.2.2.2.2.2]
theorem X3 {V:View}{xb:Bool}{xp:OA}{xn xc:Nat}{xq:OA}{xm xe:Nat}{yb:Bool}{yp:OA}{yn yc:Nat}{yq:OA}{ym ye:Nat}{xa ya:Bool}{s:Sp}(h:EC V (.agg #[.bool xb,.slice xp xn xc,.slice xq xm xe,.bool yb,.slice yp yn yc,.slice yq ym ye,.bool xa,.bool ya]) s):xa=s.a/\ya=s.b/\RQ V (.agg #[.bool xb,.slice xp xn xc,.slice xq xm xe]) s.lo/\RQ V (.agg #[.bool yb,.slice yp yn yc,.slice yq ym ye]) s.hi:=by
 obtain ⟨_,_,_,_,_,_,_,_,_,_,_,_,_,_,e,h1,h2⟩:=h
 have e:=congrArg Array.toList (Value.agg.inj e)
 simp only [List.cons.injEq,Value.bool.injEq,Value.slice.injEq,and_true] at e
 obtain ⟨rfl,⟨rfl,rfl,rfl⟩,⟨rfl,rfl,rfl⟩,rfl,⟨rfl,rfl,rfl⟩,⟨rfl,rfl,rfl⟩,rfl,rfl⟩:=e
 exact ⟨rfl,rfl,h1,h2⟩
theorem R4 {V:View}{xb:Bool}{xp:OA}{xn xc:Nat}{xq:OA}{xm xe:Nat}{yb:Bool}{yp:OA}{yn yc:Nat}{yq:OA}{ym ye:Nat}{xa ya:Bool}{s:Sp}(ea:xa=s.a)(eb:ya=s.b)(h1:RQ V (.agg #[.bool xb,.slice xp xn xc,.slice xq xm xe]) s.lo)(h2:RQ V (.agg #[.bool yb,.slice yp yn yc,.slice yq ym ye]) s.hi):EC V (.agg #[.bool xb,.slice xp xn xc,.slice xq xm xe,.bool yb,.slice yp yn yc,.slice yq ym ye,.bool xa,.bool ya]) s:=by
 subst ea eb;exact ⟨_,_,_,_,_,_,_,_,_,_,_,_,_,_,rfl,h1,h2⟩
def mj (l m:L3)(s:Sp):Sp:=if 0<(dW m l).num.sign then (if s.a=true\/s.lo<kZ l m then ⟨kZ l m,s.hi,false,s.b⟩ else s) else (if s.b=true\/kZ l m<s.hi then ⟨s.lo,kZ l m,s.a,false⟩ else s)
theorem zI {l m:L3}{s:Sp}(hc:aU l m≠0):pk l m s=if (mj l m s).a=false/\(mj l m s).b=false/\(mj l m s).hi<=(mj l m s).lo then none else some (mj l m s):=by
 unfold pk;rw [if_neg hc];rfl
theorem HO {l m:L3}{s:Sp}(hc:aU l m=0):pk l m s=if (ar m (ij l 0) (il l 0)).num.sign<=0 then none else some s:=by
 unfold pk;rw [if_pos hc]
theorem Hg {l m:L3}(hl:Nz l)(bl:Bd l)(bm:Bd m)(hc:aU l m≠0):Sz 100000 (kZ l m):=by
 rw [Ds hl hc];exact (ub bl.lA bm.lA).mono (by omega)
theorem OT {l m:L3}{s:Sp}(hl:Nz l)(bl:Bd l)(bm:Bd m)(hc:aU l m≠0)(hs:s.sz 100000):(mj l m s).sz 100000:=by
 have:=Hg hl bl bm hc
 unfold mj
 split<;>split<;>first|exact hs|exact ⟨this,hs.2⟩|exact ⟨hs.1,this⟩
theorem Js {l m:L3}{s w:Sp}(hl:Nz l)(bl:Bd l)(bm:Bd m)(sg:s.jk)(hs:s.sz 100000)(e:pk l m s=some w):w.jk/\w.sz 100000:=by
 rw [vd hl sg] at e
 split at e
 ·rename_i g
  cases e
  exact ⟨kh sg g,BG bl.lA bm.lA hs (by omega)⟩
 ·cases e
theorem MF {V:View}{v:Value}{L:L3}(h:RL V v L.1 L.2.1 L.2.2)(hz:Nz L)(hb:Bd L):ab prog 153 #[v] V fun r V'=>RP V' r (ij L 0) (il L 0):=by
 have sl:=hb.lA
 refine (o_ h (FG hz) sl.1 sl.2.1 sl.2.2 (by omega)).mono fun r V' _ g=>?_
 have e1:ij L 0=_:=rfl
 unfold ij il
 unfold fx
 have a1:∀x y:Rat,x=y->∀z w:Rat,z=w->RP V' r x z->RP V' r y w:=by rintro x _ rfl z _ rfl h;exact h
 refine a1 _ _ ?_ _ _ ?_ g<;>grind
theorem KU {L:L3}(hb:Bd L):Sz 30000 (ij L 0)/\Sz 30000 (il L 0):=by
 have sl:=hb.lA
 exact ⟨Sz.mono (FO sl (MZ 1000 (by omega))) (by omega),Sz.mono (FP sl (MZ 1000 (by omega))) (by omega)⟩
theorem AO {V:View}{cp:OA}{cn cc:Nat}{ls:List L3}{i:Nat}(h:cB 6 fE V cp cn ls)(hb:∀l∈ls,Bd l)(hk:∀l∈ls,dO l=true)(hl:ls.length<=1000)(hi:i<ls.length) :
  ab prog 85 #[.slice cp cn cc,.int .i64 i] V fun r V'=>∃u s,r=.tuple #[u,.bool (dL ls[i] ls bD).isSome]/\EC V' u s/\s.sz 100000/\∀w,dL ls[i] ls bD=some w->s=w:=by
 have hn:=h.len
 subst hn
 obtain ⟨is,b1,p1,n1,c1,b2,p2,n2,c2,b3,p3,n3,c3,a,had,a0,a1,a2,a3,a4,a5,hl1⟩:=pL h hi
 have bd:=hb _ (List.getElem_mem hi)
 have ok:=hk _ (List.getElem_mem hi)
 generalize el:ls[i]=L at *
 have sl:=bd.lA
 have nz:=Bl ok
 have hd:=i_ bd
 refine yN cp ls.length cc (i:Int) V _ ⟨is,⟨by omega,by omega⟩,b1,p1,n1,c1,b2,p2,n2,c2,b3,p3,n3,c3,a,(by rw [Int.toNat_natCast];exact had),a0,a1,a2,a3,a4,a5,fun V1 l1=>AK.mono ?_⟩
 rintro r V2 l2 gf
 have Zk:=gf
 obtain ⟨_,_,_,_,_,_,_,_,_,_,_,_,_,_,rfl⟩:=DJ gf
 have JQ:=l1.trans l2
 refine ⟨_,_,_,_,_,_,_,_,_,_,_,_,_,_,_,_,rfl,fun z V'=>∃(j:Nat)(s:Sp),z.1=(j:Int)/\j<=ls.length/\EC V' (SH z.2) s/\s.jk/\s.sz 100000/\dL L ls bD=dL L (ls.drop j) s,fun z=>(ls.length-z.1).toNat,⟨(0,_,_,_,_,_,_,_,_,_,_,_,_,_,_,_,_),by and_intros<;>first|rfl|trivial,0,bD,rfl,Nat.zero_le _,Zk,ki,GJ (by omega),by rw [List.drop_zero]⟩,?_⟩
 rintro ⟨z,xb,xp,xn,xc,xq,xm,xe,yb,yp,yn,yc,yq,ym,ye,xa,ya⟩ V3 l3 ⟨j,s,ez,hj,gs,sg,ss,eg⟩
 dsimp only [SH] at ez gs ⊢
 subst ez
 obtain ⟨rfl,rfl,Lk,Lj⟩:=X3 gs
 have C9:=JQ.trans l3
 refine ⟨by trivial,fun hlt=>?_,fun hlt Wv H6=>?_⟩
 rotate_left
 ·have e:j=ls.length:=by have:=of_decide_eq_false hlt;omega
  subst e
  rw [List.drop_length] at eg
  exact ⟨_,s,by rw [eg];rfl,gs.le H6,ss,fun w e=>by rw [eg] at e;exact Option.some.inj e⟩
 have hlt:j<ls.length:=by have:=of_decide_eq_true hlt;omega
 have w1:i64.wrap ((j:Int)+1)=((j+1:Nat):Int):=by rw [aB (by omega)];rfl
 rw [w1,Int.toNat_natCast]
 obtain ⟨is2,B1,P1,N1,C1,B2,P2,N2,C2,B3,P3,N3,C3,A,Zs,A0,A1,A2,A3,A4,A5,hm1⟩:=pL (h.le C9 fun _ _ g=>fE.le g C9) hlt
 have bm:=hb _ (List.getElem_mem hlt)
 have sm:=bm.lA
 have E_:=i_ bm
 have ej:j=i->ls[j]=L:=fun e=>by subst e;exact el
 have ed:ls.drop j=ls[j]::ls.drop (j+1):=List.drop_eq_getElem_cons hlt
 rw [ed] at eg
 generalize ls[j]=M at *
 have Zd:dL L (M::ls.drop (j+1)) s=if M=L then dL L (ls.drop (j+1)) s else match pk L M s with|some s'=>dL L (ls.drop (j+1)) s'|none=>none:=rfl
 rw [Zd] at eg
 have next:∀{W:View} {xb:Bool} {xp:OA} {xn xc:Nat} {xq:OA} {xm xe:Nat} {yb:Bool} {yp:OA} {yn yc:Nat} {yq:OA} {ym ye:Nat} {xa ya:Bool} {s':Sp},EC W (.agg #[.bool xb,.slice xp xn xc,.slice xq xm xe,.bool yb,.slice yp yn yc,.slice yq ym ye,.bool xa,.bool ya]) s'->s'.jk->s'.sz 100000->dL L ls bD=dL L (ls.drop (j+1)) s'->∃(j':Nat)(s:Sp),((j+1:Nat):Int)=(j':Int)/\j'<=ls.length/\EC W (.agg #[.bool xb,.slice xp xn xc,.slice xq xm xe,.bool yb,.slice yp yn yc,.slice yq ym ye,.bool xa,.bool ya]) s/\s.jk/\s.sz 100000/\dL L ls bD=dL L (ls.drop j') s:=fun g1 g2 g3 e=>⟨j+1,_,rfl,hlt,g1,g2,g3,e⟩
 refine ⟨is2,⟨by omega,by omega⟩,B1,P1,N1,C1,B2,P2,N2,C2,B3,P3,N3,C3,A,Zs,A0,A1,A2,A3,A4,A5,fun z _=>z=decide (M=L),⟨fun hz=>⟨true,by and_intros<;>rfl,?_⟩,fun hz V4 l4=>(Cw (hl1.le (C9.trans l4)) (hm1.le l4) sl sm (by omega)).mono ?_⟩,?_⟩
 ·exact (decide_eq_true (ej (by have:=of_decide_eq_true hz;omega))).symm
 ·rintro r V5 l5 rfl
  exact ⟨_,rfl,(HM L M==(0:Int)),by and_intros<;>rfl,by rw [Jk];exact decide_eq_decide.2 eq_comm⟩
 rintro z V6 l6 rfl
 refine ⟨by trivial,fun hz=>?_,fun hz V7 l7=>(O3 (hl1.le (C9.trans (l6.trans l7))) (hm1.le (l6.trans l7)) sl sm (by omega)).mono ?_⟩
 ·rw [if_pos (of_decide_eq_true hz)] at eg
  exact ⟨(((j+1:Nat):Int),_,_,_,_,_,_,_,_,_,_,_,_,_,_,_,_),by dsimp only;omega,by and_intros<;>rfl,next (gs.le l6) sg ss eg⟩
 rw [if_neg (of_decide_eq_false hz)] at eg
 rintro r V8 l8 ⟨u,rfl,q0,q1⟩
 obtain ⟨s1,s2⟩:=MX sl sm
 have Mh:=l6.trans (l7.trans l8)
 by_cases hc:aU L M=0
 ·have qz:=q0 hc
  unfold M_ at qz
  subst qz
  rw [HO hc] at eg
  refine ⟨_,_,_,_,_,_,_,_,_,_,_,_,_,_,_,rfl,fun _ V9 l9=>(MF (hl1.le (C9.trans (Mh.trans l9))) nz bd).mono ?_,fun h=>by simp [hc] at h⟩
  rintro r jG l10 gB
  have TN:=gB
  obtain ⟨_,_,_,_,_,_,_,_,_,_,_,_,rfl,-⟩:=gB
  have QW:=Mh.trans (l9.trans l10)
  refine ⟨_,_,_,_,_,_,_,_,_,_,_,_,_,_,rfl,fun jZ bI=>(FF (hm1.le (QW.trans bI)) (TN.le bI) (sm.up (K:=30000) (by omega)) (KU bd).1 (KU bd).2 (by omega)).mono ?_⟩
  rintro r mQ bV rfl
  have QX:=QW.trans (bI.trans bV)
  refine ⟨_,rfl,fun hz qv cC=>?_,fun hz=>?_⟩
  ·rw [if_pos (of_decide_eq_true hz)] at eg
   exact ⟨_,s,by rw [eg];rfl,gs.le (QX.trans cC),ss,fun w e=>by rw [eg] at e;cases e⟩
  ·rw [if_neg (of_decide_eq_false hz)] at eg
   exact ⟨(((j+1:Nat):Int),_,_,_,_,_,_,_,_,_,_,_,_,_,_,_,_),by dsimp only;omega,by and_intros<;>rfl,next (gs.le QX) sg ss eg⟩
 have hp:=q1 hc
 have hp0:=hp
 obtain ⟨_,_,_,_,_,_,_,_,_,_,_,_,rfl,-⟩:=hp
 refine ⟨_,_,_,_,_,_,_,_,_,_,_,_,_,_,_,rfl,fun h=>by simp [hc] at h,fun _ mS du=>(MG (hl1.le (C9.trans (Mh.trans du))) (hp0.le du) nz (sl.up (K:=30000) (by omega)) (s1.mono (by omega)) (s2.mono (by omega)) (by omega)).mono ?_⟩
 rintro r lH dv gt
 have gt0:RQ lH r (kZ L M):=gt
 obtain ⟨_,_,_,_,_,_,rfl⟩:=gt.shape
 have st:=Hg nz bd bm hc
 have Fl:=Mh.trans (du.trans dv)
 refine ⟨_,_,_,_,_,_,_,rfl,fun lP cX=>(fq (hm1.le (Fl.trans cX)) sm.1 sm.2.1 sm.2.2 (by omega)).mono ?_⟩
 rintro r mT c_ gm
 have Zo:=gm
 obtain ⟨_,_,_,_,_,_,_,_,_,_,_,_,rfl,-⟩:=gm
 have Fm:=Fl.trans (cX.trans c_)
 refine ⟨_,_,_,_,_,_,_,_,_,_,_,_,_,_,rfl,fun qt cR=>(fq (hl1.le (C9.trans (Fm.trans cR))) sl.1 sl.2.1 sl.2.2 (by omega)).mono ?_⟩
 rintro r rK dA gl
 have SK:=gl
 obtain ⟨_,_,_,_,_,_,_,_,_,_,_,_,rfl,-⟩:=gl
 have UW:=Fm.trans (cR.trans dA)
 refine ⟨_,_,_,_,_,_,_,_,_,_,_,_,_,_,rfl,fun yV fG=>(xD (k:=1000) (Zo.le (cR.trans (dA.trans fG))) (SK.le fG) E_.1 E_.2 hd.1 hd.2 (by omega)).mono ?_⟩
 rintro r ui fv gc
 have PB:RQ ui r (dW M L):=by
  have e:dW M L=_:=(Oe M L).symm
  rw [e];exact gc
 obtain ⟨_,_,_,_,_,_,rfl⟩:=gc.shape
 have UX:=UW.trans (fG.trans fv)
 refine ⟨_,_,_,_,_,_,_,rfl,fun uj gF=>(uJ (PB.le gF)).mono ?_⟩
 rintro r xu gY rfl
 have Da:=UX.trans (gF.trans gY)
 have GP:lH.Le xu:=(cX.trans c_).trans ((cR.trans dA).trans ((fG.trans fv).trans (gF.trans gY)))
 refine ⟨_,rfl,fun z W=>EC W (SH z) (mj L M s),⟨fun hs=>?_,fun hs=>?_⟩,?_⟩
 ·have hs:0<(dW M L).num.sign:=of_decide_eq_true hs
  refine ⟨fun z _=>z=decide (s.a=true\/s.lo<kZ L M),⟨fun ha=>⟨true,by and_intros<;>rfl,?_⟩,fun ha Gp lN=>(oZ (gt0.le (GP.trans lN)) (Lk.le (Da.trans lN)) st ss.1 (by omega)).mono ?_⟩,?_⟩
  ·exact (decide_eq_true (.inl ha)).symm
  ·rintro r Gq lQ rfl
   refine ⟨_,rfl,decide (eR (kZ L M) s.lo>(0:Int)),by and_intros<;>rfl,?_⟩
   rw [ha]
   exact decide_eq_decide.2 ⟨fun h=>.inr (GA.1 h),fun h=>h.elim (fun h=>nomatch h) GA.2⟩
  rintro z IZ lE rfl
  refine ⟨by trivial,fun hz=>⟨(_,_,_,_,_,_,_,_,_,_,_,_,_,_,_,_),by and_intros<;>rfl,?_⟩,fun hz=>⟨(_,_,_,_,_,_,_,_,_,_,_,_,_,_,_,_),by and_intros<;>rfl,?_⟩⟩
  ·have e:mj L M s=⟨kZ L M,s.hi,false,s.b⟩:=by unfold mj;rw [if_pos hs,if_pos (of_decide_eq_true hz)]
   rw [e]
   exact R4 rfl rfl (gt0.le (GP.trans lE)) (Lj.le (Da.trans lE))
  ·have e:mj L M s=s:=by unfold mj;rw [if_pos hs,if_neg (of_decide_eq_false hz)]
   rw [e]
   exact gs.le (Da.trans lE)
 ·have hs:¬0<(dW M L).num.sign:=of_decide_eq_false hs
  refine ⟨fun z _=>z=decide (s.b=true\/kZ L M<s.hi),⟨fun ha=>⟨true,by and_intros<;>rfl,?_⟩,fun ha Gp lN=>(oZ (gt0.le (GP.trans lN)) (Lj.le (Da.trans lN)) st ss.2 (by omega)).mono ?_⟩,?_⟩
  ·exact (decide_eq_true (.inl ha)).symm
  ·rintro r Gq lQ rfl
   refine ⟨_,rfl,decide (eR (kZ L M) s.hi<(0:Int)),by and_intros<;>rfl,?_⟩
   rw [ha]
   exact decide_eq_decide.2 ⟨fun h=>.inr (mX.1 h),fun h=>h.elim (fun h=>nomatch h) mX.2⟩
  rintro z IZ lE rfl
  refine ⟨by trivial,fun hz=>⟨(_,_,_,_,_,_,_,_,_,_,_,_,_,_,_,_),by and_intros<;>rfl,?_⟩,fun hz=>⟨(_,_,_,_,_,_,_,_,_,_,_,_,_,_,_,_),by and_intros<;>rfl,?_⟩⟩
  ·have e:mj L M s=⟨s.lo,kZ L M,s.a,false⟩:=by unfold mj;rw [if_neg hs,if_pos (of_decide_eq_true hz)]
   rw [e]
   exact R4 rfl rfl (Lk.le (Da.trans lE)) (gt0.le (GP.trans lE))
  ·have e:mj L M s=s:=by unfold mj;rw [if_neg hs,if_neg (of_decide_eq_false hz)]
   rw [e]
   exact gs.le (Da.trans lE)
 rw [zI hc] at eg
 have kk:=fun w=>Js (w:=w) nz bd bm sg ss
 rw [zI hc] at kk
 have sz:=OT nz bd bm hc ss
 generalize mj L M s=s' at *
 clear gs Lk Lj
 rintro ⟨xb,xp,xn,xc,xq,xm,xe,yb,yp,yn,yc,yq,ym,ye,xa,ya⟩ Lf xT gs
 dsimp only [SH] at gs ⊢
 obtain ⟨rfl,rfl,Lk,Lj⟩:=X3 gs
 refine ⟨by trivial,fun z _=>z=decide (s'.a=false/\s'.b=false/\s'.hi<=s'.lo),⟨fun ha=>⟨fun hb PV C_=>(oZ (Lk.le C_) (Lj.le C_) sz.1 sz.2 (by omega)).mono ?_,fun hb=>⟨false,by and_intros<;>rfl,?_⟩⟩,fun ha=>⟨false,by and_intros<;>rfl,?_⟩⟩,?_⟩
 ·rintro r SD H5 rfl
  rw [Bool.not_eq_true'] at ha hb
  refine ⟨_,rfl,decide (eR s'.lo s'.hi≥(0:Int)),by and_intros<;>rfl,decide_eq_decide.2 ⟨fun h=>⟨ha,hb,?_⟩,fun h=>?_⟩⟩
  ·refine Rat.not_lt.1 fun g=>?_
   have:=mX.2 g;omega
  ·refine Int.not_lt.1 fun g=>?_
   have:=mX.1 g
   have:=h.2.2
   grind
 ·rw [Bool.not_eq_false'] at hb
  exact (decide_eq_false fun h=>by rw [hb] at h;cases h.2.1).symm
 ·rw [Bool.not_eq_false'] at ha
  exact (decide_eq_false fun h=>by rw [ha] at h;cases h.1).symm
 rintro z PX zV rfl
 refine ⟨by trivial,fun hz Tl Ll=>?_,fun hz=>?_⟩
 ·rw [if_pos (of_decide_eq_true hz)] at eg
  exact ⟨_,s',by rw [eg];rfl,gs.le (zV.trans Ll),sz,fun w e=>by rw [eg] at e;cases e⟩
 ·rw [if_neg (of_decide_eq_false hz)] at eg kk
  obtain ⟨k1,k2⟩:=kk _ rfl
  exact ⟨(((j+1:Nat):Int),_,_,_,_,_,_,_,_,_,_,_,_,_,_,_,_),by dsimp only;omega,by and_intros<;>rfl,next (gs.le zV) k1 k2 eg⟩
end Go.Proofs.Tryz
