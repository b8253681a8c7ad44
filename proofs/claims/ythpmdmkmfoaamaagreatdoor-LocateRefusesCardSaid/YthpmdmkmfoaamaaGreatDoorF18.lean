import Derived.Test.YthpmdmkmfoaamaaGreatDoorF15
import Derived.Test.YthpmdmkmfoaamaaGreatDoorF13
import Derived.Test.YthpmdmkmfoaamaaGreatDoorF17
import Derived.Test.YthpmdmkmfoaamaaGreatDoorF9
import Derived.Test.YthpmdmkmfoaamaaGreatDoorF14
set_option linter.unusedVariables false
open Go.IntKind (i64 u64 u32)
namespace Go.Proofs.Tryz
open Go.bz Go.eM
def LL:L3:=(0,1,0)
theorem JC:gT LL=true:=by decide
theorem vh {z:Int}(k:Nat)(hk:k≠0)(h:z.natAbs<=1):z.natAbs<2^k:=Nat.lt_of_le_of_lt h (Nat.one_lt_two_pow hk)
theorem Kc (k:Nat)(hk:k≠0):LL.1.natAbs<2^k/\LL.2.1.natAbs<2^k/\LL.2.2.natAbs<2^k:=⟨vh k hk (by decide),vh k hk (by decide),vh k hk (by decide)⟩
theorem JB:Bd LL:=Kc 1000 (by decide)
theorem FB {V:View}{v:Value}{a b c:Int}(h:RL V v a b c):∃(b1:Bool)(p1:OA)(n1 c1:Nat)(b2:Bool)(p2:OA)(n2 c2:Nat)(b3:Bool)(p3:OA)(n3 c3:Nat),v=.agg #[.bool b1,.slice p1 n1 c1,.bool b2,.slice p2 n2 c2,.bool b3,.slice p3 n3 c3]:=by
 obtain ⟨p,n,s,p',n',s',q,m,e,rfl,-⟩:=h
 exact ⟨_,_,_,_,_,_,_,_,_,_,_,_,rfl⟩
theorem yV {V:View}{u w:Value}(hp:RP V u ((0:Int):Rat) ((0:Int):Rat))(hq:RP V w ((1:Int):Rat) ((0:Int):Rat)) :
  ab prog 50 #[u,w] V fun r V'=>∃l,r=.tuple #[l,.bool true]/\RL V' l LL.1 LL.2.1 LL.2.2:=by
 have s0:Sz 1 ((0:Int):Rat):=by unfold Sz;decide
 have s1:Sz 1 ((1:Int):Rat):=zP
 refine (rY hp hq s0 s0 s1 s0 (by omega) (by omega)).mono ?_
 have e1:(yu ((0:Int):Rat) ((0:Int):Rat) ((1:Int):Rat) ((0:Int):Rat)).1.num=0:=by decide +kernel
 have e2:(yu ((0:Int):Rat) ((0:Int):Rat) ((1:Int):Rat) ((0:Int):Rat)).2.1.num=1:=by decide +kernel
 have e3:(yu ((0:Int):Rat) ((0:Int):Rat) ((1:Int):Rat) ((0:Int):Rat)).2.2.num=0:=by decide +kernel
 rw [e1,e2,e3]
 rintro r V' _ ⟨-,h⟩
 exact h (by omega)
structure Pq (V:View) (y z:Value):Prop where
 inv:rU V 0 y
 DY:rU V 1 z
 yE:FD y
 zE:FD z
theorem Pq.le {V V':View}{y z:Value}(h:Pq V y z)(l:V.Le V'):Pq V' y z:=⟨h.inv.le l,h.DY.le l,h.yE,h.zE⟩
theorem sn:IsIface .nilIface/\du .nilIface=true:=⟨.inl rfl,rfl⟩
theorem AT.leaf {V:View}(i:Bool):AT V (.agg #[.int .i64 (rt 0 (.leaf i)),.slice none 0 0]) (rt 0 (.leaf i)) (wr 0 (.leaf i)):=⟨_,_,_,rfl,NS.nil⟩
theorem uH {p:L3->Prop}:∀{t:Tr} {k:Nat},t.iU p->∀x∈wr k t,p x.ln
 | .leaf _,_,_,x,h=>by simp [wr] at h
 | .node l a b,k,⟨h1,h2,h3⟩,x,h=>by
  simp only [wr,List.mem_cons,List.mem_append] at h
  rcases h with rfl|h|h
  ·exact h1
  ·exact uH h2 x h
  ·exact uH h3 x h
def ch:Nat->Tr
 | 0=>.leaf false
 | m+1=>.node LL (.leaf true) (ch m)
def Ao:Tr:=.node LL (.leaf true) (.leaf false)
theorem Lj:Ao.iU Fp:=⟨⟨JC,JB⟩,trivial,trivial⟩
theorem pf {t:Tr}{p:Rat×Rat}{c:Int}(h:eN t p c)(hm:aw.cO t p=[]):c=if (aw.gC t p (1,0)).1 then 2 else 0:=by
 have:=h [] [(1,0)] ⟨fun r h=>(by cases h),fun r h=>(by cases h),List.Pairwise.nil⟩ (.inl ⟨rfl,rfl⟩) (by rw [hm];intro l h;cases h)
 rw [this]
 unfold aw.anyS aw.jx EB
 simp only [List.any_cons,List.any_nil,Bool.or_false,List.all_cons,List.all_nil,Bool.and_true]
 cases (aw.gC t p (1,0)).1<;>rfl
theorem J7:aw.Aj [(1,0),(-1,0)]:=by
 refine ⟨fun r hr=>?_,fun r hr=>?_,?_⟩
 ·simp only [List.mem_cons,List.not_mem_nil,or_false] at hr
  rcases hr with rfl|rfl
  ·exact .inl (by decide)
  ·exact .inl (by decide)
 ·simp only [List.mem_cons,List.not_mem_nil,or_false] at hr
  rcases hr with rfl|rfl
  ·exact ⟨(-1,0),by simp,1,by decide,by decide +kernel,by decide +kernel⟩
  ·exact ⟨(1,0),by simp,1,by decide,by decide +kernel,by decide +kernel⟩
 ·refine List.pairwise_cons.2 ⟨fun x hx=>?_,List.pairwise_singleton ..⟩
  rcases List.mem_singleton.1 hx with rfl
  exact .inl ⟨.inr ⟨rfl,by decide⟩,.inr ⟨rfl,by decide⟩⟩
theorem uD {V:View}{v w:Value}(h:AT V v (rt 0 Ao) (wr 0 Ao)){x y:Int}(hw:Kd V w (x:Rat) (y:Rat))(hx:-40<=x/\x<=40)(hy:-40<=y/\y<=40){e:Value}(he:rU V 0 e) :
  ab prog 13 #[v,w] V fun r V'=>∃c,r=.tuple #[.int .i64 c,.nilIface]/\eN Ao ((x:Rat),(y:Rat)) c:=by
 have sx:=Fa hx
 have sy:=Fa hy
 have ho:kd (wr 0 Ao) (rt 0 Ao)=some Ao:=KW ⟨JC,trivial,trivial⟩ (by decide)
 refine (lK (p:=((x:Rat),(y:Rat))) (uH (p:=Bd) (t:=Ao) ⟨JB,trivial,trivial⟩) h (Ai.of (p:=((x:Rat),(y:Rat))) hw sx sy (by omega)) (sx.mono (by omega)) (sy.mono (by omega)) (fun t ht=>by rw [ho] at ht;cases ht;decide) (fun t ht n c=>by rw [ho] at ht;cases ht;exact Lg n c _ (by have:=pJ Ao ((x:Rat),(y:Rat));rw [yh];have e:Ao.size=1:=rfl;omega)) he).mono ?_
 rintro r V' _ ⟨-,h2⟩
 exact h2 Ao ho
theorem jW {V:View}{e:Value}(he:rU V 0 e):ab prog 16 #[] V fun r V'=>r=.bool true:=by
 refine vG V _ fun V1 l1=>(fG 0 0 (by omega) (by omega) (by omega) (by omega)).mono ?_
 rintro r V2 l2 hp
 have hp0:=hp
 obtain ⟨_,_,_,_,_,_,_,_,_,_,_,_,rfl,-⟩:=hp
 refine ⟨_,_,_,_,_,_,_,_,_,_,_,_,_,_,rfl,fun V3 l3=>(fG 1 0 (by omega) (by omega) (by omega) (by omega)).mono ?_⟩
 rintro r V4 l4 hq
 have hq0:=hq
 obtain ⟨_,_,_,_,_,_,_,_,_,_,_,_,rfl,-⟩:=hq
 refine ⟨_,_,_,_,_,_,_,_,_,_,_,_,_,_,rfl,fun V5 l5=>(yV (hp0.le (l3.trans (l4.trans l5))) (hq0.le l5)).mono ?_⟩
 rintro r V6 l6 ⟨l,rfl,hl⟩
 obtain ⟨b1,u1,v1,w1,b2,u2,v2,w2,b3,u3,v3,w3,rfl⟩:=FB hl
 have O2:=l1.trans (l2.trans (l3.trans (l4.trans (l5.trans l6))))
 refine ⟨_,_,_,_,_,_,_,_,_,_,_,_,_,rfl,fun V7 l7=>(pe true).mono ?_⟩
 rintro r V8 l8 ⟨pa,rfl,ha⟩
 refine ⟨_,rfl,fun V9 l9=>(pe false).mono ?_⟩
 rintro r gQ l10 ⟨pb,rfl,hb⟩
 have Nl:=l7.trans (l8.trans (l9.trans l10))
 refine ⟨_,rfl,fun jw bQ bk e1 e2=>(nW (V:=jw.aA [bk]) (ln:=LL) (x:=.leaf true) (y:=.leaf false) e1 (RL.le (V:=V6) (V':=jw.aA _) hl fun b o h=>(Nl.trans bQ) b o h) (RW.le (V:=V8) (V':=jw.aA _) (fun b o h=>(l9.trans (l10.trans bQ)) b o h) ha) (RW.le (V:=gQ) (V':=jw.aA _) (fun b o h=>bQ b o h) hb) Lj (by decide)).mono ?_⟩
 rintro r kv cp ⟨e3,hat⟩
 have MI:AT kv r (rt 0 Ao) (wr 0 Ao):=hat
 clear hat
 have Kw:=MI
 obtain ⟨q,n,c,rfl,-⟩:=MI
 have Nc:jw.Le kv:=fun b o h=>cp b o h
 have Ly:=O2.trans (Nl.trans (bQ.trans Nc))
 refine ⟨_,_,_,_,rfl,_,_,_,_,_,_,_,_,_,_,_,_,_,_,_,_,e3,fun lA bW=>(fG 0 1 (by omega) (by omega) (by omega) (by omega)).mono ?_⟩
 have bW:kv.Le lA:=fun b o h=>bW b o h
 rintro r qk dK hp
 have hp0:=hp
 obtain ⟨_,_,_,_,_,_,_,_,_,_,_,_,rfl,-⟩:=hp
 refine ⟨_,_,_,_,_,_,_,_,_,_,_,_,_,_,rfl,fun oM dZ=>(lN (hp0.le dZ) (Fa (by omega)) (Fa (by omega)) (by omega)).mono ?_⟩
 rintro r oN c_ hw
 have hw0:=hw
 obtain ⟨_,_,_,_,_,_,_,_,_,_,_,_,_,_,rfl,-⟩:=hw
 have Gy:=bW.trans (dK.trans (dZ.trans c_))
 refine ⟨_,_,_,_,_,_,_,_,_,_,_,_,_,_,rfl,fun qi cQ=>(uD (Kw.le (Gy.trans cQ)) (hw0.le cQ) (by omega) (by omega) (he.le (Ly.trans (Gy.trans cQ)))).mono ?_⟩
 rintro r tE eI ⟨k1,rfl,hk1⟩
 have S8:=pf hk1 (by decide +kernel)
 rw [show (aw.gC Ao (((0:Int):Rat),((1:Int):Rat)) (1,0)).1=true by decide +kernel,if_pos rfl] at S8
 subst S8
 have Nf:=Gy.trans (cQ.trans eI)
 refine ⟨_,_,rfl,fun xk eA=>(fG 5 0 (by omega) (by omega) (by omega) (by omega)).mono ?_⟩
 rintro r Ak jC hp
 have hp0:=hp
 obtain ⟨_,_,_,_,_,_,_,_,_,_,_,_,rfl,-⟩:=hp
 refine ⟨_,_,_,_,_,_,_,_,_,_,_,_,_,_,rfl,fun sR dL=>(lN (hp0.le dL) (Fa (by omega)) (Fa (by omega)) (by omega)).mono ?_⟩
 rintro r vY kr hw
 have hw0:=hw
 obtain ⟨_,_,_,_,_,_,_,_,_,_,_,_,_,_,rfl,-⟩:=hw
 have Gz:=Nf.trans (eA.trans (jC.trans (dL.trans kr)))
 refine ⟨_,_,_,_,_,_,_,_,_,_,_,_,_,_,rfl,fun vZ il=>(uD (Kw.le (Gz.trans il)) (hw0.le il) (by omega) (by omega) (he.le (Ly.trans (Gz.trans il)))).mono ?_⟩
 rintro r Cj sW ⟨k2,rfl,hk2⟩
 have O0:=hk2 [(1,0),(-1,0)] (jq [(1,0),(-1,0)]) J7 (mW J7) (by
  intro l hl
  have:aw.cO Ao (((5:Int):Rat),((0:Int):Rat))=[LL]:=by decide +kernel
  rw [this] at hl
  rcases List.mem_singleton.1 hl with rfl
  exact ⟨(1,0),by simp,1,by decide,by decide +kernel⟩)
 rw [show aw.anyS Ao (((5:Int):Rat),((0:Int):Rat)) (jq [(1,0),(-1,0)])=true by decide +kernel,show aw.jx Ao (((5:Int):Rat),((0:Int):Rat)) (jq [(1,0),(-1,0)])=false by decide +kernel] at O0
 have O0:k2=1:=O0
 subst O0
 have Ng:=Gz.trans (il.trans sW)
 refine ⟨_,_,rfl,fun DH jh=>(fG 0 (-1) (by omega) (by omega) (by omega) (by omega)).mono ?_⟩
 rintro r HU sX hp
 have hp0:=hp
 obtain ⟨_,_,_,_,_,_,_,_,_,_,_,_,rfl,-⟩:=hp
 refine ⟨_,_,_,_,_,_,_,_,_,_,_,_,_,_,rfl,fun Kg sY=>(lN (hp0.le sY) (Fa (by omega)) (Fa (by omega)) (by omega)).mono ?_⟩
 rintro r H3 CQ hw
 have hw0:=hw
 obtain ⟨_,_,_,_,_,_,_,_,_,_,_,_,_,_,rfl,-⟩:=hw
 have JY:=Ng.trans (jh.trans (sX.trans (sY.trans CQ)))
 refine ⟨_,_,_,_,_,_,_,_,_,_,_,_,_,_,rfl,fun LD CR=>(uD (Kw.le (JY.trans CR)) (hw0.le CR) (by omega) (by omega) (he.le (Ly.trans (JY.trans CR)))).mono ?_⟩
 rintro r H4 ze ⟨k3,rfl,hk3⟩
 have O1:=pf hk3 (by decide +kernel)
 rw [show (aw.gC Ao (((0:Int):Rat),((-1:Int):Rat)) (1,0)).1=false by decide +kernel] at O1
 have O1:k3=0:=O1
 subst O1
 exact ⟨_,_,rfl,sn.1,fun _=>⟨sn.1,fun _=>⟨sn.1,fun _=>⟨fun _=>⟨fun _ ON IX=>rfl,(fun h=>by cases h)⟩,(fun h=>by cases h)⟩,(fun h=>by rw [sn.2] at h;cases h)⟩,(fun h=>by rw [sn.2] at h;cases h)⟩,(fun h=>by rw [sn.2] at h;cases h)⟩
def uk (p:Rat×Rat)(l:L3):List (Rat×Rat):=if cq l p.1 p.2=0 then [aw.cj l,((-(aw.cj l).1,-(aw.cj l).2):Rat×Rat)] else []
def eh (p:Rat×Rat)(ls:List L3):List (Rat×Rat):=ls.flatMap (uk p)
theorem CB {p:Rat×Rat}{ls:List L3}{i:Nat}(h:i<ls.length):eh p (ls.take (i+1))=eh p (ls.take i)++uk p ls[i]:=by
 unfold eh
 rw [←List.take_append_getElem h,List.flatMap_append]
 simp
theorem xM (p:Rat×Rat)(ls:List L3):(eh p ls).length<=2*ls.length:=by
 induction ls with
 | nil=>exact Nat.le_refl _
 | cons l r ih=>
  have:eh p (l::r)=uk p l++eh p r:=rfl
  rw [this,List.length_append,List.length_cons]
  have:(uk p l).length<=2:=by unfold uk;split<;>simp
  omega
theorem mK {p:Rat×Rat}{ls:List L3}{r:Rat×Rat}(h:r∈eh p ls):∃l∈ls,cq l p.1 p.2=0/\(r=aw.cj l\/r=(-(aw.cj l).1,-(aw.cj l).2)):=by
 obtain ⟨l,hl,hr⟩:=List.mem_flatMap.1 h
 unfold uk at hr
 split at hr
 ·rename_i e
  simp only [List.mem_cons,List.not_mem_nil,or_false] at hr
  exact ⟨l,hl,e,hr⟩
 ·cases hr
theorem x_ {p:Rat×Rat}{ls:List L3}{l:L3}(hl:l∈ls)(e:cq l p.1 p.2=0):aw.cj l∈eh p ls/\((-(aw.cj l).1,-(aw.cj l).2):Rat×Rat)∈eh p ls:=by
 constructor<;>refine List.mem_flatMap.2 ⟨l,hl,?_⟩<;>unfold uk<;>rw [if_pos e]<;>simp
theorem H6 {v:Rat×Rat}(h:aw.nz v):¬aw.fk v (-v.1,-v.2)=0:=by
 rw [aw.eS]
 rintro ⟨e,-⟩
 unfold aw.nz at h
 rcases aw.bw v with ⟨h1,h2⟩|⟨h1,h2⟩|⟨h1,h2⟩<;>rcases aw.bw (-v.1,-v.2) with ⟨g1,g2⟩|⟨g1,g2⟩|⟨g1,g2⟩<;>first|omega|skip
 ·unfold aw.up at h2 g2;dsimp only at g2;grind
 ·unfold aw.dn at h2 g2;dsimp only at g2;grind
 ·grind
theorem yF {u v:Rat×Rat}(h:aw.fk u v=0):aw.fk v u=0:=by
 rw [aw.eS] at *
 have:=aw.bV u v
 exact ⟨h.1.symm,by grind⟩
theorem DL {u v:Rat×Rat}:aw.fk u v>0↔aw.fk v u<0:=by
 constructor
 ·intro h
  rcases aw.tI u v with g|g|g
  ·omega
  ·omega
  ·exact g
 ·intro h
  have h1:=aw.yC v u h
  have h2:¬aw.fk u v=0:=fun e=>by have:=yF e;omega
  omega
theorem A0 {p:Rat×Rat}:∀{ls:List L3},(∀l∈ls,gT l=true/\cK l=l)->ls.Nodup->(eh p ls).Pairwise fun x y=>¬aw.fk x y=0
 | [],_,_=>List.Pairwise.nil
 | l::r,h,hn=>by
  have ih:=A0 (p:=p) (fun m hm=>h m (List.mem_cons_of_mem _ hm)) (List.nodup_cons.1 hn).2
  have:eh p (l::r)=uk p l++eh p r:=rfl
  rw [this]
  obtain ⟨ol,cl⟩:=h l (List.mem_cons_self ..)
  have nl:=s_ (zn ol)
  refine List.pairwise_append.2 ⟨?_,ih,fun x hx y hy e=>?_⟩
  ·unfold uk
   split
   ·exact List.pairwise_cons.2 ⟨fun y hy=>by rcases List.mem_singleton.1 hy with rfl;exact H6 nl,List.pairwise_singleton ..⟩
   ·exact List.Pairwise.nil
  ·have hx':x∈eh p [l]:=by show x∈uk p l++[];rw [List.append_nil];exact hx
   obtain ⟨l',hl',e1,x1⟩:=mK hx'
   rcases List.mem_singleton.1 hl' with rfl
   obtain ⟨m,hm,e2,y1⟩:=mK hy
   obtain ⟨om,cm⟩:=h m (List.mem_cons_of_mem _ hm)
   have c0:aw.cr (aw.cj l') (aw.cj m)=0:=by
    have c:=(aw.eS.1 e).2
    rcases x1 with rfl|rfl<;>rcases y1 with rfl|rfl<;>unfold aw.cr at c⊢<;> grind
   have:=aw.E7 ol om cl cm e1 e2 c0
   exact (List.nodup_cons.1 hn).1 (this▸hm)
theorem F7 {p:Rat×Rat}{ls:List L3}(h:∀l∈ls,gT l=true/\cK l=l)(hn:ls.Nodup){m:List (Rat×Rat)}(pm:m.Perm (eh p ls))(pw:m.Pairwise fun x y=>¬dg y x<0):aw.Aj m:=by
 refine aw.Jg pw (fun r hr=>?_) (fun r hr=>?_) (pm.symm.pairwise (A0 h hn) fun e e'=>e (yF e'))
 ·obtain ⟨l,hl,-,e⟩:=mK (pm.mem_iff.1 hr)
  have nl:=s_ (zn (h l hl).1)
  rcases e with rfl|rfl
  ·exact nl
  ·unfold aw.nz at *
   rcases nl with nl|nl
   ·left;dsimp only;grind
   ·right;dsimp only;grind
 ·obtain ⟨l,hl,e0,e⟩:=mK (pm.mem_iff.1 hr)
  obtain ⟨m1,m2⟩:=x_ hl e0
  rcases e with rfl|rfl
  ·exact ⟨_,pm.mem_iff.2 m2,1,by decide,by dsimp only;grind,by dsimp only;grind⟩
  ·exact ⟨_,pm.mem_iff.2 m1,1,by decide,by dsimp only;grind,by dsimp only;grind⟩
theorem F6 {p:Rat×Rat}{ls:List L3}{m:List (Rat×Rat)}(pm:m.Perm (eh p ls)){M:List L3}(hM:∀l∈M,cq l p.1 p.2=0/\cK l∈ls):aw.Ee m M:=by
 intro l hl
 obtain ⟨e,hc⟩:=hM l hl
 have e':cq (cK l) p.1 p.2=0:=by
  unfold cK
  split
  ·unfold cq zJ at *;simp only [Rat.intCast_neg];grind
  ·exact e
 obtain ⟨m1,m2⟩:=x_ hc e'
 have two:aw.cj (cK l)=aw.cj l\/((-(aw.cj (cK l)).1,-(aw.cj (cK l)).2):Rat×Rat)=aw.cj l:=by
  unfold cK
  split
  ·right;unfold aw.cj zJ;simp only [Rat.intCast_neg];exact Prod.ext (by dsimp only;grind) (by dsimp only;grind)
  ·left;rfl
 rcases two with t|t
 ·exact ⟨_,pm.mem_iff.2 m1,1,by decide,by rw [t];exact Prod.ext (by dsimp only;grind) (by dsimp only;grind)⟩
 ·exact ⟨_,pm.mem_iff.2 m2,1,by decide,by rw [t];exact Prod.ext (by dsimp only;grind) (by dsimp only;grind)⟩
theorem Hn {D:List (Rat×Rat)}(h:aw.Aj D){i:Nat}{u w:Rat×Rat}(hi:D[i]?=some u)(hw:D[(i+1)%D.length]?=some w)(hl:D.length>2):¬aw.fk u w=0:=by
 have hi':=(List.getElem?_eq_some_iff.1 hi).1
 by_cases e:i+1<D.length
 ·rw [Nat.mod_eq_of_lt e] at hw
  have a:=aw.jj h hi hw (by omega)
  have:=(aw.yD (h.nz u (List.mem_of_getElem? hi)) (h.nz w (List.mem_of_getElem? hw))).2 a
  omega
 ·have e:i+1=D.length:=by omega
  rw [e,Nat.mod_self] at hw
  have a:=aw.jj h hw hi (by omega)
  have:=(aw.yD (h.nz w (List.mem_of_getElem? hw)) (h.nz u (List.mem_of_getElem? hi))).2 a
  intro e
  have:=yF e
  omega
theorem Ld {D S:List (Rat×Rat)}(hD:D≠[])(hl:S.length=D.length)(h:∀i u w x,D[i]?=some u->D[(i+1)%D.length]?=some w->S[i]?=some x->aw.qj u w x):aw.Fq D S:=by
 have h0:0<D.length:=List.length_pos_iff.2 hD
 refine .inr ⟨hD,fun x hx=>?_,fun i u w hi hw=>?_⟩
 ·obtain ⟨i,hi⟩:=List.getElem?_of_mem hx
  have hi':=(List.getElem?_eq_some_iff.1 hi).1
  exact ⟨i,_,_,List.getElem?_eq_getElem (by omega),List.getElem?_eq_getElem (Nat.mod_lt _ h0),h i _ _ x (List.getElem?_eq_getElem _) (List.getElem?_eq_getElem _) hi⟩
 ·have hi':=(List.getElem?_eq_some_iff.1 hi).1
  exact ⟨S[i],List.getElem_mem _,h i u w _ hi hw (List.getElem?_eq_getElem _)⟩
theorem Lb {u w:Rat×Rat}{a b:Rat}(ha:a>0)(hb:b>0)(h:aw.cr u w>0):aw.qj u w (a*u.1+((1:Int):Rat)*(b*w.1),a*u.2+((1:Int):Rat)*(b*w.2)):=by
 refine .inl ⟨h,a,b,ha,hb,?_⟩
 have:((1:Int):Rat)=1:=rfl
 rw [this]
 exact Prod.ext (by unfold aw.wH;dsimp only;grind) (by unfold aw.wH;dsimp only;grind)
theorem Lc {u w:Rat×Rat}(h:aw.cr u w=0):aw.qj u w (-u.2,u.1):=
 .inr ⟨by grind,1,by decide,Prod.ext (by unfold aw.wH aw.Eb;dsimp only;grind) (by unfold aw.wH aw.Eb;dsimp only;grind)⟩
theorem IG {p:Rat×Rat}(h:aw.nz p):aw.half p≠0:=by
 rcases aw.bw p with ⟨e,-⟩|⟨e,-⟩|⟨-,e1,e2⟩
 ·omega
 ·omega
 ·unfold aw.nz at h
  rcases h with h|h
  ·exact absurd e1 h
  ·exact absurd e2 h
theorem zv {z:Int}{q:Rat}{d G:Nat}(hd:q*(((d:Nat):Int):Rat)=(z:Rat))(hG:G∣z.natAbs)(h0:0<G):(((z / (G:Int):Int)):Rat)=((((d:Nat):Int):Rat)*((((G:Nat):Int):Rat))⁻¹)*q:=by
 have hg:(((G:Nat):Int):Rat)≠0:=by exact_mod_cast (by omega:(G:Int)≠0)
 have e1:(z / (G:Int))*(G:Int)=z:=Int.ediv_mul_cancel (Int.ofNat_dvd_left.2 hG)
 have e2:(((z / (G:Int):Int)):Rat)*(((G:Nat):Int):Rat)=(z:Rat):=by exact_mod_cast e1
 have e3:=aw.inv_mul hg (((z / (G:Int):Int)):Rat)
 have e4:(((z / (G:Int):Int)):Rat)*(((G:Nat):Int):Rat)*((((G:Nat):Int):Rat))⁻¹=(((z / (G:Int):Int)):Rat):=by grind
 rw [←e4,e2,←hd]
 grind
theorem jd {V:View}{v:Value}{p:Rat×Rat}(h:RP V v p.1 p.2)(hn:aw.nz p){k:Nat}(s1:Sz k p.1)(s2:Sz k p.2)(hk0:0<k)(hk:4*k+4<274877906944) :
  ab prog 63 #[v] V fun r V'=>∃c:Rat,c>0/\RP V' r (c*p.1) (c*p.2)/\Sz (k+k) (c*p.1)/\Sz (k+k) (c*p.2):=by
 have h0:=h
 obtain ⟨_,_,_,_,_,_,_,_,_,_,_,_,rfl,hx,hy⟩:=h
 refine oL _ _ _ _ _ _ _ _ _ _ _ _ _ _ V _ fun V1 l1=>(kI (h0.le l1)).mono ?_
 rintro r V2 l2 rfl
 have An:=l1.trans l2
 refine ⟨_,rfl,fun e=>absurd (by simpa using e) (IG hn),fun _ V4 l4=>(cw p.2 _ (RQ.den (hy.le (An.trans l4)))).mono ?_⟩
 rintro r V5 l5 ⟨d1,d2,d3,rfl,gd⟩
 refine ⟨_,_,_,rfl,fun V6 l6=>(cd false (gd.le l6)).mono ?_⟩
 rintro r V7 l7 gm
 rw [if_neg (by decide)] at gm
 have Uu:=gm
 obtain ⟨_,_,_,rfl,-⟩:=gm
 have Gw:=An.trans (l4.trans (l5.trans (l6.trans l7)))
 have n1:=ah s1.1
 have n2:=ah s2.1
 have m1:=ah s1.2
 have m2:=ah s2.2
 refine ⟨_,_,_,_,rfl,fun V8 l8=>(tZ (RQ.int (hx.le (Gw.trans l8))) (Uu.le l8) (by rw [Int.natAbs_natCast];omega)).mono ?_⟩
 rintro r V9 l9 gx
 have P2:=gx
 obtain ⟨_,_,_,rfl,-⟩:=gx
 have DV:=Gw.trans (l8.trans l9)
 refine ⟨_,_,_,_,rfl,fun gQ l10=>(cw p.1 _ (RQ.den (hx.le (DV.trans l10)))).mono ?_⟩
 rintro r jw bQ ⟨f1,f2,f3,rfl,gf⟩
 refine ⟨_,_,_,rfl,fun kv cp=>(cd false (gf.le cp)).mono ?_⟩
 rintro r lA bW gn
 rw [if_neg (by decide)] at gn
 have PZ:=gn
 obtain ⟨_,_,_,rfl,-⟩:=gn
 have Nm:=l10.trans (bQ.trans (cp.trans bW))
 refine ⟨_,_,_,_,rfl,fun qk dK=>(tZ (RQ.int (hy.le (DV.trans (Nm.trans dK)))) (PZ.le dK) (by rw [Int.natAbs_natCast];omega)).mono ?_⟩
 rintro r oM dZ gy
 have Uy:=gy
 obtain ⟨_,_,_,rfl,-⟩:=gy
 have Nn:=Nm.trans (dK.trans dZ)
 have ex:=rJ p.1 p.2.den
 have ey:=rJ p.2 p.1.den
 have bx:(p.1.num*(p.2.den:Int)).natAbs<2^(k+k):=by rw [Int.natAbs_mul,Int.natAbs_natCast];exact bA s1.1 s2.2
 have Kn:(p.2.num*(p.1.den:Int)).natAbs<2^(k+k):=by rw [Int.natAbs_mul,Int.natAbs_natCast];exact bA s2.1 s1.2
 have hne:(p.1.num*(p.2.den:Int)).natAbs≠0\/(p.2.num*(p.1.den:Int)).natAbs≠0:=by
  unfold aw.nz at hn
  rcases hn with hn|hn
  ·left
   rw [Int.natAbs_mul,Int.natAbs_natCast]
   exact Nat.mul_ne_zero (fun e=>hn (Rat.num_eq_zero.1 (by omega))) p.2.den_nz
  ·right
   rw [Int.natAbs_mul,Int.natAbs_natCast]
   exact Nat.mul_ne_zero (fun e=>hn (Rat.num_eq_zero.1 (by omega))) p.1.den_nz
 rw [Nat.mul_comm p.2.den p.1.den] at ey
 generalize p.1.num*(p.2.den:Int)=X at *
 generalize p.2.num*(p.1.den:Int)=Y at *
 have hD:0<p.1.den*p.2.den:=Nat.pos_of_ne_zero (Nat.mul_ne_zero p.1.den_nz p.2.den_nz)
 generalize p.1.den*p.2.den=D at *
 obtain ⟨ix,rx⟩:=P2.inv
 obtain ⟨iy,ry⟩:=Uy.inv
 have nx:=ah bx
 have ny:=ah Kn
 refine ⟨_,_,_,_,rfl,fun oN c_=>(dC (rx.le (Nn.trans c_)) (ry.le c_) (by omega) (by omega)).mono ?_⟩
 rintro r qi cQ ⟨g1,g2,g3,rfl,gg⟩
 have dx:Nat.gcd X.natAbs Y.natAbs∣X.natAbs:=Nat.gcd_dvd_left _ _
 have dy:Nat.gcd X.natAbs Y.natAbs∣Y.natAbs:=Nat.gcd_dvd_right _ _
 have G0:0<Nat.gcd X.natAbs Y.natAbs:=Nat.pos_of_ne_zero fun e=>by
  rw [Nat.gcd_eq_zero_iff] at e
  rcases hne with h|h
  ·exact h e.1
  ·exact h e.2
 have Gl:(ai (Nat.gcd X.natAbs Y.natAbs)).length<=k+k:=by
  apply ah
  rcases hne with h|h
  ·exact Nat.lt_of_le_of_lt (Nat.le_of_dvd (by omega) dx) bx
  ·exact Nat.lt_of_le_of_lt (Nat.le_of_dvd (by omega) dy) Kn
 have sx:=lR G0 dx
 have sy:=lR G0 dy
 generalize Nat.gcd X.natAbs Y.natAbs=G at *
 have QL:=Nn.trans (c_.trans cQ)
 refine ⟨_,_,_,rfl,fun tE eI=>(cx (rx.le (QL.trans eI)) (gg.le eI) (by omega) (by omega) G0).mono ?_⟩
 rintro r xk eA ⟨_,_,_,_,_,_,rfl,Uv,-⟩
 refine ⟨_,_,_,_,_,_,rfl,fun Ak jC=>(cx (ry.le (c_.trans (cQ.trans (eI.trans (eA.trans jC))))) (gg.le (eI.trans (eA.trans jC))) (by omega) (by omega) G0).mono ?_⟩
 rintro r sR dL ⟨_,_,_,_,_,_,rfl,PY,-⟩
 refine ⟨_,_,_,_,_,_,rfl,fun vY kr=>(cd _ (Uv.le (jC.trans (dL.trans kr)))).mono ?_⟩
 rw [ix,sx]
 rintro r vZ il gA
 have Wx:=gA
 obtain ⟨_,_,_,rfl,ra⟩:=gA
 refine ⟨_,_,_,_,rfl,fun Cj sW=>(cd _ (PY.le (kr.trans (il.trans sW)))).mono ?_⟩
 rw [iy,sy]
 rintro r DH jh gB
 obtain ⟨_,_,_,rfl,rb⟩:=gB
 refine ⟨_,_,_,_,rfl,fun HU sX=>⟨(((D:Nat):Int):Rat)*((((G:Nat):Int):Rat))⁻¹,?_,?_,?_,?_⟩⟩
 ·refine aw.mp (by exact_mod_cast hD) (Rat.inv_pos.2 (by exact_mod_cast G0))
 ·rw [←zv ex dx G0,←zv ey dy G0]
  exact ⟨_,_,_,_,_,_,_,_,_,_,_,_,rfl,ll (z:=X / (G:Int)) (d:=1) rfl rfl (ra.le (sW.trans (jh.trans sX))) RD.nil rfl,ll (z:=Y / (G:Int)) (d:=1) rfl rfl (rb.le sX) RD.nil rfl⟩
 ·rw [←zv ex dx G0]
  exact kZ (Nat.lt_of_le_of_lt (Int.natAbs_ediv_le_natAbs ..) bx) (by omega)
 ·rw [←zv ey dy G0]
  exact kZ (Nat.lt_of_le_of_lt (Int.natAbs_ediv_le_natAbs ..) Kn) (by omega)
def tB (k:Nat)(V:View)(v:Value)(c:Rat×Rat):Prop:=RP V v c.1 c.2/\Sz k c.1/\Sz k c.2
theorem tB.le {k:Nat}{V V':View}{v:Value}{c:Rat×Rat}(h:tB k V v c)(l:V.Le V'):tB k V' v c:=⟨h.1.le l,h.2⟩
theorem tB.mono {k m:Nat}{V:View}{v:Value}{c:Rat×Rat}(h:tB k V v c)(l:k<=m):tB m V v c:=⟨h.1,h.2.1.mono l,h.2.2.mono l⟩
theorem D2 {a:Bool}{p:OA}{n c:Nat}{p':OA}{n' c':Nat}{b:Bool}{q:OA}{m d:Nat}{q':OA}{m' d':Nat}:∀v∈([.bool a,.slice p n c,.slice p' n' c',.bool b,.slice q m d,.slice q' m' d']:List Value),v.oneCell'=true:=by
 intro v hm
 simp only [List.mem_cons,List.not_mem_nil,or_false] at hm
 rcases hm with rfl|rfl|rfl|rfl|rfl|rfl<;>rfl
theorem KZ {a:Bool}{p:OA}{n c:Nat}{p':OA}{n' c':Nat}{b:Bool}{q:OA}{m d:Nat}{q':OA}{m' d':Nat}{e:Bool}{r:OA}{o f:Nat}{r':OA}{o' f':Nat}{g:Bool}{s:OA}{k h:Nat}{s':OA}{k' h':Nat} :
  ∀v∈([.bool a,.slice p n c,.slice p' n' c',.bool b,.slice q m d,.slice q' m' d',.bool e,.slice r o f,.slice r' o' f',.bool g,.slice s k h,.slice s' k' h']:List Value),v.oneCell'=true:=by
 intro v hm
 have:v∈([.bool a,.slice p n c,.slice p' n' c',.bool b,.slice q m d,.slice q' m' d']:List Value)++[.bool e,.slice r o f,.slice r' o' f',.bool g,.slice s k h,.slice s' k' h']:=hm
 rcases List.mem_append.1 this with h|h
 ·exact D2 v h
 ·exact D2 v h
theorem tv {k:Nat}{V:View}{vs:List Value}{al:List (Rat×Rat)}(h:Row 6 (tB k) V vs al){i:Nat}(hi:i<al.length) :
  ∃(b1:Bool)(p1:OA)(n1 c1:Nat)(p2:OA)(n2 c2:Nat)(b2:Bool)(p3:OA)(n3 c3:Nat)(p4:OA)(n4 c4:Nat),(i*6+6<=vs.length/\(vs.drop (i*6)).take 6=[.bool b1,.slice p1 n1 c1,.slice p2 n2 c2,.bool b2,.slice p3 n3 c3,.slice p4 n4 c4]) /\
   tB k V (.agg #[.bool b1,.slice p1 n1 c1,.slice p2 n2 c2,.bool b2,.slice p3 n3 c3,.slice p4 n4 c4]) (al.getD i bj):=by
 obtain ⟨xs,-,h2,h3,h4⟩:=h.get (d:=bj) hi (by decide)
 have h20:=h2
 obtain ⟨⟨_,_,_,_,_,_,_,_,_,_,_,_,e,-⟩,-⟩:=h2
 have e:=congrArg Array.toList (Value.agg.inj e)
 dsimp only at e
 subst e
 exact ⟨_,_,_,_,_,_,_,_,_,_,_,_,_,_,⟨h3,h4⟩,h20⟩
theorem I5 {k:Nat}{V:View}{p:OA}{n:Nat}{al:List (Rat×Rat)}(h:lu 6 (tB k) V p n al){i:Nat}(hi:i<al.length) :
  p.isSome=true/\∃(b1:Bool)(p1:OA)(n1 c1:Nat)(p2:OA)(n2 c2:Nat)(b2:Bool)(p3:OA)(n3 c3:Nat)(p4:OA)(n4 c4:Nat)(a:Addr),ag p (i*6)=some a/\V.at (a.add 0) (.bool b1)/\V.at (a.add 1) (.slice p1 n1 c1)/\V.at (a.add 2) (.slice p2 n2 c2)/\V.at (a.add 3) (.bool b2)/\V.at (a.add 4) (.slice p3 n3 c3)/\V.at (a.add 5) (.slice p4 n4 c4) /\
   tB k V (.agg #[.bool b1,.slice p1 n1 c1,.slice p2 n2 c2,.bool b2,.slice p3 n3 c3,.slice p4 n4 c4]) al[i]:=by
 obtain ⟨ad,h0,xs,h1,h2,h3⟩:=h.at_ i hi
 have h20:=h2
 obtain ⟨⟨_,_,_,_,_,_,_,_,_,_,_,_,e,-⟩,-⟩:=h2
 have e:=congrArg Array.toList (Value.agg.inj e)
 dsimp only at e
 subst e
 refine ⟨?_,_,_,_,_,_,_,_,_,_,_,_,_,_,_,ad,h0,h3 0 _ rfl,h3 1 _ rfl,h3 2 _ rfl,h3 3 _ rfl,h3 4 _ rfl,h3 5 _ rfl,h20⟩
 cases p with
 | none=>cases h0
 | some a=>rfl
theorem Hv {V:View}{b1:Bool}{p1:OA}{n1 c1:Nat}{p2:OA}{n2 c2:Nat}{b2:Bool}{p3:OA}{n3 c3:Nat}{p4:OA}{n4 c4:Nat}{x y:Rat}(h:RP V (.agg #[.bool b1,.slice p1 n1 c1,.slice p2 n2 c2,.bool b2,.slice p3 n3 c3,.slice p4 n4 c4]) x y) :
  RQ V (.agg #[.bool b1,.slice p1 n1 c1,.slice p2 n2 c2]) x/\RQ V (.agg #[.bool b2,.slice p3 n3 c3,.slice p4 n4 c4]) y:=by
 obtain ⟨_,_,_,_,_,_,_,_,_,_,_,_,e,h1,h2⟩:=h
 cases e
 exact ⟨h1,h2⟩
theorem Og {V:View}{b1:Bool}{p1:OA}{n1 c1:Nat}{p2:OA}{n2 c2:Nat}{b2:Bool}{p3:OA}{n3 c3:Nat}{p4:OA}{n4 c4:Nat}{x y:Rat}(h1:RQ V (.agg #[.bool b1,.slice p1 n1 c1,.slice p2 n2 c2]) x)(h2:RQ V (.agg #[.bool b2,.slice p3 n3 c3,.slice p4 n4 c4]) y) :
  RP V (.agg #[.bool b1,.slice p1 n1 c1,.slice p2 n2 c2,.bool b2,.slice p3 n3 c3,.slice p4 n4 c4]) x y:=by
 have h10:=h1
 have h20:=h2
 obtain ⟨_,_,_,_,_,_,e,-⟩:=h1
 cases e
 obtain ⟨_,_,_,_,_,_,e,-⟩:=h2
 cases e
 exact ⟨_,_,_,_,_,_,_,_,_,_,_,_,rfl,h10,h20⟩
theorem rZ {V:View}{lp:OA}{ln lc:Nat}{ls:List L3}{pv:Value}{p:Rat×Rat}(h:lu 6 nC V lp ln ls)(hb:∀l∈ls,Bd l)(hk:∀l∈ls,gT l=true/\cK l=l)(hnd:ls.Nodup)(hl:ls.length<=1000)(hp:RP V pv p.1 p.2)(s1:Sz 100000 p.1)(s2:Sz 100000 p.2) :
  ab prog 19 #[.slice lp ln lc,pv,.bool false] V fun r V'=>∃q n c E S,r=.slice q n c/\aw.Aj E/\aw.Fq E S/\E.Perm (eh p ls)/\S.length<=2001/\lu 6 (tB 6000) V' q n S:=by
 have hn:=h.len
 subst hn
 have hp0:=hp
 obtain ⟨_,_,_,_,_,_,_,_,_,_,_,_,rfl,-⟩:=hp
 have dl:=xM p ls
 refine q_ lp ls.length lc _ _ _ _ _ _ _ _ _ _ _ _ _ _ V _ ⟨fun z V'=>∃i:Nat,z.2.2.2=(i:Int)/\i<=ls.length/\GR 6 (tB 1000) V' z.1 z.2.1 z.2.2.1 (eh p (ls.take i)),fun z=>(ls.length-z.2.2.2).toNat,⟨(0,0,[],0),by and_intros<;>first|rfl|trivial,0,rfl,Nat.zero_le _,GR.nil⟩,?_⟩
 rintro ⟨n1,c1,vs1,z⟩ V1 l1 ⟨i,e,hi,g⟩
 dsimp only at e g ⊢
 subst e
 refine ⟨rfl,fun hlt=>?_,fun hlt=>?_⟩
 ·have hlt:i<ls.length:=by have:=of_decide_eq_true hlt;omega
  have w1:i64.wrap ((i:Int)+1)=((i+1:Nat):Int):=by rw [ar (by omega)];rfl
  rw [w1]
  simp only [Int.toNat_natCast]
  obtain ⟨is,b1,p1,n1',c1',b2,p2,n2,c2,b3,p3,n3,c3,a,had,a0,a1,a2,a3,a4,a5,hl1⟩:=I4 (h.le l1 fun _ _ g=>nC.le g l1) hlt
  have sl:=(hb _ (List.getElem_mem hlt)).J_
  have et:=CB (p:=p) hlt
  unfold uk at et
  have gl:=g.len
  have Ut:n1<=2*ls.length:=by rw [gl];have:=xM p (ls.take i);rw [List.length_take] at this;omega
  generalize ls[i]=A at *
  refine ⟨is,⟨by omega,by omega⟩,b1,p1,n1',c1',b2,p2,n2,c2,b3,p3,n3,c3,a,had,a0,a1,a2,a3,a4,a5,fun V2 l2=>(Hk (x:=p.1) (y:=p.2) (hl1.le l2) (hp0.le (l1.trans l2)) ⟨sl.1.mono (Nat.le_trans (by omega) (Nat.le_refl 100000)),sl.2.1.mono (by omega),sl.2.2.mono (by omega)⟩ s1 s2 (by omega)).mono ?_⟩
  rintro r V3 l3 rfl
  refine ⟨_,rfl,fun e0 V4 l4=>(lM (hl1.le (l2.trans (l3.trans l4))) sl.1 sl.2.1 sl.2.2 (by omega)).mono ?_,fun e0=>⟨(n1,c1,vs1,((i+1:Nat):Int)),by dsimp only;omega,by and_intros<;>first|rfl|trivial,i+1,rfl,by omega,?_⟩⟩
  ·have e0:cq A p.1 p.2=0:=aw.d_.1 (by simpa using e0)
   rw [if_pos e0] at et
   rintro r V5 l5 gd
   have IB:=gd
   obtain ⟨_,_,_,_,_,_,_,_,_,_,_,_,rfl,-⟩:=gd
   refine ⟨_,_,_,_,_,_,_,_,_,_,_,_,_,_,rfl,fun V6 l6=>(lM (hl1.le (l2.trans (l3.trans (l4.trans (l5.trans l6))))) sl.1 sl.2.1 sl.2.2 (by omega)).mono ?_⟩
   rintro r V7 l7 ge
   have OU:RP V7 r (aw.cj A).1 (aw.cj A).2:=ge
   obtain ⟨_,_,_,_,_,_,_,_,_,_,_,_,rfl,-⟩:=ge
   refine ⟨_,_,_,_,_,_,_,_,_,_,_,_,_,_,rfl,fun V8 l8=>(AK (p:=aw.cj A) (OU.le l8) sl.2.1 sl.1.neg (by omega)).mono ?_⟩
   rintro r V9 l9 gf
   have PX:=gf
   obtain ⟨_,_,_,_,_,_,_,_,_,_,_,_,rfl,-⟩:=gf
   refine ⟨_,_,_,_,_,_,_,_,_,_,_,_,_,_,rfl,by omega,g.le,g.cap,rfl,KZ,fun sp c' g1 g2=>⟨(n1+2,c',_,((i+1:Nat):Int)),by dsimp only;omega,by and_intros<;>first|rfl|trivial,i+1,rfl,by omega,?_⟩⟩
   rw [et]
   exact (g.mono fun _ _ g=>tB.le g (l2.trans (l3.trans (l4.trans (l5.trans (l6.trans (l7.trans (l8.trans l9)))))))).J9 (xs:=[_,_,_,_,_,_]) (ys:=[_,_,_,_,_,_]) rfl rfl ⟨IB.le (l6.trans (l7.trans (l8.trans l9))),sl.2.1,sl.1.neg⟩ ⟨PX,sl.2.1.neg,sl.1.neg.neg⟩ (by decide) g1 g2
  ·have e0:¬cq A p.1 p.2=0:=fun h=>by rw [aw.d_.2 h] at e0;cases e0
   rw [if_neg e0,List.append_nil] at et
   rw [et]
   exact g.mono fun _ _ g=>tB.le g (l2.trans l3)
 have hlt:i=ls.length:=by have:=of_decide_eq_false hlt;omega
 subst hlt
 rw [List.take_length] at g
 have g1:=g.len
 have JK:=g.le
 have gr:=g.row
 clear g
 generalize eL:eh p ls=L at *
 subst g1
 refine ⟨fun z V'=>∃(i:Nat)(m:List (Rat×Rat)),z.1=(i:Int)/\i<=L.length/\Row 6 (tB 1000) V' z.2 m/\gP bj L m 0 L.length/\oS dg bj m 0 i,fun z=>(L.length-z.1).toNat,⟨(0,vs1),by and_intros<;>first|rfl|trivial,0,L,rfl,Nat.zero_le _,gr,.refl _ _ _,.short (by omega)⟩,?_⟩
 rintro ⟨z,us⟩ gQ l10 ⟨i,m,e,hi,hm,sg,Al⟩
 dsimp only at e hm ⊢
 subst e
 have ml:=sg.len
 refine ⟨rfl,fun hlt=>?_,fun hlt=>?_⟩
 ·have hlt:i<L.length:=by have:=of_decide_eq_true hlt;omega
  have w2:i64.wrap ((i:Int)+1)=((i+1:Nat):Int):=by rw [ar (by omega)];rfl
  rw [w2]
  refine ⟨fun z V'=>∃(j:Nat)(k:List (Rat×Rat)),z.1=(j:Int)/\j<=i/\Row 6 (tB 1000) V' z.2 k/\gP bj L k 0 L.length/\H0 dg bj k 0 i j,fun z=>z.1.toNat,⟨((i:Int),us),by and_intros<;>first|rfl|trivial,i,m,rfl,Nat.le_refl _,hm,sg,.start Al⟩,?_⟩
  rintro ⟨z,ws⟩ jw bQ ⟨j,k,e,hji,hk1,sg,ins⟩
  dsimp only at e hk1 ⊢
  subst e
  have kl:=sg.len
  refine ⟨rfl,fun hj=>?_,fun hj=>⟨(((i+1:Nat):Int),ws),by dsimp only;omega,by and_intros<;>first|rfl|trivial,i+1,k,rfl,by omega,hk1,sg,ins.done fq hji (.inl (by have:=of_decide_eq_false hj;omega))⟩⟩
  have hj:0<j:=by have:=of_decide_eq_true hj;omega
  have w1:i64.wrap ((j:Int)-1)=((j-1:Nat):Int):=by rw [ar (by omega)];omega
  rw [w1,Int.toNat_natCast,Int.toNat_natCast]
  obtain ⟨x1,x2,x3,x4,x5,x6,x7,x8,x9,x10,Lp,Lq,Lr,Ls,g1,r1⟩:=tv hk1 (i:=j-1) (by omega)
  obtain ⟨y1,y2,y3,y4,y5,y6,y7,y8,y9,Lu,Lv,Lw,y13,L8,g2,r2⟩:=tv hk1 (i:=j) (by omega)
  refine ⟨⟨by omega,by omega⟩,JK,x1,x2,x3,x4,x5,x6,x7,x8,x9,x10,Lp,Lq,Lr,Ls,g1,⟨by omega,by omega⟩,JK,y1,y2,y3,y4,y5,y6,y7,y8,y9,Lu,Lv,Lw,y13,L8,g2,fun kv cp=>(nF (r1.1.le cp) (r2.1.le cp) r1.2.1 r1.2.2 r2.2.1 r2.2.2 (by omega)).mono ?_⟩
  rintro r lA bW rfl
  have hk2:=hk1.le fun _ _ g=>tB.le g (cp.trans bW)
  refine ⟨_,rfl,fun gt=>?_,fun gt=>⟨(((i+1:Nat):Int),ws),by dsimp only;omega,by and_intros<;>first|rfl|trivial,i+1,k,rfl,by omega,hk2,sg,ins.done fq hji (.inr fun h=>absurd (DL.2 h) (of_decide_eq_false gt))⟩⟩
  have hlt2:dg (k.getD j bj) (k.getD (j-1) bj)<0:=DL.1 (of_decide_eq_true gt)
  have e1:(ae ws ((j-1)*6) [.bool y1,.slice y2 y3 y4,.slice y5 y6 y7,.bool y8,.slice y9 Lu Lv,.slice Lw y13 L8]).length=ws.length:=jr (by simp only [List.length_cons,List.length_nil];omega)
  have sw:=(hk2.swap (i:=j-1) (j:=j) (xs:=[.bool x1,.slice x2 x3 x4,.slice x5 x6 x7,.bool x8,.slice x9 x10 Lp,.slice Lq Lr Ls]) (ys:=[.bool y1,.slice y2 y3 y4,.slice y5 y6 y7,.bool y8,.slice y9 Lu Lv,.slice Lw y13 L8]) (d:=bj) (by omega) (by omega) (by decide) rfl rfl (r1.le (cp.trans bW)) (r2.le (cp.trans bW)))
  have ec:iT bj k (j-1) j=iT bj k j (j-1):=by
   unfold iT
   exact List.set_comm _ _ (by omega)
  rw [ec] at sw
  exact ⟨⟨by omega,by omega⟩,JK,y1,y2,y3,y4,y5,y6,y7,y8,y9,Lu,Lv,Lw,y13,L8,g2,⟨by omega,by omega⟩,JK,x1,x2,x3,x4,x5,x6,x7,x8,x9,x10,Lp,Lq,Lr,Ls,g1,⟨by omega,by omega⟩,JK,g1.1,⟨by omega,by omega⟩,JK,by rw [e1];exact g2.1,
   (((j-1:Nat):Int),_),by dsimp only;omega,by and_intros<;>first|rfl|trivial,j-1,_,rfl,by omega,sw,sg.trans (gP.iT (by omega) (by omega) (by omega) (by omega) (by omega)),ins.move fq hj hji (by omega) hlt2⟩
 have hlt:i=L.length:=by have:=of_decide_eq_false hlt;omega
 subst hlt
 have pm:m.Perm (eh p ls):=by rw [eL];exact sg.perm
 have pw:m.Pairwise fun x y=>¬dg y x<0:=by
  refine List.pairwise_iff_getElem.2 fun i j hi hj wG=>?_
  have:=Al i j (by omega) wG (by omega)
  rw [List.getD_eq_getElem?_getD,List.getD_eq_getElem?_getD,List.getElem?_eq_getElem hi,List.getElem?_eq_getElem hj] at this
  simp only [Option.getD_some] at this
  exact this
 have ry:=F7 hk hnd pm pw
 refine ⟨fun h0 qk dK=>(fG 1 0 (by omega) (by omega) (by omega) (by omega)).mono ?_,fun h0=>?_⟩
 ·rintro r oM dZ gx
  have P2:=gx
  obtain ⟨_,_,_,_,_,_,_,_,_,_,_,_,rfl,-⟩:=gx
  refine ⟨_,_,_,_,_,_,_,_,_,_,_,_,_,_,rfl,fun oN c_ bk hbk=>⟨_,1,1,m,[(1,0)],rfl,ry,.inl ⟨List.length_eq_zero_iff.1 (by have:=beq_iff_eq.1 h0;omega),rfl⟩,sg.perm,by simp,lu.zm hbk (row_one rfl ⟨P2.le c_,?_,?_⟩)⟩⟩
  ·exact (Fa (z:=1) (by omega)).mono (by omega)
  ·exact (Fa (z:=0) (by omega)).mono (by omega)
 have hL0:L.length≠0:=fun e=>by rw [e] at h0;cases h0
 have hm0:m≠[]:=fun e=>by rw [e] at ml;exact hL0 ml.symm
 refine ⟨fun z V'=>∃(i:Nat)(S:List (Rat×Rat)),z.2.2.2=(i:Int)/\i<=L.length/\S.length=i/\GR 6 (tB 6000) V' z.1 z.2.1 z.2.2.1 S/\∀j u w x,m[j]?=some u->m[(j+1)%m.length]?=some w->S[j]?=some x->aw.qj u w x,fun z=>(L.length-z.2.2.2).toNat,⟨(0,0,[],0),by and_intros<;>first|rfl|trivial,0,[],rfl,Nat.zero_le _,rfl,GR.nil,fun j u w x _ _ h=>by cases h⟩,?_⟩
 rintro ⟨n2,c2,vs2,z⟩ qi cQ ⟨i,S,e,hi,hS,g,sm⟩
 dsimp only at e g ⊢
 subst e
 have gl:=g.len
 refine ⟨rfl,fun hlt=>?_,fun hlt Wm Ce bk hbk=>?_⟩
 ·have hlt:i<L.length:=by have:=of_decide_eq_true hlt;omega
  have w1:i64.wrap ((i:Int)+1)=((i+1:Nat):Int):=by rw [ar (by omega)];rfl
  have hmod:(((i+1:Nat):Int)).tmod (L.length:Int)=(((i+1)%L.length:Nat):Int):=by rw [Int.ofNat_tmod]
  have hj:(i+1)%L.length<L.length:=Nat.mod_lt _ (by omega)
  rw [w1,hmod,Int.toNat_natCast,Int.toNat_natCast]
  have hm':=hm.le fun _ _ g=>tB.le g cQ
  obtain ⟨x1,x2,x3,x4,x5,x6,x7,x8,x9,x10,Lp,Lq,Lr,Ls,g1,r1⟩:=tv hm' (i:=i) (by omega)
  obtain ⟨y1,y2,y3,y4,y5,y6,y7,y8,y9,Lu,Lv,Lw,y13,L8,g2,r2⟩:=tv hm' (i:=(i+1)%L.length) (by omega)
  have hu:m[i]?=some (m.getD i bj):=by rw [List.getD_eq_getElem?_getD,List.getElem?_eq_getElem (by omega)];rfl
  have hw:m[(i+1)%m.length]?=some (m.getD ((i+1)%L.length) bj):=by rw [ml,List.getD_eq_getElem?_getD,List.getElem?_eq_getElem (by omega)];rfl
  have ge:=aw.G2 ry hu hw
  have nx:=Hn ry hu hw
  have nu:=ry.nz _ (List.mem_of_getElem? hu)
  have nw:=ry.nz _ (List.mem_of_getElem? hw)
  have done:∀{x:Rat×Rat},aw.qj (m.getD i bj) (m.getD ((i+1)%L.length) bj) x->∀j u w y,m[j]?=some u->m[(j+1)%m.length]?=some w->(S++[x])[j]?=some y->aw.qj u w y:=fun {x} hx j u w y h1 h2 h3=>by
   by_cases c:j<S.length
   ·rw [List.getElem?_append_left c] at h3;exact sm j u w y h1 h2 h3
   ·have hj':=(List.getElem?_eq_some_iff.1 h3).1
    rw [List.length_append,List.length_singleton] at hj'
    have e:j=i:=by omega
    rw [e] at h1 h2
    rw [List.getElem?_append_right (by omega),show j-S.length=0 by omega] at h3
    rw [hu] at h1
    rw [hw] at h2
    cases h1;cases h2;cases h3
    exact hx
  generalize m.getD i bj=u at *
  generalize m.getD ((i+1)%L.length) bj=w at *
  refine ⟨⟨by omega,by omega⟩,JK,x1,x2,x3,x4,x5,x6,x7,x8,x9,x10,Lp,Lq,Lr,Ls,g1,by omega,⟨by omega,by omega⟩,JK,y1,y2,y3,y4,y5,y6,y7,y8,y9,Lu,Lv,Lw,y13,L8,g2,fun z V'=>qi.Le V'/\z=false,fun tE eI=>(nF (r1.1.le eI) (r2.1.le eI) r1.2.1 r1.2.2 r2.2.1 r2.2.2 (by omega)).mono ?_,?_⟩
  ·rintro r xk eA rfl
   refine ⟨_,rfl,fun z0=>⟨_,by and_intros<;>first|rfl|trivial,eI.trans eA,?_⟩,fun z0=>⟨_,by and_intros<;>first|rfl|trivial,eI.trans eA,rfl⟩⟩
   refine decide_eq_false fun gt=>nx (by omega) (by simpa using z0)
  rintro z Ak Vc ⟨jC,rfl⟩
  refine ⟨rfl,(fun h=>by cases h),fun _ sR dL=>(jz (r1.1.le (jC.trans dL)) (r2.1.le (jC.trans dL)) r1.2.1 r1.2.2 r2.2.1 r2.2.2 (by omega)).mono ?_⟩
  rintro r vY kr gc
  have IA:=gc
  obtain ⟨_,_,_,_,_,_,rfl⟩:=gc.shape
  refine ⟨_,_,_,_,_,_,_,rfl,fun vZ il=>(lL (IA.le il)).mono ?_⟩
  rintro r Cj sW rfl
  have L9:=jC.trans (dL.trans (kr.trans (il.trans sW)))
  obtain ⟨gx,gy⟩:=Hv r1.1
  refine ⟨_,rfl,fun z0 DH jh=>(kF (gy.le (L9.trans jh)) r1.2.2 (by omega)).mono ?_,fun z0 Kg sY=>(jd (r1.1.le (L9.trans sY)) nu r1.2.1 r1.2.2 (by omega) (by omega)).mono ?_⟩
  ·have c0:aw.cr u w=0:=aw.d_.1 (beq_iff_eq.1 z0)
   rintro r HU sX go
   have go0:=go
   obtain ⟨_,_,_,_,_,_,rfl⟩:=go.shape
   refine ⟨_,_,_,_,_,_,_,rfl,by omega,g.le,g.cap,rfl,D2,fun sp c' k1 k2=>⟨(n2+1,c',_,((i+1:Nat):Int)),by dsimp only;omega,by and_intros<;>first|rfl|trivial,i+1,S++[(-u.2,u.1)],rfl,by omega,by simp [hS],?_,done (Lc c0)⟩⟩
   exact (g.mono fun _ _ g=>tB.le g (L9.trans (jh.trans sX))).snoc (xs:=[_,_,_,_,_,_]) rfl ⟨Og go0 (gx.le (L9.trans (jh.trans sX))),r1.2.2.neg.mono (by omega),r1.2.1.mono (by omega)⟩ (by decide) k1 k2
  ·have c0:aw.cr u w>0:=by
    have:¬aw.cr u w=0:=fun e=>by
     have:=aw.d_.2 e
     unfold aw.cr at this
     rw [this] at z0
     cases z0
    grind
   rintro r H3 CQ ⟨a,a0,ga,sa1,Tj⟩
   have MC:=ga
   obtain ⟨_,_,_,_,_,_,_,_,_,_,_,_,rfl,-⟩:=ga
   refine ⟨_,_,_,_,_,_,_,_,_,_,_,_,_,_,rfl,fun LD CR=>(oZ 1 (by omega) (by omega)).mono ?_⟩
   rintro r H4 ze go
   have go0:=go
   obtain ⟨_,_,_,_,_,_,rfl⟩:=go.shape
   have RV:=L9.trans (sY.trans (CQ.trans (CR.trans ze)))
   refine ⟨_,_,_,_,_,_,_,rfl,fun ON IX=>(jd (r2.1.le (RV.trans IX)) nw r2.2.1 r2.2.2 (by omega) (by omega)).mono ?_⟩
   rintro r TD S9 ⟨b,b0,gb,sb1,Tk⟩
   have Us:=gb
   obtain ⟨_,_,_,_,_,_,_,_,_,_,_,_,rfl,-⟩:=gb
   have s3:Sz 2000 ((1:Int):Rat):=(Fa (z:=1) (by omega)).mono (by omega)
   have GC:=IX.trans S9
   refine ⟨_,_,_,_,_,_,_,_,_,_,_,_,_,_,rfl,fun RX Fz=>(ru (MC.le (CR.trans (ze.trans (GC.trans Fz)))) (go0.le (GC.trans Fz)) (Us.le Fz) sa1 Tj s3 sb1 Tk (by omega)).mono ?_⟩
   rintro r Wl Vd gs
   have gs0:=gs
   obtain ⟨_,_,_,_,_,_,_,_,_,_,_,_,rfl,-⟩:=gs
   have TC:=RV.trans (GC.trans (Fz.trans Vd))
   refine ⟨_,_,_,_,_,_,_,_,_,_,_,_,_,_,rfl,by omega,g.le,g.cap,rfl,D2,fun sp c' k1 k2=>⟨(n2+1,c',_,((i+1:Nat):Int)),by dsimp only;omega,by and_intros<;>first|rfl|trivial,i+1,S++[_],rfl,by omega,by simp [hS],(g.mono fun _ _ g=>tB.le g TC).snoc (xs:=[_,_,_,_,_,_]) rfl ⟨gs0,(sa1.add ((Fa (z:=1) (by omega)).mul sb1)).mono (by omega),(Tj.add ((Fa (z:=1) (by omega)).mul Tk)).mono (by omega)⟩ (by decide) k1 k2,done (Lb a0 b0 c0)⟩⟩
 ·have hlt:i=L.length:=by have:=of_decide_eq_false hlt;omega
  have gc:=g.cap
  have SH:=g.le
  subst gl
  exact ⟨_,S.length,c2,m,S,rfl,ry,Ld hm0 (by omega) sm,sg.perm,by omega,lu.th hbk (g.row.le fun _ _ g=>tB.le g Ce) (by decide) (by omega)⟩
def Ef (V:View)(vs:List Value)(i:Nat)(d:Nd):Prop:=∃(b1:Bool)(p1:OA)(n1 c1:Nat)(b2:Bool)(p2:OA)(n2 c2:Nat)(b3:Bool)(p3:OA)(n3 c3:Nat),
 (∀j v,([.bool b1,.slice p1 n1 c1,.bool b2,.slice p2 n2 c2,.bool b3,.slice p3 n3 c3,.int .i64 d.left,.int .i64 d.right]:List Value)[j]?=some v->vs[i*8+j]?=some v) /\
 FC V (.agg #[.bool b1,.slice p1 n1 c1,.bool b2,.slice p2 n2 c2,.bool b3,.slice p3 n3 c3]) d.ln
theorem Ef.le {V V':View}{vs:List Value}{i:Nat}{d:Nd}(h:Ef V vs i d)(hl:V.Le V'):Ef V' vs i d:=by
 obtain ⟨b1,p1,n1,c1,b2,p2,n2,c2,b3,p3,n3,c3,h1,h2⟩:=h
 exact ⟨b1,p1,n1,c1,b2,p2,n2,c2,b3,p3,n3,c3,h1,h2.le hl⟩
theorem Hc {vs xs:List Value}{k i:Nat}(hx:xs.length=8)(h:k*8+8<=vs.length)(hi:i<k*8\/k*8+8<=i):(vs.take (k*8)++xs++vs.drop (k*8+8))[i]?=vs[i]?:=by
 have ht:(vs.take (k*8)).length=k*8:=by rw [List.length_take];omega
 rcases hi with hi|hi
 ·rw [List.append_assoc,List.getElem?_append_left (by omega),List.getElem?_take,if_pos hi]
 ·rw [List.getElem?_append_right (by rw [List.length_append];omega),List.length_append,ht,hx,List.getElem?_drop]
  congr 1
  omega
theorem Vk {a b c d e f g h v:Value}{j:Nat}(hv:([a,b,c,d,e,f,g,h]:List Value)[j]?=some v):j<8:=by
 rcases Nat.lt_or_ge j 8 with hj|hj
 ·exact hj
 ·rw [List.getElem?_eq_none (by simpa using hj)] at hv;cases hv
theorem Ef.out {V:View}{vs xs:List Value}{k i:Nat}{d:Nd}(h:Ef V vs i d)(hx:xs.length=8)(hk:k*8+8<=vs.length)(hi:i≠k):Ef V (vs.take (k*8)++xs++vs.drop (k*8+8)) i d:=by
 obtain ⟨b1,p1,n1,c1,b2,p2,n2,c2,b3,p3,n3,c3,h1,h2⟩:=h
 refine ⟨b1,p1,n1,c1,b2,p2,n2,c2,b3,p3,n3,c3,fun j v hv=>?_,h2⟩
 have:=Vk hv
 rw [Hc hx hk (by omega)]
 exact h1 j v hv
def vm (n b m:Nat):Nat:=(n-1-m+(n-b))%n
theorem I_ {t:Tr}(h:t.iU Fp):t.iU fun x=>gT x=true:=Tr.iU.imp (fun _ h=>h.1) h
theorem KY {t:Tr}(h:t.iU Fp):t.iU Bd:=Tr.iU.imp (fun _ h=>h.2) h
theorem yp (l:List (Rat×Rat)):∃m:List (Rat×Rat),m.Perm l/\m.Pairwise fun x y=>¬dg y x<0:=by
 refine ⟨l.mergeSort (fun x y=>decide (¬dg y x<0)),List.mergeSort_perm ..,?_⟩
 refine (List.pairwise_mergeSort (le:=fun x y=>decide (¬dg y x<0)) (fun a b c h1 h2=>?_) (fun a b=>?_) l).imp fun h=>of_decide_eq_true h
 ·exact decide_eq_true (aw.tK c b a (of_decide_eq_true h2) (of_decide_eq_true h1))
 ·by_cases h:dg b a<0
  ·have:=aw.yC b a h
   rw [Bool.or_eq_true]
   exact .inr (decide_eq_true this)
  ·rw [Bool.or_eq_true]
   exact .inl (decide_eq_true h)
theorem indep {t:Tr}{l:L3}(ho:(Tr.node l t t).iU fun l=>¬(l.1=0/\l.2.1=0)){p:Rat×Rat}{a b:Int}(h1:eN t p a)(h2:eN (.node l t t) p b):a=b:=by
 obtain ⟨m,pm,pw⟩:=yp (gU (aw.cO (.node l t t) p))
 obtain ⟨ry,cv⟩:=zF (zi ho) pm pw
 have sm:=mW ry
 have sub:∀x∈aw.cO t p,x∈aw.cO (.node l t t) p:=fun x hx=>by
  rw [aw.cO]
  by_cases e:cq l p.1 p.2≥0
  ·rw [if_pos e];exact List.mem_append_right _ (List.mem_append_left _ hx)
  ·rw [if_pos (show cq l p.1 p.2<=0 by grind)];exact List.mem_append_right _ (List.mem_append_right _ hx)
 have e1:=h1 _ _ ry sm fun l hl=>cv l (sub l hl)
 have e2:=h2 _ _ ry sm cv
 generalize jq (eW eP m)=S at *
 have key:∀v∈S,aw.gC (.node l t t) p v=aw.gC t p v:=fun v hv=>by
  have n:=cv.gen (aw.tz ry sm v hv)
  have:=(aw.mu n fun l _=>⟨id,id⟩).2
  rw [aw.gC] at this ⊢
  split
  ·rfl
  ·rename_i q
   rw [if_neg q] at this
   split
   ·rfl
   ·rename_i q'
    rw [if_neg q'] at this
    cases this
 have k1:aw.anyS (.node l t t) p S=aw.anyS t p S:=by
  unfold aw.anyS
  rw [Bool.eq_iff_iff,List.any_eq_true,List.any_eq_true]
  constructor
  ·rintro ⟨x,hx,h⟩;exact ⟨x,hx,by rw [←key x hx];exact h⟩
  ·rintro ⟨x,hx,h⟩;exact ⟨x,hx,by rw [key x hx];exact h⟩
 have k2:aw.jx (.node l t t) p S=aw.jx t p S:=by
  unfold aw.jx
  rw [Bool.eq_iff_iff,List.all_eq_true,List.all_eq_true]
  constructor
  ·intro h x hx;rw [←key x hx];exact h x hx
  ·intro h x hx;rw [key x hx];exact h x hx
 rw [e1,e2,k1,k2]
theorem F0 (l:L3):cK (cK l)=cK l:=by
 unfold cK
 by_cases h:l.1<0\/l.1=0/\l.2.1<0
 ·rw [if_pos h,if_neg]
  unfold zJ
  dsimp only
  omega
 ·rw [if_neg h,if_neg h]
theorem I9 {l:L3}(h:gT l=true):gT (cK l)=true:=by
 unfold cK
 split
 ·unfold gT zJ j7 at *
  simp only [Int.natAbs_neg]
  rw [Bool.and_eq_true,decide_eq_true_iff,decide_eq_true_iff] at h ⊢
  exact ⟨fun e=>h.1 ⟨by omega,by omega⟩,h.2⟩
 ·exact h
theorem Iv {t:Tr}(ha:t.iU Fp):(∀l∈dJ t.uI,Bd l)/\(∀l∈dJ t.uI,gT l=true/\cK l=l)/\(dJ t.uI).Nodup/\(dJ t.uI).length<=t.size:=by
 refine ⟨F8 (fun _ h=>h.can) fun l hl=>(mQ ha l hl).2,fun l hl=>?_,List.Pairwise.imp (S:=fun a b=>a≠b) (fun {a b} h e=>by subst e;exact Nx h) (iH t.uI).1,by have:=xN t.uI;rwa [mS] at this⟩
 obtain ⟨m,hm,rfl⟩:=List.mem_map.1 ((iH t.uI).2 l |>.1 hl)
 exact ⟨I9 (mQ ha m hm).1,F0 m⟩
theorem F9 {t:Tr}{p:Rat×Rat}{E:List (Rat×Rat)}(pm:E.Perm (eh p (dJ t.uI))):aw.Ee E (aw.cO t p):=
 F6 pm fun l hl=>⟨(aw.lY hl).1,(iH t.uI).2 _ |>.2 (List.mem_map_of_mem (aw.lY hl).2)⟩
theorem wu {V:View}{q:OA}{t:Tr}(h:RW V q t)(ha:t.iU Fp)(hs:t.size<=1000){pv:Value}{p:Rat×Rat}(hp:RP V pv p.1 p.2)(s1:Sz 100000 p.1)(s2:Sz 100000 p.2) :
  ab prog 17 #[.pointer q,pv] V fun r V'=>∃c,r=.int .i64 c/\eN t p c:=by
 have hp0:=hp
 obtain ⟨_,_,_,_,_,_,_,_,_,_,_,_,rfl,-⟩:=hp
 refine vP q _ _ _ _ _ _ _ _ _ _ _ _ _ _ V _ fun V1 l1=>(wz (h.le l1) ha (by omega)).mono ?_
 rintro r V2 l2 ⟨ps,m,cs,rfl,hL⟩
 obtain ⟨d1,d2,d3,d4⟩:=Iv ha
 have An:=l1.trans l2
 refine ⟨_,_,_,rfl,fun V3 l3=>(rZ (hL.le l3 fun _ _ g=>nC.le g l3) d1 d2 d3 (by omega) (hp0.le (An.trans l3)) s1 s2).mono ?_⟩
 rintro r V4 l4 ⟨q',n,c,E,S,rfl,ry,sm,pm,hS,hl⟩
 have cv:=F9 pm
 have hn:=hl.len
 subst hn
 have Fy:=An.trans (l3.trans l4)
 refine ⟨_,_,_,rfl,fun z _=>∃i:Nat,z.2.2=(i:Int)/\i<=S.length/\z.1=aw.anyS t p (S.take i)/\z.2.1=aw.jx t p (S.take i),fun z=>(S.length-z.2.2).toNat,⟨(false,true,0),by and_intros<;>first|rfl|trivial,0,rfl,Nat.zero_le _,rfl,rfl⟩,?_⟩
 rintro ⟨z1,z2,z3⟩ V5 l5 ⟨i,e,hi,f1,f2⟩
 dsimp only at e f1 f2 ⊢
 subst e f1 f2
 have ER:=Fy.trans l5
 refine ⟨by trivial,fun hlt=>?_,fun hlt=>?_⟩
 ·have hlt:i<S.length:=by have:=of_decide_eq_true hlt;omega
  have w1:i64.wrap ((i:Int)+1)=((i+1:Nat):Int):=by rw [ar (by omega)];rfl
  rw [w1,Int.toNat_natCast]
  obtain ⟨is,x1,x2,x3,x4,x5,x6,x7,x8,x9,x10,Lp,Lq,Lr,Ls,a,had,a0,a1,a2,a3,a4,a5,g1⟩:=I5 (hl.le l5 fun _ _ g=>tB.le g l5) hlt
  refine ⟨is,⟨by omega,by omega⟩,x1,x2,x3,x4,x5,x6,x7,x8,x9,x10,Lp,Lq,Lr,Ls,a,had,a0,a1,a2,a3,a4,a5,fun V6 l6=>(ua (k:=100000) (by omega) (by omega) s1 s2 (g1.2.1.mono (by omega)) (g1.2.2.mono (by omega)) (RW.le (ER.trans l6) h) (KY ha) (hp0.le (ER.trans l6)) (g1.1.le l6)).mono ?_⟩
  rintro r V7 l7 rfl
  refine ⟨_,_,rfl,fun k=>⟨fun k'=>⟨(_,_,((i+1:Nat):Int)),by dsimp only;omega,by and_intros<;>first|rfl|trivial,i+1,rfl,by omega,?_,?_⟩,fun k'=>⟨(_,_,((i+1:Nat):Int)),by dsimp only;omega,by and_intros<;>first|rfl|trivial,i+1,rfl,by omega,?_,?_⟩⟩,
   fun k=>⟨fun k'=>⟨(_,_,((i+1:Nat):Int)),by dsimp only;omega,by and_intros<;>first|rfl|trivial,i+1,rfl,by omega,?_,?_⟩,fun k'=>⟨(_,_,((i+1:Nat):Int)),by dsimp only;omega,by and_intros<;>first|rfl|trivial,i+1,rfl,by omega,?_,?_⟩⟩⟩
  ·rw [ig hlt,k];rfl
  ·rw [ie hlt,k'];rfl
  ·rw [ig hlt,k];rfl
  ·rw [ie hlt,k'];rfl
  ·rw [ig hlt,k];rfl
  ·rw [ie hlt,k'];rfl
  ·rw [ig hlt,k];rfl
  ·rw [ie hlt,k'];rfl
 ·have hlt:i=S.length:=by have:=of_decide_eq_false hlt;omega
  subst hlt
  rw [List.take_length]
  have key:∀c:Int,c=EB (aw.anyS t p S) (aw.jx t p S)->∃c',Value.int .i64 c=.int .i64 c'/\eN t p c':=fun c e=>⟨c,rfl,by rw [e];exact ue ry sm cv⟩
  refine ⟨fun k V8 l8=>key _ ?_,fun k=>⟨fun k' V9 l9=>key _ ?_,fun k' gQ l10=>key _ ?_⟩⟩
  ·rw [k];rfl
  ·rw [k,k'];rfl
  ·rw [k,k'];rfl
theorem EA {t:Tr}{p:Rat×Rat}{a b:Int}(ho:t.iU fun l=>¬(l.1=0/\l.2.1=0))(h:eN t p a)(h':eN t p b):a=b:=by
 obtain ⟨m,pm,pw⟩:=yp (gU (aw.cO t p))
 obtain ⟨ry,cv⟩:=zF (zi ho) pm pw
 have sm:=mW ry
 rw [h _ _ ry sm cv,h' _ _ ry sm cv]
theorem yA:∀{t:Tr},t.iU (fun x=>gT x=true)->t.iU Bd->t.iU Fp
 | .leaf _,_,_=>trivial
 | .node _ _ _,⟨a1,a2,a3⟩,⟨b1,b2,b3⟩=>⟨⟨a1,b1⟩,yA a2 b2,yA a3 b3⟩
theorem lD {V:View}{y:Value}(hs:rU V 0 y)(hy:FD y){root:Int}{p:OA}{n c:Nat}{rs:List Rn}(h:lu 8 Eh V p n rs)(hc:n<=c)(hn:p.isNone=true->c=0){pv vv:Value}{fp fv:PW}(hp:DG V pv fp)(hv:DG V vv fv) :
  ab prog 7 #[.agg #[.int .i64 root,.slice p n c],pv,vv] V fun r V'=>r=.bool true:=by
 have hl:=h.len
 have hp0:=hp
 have hv0:=hv
 obtain ⟨_,_,_,_,_,_,_,_,_,_,_,_,rfl,-⟩:=hp
 obtain ⟨_,_,_,_,_,_,_,_,_,_,_,_,rfl,-⟩:=hv
 obtain ⟨y1,y2,y3,y4⟩:=hp0.lens
 obtain ⟨z1,z2,z3,z4⟩:=hv0.lens
 refine k_ root p n c _ _ _ _ _ _ _ _ _ _ _ _ _ _ _ _ _ _ _ _ _ _ _ _ _ _ _ _ V _ ⟨fun _ V1 l1=>(jW (hs.le l1)).mono ?_,fun h8 V4 l4 bk2 hb2=>(Ep 3 hb2).mono ?_⟩
 ·rintro r V2 l2 rfl
  exact ⟨_,rfl,fun V3 l3=>rfl⟩
 have h8:n<=8:=by have:=of_decide_eq_false h8;omega
 rintro r V5 l5 ⟨b,rfl,hb⟩
 have ER:=l4.trans l5
 refine ⟨_,rfl,fun _=>⟨fun _ V6 l6=>(jW (hs.le (ER.trans l6))).mono ?_,fun hb'=>?_⟩⟩
 ·rintro r V7 l7 rfl
  exact ⟨_,rfl,fun V8 l8=>rfl⟩
 obtain ⟨⟨g1,g2,g3,g4⟩,g5,g6,g7,g8⟩:=hb (by simpa using hb')
 have sp:fp.short:=⟨by omega,by omega,by omega,by omega⟩
 have sv:fv.short:=⟨by omega,by omega,by omega,by omega⟩
 refine ⟨fun z _=>∃i:Nat,z=(i:Int)/\i<=n/\∀r∈rs.take i,r.short,fun z=>(n-z).toNat,⟨0,by and_intros<;>first|rfl|trivial,0,rfl,Nat.zero_le _,fun r hr=>by simp at hr⟩,?_⟩
 rintro _ V9 l9 ⟨i,rfl,hi,hsh⟩
 have DV:=ER.trans l9
 refine ⟨by trivial,fun hlt=>?_,fun hlt oM dZ=>?_⟩
 ·have hlt:i<n:=by have:=of_decide_eq_true hlt;omega
  have hi':i<rs.length:=by omega
  have w1:i64.wrap ((i:Int)+1)=((i+1:Nat):Int):=by rw [ar (by omega)];rfl
  rw [w1,Int.toNat_natCast]
  obtain ⟨is,p1,n1,c1,p2,n2,c2,p3,n3,c3,a,had,a0,a1,a2,a3,a4,a5,a6,a7,e1,e2,e3⟩:=Of (h.le DV fun _ _ g=>Eh.le g DV) hi'
  refine ⟨is,⟨by omega,by omega⟩,_,p1,n1,c1,_,p2,n2,c2,_,p3,n3,c3,_,_,a,had,a0,a1,a2,a3,a4,a5,a6,a7,fun gQ l10 bk hbk=>(FX 3 hbk).mono ?_⟩
  rintro r jw bQ ⟨b,rfl,hb⟩
  refine ⟨_,rfl,fun _=>⟨fun _ kv cp=>(jW (hs.le (DV.trans (l10.trans (bQ.trans cp))))).mono ?_,fun hb'=>⟨((i+1:Nat):Int),by dsimp only;omega,by and_intros<;>first|rfl|trivial,i+1,rfl,hlt,fun r hr=>?_⟩⟩⟩
  ·rintro r lA bW rfl
   exact ⟨_,rfl,fun qk dK=>rfl⟩
  ·rw [←List.take_append_getElem hi',List.mem_append,List.mem_singleton] at hr
   rcases hr with hr|rfl
   ·exact hsh r hr
   ·obtain ⟨g1,g2,g3⟩:=hb (by simpa using hb')
    exact ⟨by omega,by omega,by omega⟩
 have hlt:i=n:=by have:=of_decide_eq_false hlt;omega
 subst hlt
 rw [List.take_of_length_le (by omega)] at hsh
 have Gu:=DV.trans dZ
 obtain ⟨hns,hbd⟩:=NS.KX (h.le Gu fun _ _ g=>Eh.le g Gu) hsh hc hn
 have hlen:(rs.map Rn.nd).length<=8:=by rw [List.length_map];omega
 generalize rs.map Rn.nd=l at *
 have hA:∀{W:View},oM.Le W->AT W (.agg #[.int .i64 root,.slice p i c]) root l:=fun e=>⟨p,i,c,rfl,hns.le e⟩
 have hsz:∀t,kd l root=some t->t.size<25:=fun t ht=>by have:=(CX ht).2.1;omega
 obtain ⟨sp1,sp2⟩:=PW.sz hp0 sp
 obtain ⟨To,Tp⟩:=PW.sz hv0 sv
 refine (yT hbd root hns).mono ?_
 rintro r oN c_ ⟨q,rfl,hq⟩
 refine ⟨_,_,rfl,fun qi cQ=>(lK (p:=fp.pt) hbd (hA (c_.trans cQ)) ((hp0.le (Gu.trans (c_.trans cQ))).Kl sp) (sp1.mono (by omega)) (sp2.mono (by omega)) hsz (fun _ _ n c=>Lf n c _) (hs.le (Gu.trans (c_.trans cQ)))).mono ?_⟩
 rintro r tE eI ⟨k1,k2⟩
 have Bg:=c_.trans (cQ.trans eI)
 have sk:=Gu.trans Bg
 cases hof:kd l root with
 | none=>
  have k1:=k1 hof
  subst k1
  refine ⟨_,_,rfl,fun xk eA=>(nE hbd (hA (Bg.trans eA)) ((hp0.le (sk.trans eA)).Kl sp) (sp1.mono (by omega)) (sp2.mono (by omega)) (hs.le (sk.trans eA))).mono ?_⟩
  rintro r Ak jC ⟨k3,-⟩
  have k3:=k3 hof
  subst k3
  have lh:=eA.trans jC
  refine ⟨_,_,_,rfl,fun sR dL=>(gE (d:=fv.pt) hbd (hA (Bg.trans (lh.trans dL))) ((hp0.le (sk.trans (lh.trans dL))).Kl sp) ((hv0.le (sk.trans (lh.trans dL))).Kl sv) (sp1.mono (by omega)) (sp2.mono (by omega)) (To.mono (by omega)) (Tp.mono (by omega)) (hs.le (sk.trans (lh.trans dL)))).mono ?_⟩
  rintro r vY kr ⟨k4,-⟩
  have k4:=k4 hof
  subst k4
  have Gv:=sk.trans (lh.trans (dL.trans kr))
  refine ⟨_,_,_,rfl,fun _ vZ il=>(jW (hs.le (Gv.trans il))).mono ?_,(fun h=>by cases h)⟩
  rintro r Cj sW rfl
  have EP:=Gv.trans (il.trans sW)
  refine ⟨_,rfl,fun _=>⟨y,⟨_,rfl,hs.le EP⟩,fun DH jh=>(fB hy).mono ?_⟩,(fun h=>by cases h)⟩
  rintro r HU sX rfl
  have Na:=EP.trans (jh.trans sX)
  refine ⟨_,rfl,fun _=>⟨y,⟨_,rfl,hs.le Na⟩,fun Kg sY=>(fB hy).mono ?_⟩,(fun h=>by cases h)⟩
  rintro r H3 CQ rfl
  have QG:=Na.trans (sY.trans CQ)
  refine ⟨_,rfl,fun _=>⟨y,⟨_,rfl,hs.le QG⟩,fun LD CR=>(fB hy).mono ?_⟩,(fun h=>by cases h)⟩
  rintro r H4 ze rfl
  exact ⟨_,rfl,fun _=>⟨fun _=>⟨fun _=>⟨fun _=>⟨fun _ ON IX=>rfl,(fun h=>by cases h)⟩,(fun h=>by cases h)⟩,(fun h=>by cases h)⟩,(fun h=>by cases h)⟩,(fun h=>by cases h)⟩
 | some t=>
  obtain ⟨k1,rfl,hk1⟩:=k2 t hof
  obtain ⟨-,hlz,hok⟩:=CX hof
  have LS:t.iU Fp:=yA hok (zl hbd hof)
  refine ⟨_,_,rfl,fun xk eA=>(nE hbd (hA (Bg.trans eA)) ((hp0.le (sk.trans eA)).Kl sp) (sp1.mono (by omega)) (sp2.mono (by omega)) (hs.le (sk.trans eA))).mono ?_⟩
  rintro r Ak jC ⟨-,k3⟩
  have k3:=k3 t hof
  subst k3
  have lh:=eA.trans jC
  refine ⟨_,_,_,rfl,fun sR dL=>(gE (d:=fv.pt) hbd (hA (Bg.trans (lh.trans dL))) ((hp0.le (sk.trans (lh.trans dL))).Kl sp) ((hv0.le (sk.trans (lh.trans dL))).Kl sv) (sp1.mono (by omega)) (sp2.mono (by omega)) (To.mono (by omega)) (Tp.mono (by omega)) (hs.le (sk.trans (lh.trans dL)))).mono ?_⟩
  rintro r vY kr ⟨-,k4⟩
  have k4:=k4 t hof
  subst k4
  have Gv:=sk.trans (lh.trans (dL.trans kr))
  have Nh:oN.Le vY:=cQ.trans (eI.trans (lh.trans (dL.trans kr)))
  refine ⟨_,_,_,rfl,(fun h=>by cases h),fun _ Wn QJ=>(jW (hs.le (Gv.trans QJ))).mono ?_⟩
  rintro r Wo S_ rfl
  have QH:=Gv.trans (QJ.trans S_)
  refine ⟨_,rfl,fun _=>⟨sn.1,fun _=>⟨sn.1,fun _=>⟨sn.1,fun _ Wp Ta=>((hp0.le (QH.trans Ta)).pt sp).mono ?_,fun h=>by rw [sn.2] at h;cases h⟩,fun h=>by rw [sn.2] at h;cases h⟩,fun h=>by rw [sn.2] at h;cases h⟩,(fun h=>by cases h)⟩
  rintro r Wq Ve gp
  have MD:=gp
  obtain ⟨_,_,_,_,_,_,_,_,_,_,_,_,rfl,-⟩:=gp
  refine ⟨_,_,_,_,_,_,_,_,_,_,_,_,_,_,rfl,fun Wr Tb=>(wu (p:=fp.pt) (RW.le (Nh.trans (QJ.trans (S_.trans (Ta.trans (Ve.trans Tb))))) (hq t hof)) LS (by omega) (MD.le Tb) (sp1.mono (by omega)) (sp2.mono (by omega))).mono ?_⟩
  rintro r Ws WK ⟨k2',rfl,hk2⟩
  refine ⟨_,rfl,fun Ps l46=>?_⟩
  rw [EA (Tr.iU.imp (fun _ h=>zn h) (I_ LS)) hk1 hk2]
  simp
end Go.Proofs.Tryz
