import Derived.Test.YthpmdmkmfoaamaaGreatDoorN17
import Derived.Test.YthpmdmkmfoaamaaGreatDoorN14
import Derived.Test.YthpmdmkmfoaamaaGreatDoorN13
import Derived.Test.YthpmdmkmfoaamaaGreatDoorN15
import Derived.Test.YthpmdmkmfoaamaaGreatDoorN7
import Derived.Test.YthpmdmkmfoaamaaGreatDoorN16
import Derived.Test.YthpmdmkmfoaamaaGreatDoorN8
import Derived.Test.YthpmdmkmfoaamaaGreatDoorN5
set_option linter.unusedVariables false
open Go.IntKind (i64 u64 u32)
namespace Go.Proofs.Tryz
open Go.bL Go.fN
theorem Dk (n:Int){d:Nat}(h:d≠0):mkRat n d*((d:Nat):Rat)=(n:Rat):=by
 have hd:((d:Nat):Rat)≠0:=by exact_mod_cast h
 rw [Rat.mkRat_eq_div,Rat.div_def]
 exact aw.inv_mul hd _
theorem Gt {p:Rat×Rat}(h:aw.nz p):gY p.1 p.2>0:=by
 have hd:p.1.den*p.2.den≠0:=Nat.mul_ne_zero p.1.den_nz p.2.den_nz
 have e:=Dk (Nat.gcd (p.1.num.natAbs*p.2.den) (p.2.num.natAbs*p.1.den):Nat) hd
 have hg:0<Nat.gcd (p.1.num.natAbs*p.2.den) (p.2.num.natAbs*p.1.den):=by
  apply Nat.pos_of_ne_zero
  intro z
  rw [Nat.gcd_eq_zero_iff] at z
  have z1:p.1=0:=by
   rcases Nat.mul_eq_zero.1 z.1 with e|e
   ·exact Rat.num_eq_zero.1 (by omega)
   ·exact absurd e p.2.den_nz
  have z2:p.2=0:=by
   rcases Nat.mul_eq_zero.1 z.2 with e|e
   ·exact Rat.num_eq_zero.1 (by omega)
   ·exact absurd e p.1.den_nz
  unfold aw.nz at h
  rcases h with h|h
  ·exact h z1
  ·exact h z2
 have d0:((p.1.den*p.2.den:Nat):Rat)>0:=by exact_mod_cast Nat.pos_of_ne_zero hd
 have g0:(((Nat.gcd (p.1.num.natAbs*p.2.den) (p.2.num.natAbs*p.1.den):Nat):Int):Rat)>0:=by exact_mod_cast hg
 show mkRat _ _>0
 generalize mkRat ((Nat.gcd (p.1.num.natAbs*p.2.den) (p.2.num.natAbs*p.1.den):Nat):Int) (p.1.den*p.2.den)=q at *
 by_cases hq:q>0
 ·exact hq
 ·have:=aw.mn (show -q≥0 by grind) (show ((p.1.den*p.2.den:Nat):Rat)≥0 by grind)
  grind
theorem BM {p:Rat×Rat}(h:aw.nz p):∃c:Rat,c>0/\jK p=(c*p.1,c*p.2):=
 ⟨(gY p.1 p.2)⁻¹,Rat.inv_pos.2 (Gt h),Prod.ext (Rat.mul_comm ..) (Rat.mul_comm ..)⟩
theorem tK {l:L3}(h:¬(l.1=0/\l.2.1=0)):aw.nz (aw.cF l):=by
 unfold aw.nz aw.cF
 by_cases e:l.2.1=0
 ·right
  intro e'
  have:(l.1:Rat)=0:=by grind
  exact h ⟨by exact_mod_cast this,e⟩
 ·left
  show (l.2.1:Rat)≠0
  exact_mod_cast e
def zv (s a:Bool):Int:=if a then 2 else if s then 1 else 0
def jv (t:Tr)(p:Rat×Rat)(c:Int):Prop:=∀D S,aw.AD D->aw.EJ D S->aw.EF D (aw.cq t p)->c=zv (aw.anyS t p S) (aw.iK t p S)
theorem C0 {t:Tr}{p:Rat×Rat}{D S:List (Rat×Rat)}(h1:aw.AD D)(h2:aw.EJ D S)(h3:aw.EF D (aw.cq t p)):jv t p (zv (aw.anyS t p S) (aw.iK t p S)):=by
 intro D' S' g1 g2 g3
 obtain ⟨e1,e2⟩:=aw.LX h1 h2 g1 g2 h3 g3
 rw [e1,e2]
theorem Em {q:L3->Prop}{t:Tr}(h:t.lN q){p:Rat×Rat}:∀l∈aw.cq t p,q l:=fun l hl=>jG h l (aw.mI hl).2
theorem JC {u w:Rat×Rat}(h:aw.cr u w≥0):aw.qL u w (vC u w):=by
 unfold vC
 by_cases g:aw.cr u w>0
 ·rw [if_pos g]
  exact .inl ⟨g,1,1,by decide,by decide,Prod.ext (by unfold aw.wS;grind) (by unfold aw.wS;grind)⟩
 ·rw [if_neg g]
  exact .inr ⟨by grind,1,by decide,Prod.ext (by unfold aw.wS aw.EB;grind) (by unfold aw.wS aw.EB;grind)⟩
theorem rF {D:List (Rat×Rat)}(h:aw.AD D):aw.EJ D (jO D):=by
 unfold jO
 by_cases e:D=[]
 ·rw [if_pos e];exact .inl ⟨e,rfl⟩
 ·rw [if_neg e];exact aw.Jz h (fun u _ w _ hc=>JC hc) e
theorem HJ (D:List (Rat×Rat)):jO D≠[]:=by
 unfold jO
 by_cases e:D=[]
 ·rw [if_pos e];simp
 ·rw [if_neg e]
  intro h
  have:=congrArg List.length h
  unfold aw.HI at this
  rw [List.length_map,List.length_range] at this
  exact e (List.length_eq_zero_iff.1 this)
theorem Fv (D:List (Rat×Rat)):(jO D).length<=D.length+1:=by
 unfold jO
 split
 ·simp
 ·unfold aw.HI;simp
theorem yy (M:List L3):(jd M).length=2*M.length:=by
 induction M with
 | nil=>rfl
 | cons l M ih=>
  have:jd (l::M)=Jo l++jd M:=rfl
  rw [this,List.length_append,ih]
  simp [Jo];omega
theorem p_:∀(t:Tr)(p:Rat×Rat),(aw.cq t p).length<=t.size
 | .leaf _,_=>Nat.le_refl _
 | .node l a b,p=>by
  have:=p_ a p
  have:=p_ b p
  simp only [aw.cq,List.length_append,Tr.size]
  have h1:(if aT l p.1 p.2=0 then [l] else []).length<=1:=by split<;>simp
  have h2:(if aT l p.1 p.2≥0 then aw.cq a p else []).length<=a.size:=by
   split
   ·omega
   ·simp
  have h3:(if aT l p.1 p.2<=0 then aw.cq b p else []).length<=b.size:=by
   split
   ·omega
   ·simp
  omega
theorem Eu {M:List L3}(ho:∀l∈M,¬(l.1=0/\l.2.1=0)){m:List (Rat×Rat)}(pm:m.Perm (jd M))(pw:m.Pairwise fun x y=>¬dv y x<0):aw.AD (fq eP m)/\aw.EF (fq eP m) M:=by
 have mem:∀r,r∈m↔∃l∈M,r=jK (aw.cF l)\/r=Dl (jK (aw.cF l)):=fun r=>by
  rw [pm.mem_iff]
  unfold jd Jo
  simp only [List.mem_flatMap,List.mem_cons,List.not_mem_nil,or_false]
 have key:=aw.LS (m:=m) pw ?_ ?_
 ·obtain ⟨k1,k2⟩:=key
  refine ⟨k1,fun l hl=>?_⟩
  obtain ⟨y,hy,c,c0,e⟩:=k2 (jK (aw.cF l)) ((mem _).2 ⟨l,hl,.inl rfl⟩)
  obtain ⟨d,d0,e'⟩:=BM (tK (ho l hl))
  refine ⟨y,hy,c*d,aw.mp c0 d0,?_⟩
  rw [e,e']
  exact Prod.ext (by show c*(d*_)=_;grind) (by show c*(d*_)=_;grind)
 ·intro r hr
  obtain ⟨l,hl,h⟩:=(mem r).1 hr
  have n0:=tK (ho l hl)
  obtain ⟨d,d0,e'⟩:=BM n0
  have np:aw.nz (jK (aw.cF l)):=by
   rw [e']
   unfold aw.nz at n0 ⊢
   rcases n0 with n0|n0
   ·exact .inl fun h=>by rcases Rat.mul_eq_zero.1 h with h|h;grind;exact n0 h
   ·exact .inr fun h=>by rcases Rat.mul_eq_zero.1 h with h|h;grind;exact n0 h
  rcases h with rfl|rfl
  ·exact np
  ·unfold aw.nz Dl at *
   rcases np with np|np
   ·exact .inl (by show -(jK (aw.cF l)).1≠0;grind)
   ·exact .inr (by show -(jK (aw.cF l)).2≠0;grind)
 ·intro r hr
  obtain ⟨l,hl,h⟩:=(mem r).1 hr
  rcases h with rfl|rfl
  ·exact ⟨_,(mem _).2 ⟨l,hl,.inr rfl⟩,1,by decide,by unfold Dl;grind,by unfold Dl;grind⟩
  ·exact ⟨_,(mem _).2 ⟨l,hl,.inl rfl⟩,1,by decide,by unfold Dl;grind,by unfold Dl;grind⟩
theorem qQ {t:Tr}{p:Rat×Rat}{S:List (Rat×Rat)}{i:Nat}(h:i<S.length):aw.anyS t p (S.take (i+1))=(aw.anyS t p (S.take i)||(aw.jo t p S[i]).1):=by
 unfold aw.anyS
 rw [←List.take_append_getElem h,List.any_append]
 simp
theorem qO {t:Tr}{p:Rat×Rat}{S:List (Rat×Rat)}{i:Nat}(h:i<S.length):aw.iK t p (S.take (i+1))=(aw.iK t p (S.take i)&&(aw.jo t p S[i]).1):=by
 unfold aw.iK
 rw [←List.take_append_getElem h,List.all_append]
 simp
theorem D4 {t:Tr}{p:Rat×Rat}{S:List (Rat×Rat)}(h:S≠[])(ha:aw.iK t p S=true):aw.anyS t p S=true:=by
 cases S with
 | nil=>exact absurd rfl h
 | cons x r=>
  unfold aw.iK at ha
  unfold aw.anyS
  simp only [List.all_cons,Bool.and_eq_true] at ha
  simp [ha.1]
theorem AX {pv:Value}{p:Rat×Rat}(s1:Sz 1000000 p.1)(s2:Sz 1000000 p.2){t:Tr}{V:View}{q:OA}(h:RT V q t)(ha:t.lN Bd)(ho:t.lN fun l=>¬(l.1=0/\l.2.1=0))(hs:t.size<25)(hso:∀n c,tT n c (jd (aw.cq t p)))(hp:mb V pv p.1 p.2) :
  ab prog 46 #[.pointer q,pv] V fun r V'=>∃c,r=.int .i64 c/\jv t p c:=by
 have hp0:=hp
 obtain ⟨x1,x2,x3,y1,y2,y3,rfl,-⟩:=hp
 refine vK q x1 x2 x3 y1 y2 y3 V _ fun V1 l1=>(CQ s1 s2 t (V:=V1) (lb:=0) (n:=0) (c:=0) (vs:=[]) (o:=[]) (h.le l1) ha (hp0.le l1) (fun h=>absurd rfl h) (fun h=>absurd rfl h) GR.nil (fun h=>absurd rfl h) (by omega)).mono ?_
 rintro r V2 l2 ⟨bm,vm,n1,c1,a1,a2,rfl,a3,a4,a5⟩
 have PV:vm≠[]->V1.w.heap.size<=bm:=fun h=>(a2 h).elim id fun h=>absurd rfl h.1
 refine ⟨bm,vm,a1,fun h=>.inl (PV h),none,n1,c1,rfl,fun V3 l3 KT e1 e2=>?_⟩
 have L3:V.Le V3:=l1.trans ((pX l2 (View.Le.refl V1) fun h=>.inl (PV h)).trans l3)
 rw [List.nil_append] at a3
 have nC:(jd (aw.cq t p)).length<50:=by
  have:=p_ t p
  rw [yy];omega
 refine (yX (V:=V3.au [vb vm V3.w.heap.size KT]) (lb:=KT) e1 (fun h=>⟨by simp [vJ h],e2 h⟩) (a3.mono (V':=V3.au _) fun _ _ g=>kR.le g fun b o h=>l3 b o h) a4 nC (hso _ _)).mono ?_
 rintro r V4 l4 ⟨WN,Yk,n2,c2,m,b1,b2,rfl,row,rfl,b4,pm,pw⟩
 refine ⟨WN,Yk,b1,b2,none,_,c2,rfl,fun V5 l5 JY e3=>?_⟩
 have L5:V.Le V5:=L3.trans ((pX (V:=V3) (V':=V3) (fun b o h=>l4 b o h) (View.Le.refl V3) fun h=>(b2 h).imp id fun h'=>by rw [h'.2];exact e2 h'.1).trans l5)
 have Ox:=pm.length_eq
 have WT:=uy (e:=eP) (l:=m)
 obtain ⟨ry,cv⟩:=Eu (Em ho) pm pw
 refine (ER (D:=fq eP m) (nV.tL e3 (row.le fun _ _ g=>(kR.le g fun b o h=>l5 b o h:kR V5 _ _)) (by decide) b4) (by omega)).mono ?_
 rintro r V6 l6 ⟨q',n3,c3,rfl,hS⟩
 have ne:=HJ (fq eP m)
 have sm:=rF ry
 have sl:=Fv (fq eP m)
 generalize jO (fq eP m)=S at *
 have hl:=hS.len
 subst hl
 refine ⟨q',_,c3,rfl,fun _=>⟨fun z V'=>∃i:Nat,z.2.2=(i:Int)/\i<=S.length/\z.1=aw.anyS t p (S.take i)/\z.2.1=aw.iK t p (S.take i),fun z=>(S.length-z.2.2).toNat,⟨(false,true,0),by and_intros<;>rfl,0,rfl,Nat.zero_le _,rfl,rfl⟩,?_⟩⟩
 rintro ⟨z1,z2,z3⟩ V7 l7 ⟨i,e,hi,f1,f2⟩
 dsimp only at e f1 f2 ⊢
 subst e f1 f2
 have L7:=L5.trans (l6.trans l7)
 refine ⟨rfl,fun hlt=>?_,fun hlt ie l10=>(EP _ _).mono ?_⟩
 ·have hlt:i<S.length:=by have:=of_decide_eq_true hlt;omega
  have w1:i64.wrap ((i:Int)+1)=((i+1:Nat):Int):=by rw [ar (by omega)];rfl
  obtain ⟨ps,x,y,qq,x',y',X6,a,RV,g0,g1,g2,g3,g4,g5,gu⟩:=zI (hS.le l7 fun _ _ g=>CI.le g l7) hlt
  rw [w1]
  simp only [Int.toNat_natCast]
  refine ⟨ps,⟨by omega,by omega⟩,x,y,qq,x',y',X6,a,RV,g0,g1,g2,g3,g4,g5,fun V8 l8=>(yY (p:=p) (v:=S[i]) (s1.mono (by omega)) (s2.mono (by omega)) gu.2.1 gu.2.2 (h.le (L7.trans l8)) ha (hp0.le (L7.trans l8)) (gu.1.le l8)).mono ?_⟩
  rintro r V9 l9 rfl
  refine ⟨_,_,rfl,fun k=>⟨(true,_,((i+1:Nat):Int)),by dsimp only;omega,by and_intros<;>first|rfl|trivial,i+1,rfl,by omega,?_,?_⟩,fun k=>⟨(_,false,((i+1:Nat):Int)),by dsimp only;omega,by and_intros<;>first|rfl|trivial,i+1,rfl,by omega,?_,?_⟩⟩
  ·rw [qQ hlt,k,Bool.or_true]
  ·rw [qO hlt,k,Bool.and_true];rfl
  ·rw [qQ hlt,k,Bool.or_false];rfl
  ·rw [qO hlt,k,Bool.and_false]
 ·have hlt:i=S.length:=by have:=of_decide_eq_false hlt;omega
  subst hlt
  rintro r gV bI rfl
  refine ⟨_,rfl,fun lO cg=>⟨_,rfl,?_⟩⟩
  rw [List.take_length]
  have:(if (aw.anyS t p S&&aw.iK t p S)=true then (2:Int) else if aw.anyS t p S=true then 1 else 0)=zv (aw.anyS t p S) (aw.iK t p S):=by
   unfold zv
   cases e:aw.iK t p S
   ·simp
   ·rw [D4 ne e];rfl
  rw [this]
  exact C0 ry sm cv
theorem zQ (l:List Nd):∀(f:Nat)(n:Int)(s:RS),s.bad=true->(eC l f n s).2.bad=true
 | 0,_,_,h=>h
 | f+1,n,s,h=>by
  simp only [eC]
  split
  ·exact h
  ·split
   ·exact h
   ·split
    ·rfl
    ·split
     ·split
      ·exact zQ l f _ _ (zQ l f _ _ h)
      ·rfl
     ·rfl
def Rp (l:List Nd):Int->Tr->Prop
 | n,.leaf i=>n=(if i then -2 else -1)
 | n,.node ln a b=>∃(k:Nat)(x:Nd),n=(k:Int)/\l[k]?=some x/\x.ln=ln/\kk ln=true/\Rp l x.left a/\Rp l x.right b
theorem Dp (l:List Nd):∀(f:Nat)(n:Int)(s:RS),s.seen.count false<f->(eC l f n s).2.bad=false->Rp l n (eC l f n s).1/\(eC l f n s).2.lq=s.lq+(eC l f n s).1.size
 | 0,_,_,h,_=>by omega
 | f+1,n,s,hf,h=>by
  simp only [eC] at h ⊢
  by_cases n2:n=-2
  ·rw [if_pos n2];exact ⟨n2,rfl⟩
  rw [if_neg n2] at h ⊢
  by_cases n1:n=-1
  ·rw [if_pos n1];exact ⟨n1,rfl⟩
  rw [if_neg n1] at h ⊢
  by_cases n0:n<0
  ·rw [if_pos n0] at h;cases h
  rw [if_neg n0] at h ⊢
  split at h
  ·rename_i x hx hs
   by_cases ho:kk x.ln=true
   ·rw [if_pos ho] at h ⊢
    dsimp only at h ⊢
    have hb:(eC l f x.left ⟨s.seen.set n.toNat true,s.lq+1,s.bad⟩).2.bad=false:=by
     cases e:(eC l f x.left ⟨s.seen.set n.toNat true,s.lq+1,s.bad⟩).2.bad
     ·rfl
     ·have:=zQ l f x.right _ e
      rw [h] at this;cases this
    have hc:=count_set hs
    obtain ⟨i1,i2⟩:=Dp l f x.left _ (by dsimp only;omega) hb
    have hm:=(qe l f x.left ⟨s.seen.set n.toNat true,s.lq+1,s.bad⟩).1
    dsimp only at i2 hm
    obtain ⟨j1,j2⟩:=Dp l f x.right _ (by omega) h
    exact ⟨⟨n.toNat,x,by omega,hx,rfl,ho,i1,j1⟩,by simp only [Tr.size];omega⟩
   ·rw [if_neg ho] at h;cases h
  ·cases h
theorem LD {l:List Nd}{root:Int}{t:Tr}(h:sS l root=some t):Rp l root t/\l.length=t.size/\t.lN fun x=>kk x=true:=by
 unfold sS at h
 split at h
 ·cases h
 ·dsimp only at h
  split at h
  ·cases h
  ·rename_i hb
   cases h
   have hb':(eC l (l.length+1) root ⟨List.replicate l.length false,0,false⟩).2.bad=false/\(eC l (l.length+1) root ⟨List.replicate l.length false,0,false⟩).2.lq=l.length:=by
    constructor
    ·cases e:(eC l (l.length+1) root ⟨List.replicate l.length false,0,false⟩).2.bad
     ·rfl
     ·exact absurd (.inl e) hb
    ·by_cases e:(eC l (l.length+1) root ⟨List.replicate l.length false,0,false⟩).2.lq=l.length
     ·exact e
     ·exact absurd (.inr e) hb
   obtain ⟨h1,h2⟩:=Dp l (l.length+1) root ⟨List.replicate l.length false,0,false⟩ (by simp) hb'.1
   have ok:∀{t:Tr} {n:Int},Rp l n t->t.lN fun x=>kk x=true:=by
    intro t
    induction t with
    | leaf i=>intro n _;trivial
    | node ln a b iha ihb=>rintro n ⟨k,x,_,_,_,ho,ha,hb⟩;exact ⟨ho,iha ha,ihb hb⟩
   refine ⟨h1,?_,ok h1⟩
   have:=hb'.2
   rw [h2] at this
   dsimp only at this
   omega
def D2 (V:View)(w:Value)(p:Rat×Rat):Prop:=(∃b q n c q' n' c' d r m e r' m' e',w=.agg #[.bool b,.slice q n c,.slice q' n' c',.bool d,.slice r m e,.slice r' m' e']) /\
 ∀V1,V.Le V1->ab prog 47 #[w] V1 fun r V'=>mb V' r p.1 p.2
theorem D2.le {V V':View}{w:Value}{p:Rat×Rat}(h:D2 V w p)(l:V.Le V'):D2 V' w p:=⟨h.1,fun V1 l1=>h.2 V1 (l.trans l1)⟩
theorem D2.of {V:View}{w:Value}{p:Rat×Rat}(h:KH V w p.1 p.2){k:Nat}(s1:Sz k p.1)(s2:Sz k p.2)(hk:k<=1099511627776):D2 V w p:=by
 refine ⟨?_,fun V1 l1=>CR (h.le l1) s1 s2 hk⟩
 obtain ⟨b,q,n,c,q',n',c',d,r,m,e,r',m',e',rfl,-⟩:=h
 exact ⟨_,_,_,_,_,_,_,_,_,_,_,_,_,_,rfl⟩
theorem D2.raw {V:View}{b d:Bool}{q q' r r':OA}{n c n' c' m e m' e':Nat}{xs ys us vs:List Nat}(h1:RD V q n c xs)(h2:RD V q' n' c' ys)(h3:RD V r m e us)(h4:RD V r' m' e' vs)(k1:xs.length<=1000000)(k2:ys.length<=1000000)(k3:us.length<=1000000)(k4:vs.length<=1000000) :
  D2 V (.agg #[.bool b,.slice q n c,.slice q' n' c',.bool d,.slice r m e,.slice r' m' e']) (mkRat (aZ b xs) (val ys),mkRat (aZ d us) (val vs)):=by
 refine ⟨⟨_,_,_,_,_,_,_,_,_,_,_,_,_,_,rfl⟩,fun V0 l0=>?_⟩
 refine sH b q n c q' n' c' d r m e r' m' e' V0 _ fun V1 l1=>(oD b (h1.le (l0.trans l1)) (h2.le (l0.trans l1)) (by omega) (by omega)).mono ?_
 rintro r V2 l2 g
 have g0:=g
 obtain ⟨x1,x2,x3,rfl⟩:=g.shape
 refine ⟨_,_,_,rfl,fun V3 l3=>(oD d (h3.le (l0.trans (l1.trans (l2.trans l3)))) (h4.le (l0.trans (l1.trans (l2.trans l3)))) (by omega) (by omega)).mono ?_⟩
 rintro r V4 l4 g'
 have g0':=g'
 obtain ⟨y1,y2,y3,rfl⟩:=g'.shape
 exact ⟨_,_,_,rfl,fun V5 l5=>⟨_,_,_,_,_,_,rfl,g0.le (l3.trans (l4.trans l5)),g0'.le l5⟩⟩
theorem D2.zero {V:View}:D2 V (.agg #[.bool false,.slice none 0 0,.slice none 0 0,.bool false,.slice none 0 0,.slice none 0 0]) (0,0):=by
 have e:mkRat (aZ false []) (val [])=0:=by decide
 have:=@D2.raw V false false none none none none 0 0 0 0 0 0 0 0 [] [] [] [] RD.nil RD.nil RD.nil RD.nil (by decide) (by decide) (by decide) (by decide)
 rw [e] at this
 exact this
theorem Dm {l:L3}(h:kk l=true):¬(l.1=0/\l.2.1=0):=by
 unfold kk at h
 rw [Bool.and_eq_true,decide_eq_true_iff] at h
 exact h.1
theorem iQ {V:View}{v w:Value}{root:Int}{l:List Nd}(hb:∀x∈l,Bd x.ln)(h:AT V v root l){p:Rat×Rat}(hp:D2 V w p)(s1:Sz 1000000 p.1)(s2:Sz 1000000 p.2)(hs:∀t,sS l root=some t->t.size<25)(hso:∀t,sS l root=some t->∀n c,tT n c (jd (aw.cq t p)))
  {y:Value}(hy:wE V 0 y) :
  ab prog 13 #[v,w] V fun r V'=>(sS l root=none->r=.tuple #[.int .i64 0,y])/\∀t,sS l root=some t->∃c,r=.tuple #[.int .i64 c,.nilIface]/\jv t p c:=by
 have h0:=h
 obtain ⟨q,n,c,rfl,-⟩:=h
 have hp0:=hp
 obtain ⟨⟨b,q1,n1,c1,q2,n2,c2,d,r,m,e,r',m',e',rfl⟩,hp1⟩:=hp
 refine tu root q n c b q1 n1 c1 q2 n2 c2 d r m e r' m' e' V _ fun V1 l1=>(ET hb (h0.le l1)).mono ?_
 rintro r V2 l2 ⟨a,rfl,ha⟩
 have wR:=l1.trans l2
 refine ⟨_,_,rfl,fun g=>⟨y,⟨_,rfl,hy.le wR⟩,fun V3 l3=>?_⟩,fun g V4 l4=>(hp1 V4 (wR.trans l4)).mono ?_⟩
 ·have g:sS l root=none:=by cases e:sS l root with
   | none=>rfl
   | some t=>rw [e] at g;cases g
  exact ⟨fun _=>rfl,fun t ht=>by rw [g] at ht;cases ht⟩
 ·cases e:sS l root with
  | none=>rw [e] at g;cases g
  | some t=>
   rintro r V5 l5 gp
   have Xc:=gp
   obtain ⟨_,_,_,_,_,_,rfl,-⟩:=gp
   have ok:=(LD e).2.2
   refine ⟨_,_,_,_,_,_,rfl,fun V6 l6=>(AX s1 s2 ((ha t e).le (l4.trans (l5.trans l6))) (Jg hb e) (ok.imp fun _ h=>Dm h) (hs t e) (hso t e) (Xc.le l6)).mono ?_⟩
   rintro r V7 l7 ⟨c,rfl,hc⟩
   exact ⟨c,rfl,fun V8 l8=>⟨(fun h=>by cases h),fun t' ht=>by cases ht;exact ⟨c,rfl,hc⟩⟩⟩
def kB (x:L3):List L3->List L3
 | []=>[x]
 | y::r=>if oH y x<0 then y::kB x r else if y=x then y::r else x::y::r
theorem I4 {x:L3}:∀(o:List L3)(k:Nat),k<=o.length->(∀j (h:j<o.length),j<k->oH o[j] x<0)->(∀h:k<o.length,¬oH o[k] x<0) ->
  kB x o=if (∃h:k<o.length,o[k]=x) then o else o.take k++x::o.drop k:=by
 intro o
 induction o with
 | nil=>
  intro k hk _ _
  obtain rfl:k=0:=by simpa using hk
  simp [kB]
 | cons y r ih=>
  intro k hk hlt hge
  cases k with
  | zero=>
   have h0:¬oH y x<0:=hge (by simp)
   unfold kB
   rw [if_neg h0]
   by_cases e:y=x
   ·rw [if_pos e,if_pos ⟨by simp,e⟩]
   ·rw [if_neg e,if_neg (by rintro ⟨_,h⟩;exact e h)]
    rfl
  | succ k=>
   have h0:oH y x<0:=hlt 0 (by simp) (by omega)
   unfold kB
   rw [if_pos h0,ih k (by simpa using hk) (fun j h hj=>hlt (j+1) (by simpa using h) (by omega)) (fun h=>hge (by simpa using h))]
   by_cases e:∃h:k<r.length,r[k]=x
   ·obtain ⟨h1,h2⟩:=e
    rw [if_pos ⟨h1,h2⟩,if_pos ⟨by simpa using h1,h2⟩]
   ·rw [if_neg e,if_neg (by rintro ⟨h1,h2⟩;exact e ⟨by simpa using h1,h2⟩)]
    rfl
def cD (l:List L3):List L3:=l.foldl (fun o x=>kB (cJ x) o) []
theorem C5 {l:List L3}{i:Nat}(h:i<l.length):cD (l.take (i+1))=kB (cJ l[i]) (cD (l.take i)):=by
 unfold cD
 rw [List.take_add_one,List.getElem?_eq_getElem h,List.foldl_append]
 rfl
theorem Bu (x:L3):∀o:List L3,(kB x o).length<=o.length+1
 | []=>by simp [kB]
 | y::r=>by
  have:=Bu x r
  unfold kB
  split
  ·simp;omega
  ·split<;>simp
theorem rl (l:List L3):(cD l).length<=l.length:=by
 have:∀(l o:List L3),(l.foldl (fun o x=>kB (cJ x) o) o).length<=o.length+l.length:=by
  intro l
  induction l with
  | nil=>intro o;simp
  | cons x r ih=>
   intro o
   have h1:=ih (kB (cJ x) o)
   have h2:=Bu (cJ x) o
   simp only [List.foldl_cons,List.length_cons]
   omega
 have:=this l []
 simpa [cD] using this
def BC (a b:L3):Prop:=oH a b<0
theorem Ow {a b c:L3}(h:BC a b)(h':BC b c):BC a c:=by unfold BC at *;rw [zw] at *;omega
theorem Ot {a b:L3}(h:BC a b)(h':BC b a):False:=by unfold BC at *;rw [zw] at *;omega
theorem Ou {a:L3}(h:BC a a):False:=Ot h h
theorem Ov {a b:L3}(h:¬BC a b)(hne:a≠b):BC b a:=by
 have:¬(a.1=b.1/\a.2.1=b.2.1/\a.2.2=b.2.2):=fun ⟨e1,e2,e3⟩=>hne (Prod.ext e1 (Prod.ext e2 e3))
 unfold BC at *
 rw [zw] at *
 omega
theorem uP {x y:L3}:∀{o:List L3},y∈kB x o↔y=x\/y∈o
 | []=>by simp [kB]
 | z::r=>by
  unfold kB
  split
  ·simp only [List.mem_cons,uP (o:=r)]
   constructor
   ·rintro (h|h|h)<;>simp [h]
   ·rintro (h|h|h)<;>simp [h]
  ·split
   ·rename_i e;subst e;simp
   ·simp
theorem Bt {x:L3}:∀{o:List L3},o.Pairwise BC->(kB x o).Pairwise BC
 | [],_=>List.pairwise_singleton _ _
 | z::r,h=>by
  obtain ⟨h1,h2⟩:=List.pairwise_cons.1 h
  unfold kB
  split
  ·rename_i hz
   refine List.pairwise_cons.2 ⟨fun y hy=>?_,Bt h2⟩
   rcases uP.1 hy with rfl|hy
   ·exact hz
   ·exact h1 y hy
  ·rename_i hz
   split
   ·exact h
   ·rename_i hne
    have hx:BC x z:=Ov hz hne
    refine List.pairwise_cons.2 ⟨fun y hy=>?_,h⟩
    rcases List.mem_cons.1 hy with rfl|hy
    ·exact hx
    ·exact Ow hx (h1 y hy)
theorem fS (l:List L3):(cD l).Pairwise BC/\∀x,x∈cD l↔x∈l.map cJ:=by
 have:∀(l o:List L3),o.Pairwise BC->(l.foldl (fun o x=>kB (cJ x) o) o).Pairwise BC/\∀x,x∈l.foldl (fun o x=>kB (cJ x) o) o↔x∈o\/x∈l.map cJ:=by
  intro l
  induction l with
  | nil=>intro o h;exact ⟨h,fun x=>by simp⟩
  | cons y r ih=>
   intro o h
   obtain ⟨h1,h2⟩:=ih (kB (cJ y) o) (Bt h)
   refine ⟨h1,fun x=>?_⟩
   rw [List.foldl_cons,h2 x,uP,List.map_cons,List.mem_cons]
   constructor
   ·rintro ((h|h)|h)<;>simp [h]
   ·rintro (h|h|h)<;>simp [h]
 obtain ⟨h1,h2⟩:=this l [] List.Pairwise.nil
 exact ⟨h1,fun x=>by rw [cD,h2 x];simp⟩
def uD (p:Rat×Rat)(l:L3):List (Rat×Rat):=if aT l p.1 p.2=0 then [aw.cF l,((-(aw.cF l).1,-(aw.cF l).2):Rat×Rat)] else []
def eQ (p:Rat×Rat)(ls:List L3):List (Rat×Rat):=ls.flatMap (uD p)
theorem C4 {p:Rat×Rat}{ls:List L3}{i:Nat}(h:i<ls.length):eQ p (ls.take (i+1))=eQ p (ls.take i)++uD p ls[i]:=by
 unfold eQ
 rw [←List.take_append_getElem h,List.flatMap_append]
 simp
theorem x_ (p:Rat×Rat)(ls:List L3):(eQ p ls).length<=2*ls.length:=by
 induction ls with
 | nil=>exact Nat.le_refl _
 | cons l r ih=>
  have:eQ p (l::r)=uD p l++eQ p r:=rfl
  rw [this,List.length_append,List.length_cons]
  have:(uD p l).length<=2:=by unfold uD;split<;>simp
  omega
theorem nA {p:Rat×Rat}{ls:List L3}{r:Rat×Rat}(h:r∈eQ p ls):∃l∈ls,aT l p.1 p.2=0/\(r=aw.cF l\/r=(-(aw.cF l).1,-(aw.cF l).2)):=by
 obtain ⟨l,hl,hr⟩:=List.mem_flatMap.1 h
 unfold uD at hr
 split at hr
 ·rename_i e
  simp only [List.mem_cons,List.not_mem_nil,or_false] at hr
  exact ⟨l,hl,e,hr⟩
 ·cases hr
theorem yq {p:Rat×Rat}{ls:List L3}{l:L3}(hl:l∈ls)(e:aT l p.1 p.2=0):aw.cF l∈eQ p ls/\((-(aw.cF l).1,-(aw.cF l).2):Rat×Rat)∈eQ p ls:=by
 constructor<;>refine List.mem_flatMap.2 ⟨l,hl,?_⟩<;>unfold uD<;>rw [if_pos e]<;>simp
theorem Io {v:Rat×Rat}(h:aw.nz v):¬aw.fF v (-v.1,-v.2)=0:=by
 rw [aw.fj]
 rintro ⟨e,-⟩
 unfold aw.nz at h
 rcases aw.bH v with ⟨h1,h2⟩|⟨h1,h2⟩|⟨h1,h2⟩<;>rcases aw.bH (-v.1,-v.2) with ⟨g1,g2⟩|⟨g1,g2⟩|⟨g1,g2⟩<;>first|omega|skip
 ·unfold aw.up at h2 g2;dsimp only at g2;grind
 ·unfold aw.dn at h2 g2;dsimp only at g2;grind
 ·grind
theorem yR {u v:Rat×Rat}(h:aw.fF u v=0):aw.fF v u=0:=by
 rw [aw.fj] at *
 have:=aw.ck u v
 exact ⟨h.1.symm,by grind⟩
theorem D7 {u v:Rat×Rat}:aw.fF u v>0↔aw.fF v u<0:=by
 constructor
 ·intro h
  rcases aw.tX u v with g|g|g
  ·omega
  ·omega
  ·exact g
 ·intro h
  have h1:=aw.yP v u h
  have h2:¬aw.fF u v=0:=fun e=>by have:=yR e;omega
  omega
theorem Bh {p:Rat×Rat}:∀{ls:List L3},(∀l∈ls,kk l=true/\cJ l=l)->ls.Nodup->(eQ p ls).Pairwise fun x y=>¬aw.fF x y=0
 | [],_,_=>List.Pairwise.nil
 | l::r,h,hn=>by
  have ih:=Bh (p:=p) (fun m hm=>h m (List.mem_cons_of_mem _ hm)) (List.nodup_cons.1 hn).2
  have:eQ p (l::r)=uD p l++eQ p r:=rfl
  rw [this]
  obtain ⟨ol,cl⟩:=h l (List.mem_cons_self ..)
  have nl:=tK (Dm ol)
  refine List.pairwise_append.2 ⟨?_,ih,fun x hx y hy e=>?_⟩
  ·unfold uD
   split
   ·exact List.pairwise_cons.2 ⟨fun y hy=>by rcases List.mem_singleton.1 hy with rfl;exact Io nl,List.pairwise_singleton ..⟩
   ·exact List.Pairwise.nil
  ·have hx':x∈eQ p [l]:=by show x∈uD p l++[];rw [List.append_nil];exact hx
   obtain ⟨l',hl',e1,x1⟩:=nA hx'
   rcases List.mem_singleton.1 hl' with rfl
   obtain ⟨m,hm,e2,y1⟩:=nA hy
   obtain ⟨om,cm⟩:=h m (List.mem_cons_of_mem _ hm)
   have c0:aw.cr (aw.cF l') (aw.cF m)=0:=by
    have c:=(aw.fj.1 e).2
    rcases x1 with rfl|rfl<;>rcases y1 with rfl|rfl<;>unfold aw.cr at c⊢<;> grind
   have:=aw.Ft ol om cl cm e1 e2 c0
   exact (List.nodup_cons.1 hn).1 (this▸hm)
theorem Gm {p:Rat×Rat}{ls:List L3}(h:∀l∈ls,kk l=true/\cJ l=l)(hn:ls.Nodup){m:List (Rat×Rat)}(pm:m.Perm (eQ p ls))(pw:m.Pairwise fun x y=>¬dv y x<0):aw.AD m:=by
 refine aw.Jp pw (fun r hr=>?_) (fun r hr=>?_) (pm.symm.pairwise (Bh h hn) fun e e'=>e (yR e'))
 ·obtain ⟨l,hl,-,e⟩:=nA (pm.mem_iff.1 hr)
  have nl:=tK (Dm (h l hl).1)
  rcases e with rfl|rfl
  ·exact nl
  ·unfold aw.nz at *
   rcases nl with nl|nl
   ·left;dsimp only;grind
   ·right;dsimp only;grind
 ·obtain ⟨l,hl,e0,e⟩:=nA (pm.mem_iff.1 hr)
  obtain ⟨m1,m2⟩:=yq hl e0
  rcases e with rfl|rfl
  ·exact ⟨_,pm.mem_iff.2 m2,1,by decide,by dsimp only;grind,by dsimp only;grind⟩
  ·exact ⟨_,pm.mem_iff.2 m1,1,by decide,by dsimp only;grind,by dsimp only;grind⟩
theorem Gk {p:Rat×Rat}{ls:List L3}{m:List (Rat×Rat)}(pm:m.Perm (eQ p ls)){M:List L3}(hM:∀l∈M,aT l p.1 p.2=0/\cJ l∈ls):aw.EF m M:=by
 intro l hl
 obtain ⟨e,hc⟩:=hM l hl
 have e':aT (cJ l) p.1 p.2=0:=by
  unfold cJ
  split
  ·unfold aT qk at *;simp only [Rat.intCast_neg];grind
  ·exact e
 obtain ⟨m1,m2⟩:=yq hc e'
 have two:aw.cF (cJ l)=aw.cF l\/((-(aw.cF (cJ l)).1,-(aw.cF (cJ l)).2):Rat×Rat)=aw.cF l:=by
  unfold cJ
  split
  ·right;unfold aw.cF qk;simp only [Rat.intCast_neg];exact Prod.ext (by dsimp only;grind) (by dsimp only;grind)
  ·left;rfl
 rcases two with t|t
 ·exact ⟨_,pm.mem_iff.2 m1,1,by decide,by rw [t];exact Prod.ext (by dsimp only;grind) (by dsimp only;grind)⟩
 ·exact ⟨_,pm.mem_iff.2 m2,1,by decide,by rw [t];exact Prod.ext (by dsimp only;grind) (by dsimp only;grind)⟩
theorem HA {D:List (Rat×Rat)}(h:aw.AD D){i:Nat}{u w:Rat×Rat}(hi:D[i]?=some u)(hw:D[(i+1)%D.length]?=some w)(hl:D.length>2):¬aw.fF u w=0:=by
 have hi':=(List.getElem?_eq_some_iff.1 hi).1
 by_cases e:i+1<D.length
 ·rw [Nat.mod_eq_of_lt e] at hw
  have a:=aw.jH h hi hw (by omega)
  have:=(aw.yQ (h.nz u (List.mem_of_getElem? hi)) (h.nz w (List.mem_of_getElem? hw))).2 a
  omega
 ·have e:i+1=D.length:=by omega
  rw [e,Nat.mod_self] at hw
  have a:=aw.jH h hw hi (by omega)
  have:=(aw.yQ (h.nz w (List.mem_of_getElem? hw)) (h.nz u (List.mem_of_getElem? hi))).2 a
  intro e
  have:=yR e
  omega
theorem L9 {D S:List (Rat×Rat)}(hD:D≠[])(hl:S.length=D.length)(h:∀i u w x,D[i]?=some u->D[(i+1)%D.length]?=some w->S[i]?=some x->aw.qL u w x):aw.EJ D S:=by
 have h0:0<D.length:=List.length_pos_iff.2 hD
 refine .inr ⟨hD,fun x hx=>?_,fun i u w hi hw=>?_⟩
 ·obtain ⟨i,hi⟩:=List.getElem?_of_mem hx
  have hi':=(List.getElem?_eq_some_iff.1 hi).1
  exact ⟨i,_,_,List.getElem?_eq_getElem (by omega),List.getElem?_eq_getElem (Nat.mod_lt _ h0),h i _ _ x (List.getElem?_eq_getElem _) (List.getElem?_eq_getElem _) hi⟩
 ·have hi':=(List.getElem?_eq_some_iff.1 hi).1
  exact ⟨S[i],List.getElem_mem _,h i u w _ hi hw (List.getElem?_eq_getElem _)⟩
theorem L1 {u w:Rat×Rat}{a b:Rat}(ha:a>0)(hb:b>0)(h:aw.cr u w>0):aw.qL u w (a*u.1+((1:Int):Rat)*(b*w.1),a*u.2+((1:Int):Rat)*(b*w.2)):=by
 refine .inl ⟨h,a,b,ha,hb,?_⟩
 have:((1:Int):Rat)=1:=rfl
 rw [this]
 exact Prod.ext (by unfold aw.wS;dsimp only;grind) (by unfold aw.wS;dsimp only;grind)
theorem L4 {u w:Rat×Rat}(h:aw.cr u w=0):aw.qL u w (-u.2,u.1):=
 .inr ⟨by grind,1,by decide,Prod.ext (by unfold aw.wS aw.EB;dsimp only;grind) (by unfold aw.wS aw.EB;dsimp only;grind)⟩
theorem JI:Sz 2 (((2:Int):Rat)):=⟨by show (2:Int).natAbs<_;decide,by show (1:Nat)<_;decide⟩
theorem uq {V:View}{v:Value}{x:Rat}(h:RQ V v x){k:Nat}(sx:Sz k x)(hk:k+2<274877906944) :
  ab prog 69 #[v] V fun r V'=>RQ V' r (x*((2:Int):Rat)⁻¹):=by
 have h0:=h
 obtain ⟨_,_,_,_,_,_,rfl⟩:=h.shape
 refine Cm _ _ _ _ _ _ _ V _ fun V1 l1=>(fm 2 (by decide) (by decide)).mono ?_
 rintro r V2 l2 g
 have g0:=g
 obtain ⟨_,_,_,_,_,_,rfl⟩:=g.shape
 refine ⟨_,_,_,_,_,_,_,rfl,fun V3 l3=>(iU (h0.le (l1.trans (l2.trans l3))) (g0.le l3) (by show (2:Int)≠0;decide) sx JI hk).mono ?_⟩
 rintro r V4 l4 q
 have q0:=q
 obtain ⟨_,_,_,_,_,_,rfl⟩:=q.shape
 exact ⟨_,_,_,_,_,_,_,rfl,fun V5 l5=>q0.le l5⟩
theorem nY {V:View}{v w:Value}{x y x' y':Rat}(h:RP V v x y)(h':RP V w x' y'){k:Nat}(s1:Sz k x)(s2:Sz k y)(s3:Sz k x')(s4:Sz k y')(hk:4*k+4<274877906944) :
  ab prog 60 #[v,w] V fun r V'=>RQ V' r (x*y'-y*x'):=by
 obtain ⟨_,_,_,_,_,_,_,_,_,_,_,_,rfl,h1,h2⟩:=h
 obtain ⟨_,_,_,_,_,_,_,_,_,_,_,_,rfl,h3,h4⟩:=h'
 refine v_ _ _ _ _ _ _ _ _ _ _ _ _ _ _ _ _ _ _ _ _ _ _ _ _ _ _ _ _ V _ fun V1 l1=>(aO (h1.le l1) (h4.le l1) s1 s4 (by omega)).mono ?_
 rintro r V2 l2 g
 have g0:=g
 obtain ⟨_,_,_,_,_,_,rfl⟩:=g.shape
 refine ⟨_,_,_,_,_,_,_,rfl,fun V3 l3=>(aO (h2.le (l1.trans (l2.trans l3))) (h3.le (l1.trans (l2.trans l3))) s2 s3 (by omega)).mono ?_⟩
 rintro r V4 l4 g'
 have g0':=g'
 obtain ⟨_,_,_,_,_,_,rfl⟩:=g'.shape
 refine ⟨_,_,_,_,_,_,_,rfl,fun V5 l5=>(iH (g0.le (l3.trans (l4.trans l5))) (g0'.le l5) (s1.mul s4) (s2.mul s3) (by omega)).mono ?_⟩
 rintro r V6 l6 q
 have q0:=q
 obtain ⟨_,_,_,_,_,_,rfl⟩:=q.shape
 exact ⟨_,_,_,_,_,_,_,rfl,fun V7 l7=>q0.le l7⟩
theorem Mp.raw {V:View}{v:Value}{l:L3}{s:Sp}(h:Mp V v l s)(ho:Wa l s){k:Nat}(sl:yM k l)(ss:s.sz k)(hk:k<=1000000):∃f:FW,PH V v f/\f.ok=true/\f.ln=l/\f.sp=s/\f.short:=by
 obtain ⟨b1,p1,n1,c1,b2,p2,n2,c2,b3,p3,n3,c3,b,p,n,c,p',n',c',d,q,m,e,q',m',e',rfl,h1,h2⟩:=h
 obtain ⟨_,_,_,_,_,_,_,_,_,el,x1,x2,x3⟩:=h1
 have el:=congrArg Array.toList (Value.agg.inj el)
 simp only [List.cons.injEq,Value.bool.injEq,Value.slice.injEq,and_true] at el
 obtain ⟨rfl,⟨rfl,rfl,rfl⟩,rfl,⟨rfl,rfl,rfl⟩,rfl,rfl,rfl,rfl⟩:=el
 obtain ⟨_,_,_,_,_,_,_,_,_,_,_,_,_,_,es,y1,y2⟩:=h2
 have es:=congrArg Array.toList (Value.agg.inj es)
 simp only [List.cons.injEq,Value.bool.injEq,Value.slice.injEq,and_true] at es
 obtain ⟨rfl,⟨rfl,rfl,rfl⟩,⟨rfl,rfl,rfl⟩,rfl,⟨rfl,rfl,rfl⟩,⟨rfl,rfl,rfl⟩⟩:=es
 obtain ⟨ok,can,emp⟩:=ho
 obtain ⟨w1,us,vs,r1,o1,e1,z1⟩:=y1.raw can.1
 obtain ⟨w2,ws,ts,r2,o2,e2,z2⟩:=y2.raw can.2
 have i1:=r1
 have i2:=r2
 obtain ⟨_,_,_,_,_,_,f1,-,-⟩:=i1
 obtain ⟨_,_,_,_,_,_,f2,-,-⟩:=i2
 have f1:=congrArg Array.toList (Value.agg.inj f1)
 have f2:=congrArg Array.toList (Value.agg.inj f2)
 simp only [List.cons.injEq,Value.bool.injEq,Value.slice.injEq,and_true] at f1 f2
 obtain ⟨rfl,-⟩:=f1
 obtain ⟨rfl,-⟩:=f2
 have len:∀{z:Int},Sz k (z:Rat)->(ai z.natAbs).length<=1000000:=fun h=>Nat.le_trans (af h.1) hk
 have d1:=z1 k ss.1
 have d2:=z2 k ss.2
 refine ⟨⟨decide (l.1<0),ai l.1.natAbs,decide (l.2.1<0),ai l.2.1.natAbs,decide (l.2.2<0),ai l.2.2.natAbs,b,us,vs,d,ws,ts,s.a,s.b⟩,⟨_,_,_,_,_,_,_,_,_,_,_,_,_,_,_,_,_,_,_,_,_,rfl,⟨_,_,_,_,_,_,_,_,_,rfl,x1,x2,x3⟩,⟨_,_,_,_,_,_,_,_,_,_,_,_,rfl,r1,r2⟩⟩,?_,?_,?_,⟨len sl.1,len sl.2.1,len sl.2.2,Nat.le_trans d1.1 hk,Nat.le_trans d1.2 hk,Nat.le_trans d2.1 hk,Nat.le_trans d2.2 hk⟩⟩
 ·have e3:Pg b us vs d ws ts s.a s.b=s:=by unfold Pg;rw [e1,e2]
  unfold FW.ok okW
  dsimp only
  rw [BI,o1,o2,e3,emp]
  show kk l&&true=true
  rw [ok];rfl
 ·unfold FW.ln Vy
  dsimp only
  rw [aH,aH,aH]
 ·unfold FW.sp Pg
  dsimp only
  rw [e1,e2]
theorem kx {V:View}{v:Value}{q:Rat}(h:RQ V v q):ab prog 59 #[v] V fun r V'=>r=.int .i64 q.num.sign:=by
 obtain ⟨_,_,_,_,_,_,rfl,h1,-⟩:=h
 exact tE q h1
theorem lh {V:View}{v:Value}{p:Rat×Rat}(h:RP V v p.1 p.2):ab prog 110 #[v] V fun r V'=>r=.int .i64 (aw.half p):=by
 obtain ⟨_,_,_,_,_,_,_,_,_,_,_,_,rfl,hx,hy⟩:=h
 refine xy _ _ _ _ _ _ _ _ _ _ _ _ _ _ V _ fun V1 l1=>(kx (hx.le l1)).mono ?_
 rintro r V2 l2 rfl
 refine ⟨_,rfl,fun V3 l3=>(kx (hy.le (l1.trans (l2.trans l3)))).mono ?_⟩
 rintro r V4 l4 rfl
 have key:∀z:Int,(z=if p.2.num.sign>0\/p.2.num.sign=0/\p.1.num.sign>0 then 1 else if p.2.num.sign<0\/p.1.num.sign<0 then 2 else 0)->Value.int .i64 z=.int .i64 (aw.half p):=fun z e=>by rw [e];rfl
 refine ⟨_,rfl,fun a=>?_,fun a=>?_⟩
 ·have a:p.1.num.sign=0:=by simpa using a
  refine ⟨fun b V5 l5=>key _ ?_,fun b=>⟨fun c V6 l6=>key _ ?_,fun c=>⟨fun d=>⟨fun e V7 l7=>key _ ?_,fun e V8 l8=>key _ ?_⟩,fun d V9 l9=>key _ ?_⟩⟩⟩
  ·have b:p.2.num.sign=0:=by simpa using b
   rw [if_neg (by omega),if_neg (by omega)]
  ·have c:p.2.num.sign>0:=of_decide_eq_true c
   rw [if_pos (.inl c)]
  ·have b:¬p.2.num.sign=0:=by simpa using b
   have d:p.2.num.sign=0:=by simpa using d
   exact absurd d b
  ·have b:¬p.2.num.sign=0:=by simpa using b
   have d:p.2.num.sign=0:=by simpa using d
   exact absurd d b
  ·have b:¬p.2.num.sign=0:=by simpa using b
   have c:¬p.2.num.sign>0:=of_decide_eq_false c
   rw [if_neg (by omega),if_pos (by omega)]
 ·have a:¬p.1.num.sign=0:=by simpa using a
  refine ⟨fun c V6 l6=>key _ ?_,fun c=>⟨fun d=>⟨fun e V7 l7=>key _ ?_,fun e V8 l8=>key _ ?_⟩,fun d V9 l9=>key _ ?_⟩⟩
  ·have c:p.2.num.sign>0:=of_decide_eq_true c
   rw [if_pos (.inl c)]
  ·have d:p.2.num.sign=0:=by simpa using d
   have e:p.1.num.sign>0:=of_decide_eq_true e
   rw [if_pos (.inr ⟨d,e⟩)]
  ·have d:p.2.num.sign=0:=by simpa using d
   have e:¬p.1.num.sign>0:=of_decide_eq_false e
   rw [if_neg (by omega),if_pos (by omega)]
  ·have d:¬p.2.num.sign=0:=by simpa using d
   have c:¬p.2.num.sign>0:=of_decide_eq_false c
   rw [if_neg (by omega),if_pos (by omega)]
theorem LY (q:Rat):-1<=q.num.sign/\q.num.sign<=1:=by
 rcases Int.lt_trichotomy q.num 0 with h|h|h
 ·rw [Int.sign_eq_neg_one_of_neg h];omega
 ·rw [h];decide
 ·rw [Int.sign_eq_one_of_pos h];omega
theorem nX {V:View}{v w:Value}{a b:Rat×Rat}(h:RP V v a.1 a.2)(h':RP V w b.1 b.2){k:Nat}(s1:Sz k a.1)(s2:Sz k a.2)(s3:Sz k b.1)(s4:Sz k b.2)(hk:4*k+4<274877906944) :
  ab prog 58 #[v,w] V fun r V'=>r=.int .i64 (aw.fF a b):=by
 have h0:=h
 have h0':=h'
 obtain ⟨_,_,_,_,_,_,_,_,_,_,_,_,rfl,-⟩:=h
 obtain ⟨_,_,_,_,_,_,_,_,_,_,_,_,rfl,-⟩:=h'
 refine vY _ _ _ _ _ _ _ _ _ _ _ _ _ _ _ _ _ _ _ _ _ _ _ _ _ _ _ _ V _ fun V1 l1=>(lh (h0.le l1)).mono ?_
 rintro r V2 l2 rfl
 refine ⟨_,rfl,fun V3 l3=>(lh (h0'.le (l1.trans (l2.trans l3)))).mono ?_⟩
 rintro r V4 l4 rfl
 have dz:=l1.trans (l2.trans (l3.trans l4))
 refine ⟨_,rfl,fun g=>⟨fun g' V5 l5=>?_,fun g' V6 l6=>?_⟩,fun g V7 l7=>(nY (h0.le (dz.trans l7)) (h0'.le (dz.trans l7)) s1 s2 s3 s4 hk).mono ?_⟩
 ·unfold aw.fF;rw [if_pos (of_decide_eq_true g')]
 ·have g:aw.half a≠aw.half b:=by simpa using g
  have g':¬aw.half a<aw.half b:=of_decide_eq_false g'
  unfold aw.fF;rw [if_neg g',if_pos (by omega)]
 ·have g:aw.half a=aw.half b:=by simpa using g
  rintro r V8 l8 gc
  have Ib:=gc
  obtain ⟨_,_,_,_,_,_,rfl⟩:=gc.shape
  refine ⟨_,_,_,_,_,_,_,rfl,fun V9 l9=>(kx (Ib.le l9)).mono ?_⟩
  rintro r ie l10 rfl
  refine ⟨_,rfl,fun gV bI=>?_⟩
  have bd:=LY (a.1*b.2-a.2*b.1)
  rw [ar (by omega)]
  unfold aw.fF;rw [if_neg (by omega),if_neg (by omega)]
  show _=Value.int .i64 (-(a.1*b.2-a.2*b.1).num.sign)
  congr 1;omega
theorem A4 {V:View}{v:Value}{p:Rat×Rat}(h:RP V v p.1 p.2){k:Nat}(s1:Sz k p.1)(s2:Sz k p.2)(hk:k<=1099511627776):ab prog 57 #[v] V fun r V'=>RP V' r (-p.1) (-p.2):=by
 obtain ⟨_,_,_,_,_,_,_,_,_,_,_,_,rfl,hx,hy⟩:=h
 refine Av _ _ _ _ _ _ _ _ _ _ _ _ _ _ V _ fun V1 l1=>(iT (hx.le l1) s1 hk).mono ?_
 rintro r V2 l2 g
 have g0:=g
 obtain ⟨_,_,_,_,_,_,rfl⟩:=g.shape
 refine ⟨_,_,_,_,_,_,_,rfl,fun V3 l3=>(iT (hy.le (l1.trans (l2.trans l3))) s2 hk).mono ?_⟩
 rintro r V4 l4 g'
 have g0':=g'
 obtain ⟨_,_,_,_,_,_,rfl⟩:=g'.shape
 exact ⟨_,_,_,_,_,_,_,rfl,fun V5 l5=>⟨_,_,_,_,_,_,_,_,_,_,_,_,rfl,g0.le (l3.trans (l4.trans l5)),g0'.le l5⟩⟩
theorem ur {V:View}{v w:Value}{z y:Int}(ha:RI V v z)(hb:RI V w y)(hm:(ai z.natAbs).length+(ai y.natAbs).length<=1099511627776):ab prog 75 #[v,w] V fun r V'=>RI V' r (z*y):=by
 obtain ⟨_,_,_,rfl,h1⟩:=ha
 obtain ⟨_,_,_,rfl,h2⟩:=hb
 exact iG z y h1 h2 hm
def l_ (V:View)(v:Value)(l:L3):Prop:=RL V v l.1 l.2.1 l.2.2
theorem l_.le {V V':View}{v:Value}{l:L3}(h:l_ V v l)(e:V.Le V'):l_ V' v l:=RL.le h e
theorem fV {V:View}{v:Value}{l:L3}(h:l_ V v l):∃(b1:Bool)(p1:OA)(n1 c1:Nat)(b2:Bool)(p2:OA)(n2 c2:Nat)(b3:Bool)(p3:OA)(n3 c3:Nat),v=.agg #[.bool b1,.slice p1 n1 c1,.bool b2,.slice p2 n2 c2,.bool b3,.slice p3 n3 c3]:=by
 obtain ⟨_,_,_,_,_,_,_,_,_,e,-⟩:=h;exact ⟨_,_,_,_,_,_,_,_,_,_,_,_,e⟩
theorem Aa {V:View}{xs:List Value}{l:L3}(h:l_ V (.agg (List.toArray xs)) l):∀v∈xs,v.oneCell'=true:=by
 obtain ⟨_,_,_,_,_,_,_,_,_,_,_,_,e⟩:=fV h
 have e:=congrArg Array.toList (Value.agg.inj e)
 dsimp only at e
 subst e
 intro v hm
 simp only [List.mem_cons,List.not_mem_nil,or_false] at hm
 rcases hm with rfl|rfl|rfl|rfl|rfl|rfl<;>rfl
theorem SS {b:Bool}{p:OA}{n c:Nat}{b':Bool}{p':OA}{n' c':Nat}{b'':Bool}{p'':OA}{n'' c'':Nat}:∀v∈([.bool b,.slice p n c,.bool b',.slice p' n' c',.bool b'',.slice p'' n'' c'']:List Value),v.oneCell'=true:=by
 intro v hm
 simp only [List.mem_cons,List.not_mem_nil,or_false] at hm
 rcases hm with rfl|rfl|rfl|rfl|rfl|rfl<;>rfl
theorem jU:∀(t:Tr) {V:View} {p:OA},RW V p t->t.size<=1000000->ab prog 54 #[.pointer p] V fun r V'=>∃q n c,r=.slice q n c/\nV 6 l_ V' q n t.mq
 | .leaf i,V,p,h,hs=>by
  obtain ⟨s,e0,-⟩:=Jx h
  exact mZ p V _ ⟨s,s,_,e0,fun _ V1 l1=>⟨_,_,_,rfl,nV.nil⟩,(fun h=>nomatch h)⟩
 | .node ln a b,V,p,h,hs=>by
  have h0:=h
  obtain ⟨bb,i,b1,p1,n1,c1,b2,p2,n2,c2,b3,p3,n3,c3,pl,pr,rfl,hb,hl,ha,hbb⟩:=h
  have hat:∀j v,([.bool false,.bool i,.bool b1,.slice p1 n1 c1,.bool b2,.slice p2 n2 c2,.bool b3,.slice p3 n3 c3,.pointer pl,.pointer pr]:List Value)[j]?=some v->V.at ((⟨bb,0,none⟩:Addr).add j) v:=by
   intro j v hv;rw [add_zero'];exact cW (xs:=[_,_,_,_,_,_,_,_,_,_]) hb hv
  have ha2:∀j v,([.bool b1,.slice p1 n1 c1,.bool b2,.slice p2 n2 c2,.bool b3,.slice p3 n3 c3]:List Value)[j]?=some v->V.at (((⟨bb,0,none⟩:Addr).add 2).add j) v:=by
   intro j v hv
   rw [CK]
   refine hat (2+j) v ?_
   have hj:j<6:=(List.getElem?_eq_some_iff.1 hv).1
   match j,hj,hv with
   | 0,_,h=>exact h
   | 1,_,h=>exact h
   | 2,_,h=>exact h
   | 3,_,h=>exact h
   | 4,_,h=>exact h
   | 5,_,h=>exact h
  simp only [Tr.size] at hs
  have la:=lB a
  have lb:=lB b
  refine mZ _ V _ ⟨rfl,rfl,false,BS hb 0 rfl,(fun h=>nomatch h),fun _=>⟨rfl,rfl,_,_,_,_,_,_,_,_,_,_,_,_,(⟨bb,0,none⟩:Addr).add 2,rfl,ha2 0 _ rfl,ha2 1 _ rfl,ha2 2 _ rfl,ha2 3 _ rfl,ha2 4 _ rfl,ha2 5 _ rfl,rfl,rfl,pl,BS hb 8 rfl,rfl,rfl,pr,BS hb 9 rfl,fun V2 l2=>(jU a (ha.le l2) (by omega)).mono ?_⟩⟩
  rintro r V3 l3 ⟨q,n,c,rfl,g⟩
  obtain rfl:=g.len
  obtain ⟨xs,x1,x2,x3⟩:=yp g (by decide)
  have oc:∀v∈xs,v.oneCell'=true:=fun v hv=>by
   obtain ⟨m,hm,rfl⟩:=List.mem_iff_getElem.1 hv
   exact lJ x3 (by decide) (fun _ _=>Aa) (by omega) (List.getElem?_eq_getElem hm)
  have r1:Row 6 l_ V3 ([.bool b1,.slice p1 n1 c1,.bool b2,.slice p2 n2 c2,.bool b3,.slice p3 n3 c3]:List Value) [ln]:=row_one rfl (hl.le (l2.trans l3))
  refine ⟨_,_,_,rfl,xs,x1,x2,by omega,Nat.le_refl _,Nat.le_refl 6,x2,oc,fun bk J sp c' h1 h2 V4 l4=>(jU b (hbb.le (l2.trans (l3.trans l4))) (by omega)).mono ?_⟩
  rintro r V5 l5 ⟨q',n',c'',rfl,g'⟩
  obtain rfl:=g'.len
  obtain ⟨ys,y1,y2,y3⟩:=yp g' (by decide)
  have X2:∀v∈ys,v.oneCell'=true:=fun v hv=>by
   obtain ⟨m,hm,rfl⟩:=List.mem_iff_getElem.1 hv
   exact lJ y3 (by decide) (fun _ _=>Aa) (by omega) (List.getElem?_eq_getElem hm)
  have r2:=oS (sp:=sp) r1 x3 (by decide)
  have hl2:([ln]++a.mq).length=1+a.mq.length:=by simp;omega
  have r3:=oS (sp:=[]) (r2.le fun _ _ g=>l_.le g (l4.trans l5)) y3 (by decide)
  rw [hl2] at r3
  refine ⟨_,_,_,rfl,ys,y1,y2,by omega,h1,?_,y2,X2,fun bk2 J2 sp2 c3' h3 h4 V6 l6 Is hbk=>⟨_,_,_,rfl,?_⟩⟩
  ·simp only [List.length_append,List.length_take,List.length_cons,List.length_nil,x2]
   omega
  ·have r4:=oS (sp:=sp2) (r2.le fun _ _ g=>l_.le g (l4.trans l5)) y3 (by decide)
   rw [hl2] at r4
   have:=nV.zK hbk (r4.le fun _ _ g=>l_.le g l6)
   have hl3:([ln]++a.mq++b.mq).length=1+a.mq.length+b.mq.length:=by rw [List.length_append,hl2]
   rw [hl3] at this
   exact this
theorem wK {V:View}{v:Value}{l:L3}(h:l_ V v l):ab prog 108 #[v] V fun r V'=>∃w b,r=.tuple #[w,.bool b]/\l_ V' w (cJ l):=by
 have h0:=h
 obtain ⟨p1,n1,c1,p2,n2,c2,p3,n3,c3,rfl,h1,h2,h3⟩:=h
 have rev:∀(V3:View),V.Le V3->(l.1<0\/l.1=0/\l.2.1<0)->ab prog 158 #[.agg #[.bool (decide (l.1<0)),.slice p1 n1 c1,.bool (decide (l.2.1<0)),.slice p2 n2 c2,.bool (decide (l.2.2<0)),.slice p3 n3 c3]] V3 fun r V'=>l_ V' r (cJ l):=fun V3 l3 hc=>by
  refine (A5 (a:=l.1) (b:=l.2.1) (c:=l.2.2) (h0.le l3)).mono ?_
  rintro r V4 l4 g
  unfold cJ
  rw [if_pos hc]
  exact g
 refine vZ _ _ _ _ _ _ _ _ _ _ _ _ V _ fun V1 l1=>(lf l.1 (h1.le l1)).mono ?_
 rintro r V2 l2 rfl
 have L2:=l1.trans l2
 refine ⟨_,rfl,fun hc V3 l3=>(rev V3 (L2.trans l3) (.inl (Int.sign_neg_iff.1 (of_decide_eq_true hc)))).mono ?_,fun hc=>⟨fun h0' V6 l6=>(lf l.2.1 (h2.le (L2.trans l6))).mono ?_,fun hne lO cg=>?_⟩⟩
 ·rintro r V4 l4 g
  have g0:=g
  obtain ⟨_,_,_,_,_,_,_,_,_,_,_,_,rfl⟩:=fV g
  exact ⟨_,_,_,_,_,_,_,_,_,_,_,_,rfl,fun V5 l5=>⟨_,_,rfl,g0.le l5⟩⟩
 ·have hz:l.1=0:=Int.sign_eq_zero_iff_zero.1 (by simpa using h0')
  rintro r V7 l7 rfl
  have L7:=L2.trans (l6.trans l7)
  refine ⟨_,rfl,fun hd V8 l8=>(rev V8 (L7.trans l8) (.inr ⟨hz,Int.sign_neg_iff.1 (of_decide_eq_true hd)⟩)).mono ?_,fun hd gV bI=>⟨_,_,rfl,?_⟩⟩
  ·rintro r V9 l9 g
   have g0:=g
   obtain ⟨_,_,_,_,_,_,_,_,_,_,_,_,rfl⟩:=fV g
   exact ⟨_,_,_,_,_,_,_,_,_,_,_,_,rfl,fun ie l10=>⟨_,_,rfl,g0.le l10⟩⟩
  ·have hd:=of_decide_eq_false hd
   unfold cJ
   rw [if_neg fun h=>hd (Int.sign_neg_iff.2 (h.elim (fun h=>by omega) (·.2)))]
   exact h0.le (L7.trans bI)
 ·have hc:=of_decide_eq_false hc
  have hne:¬l.1=0:=fun e=>by rw [e] at hne;simp at hne
  refine ⟨_,_,rfl,?_⟩
  unfold cJ
  rw [if_neg fun h=>h.elim (fun h=>hc (Int.sign_neg_iff.2 h)) (fun h=>hne h.1)]
  exact h0.le (L2.trans cg)
theorem HF {V:View}{vs:List Value}{ls:List L3}(h:Row 6 l_ V vs ls){i:Nat}(hi:i<ls.length):∃b1 p1 n1 c1 b2 p2 n2 c2 b3 p3 n3 c3,i*6+6<=vs.length/\(vs.drop (i*6)).take 6=[Value.bool b1,.slice p1 n1 c1,.bool b2,.slice p2 n2 c2,.bool b3,.slice p3 n3 c3] /\
  l_ V (.agg #[.bool b1,.slice p1 n1 c1,.bool b2,.slice p2 n2 c2,.bool b3,.slice p3 n3 c3]) ls[i]:=by
 obtain ⟨xs,h1,h2,h3⟩:=h.at_ i hi
 have hl:=h.fu (by decide)
 have h20:=h2
 obtain ⟨_,_,_,_,_,_,_,_,_,_,_,_,e⟩:=fV h2
 have e:=congrArg Array.toList (Value.agg.inj e)
 dsimp only at e
 subst e
 refine ⟨_,_,_,_,_,_,_,_,_,_,_,_,by omega,?_,h20⟩
 apply List.ext_getElem?
 intro j
 rw [List.getElem?_take]
 split
 ·rename_i hj
  rw [List.getElem?_drop]
  exact h3 j _ (List.getElem?_eq_getElem (by show j<6;omega))▸(List.getElem?_eq_getElem (by show j<6;omega)).symm
 ·rename_i hj
  rw [List.getElem?_eq_none (by show 6<=j;omega)]
set_option maxHeartbeats 1000000 in
theorem qZ {V:View}{p:OA}{n c:Nat}{ls:List L3}(h:nV 6 l_ V p n ls)(hn:ls.length<100000000)(hs:∀l∈ls,Bd l) :
  ab prog 53 #[.slice p n c] V fun r V'=>∃q m e,r=.slice q m e/\nV 6 l_ V' q m (cD ls):=by
 obtain rfl:=h.len
 refine qH p _ c V _ ⟨fun z V'=>∃i:Nat,z.2.2.2=(i:Int)/\i<=ls.length/\GR 6 l_ V' z.1 z.2.1 z.2.2.1 (cD (ls.take i)),fun z=>ls.length-z.2.2.2.toNat,
  ⟨(0,0,[],0),by and_intros<;>rfl,0,rfl,Nat.zero_le _,GR.nil⟩,?_⟩
 rintro ⟨w1,w2,us,z4⟩ V1 l1 ⟨i,e4,Zy,hg⟩
 dsimp only at e4 hg
 subst e4
 have g1:=hg.len
 have fc:=hg.le
 have fv:=hg.cap
 have fx:=hg.row
 refine ⟨rfl,fun hlt=>?_,fun hlt me cp bk hb=>?_⟩
 rotate_left
 ·have hlt:¬(i:Int)<ls.length:=of_decide_eq_false hlt
  obtain rfl:i=ls.length:=by omega
  rw [List.take_length] at g1 fx
  subst g1
  exact ⟨_,_,_,rfl,nV.tL hb (fx.le fun _ _ g=>l_.le g cp) (by decide) fc⟩
 have hlt:(i:Int)<ls.length:=of_decide_eq_true hlt
 have hi:i<ls.length:=by omega
 have w:i64.wrap ((i:Int)+1)=((i+1:Nat):Int):=by rw [ar (by omega)];rfl
 dsimp only
 rw [Int.toNat_natCast,w]
 obtain ⟨ad,ha,xs,-,hf,hat⟩:=(h.le l1 fun _ _ g=>l_.le g l1).at_ i hi
 have hf0:=hf
 obtain ⟨_,_,_,_,_,_,_,_,_,_,_,_,ex⟩:=fV hf
 have ex:=congrArg Array.toList (Value.agg.inj ex)
 dsimp only at ex
 subst ex
 have U9:=C5 hi
 have hss:Bd (cJ ls[i]):=(hs _ (List.getElem_mem hi)).can
 have Zr:(cD (ls.take i)).length<100000000:=by
  have:=rl (ls.take i)
  rw [List.length_take] at this
  omega
 have U_:∀q∈cD (ls.take i),Bd q:=fun q hq=>by
  obtain ⟨y,hy,rfl⟩:=List.mem_map.1 ((fS _).2 q |>.1 hq)
  exact (hs y (List.mem_of_mem_take hy)).can
 clear hg
 generalize cD (ls.take i)=O at *
 refine ⟨Bv ha,⟨by omega,by omega⟩,_,_,_,_,_,_,_,_,_,_,_,_,ad,ha,hat 0 _ rfl,hat 1 _ rfl,hat 2 _ rfl,hat 3 _ rfl,hat 4 _ rfl,hat 5 _ rfl,fun V2 l2=>(wK (hf0.le l2)).mono ?_⟩
 generalize cJ ls[i]=x at *
 rintro r V3 l3 ⟨wv,bc,rfl,hq⟩
 have hq0:=hq
 obtain ⟨eb,ep,en,ec,fb,fp,fn,fe,gb,gp,gn,gc,rfl⟩:=fV hq
 refine ⟨_,_,_,_,_,_,_,_,_,_,_,_,_,rfl,fun z _=>∃j:Nat,z=(j:Int)/\j<=O.length/\∀(i':Nat)(h:i'<O.length),i'<j->oH O[i'] x<0,fun z=>O.length-z.toNat,⟨0,by and_intros<;>rfl,0,rfl,Nat.zero_le _,fun i' _ h=>absurd h (Nat.not_lt_zero i')⟩,?_⟩
 rintro z V4 l4 ⟨j,rfl,Vp,jl⟩
 have wj:i64.wrap ((j:Int)+1)=((j+1:Nat):Int):=by rw [ar (by omega)];rfl
 rw [Int.toNat_natCast,wj]
 have dz:=l2.trans (l3.trans l4)
 refine ⟨rfl,fun z _=>z=true↔∃h:j<O.length,oH O[j] x<0,⟨fun hlt=>?_,fun hlt=>⟨false,by and_intros<;>rfl,?_⟩⟩,?_⟩
 ·have hlt:(j:Int)<(w1:Int):=of_decide_eq_true hlt
  have hj:j<O.length:=by omega
  obtain ⟨b1,p1,n1,c1,b2,p2,n2,c2,b3,p3,n3,c3,fG,QX,hr⟩:=HF fx hj
  refine ⟨⟨by omega,by omega⟩,fc,b1,p1,n1,c1,b2,p2,n2,c2,b3,p3,n3,c3,⟨fG,QX⟩,fun V5 l5=>(rU (hr.le (dz.trans l5)) (hq0.le (l4.trans l5)) (U_ _ (List.getElem_mem hj)).HY hss.HY (by omega)).mono ?_⟩
  rintro r V6 l6 rfl
  exact ⟨_,rfl,_,by and_intros<;>rfl,by dsimp only;rw [decide_eq_true_eq];exact ⟨fun h=>⟨hj,h⟩,fun ⟨_,h⟩=>h⟩⟩
 ·have hlt:¬(j:Int)<(w1:Int):=of_decide_eq_false hlt
  exact ⟨(fun h=>nomatch h),fun ⟨h,_⟩=>absurd h (by omega)⟩
 rintro z V7 l7 Vo
 refine ⟨rfl,fun hz=>?_,fun hz=>?_⟩
 ·obtain ⟨hj,hx'⟩:=Vo.1 hz
  refine ⟨((j+1:Nat):Int),by dsimp only;omega,by and_intros<;>rfl,j+1,rfl,hj,fun i' h hi'=>?_⟩
  by_cases e:i'=j
  ·subst e;exact hx'
  ·exact jl i' h (by omega)
 have hge:∀h:j<O.length,¬oH O[j] x<0:=fun h h'=>by
  have:=Vo.2 ⟨h,h'⟩
  rw [hz] at this;cases this
 have hins:=I4 O j Vp jl hge
 have cP:=dz.trans l7
 refine ⟨fun z _=>z=true↔¬∃h:j<O.length,O[j]=x,⟨fun he=>⟨true,by and_intros<;>rfl,?_⟩,fun he=>?_⟩,?_⟩
 ·have he:(j:Int)=(w1:Int):=by simpa using he
  exact ⟨fun _ ⟨h,_⟩=>absurd h (by omega),fun _=>rfl⟩
 ·have he:¬(j:Int)=(w1:Int):=by simpa using he
  have hj:j<O.length:=by omega
  obtain ⟨b1,p1,n1,c1,b2,p2,n2,c2,b3,p3,n3,c3,fG,QX,hr⟩:=HF fx hj
  refine ⟨⟨by omega,by omega⟩,fc,b1,p1,n1,c1,b2,p2,n2,c2,b3,p3,n3,c3,⟨fG,QX⟩,fun V8 l8=>(rU (hr.le (cP.trans l8)) (hq0.le (l4.trans (l7.trans l8))) (U_ _ (List.getElem_mem hj)).HY hss.HY (by omega)).mono ?_⟩
  rintro r V9 l9 rfl
  exact ⟨_,rfl,_,by and_intros<;>rfl,by dsimp only;rw [bne_iff_ne,ne_eq,IF];exact ⟨fun h ⟨_,h'⟩=>h h',fun h h'=>h ⟨hj,h'⟩⟩⟩
 rintro z ie l10 N1
 have N9:=cP.trans l10
 refine ⟨rfl,fun hz gV bI bk hb J=>?_,fun hz=>?_⟩
 ·have hne:=N1.1 hz
  rw [if_neg hne] at hins
  have Zo:=fx.fu (by decide)
  have QZ:=fx.le (V':=gV) fun _ _ g=>l_.le g (N9.trans bI)
  have hq12:=hq0.le (l4.trans (l7.trans (l10.trans bI)))
  have t1:(us.take (j*6)).length=j*6:=by rw [List.length_take];omega
  have t2:((us.take (O.length*6)).drop (j*6)).length=(w1-j)*6:=by rw [List.length_drop,List.length_take,g1];omega
  have oc:∀v∈(us.take (O.length*6)).drop (j*6),v.oneCell'=true:=by
   intro v pD
   obtain ⟨m,hm,e⟩:=List.mem_iff_getElem.1 (List.mem_of_mem_drop pD)
   have hm':m<O.length*6:=by rw [List.length_take] at hm;omega
   have:=List.getElem?_eq_getElem hm
   rw [e,List.getElem?_take,if_pos hm'] at this
   exact lJ fx (by decide) (fun _ _=>Aa) hm' this
  have hmem:0<w2->us≠[]:=fun hw e=>by rw [e] at fv;simp at fv;omega
  have IZ:0<w2->mA bk w2=some ⟨bk,0,none⟩:=fun hw=>by unfold mA;rw [if_neg (by omega)]
  have at_:∀m v,m<O.length*6->us[m]?=some v->gV.at ⟨bk,m,none⟩ v:=fun m v hm pD=>cW (hb (hmem (by omega))) pD
  refine ⟨⟨by omega,by omega⟩,⟨by omega,by omega⟩,⟨by omega,by omega⟩,(us.take (O.length*6)).drop (j*6),?_,t2,by omega,Nat.le_refl _,Nat.le_refl 6,t2,oc,fun bk2 J2 sp c' h1 h2=>?_⟩
  ·intro m v hm
   have hml:=(List.getElem?_eq_some_iff.1 hm).1
   rw [t2] at hml
   rw [List.getElem?_drop,List.getElem?_take,if_pos (by omega)] at hm
   have:=at_ (j*6+m) v (by omega) hm
   refine ⟨⟨bk,j*6,none⟩,?_,?_⟩
   ·unfold mi
    rw [if_neg (by omega),IZ (by omega)]
    simp [ah,add_zero']
   ·rw [←add_zero',tW,add_zero'];exact this
  ·have hrl:([.bool eb,.slice ep en ec,.bool fb,.slice fp fn fe,.bool gb,.slice gp gn gc]++(us.take (O.length*6)).drop (j*6):List Value).length=(1+(w1-j))*6:=by
    rw [List.length_append,t2];simp only [List.length_cons,List.length_nil];omega
   have hrt:ct (([.bool eb,.slice ep en ec,.bool fb,.slice fp fn fe,.bool gb,.slice gp gn gc]:List Value).take (1*6)++(us.take (O.length*6)).drop (j*6)++sp) 0 ((1+(w1-j))*6)=[.bool eb,.slice ep en ec,.bool fb,.slice fp fn fe,.bool gb,.slice gp gn gc]++(us.take (O.length*6)).drop (j*6):=by
    have e3:(([.bool eb,.slice ep en ec,.bool fb,.slice fp fn fe,.bool gb,.slice gp gn gc]:List Value).take (1*6))=[.bool eb,.slice ep en ec,.bool fb,.slice fp fn fe,.bool gb,.slice gp gn gc]:=rfl
    rw [e3]
    unfold ct
    rw [Nat.ble_eq_true_of_le (by rw [List.length_append,hrl];omega),cond_true,List.drop_zero,List.take_append_of_le_length (by rw [hrl];exact Nat.le_refl _),List.take_of_length_le (by rw [hrl];exact Nat.le_refl _)]
   have hr3:(1+(w1-j))*6 / 6=1+(w1-j):=Nat.mul_div_cancel _ (by decide)
   rw [hrt,hrl,hr3]
   refine ⟨us.take (j*6),?_,t1,Nat.le_refl _,?_,by omega,by omega,rfl,?_,fun sp2 c2' h3 h4=>⟨(j+(1+(w1-j)),c2',_,((i+1:Nat):Int)),by dsimp only;omega,by and_intros<;>first|rfl|omega,i+1,rfl,hi,?_⟩⟩
   ·intro m v hm
    have hml:=(List.getElem?_eq_some_iff.1 hm).1
    rw [t1] at hml
    rw [List.getElem?_take,if_pos hml] at hm
    exact ⟨⟨bk,0,none⟩,IZ (by omega),by rw [add_zero'];exact at_ m v (by omega) hm⟩
   ·intro hN
    by_cases hw:0<w2
    ·rw [IZ hw] at hN;cases hN
    ·omega
   ·intro v pD
    rcases List.mem_append.1 pD with pD|pD
    ·exact SS v pD
    ·exact oc v pD
   ·show GR 6 l_ _ _ _ _ (cD (ls.take (i+1)))
    rw [U9,hins]
    refine ⟨?_,h3,?_,DC QZ Vp rfl hq12 (by decide)⟩
    ·show j+(1+(w1-j))=_
     rw [List.length_append,List.length_take,List.length_cons,List.length_drop]
     omega
    ·dsimp only
     rw [List.length_append,List.length_append,t1,hrl]
     omega
 ·have hex:∃h:j<O.length,O[j]=x:=Classical.byContradiction fun h=>by have:=N1.2 h;rw [hz] at this;cases this
  rw [if_pos hex] at hins
  refine ⟨(w1,w2,us,((i+1:Nat):Int)),by dsimp only;omega,by and_intros<;>rfl,i+1,rfl,hi,?_⟩
  show GR 6 l_ _ _ _ _ (cD (ls.take (i+1)))
  rw [U9,hins]
  exact ⟨g1,fc,fv,fx.le fun _ _ g=>l_.le g N9⟩
theorem nZ {V:View}{p:OA}{t:Tr}(h:RW V p t)(ha:t.lN FP)(hs:t.size<=1000000):ab prog 18 #[.pointer p] V fun r V'=>∃q n c,r=.slice q n c/\nV 6 l_ V' q n (cD t.mq):=by
 refine wg p V _ fun V1 l1=>(jU t (h.le l1) hs).mono ?_
 rintro r V2 l2 ⟨q,n,c,rfl,g⟩
 refine ⟨_,_,_,rfl,fun V3 l3=>(qZ (g.le l3 fun _ _ g=>l_.le g l3) (by rw [lB];omega) fun l hl=>(jG ha l hl).2).mono ?_⟩
 rintro r V4 l4 ⟨q',m,e,rfl,g'⟩
 exact ⟨_,_,_,rfl,fun V5 l5=>⟨_,_,_,rfl,g'.le l5 fun _ _ g=>l_.le g l5⟩⟩
theorem tJ {V:View}{p:OA}{n:Nat}{al:List L3}(h:nV 6 l_ V p n al){i:Nat}(hi:i<al.length) :
  p.isSome=true/\∃(b1:Bool)(p1:OA)(n1 c1:Nat)(b2:Bool)(p2:OA)(n2 c2:Nat)(b3:Bool)(p3:OA)(n3 c3:Nat)(a:Addr),ah p (i*6)=some a/\V.at (a.add 0) (.bool b1)/\V.at (a.add 1) (.slice p1 n1 c1)/\V.at (a.add 2) (.bool b2)/\V.at (a.add 3) (.slice p2 n2 c2)/\V.at (a.add 4) (.bool b3)/\V.at (a.add 5) (.slice p3 n3 c3) /\
   l_ V (.agg #[.bool b1,.slice p1 n1 c1,.bool b2,.slice p2 n2 c2,.bool b3,.slice p3 n3 c3]) al[i]:=by
 obtain ⟨ad,h0,xs,h1,h2,h3⟩:=h.at_ i hi
 have h20:=h2
 obtain ⟨_,_,_,_,_,_,_,_,_,_,_,_,e⟩:=fV h2
 have e:=congrArg Array.toList (Value.agg.inj e)
 dsimp only at e
 subst e
 refine ⟨?_,_,_,_,_,_,_,_,_,_,_,_,_,ad,h0,h3 0 _ rfl,h3 1 _ rfl,h3 2 _ rfl,h3 3 _ rfl,h3 4 _ rfl,h3 5 _ rfl,h20⟩
 cases p with
 | none=>cases h0
 | some a=>rfl
theorem JG {l m:L3}{k:Nat}(sl:yM k l)(sm:yM k m):Sz (20*k+20) (Qe l m)/\Sz (20*k+20) (Qf l m):=by
 unfold Qe Qf jV
 obtain ⟨a1,a2,a3⟩:=sl
 obtain ⟨b1,b2,b3⟩:=sm
 exact ⟨(Sz.mul ((a2.mul b3).sub (a3.mul b2)) (fX ((a1.mul b2).sub (a2.mul b1)))).mono (by omega),(Sz.mul ((a3.mul b1).sub (a1.mul b3)) (fX ((a1.mul b2).sub (a2.mul b1)))).mono (by omega)⟩
theorem uF {q:L3->Prop}(hq:∀l,q l->q (cJ l)){ls:List L3}(h:∀l∈ls,q l):∀l∈cD ls,q l:=fun l hl=>by
 obtain ⟨m,hm,rfl⟩:=List.mem_map.1 ((fS ls).2 l |>.1 hl)
 exact hq m (h m hm)
theorem LC {l:L3}(h:Nz l):Nz (cJ l):=by
 unfold cJ
 split
 ·unfold Nz qk at *
  intro ⟨a,b⟩
  exact h ⟨by simpa using a,by simpa using b⟩
 ·exact h
theorem zd {V:View}{tb:Nat}{lp:OA}{n c:Nat}{at_:Int}(hr:EI V lp n)(hn:n<=400)(hw:mc V tb lp n c at_)(hx:V.X tb)(h0:0<=at_){q:OA}{t:Tr}(h:RW V q t)(ha:t.lN FP)(hs:t.size<=1000) :
  ab prog 12 #[.pointer (some ⟨tb,0,none⟩),.pointer q] V fun r V'=>∃(p:Rat×Rat)(at':Int),RP V' r p.1 p.2/\Sz 60000 p.1/\Sz 60000 p.2/\0<=at'/\mc V' tb lp n c at':=by
 have hb:∀l∈cD t.mq,Bd l:=uF (fun _ h=>h.can) fun l hl=>(jG ha l hl).2
 have hz:∀l∈cD t.mq,Nz l:=uF (fun _ h=>LC h) fun l hl=>LG (jG ha l hl).1
 have hlen:(cD t.mq).length<=1000:=by have:=rl t.mq;rw [lB] at this;omega
 refine xk tb lp n c at_ q V _ hw hx fun V1 l1=>(nZ (h.le l1) ha (by omega)).mono ?_
 rintro r V2 l2 ⟨ps,m,e,rfl,hL⟩
 generalize cD t.mq=L at *
 have hm:=hL.len
 subst hm
 have wR:=l1.trans l2
 have any:∀{W W':View} {bk:Nat} {a:Int},V.Le W->0<=a->mc W bk lp n c a->W.H bk->ab prog 43 #[.pointer (some ⟨bk,0,none⟩)] (W.au [bk]) fun r V'=>∃(x y:Rat)(at':Int),RP V' r x y/\Sz 10 x/\Sz 10 y/\0<=at'/\mc V' bk lp n c at':=fun {W _ bk a} lw a0 hw hh=>
  Iz (V:=W.au [bk]) (hr.le fun b o h=>lw b o h) hn hw ⟨by simp,hh⟩ a0
 refine ⟨_,_,_,rfl,fun g V3 l3 bk e1 e2=>(any (W':=V) (wR.trans l3) h0 e1 e2).mono ?_,fun g V6 l6 bk e1 e2=>?_⟩
 ·rintro r V4 l4 ⟨x,y,at',hp,sx,sy,t0,hw'⟩
  have hp0:=hp
  obtain ⟨_,_,_,_,_,_,_,_,_,_,_,_,rfl,-⟩:=hp
  exact ⟨_,_,_,_,_,_,_,_,_,_,_,_,_,_,rfl,_,_,_,_,hw',fun V5 l5 e5=>⟨(x,y),at',hp0.le fun b o h=>l5 b o h,sx.mono (by omega),sy.mono (by omega),t0,e5⟩⟩
 have g:0<L.length:=by
  have g:¬((L.length:Nat):Int)=0:=by simpa using g
  omega
 refine (jS (V:=V6.au [bk]) (L.length:Int) (hr.le fun b o h=>l6 b o (wR b o h)) hn e1 ⟨by simp,e2⟩ h0 (by omega) (by omega)).mono ?_
 rintro r V7 l7 ⟨x,F1,rfl,x0,x1,t1,hw1⟩
 obtain ⟨i,rfl⟩:∃i:Nat,x=i:=⟨x.toNat,by omega⟩
 have hi:i<L.length:=by omega
 have kC:V2.Le V7.shut:=fun b o h=>l7 b o (l6 b o h)
 obtain ⟨is,b1,p1,n1,c1,b2,p2,n2,c2,b3,p3,n3,c3,a,had,a0,a1,a2,a3,a4,a5,hl1⟩:=tJ (hL.le kC fun _ _ g=>l_.le g kC) hi
 have sl1:=(hb _ (List.getElem_mem hi)).HY
 have X1:=hz _ (List.getElem_mem hi)
 generalize L[i]=A at *
 refine ⟨_,rfl,_,_,_,_,hw1,is,⟨by omega,by omega⟩,b1,p1,n1,c1,b2,p2,n2,c2,b3,p3,n3,c3,a,had,a0,a1,a2,a3,a4,a5,fun V8 l8 bk2 e3 e4=>(jS (V:=V8.au [bk2]) 3 (hr.le fun b o h=>l8 b o (kC b o (wR b o h))) hn e3 ⟨by simp,e4⟩ t1 (by omega) (by omega)).mono ?_⟩
 rintro r V9 l9 ⟨y,at2,rfl,y0,y1,t2,hw2⟩
 have rz:∀{W:View},V9.shut.Le W->V2.Le W:=fun l b o h=>l b o (l9 b o (l8 b o (kC b o h)))
 have Vw:∀{W:View},V9.shut.Le W->V7.shut.Le W:=fun l b o h=>l b o (l9 b o (l8 b o h))
 refine ⟨_,rfl,_,_,_,_,hw2,fun g1 ie l10 Is e5 e6=>(jS (V:=ie.au [Is]) (L.length:Int) (hr.le fun b o h=>rz l10 b o (wR b o h)) hn e5 ⟨by simp,e6⟩ t2 (by omega) (by omega)).mono ?_,fun g1=>⟨fun g2 pH df Is e5 e6=>(QU (V:=pH.au [Is]) (hr.le fun b o h=>rz df b o (wR b o h)) hn e5 ⟨by simp,e6⟩ t2).mono ?_,fun g2 tD fa Is e5 e6=>(any (W':=V) (wR.trans (rz fa)) t2 e5 e6).mono ?_⟩⟩
 ·rintro r gV bI ⟨z,at3,rfl,z0,z1,t3,hw3⟩
  obtain ⟨j,rfl⟩:∃j:Nat,z=j:=⟨z.toNat,by omega⟩
  have hj:j<L.length:=by omega
  have Lt:V2.Le gV.shut:=fun b o h=>bI b o (rz l10 b o h)
  obtain ⟨is,b1',SW,n1',c1',b2',SX,SN,c2',b3',SY,SO,c3',a',RU,a0',a1',PV,a3',a4',WK,hl2⟩:=tJ (hL.le Lt fun _ _ g=>l_.le g Lt) hj
  have sl2:=(hb _ (List.getElem_mem hj)).HY
  generalize L[j]=B at *
  have SJ:V7.shut.Le gV.shut:=fun b o h=>bI b o (Vw l10 b o h)
  refine ⟨_,rfl,_,_,_,_,hw3,is,⟨by omega,by omega⟩,b1',SW,n1',c1',b2',SX,SN,c2',b3',SY,SO,c3',a',RU,a0',a1',PV,a3',a4',WK,fun lO cg=>(LP (hl1.le (SJ.trans cg)) (hl2.le cg) sl1 sl2 (by omega)).mono ?_⟩
  rintro r me cp ⟨u,rfl,q0,q1⟩
  obtain ⟨s1,s2⟩:=JG sl1 sl2
  by_cases hc:jV A B=0
  ·have:=q0 hc
   unfold JT at this
   subst this
   refine ⟨_,_,_,_,_,_,_,_,_,_,_,_,_,_,_,rfl,fun h=>by simp [hc] at h,fun _ nh dm KT e7 e8=>(any (W':=V) (wR.trans (Lt.trans (cg.trans (cp.trans dm)))) t3 e7 e8).mono ?_⟩
   rintro r mr cS ⟨x,y,at',hp,sx,sy,t0,hw'⟩
   have hp0:=hp
   obtain ⟨_,_,_,_,_,_,_,_,_,_,_,_,rfl,-⟩:=hp
   exact ⟨_,_,_,_,_,_,_,_,_,_,_,_,_,_,rfl,_,_,_,_,hw',fun V5 l5 e5=>⟨(x,y),at',hp0.le fun b o h=>l5 b o h,sx.mono (by omega),sy.mono (by omega),t0,e5⟩⟩
  ·have hp:=q1 hc
   have hp0:=hp
   obtain ⟨_,_,_,_,_,_,_,_,_,_,_,_,rfl,-⟩:=hp
   refine ⟨_,_,_,_,_,_,_,_,_,_,_,_,_,_,_,rfl,fun _ pC dz e7=>⟨(Qe A B,Qf A B),at3,hp0.le dz,s1.mono (by omega),s2.mono (by omega),t3,e7⟩,fun h=>by simp [hc] at h⟩
 ·rintro r rP dA ⟨qq,at3,hq,sq,t3,hw3⟩
  have hq0:=hq
  obtain ⟨_,_,_,_,_,_,rfl⟩:=hq.shape
  refine ⟨_,_,_,_,_,_,_,rfl,_,_,_,_,hw3,fun yN gZ=>(Tp (hl1.le fun b o h=>gZ b o (dA b o (Vw df b o h))) (hq0.le fun b o h=>gZ b o h) X1 sl1 (sq.mono (by omega)) (by omega)).mono ?_⟩
  rintro r sJ eo hp
  have hp0:=hp
  obtain ⟨_,_,_,_,_,_,_,_,_,_,_,_,rfl,-⟩:=hp
  exact ⟨_,_,_,_,_,_,_,_,_,_,_,_,_,_,rfl,fun wB jE e7=>⟨(KP A qq,KQ A qq),at3,hp0.le jE,(Mb sl1 (sq.mono (by omega))).mono (by omega),(Mc sl1 (sq.mono (by omega))).mono (by omega),t3,e7⟩⟩
 ·rintro r CD oe ⟨x,y,at',hp,sx,sy,t0,hw'⟩
  have hp0:=hp
  obtain ⟨_,_,_,_,_,_,_,_,_,_,_,_,rfl,-⟩:=hp
  exact ⟨_,_,_,_,_,_,_,_,_,_,_,_,_,_,rfl,_,_,_,_,hw',fun V5 l5 e5=>⟨(x,y),at',hp0.le fun b o h=>l5 b o h,sx.mono (by omega),sy.mono (by omega),t0,e5⟩⟩
theorem IU {p:Rat×Rat}(h:aw.nz p):aw.half p≠0:=by
 rcases aw.bH p with ⟨e,-⟩|⟨e,-⟩|⟨-,e1,e2⟩
 ·omega
 ·omega
 ·unfold aw.nz at h
  rcases h with h|h
  ·exact absurd e1 h
  ·exact absurd e2 h
theorem zO {z:Int}{q:Rat}{d G:Nat}(hd:q*(((d:Nat):Int):Rat)=(z:Rat))(hG:G∣z.natAbs)(h0:0<G):(((z / (G:Int):Int)):Rat)=((((d:Nat):Int):Rat)*((((G:Nat):Int):Rat))⁻¹)*q:=by
 have hg:(((G:Nat):Int):Rat)≠0:=by exact_mod_cast (by omega:(G:Int)≠0)
 have e1:(z / (G:Int))*(G:Int)=z:=Int.ediv_mul_cancel (Int.ofNat_dvd_left.2 hG)
 have e2:(((z / (G:Int):Int)):Rat)*(((G:Nat):Int):Rat)=(z:Rat):=by exact_mod_cast e1
 have e3:=aw.inv_mul hg (((z / (G:Int):Int)):Rat)
 have e4:(((z / (G:Int):Int)):Rat)*(((G:Nat):Int):Rat)*((((G:Nat):Int):Rat))⁻¹=(((z / (G:Int):Int)):Rat):=by grind
 rw [←e4,e2,←hd]
 grind
theorem jA {V:View}{v:Value}{p:Rat×Rat}(h:RP V v p.1 p.2)(hn:aw.nz p){k:Nat}(s1:Sz k p.1)(s2:Sz k p.2)(hk0:0<k)(hk:4*k+4<274877906944) :
  ab prog 63 #[v] V fun r V'=>∃c:Rat,c>0/\RP V' r (c*p.1) (c*p.2)/\Sz (k+k) (c*p.1)/\Sz (k+k) (c*p.2):=by
 have h0:=h
 obtain ⟨_,_,_,_,_,_,_,_,_,_,_,_,rfl,hx,hy⟩:=h
 refine pA _ _ _ _ _ _ _ _ _ _ _ _ _ _ V _ fun V1 l1=>(lh (h0.le l1)).mono ?_
 rintro r V2 l2 rfl
 have wR:=l1.trans l2
 refine ⟨_,rfl,fun e=>absurd (by simpa using e) (IU hn),fun _ V4 l4=>(bZ p.2 _ (RQ.den (hy.le (wR.trans l4)))).mono ?_⟩
 rintro r V5 l5 ⟨d1,d2,d3,rfl,gd⟩
 refine ⟨_,_,_,rfl,fun V6 l6=>(cB false (gd.le l6)).mono ?_⟩
 rintro r V7 l7 gm
 rw [if_neg (by decide)] at gm
 have W9:=gm
 obtain ⟨_,_,_,rfl,-⟩:=gm
 have FN:=wR.trans (l4.trans (l5.trans (l6.trans l7)))
 have n1:=af s1.1
 have n2:=af s2.1
 have m1:=af s1.2
 have m2:=af s2.2
 refine ⟨_,_,_,_,rfl,fun V8 l8=>(ur (RQ.int (hx.le (FN.trans l8))) (W9.le l8) (by rw [Int.natAbs_natCast];omega)).mono ?_⟩
 rintro r V9 l9 gx
 have Rk:=gx
 obtain ⟨_,_,_,rfl,-⟩:=gx
 have N5:=FN.trans (l8.trans l9)
 refine ⟨_,_,_,_,rfl,fun ie l10=>(bZ p.1 _ (RQ.den (hx.le (N5.trans l10)))).mono ?_⟩
 rintro r gV bI ⟨f1,f2,f3,rfl,gf⟩
 refine ⟨_,_,_,rfl,fun lO cg=>(cB false (gf.le cg)).mono ?_⟩
 rintro r me cp gn
 rw [if_neg (by decide)] at gn
 have Rh:=gn
 obtain ⟨_,_,_,rfl,-⟩:=gn
 have Oi:=l10.trans (bI.trans (cg.trans cp))
 refine ⟨_,_,_,_,rfl,fun pC dz=>(ur (RQ.int (hy.le (N5.trans (Oi.trans dz)))) (Rh.le dz) (by rw [Int.natAbs_natCast];omega)).mono ?_⟩
 rintro r nh dm gy
 have Xe:=gy
 obtain ⟨_,_,_,rfl,-⟩:=gy
 have Oj:=Oi.trans (dz.trans dm)
 have ex:=sk p.1 p.2.den
 have ey:=sk p.2 p.1.den
 have bx:(p.1.num*(p.2.den:Int)).natAbs<2^(k+k):=by rw [Int.natAbs_mul,Int.natAbs_natCast];exact bB s1.1 s2.2
 have KU:(p.2.num*(p.1.den:Int)).natAbs<2^(k+k):=by rw [Int.natAbs_mul,Int.natAbs_natCast];exact bB s2.1 s1.2
 have hne:(p.1.num*(p.2.den:Int)).natAbs≠0\/(p.2.num*(p.1.den:Int)).natAbs≠0:=by
  unfold aw.nz at hn
  rcases hn with hn|hn
  ·left
   rw [Int.natAbs_mul,Int.natAbs_natCast]
   exact Nat.mul_ne_zero (fun e=>hn (Rat.num_eq_zero.1 (by omega))) p.2.den_nz
  ·right
   rw [Int.natAbs_mul,Int.natAbs_natCast]
   exact Nat.mul_ne_zero (fun e=>hn (Rat.num_eq_zero.1 (by omega))) p.1.den_nz
 rw [Nat.mul_comm p.2.den p.1.den] at ey
 generalize p.1.num*(p.2.den:Int)=X at *
 generalize p.2.num*(p.1.den:Int)=Y at *
 have hD:0<p.1.den*p.2.den:=Nat.pos_of_ne_zero (Nat.mul_ne_zero p.1.den_nz p.2.den_nz)
 generalize p.1.den*p.2.den=D at *
 obtain ⟨ix,rx⟩:=Rk.inv
 obtain ⟨iy,ry⟩:=Xe.inv
 have nx:=af bx
 have ny:=af KU
 refine ⟨_,_,_,_,rfl,fun mr cS=>(ig (rx.le (Oj.trans cS)) (ry.le cS) (by omega) (by omega)).mono ?_⟩
 rintro r nN cP ⟨g1,g2,g3,rfl,gg⟩
 have dx:Nat.gcd X.natAbs Y.natAbs∣X.natAbs:=Nat.gcd_dvd_left _ _
 have dy:Nat.gcd X.natAbs Y.natAbs∣Y.natAbs:=Nat.gcd_dvd_right _ _
 have G0:0<Nat.gcd X.natAbs Y.natAbs:=Nat.pos_of_ne_zero fun e=>by
  rw [Nat.gcd_eq_zero_iff] at e
  rcases hne with h|h
  ·exact h e.1
  ·exact h e.2
 have Gl:(ai (Nat.gcd X.natAbs Y.natAbs)).length<=k+k:=by
  apply af
  rcases hne with h|h
  ·exact Nat.lt_of_le_of_lt (Nat.le_of_dvd (by omega) dx) bx
  ·exact Nat.lt_of_le_of_lt (Nat.le_of_dvd (by omega) dy) KU
 have sx:=mE G0 dx
 have sy:=mE G0 dy
 generalize Nat.gcd X.natAbs Y.natAbs=G at *
 have SK:=Oj.trans (cS.trans cP)
 refine ⟨_,_,_,rfl,fun pH df=>(cI (rx.le (SK.trans df)) (gg.le df) (by omega) (by omega) G0).mono ?_⟩
 rintro r rP dA ⟨_,_,_,_,_,_,rfl,W_,-⟩
 refine ⟨_,_,_,_,_,_,rfl,fun yN gZ=>(cI (ry.le (cS.trans (cP.trans (df.trans (dA.trans gZ))))) (gg.le (df.trans (dA.trans gZ))) (by omega) (by omega) G0).mono ?_⟩
 rintro r sJ eo ⟨_,_,_,_,_,_,rfl,Rg,-⟩
 refine ⟨_,_,_,_,_,_,rfl,fun wB jE=>(cB _ (W_.le (gZ.trans (eo.trans jE)))).mono ?_⟩
 rw [ix,sx]
 rintro r tD fa gA
 have UL:=gA
 obtain ⟨_,_,_,rfl,ra⟩:=gA
 refine ⟨_,_,_,_,rfl,fun CD oe=>(cB _ (Rg.le (jE.trans (fa.trans oe)))).mono ?_⟩
 rw [iy,sy]
 rintro r D3 gE gB
 obtain ⟨_,_,_,rfl,rb⟩:=gB
 refine ⟨_,_,_,_,rfl,fun FR oN=>⟨(((D:Nat):Int):Rat)*((((G:Nat):Int):Rat))⁻¹,?_,?_,?_,?_⟩⟩
 ·refine aw.mp (by exact_mod_cast hD) (Rat.inv_pos.2 (by exact_mod_cast G0))
 ·rw [←zO ex dx G0,←zO ey dy G0]
  exact ⟨_,_,_,_,_,_,_,_,_,_,_,_,rfl,lT (z:=X / (G:Int)) (d:=1) rfl rfl (ra.le (oe.trans (gE.trans oN))) RD.nil rfl,lT (z:=Y / (G:Int)) (d:=1) rfl rfl (rb.le oN) RD.nil rfl⟩
 ·rw [←zO ex dx G0]
  exact rG (Nat.lt_of_le_of_lt (Int.natAbs_ediv_le_natAbs ..) bx) (by omega)
 ·rw [←zO ey dy G0]
  exact rG (Nat.lt_of_le_of_lt (Int.natAbs_ediv_le_natAbs ..) KU) (by omega)
def tR (k:Nat)(V:View)(v:Value)(c:Rat×Rat):Prop:=RP V v c.1 c.2/\Sz k c.1/\Sz k c.2
theorem tR.le {k:Nat}{V V':View}{v:Value}{c:Rat×Rat}(h:tR k V v c)(l:V.Le V'):tR k V' v c:=⟨h.1.le l,h.2⟩
theorem tR.mono {k m:Nat}{V:View}{v:Value}{c:Rat×Rat}(h:tR k V v c)(l:k<=m):tR m V v c:=⟨h.1,h.2.1.mono l,h.2.2.mono l⟩
theorem Er {a:Bool}{p:OA}{n c:Nat}{p':OA}{n' c':Nat}{b:Bool}{q:OA}{m d:Nat}{q':OA}{m' d':Nat}:∀v∈([.bool a,.slice p n c,.slice p' n' c',.bool b,.slice q m d,.slice q' m' d']:List Value),v.oneCell'=true:=by
 intro v hm
 simp only [List.mem_cons,List.not_mem_nil,or_false] at hm
 rcases hm with rfl|rfl|rfl|rfl|rfl|rfl<;>rfl
theorem LI {a:Bool}{p:OA}{n c:Nat}{p':OA}{n' c':Nat}{b:Bool}{q:OA}{m d:Nat}{q':OA}{m' d':Nat}{e:Bool}{r:OA}{o f:Nat}{r':OA}{o' f':Nat}{g:Bool}{s:OA}{k h:Nat}{s':OA}{k' h':Nat} :
  ∀v∈([.bool a,.slice p n c,.slice p' n' c',.bool b,.slice q m d,.slice q' m' d',.bool e,.slice r o f,.slice r' o' f',.bool g,.slice s k h,.slice s' k' h']:List Value),v.oneCell'=true:=by
 intro v hm
 have:v∈([.bool a,.slice p n c,.slice p' n' c',.bool b,.slice q m d,.slice q' m' d']:List Value)++[.bool e,.slice r o f,.slice r' o' f',.bool g,.slice s k h,.slice s' k' h']:=hm
 rcases List.mem_append.1 this with h|h
 ·exact Er v h
 ·exact Er v h
theorem tN {k:Nat}{V:View}{vs:List Value}{al:List (Rat×Rat)}(h:Row 6 (tR k) V vs al){i:Nat}(hi:i<al.length) :
  ∃(b1:Bool)(p1:OA)(n1 c1:Nat)(p2:OA)(n2 c2:Nat)(b2:Bool)(p3:OA)(n3 c3:Nat)(p4:OA)(n4 c4:Nat),(i*6+6<=vs.length/\(vs.drop (i*6)).take 6=[.bool b1,.slice p1 n1 c1,.slice p2 n2 c2,.bool b2,.slice p3 n3 c3,.slice p4 n4 c4]) /\
   tR k V (.agg #[.bool b1,.slice p1 n1 c1,.slice p2 n2 c2,.bool b2,.slice p3 n3 c3,.slice p4 n4 c4]) (al.getD i bq):=by
 obtain ⟨xs,-,h2,h3,h4⟩:=h.get (d:=bq) hi (by decide)
 have h20:=h2
 obtain ⟨⟨_,_,_,_,_,_,_,_,_,_,_,_,e,-⟩,-⟩:=h2
 have e:=congrArg Array.toList (Value.agg.inj e)
 dsimp only at e
 subst e
 exact ⟨_,_,_,_,_,_,_,_,_,_,_,_,_,_,⟨h3,h4⟩,h20⟩
theorem Je {k:Nat}{V:View}{p:OA}{n:Nat}{al:List (Rat×Rat)}(h:nV 6 (tR k) V p n al){i:Nat}(hi:i<al.length) :
  p.isSome=true/\∃(b1:Bool)(p1:OA)(n1 c1:Nat)(p2:OA)(n2 c2:Nat)(b2:Bool)(p3:OA)(n3 c3:Nat)(p4:OA)(n4 c4:Nat)(a:Addr),ah p (i*6)=some a/\V.at (a.add 0) (.bool b1)/\V.at (a.add 1) (.slice p1 n1 c1)/\V.at (a.add 2) (.slice p2 n2 c2)/\V.at (a.add 3) (.bool b2)/\V.at (a.add 4) (.slice p3 n3 c3)/\V.at (a.add 5) (.slice p4 n4 c4) /\
   tR k V (.agg #[.bool b1,.slice p1 n1 c1,.slice p2 n2 c2,.bool b2,.slice p3 n3 c3,.slice p4 n4 c4]) al[i]:=by
 obtain ⟨ad,h0,xs,h1,h2,h3⟩:=h.at_ i hi
 have h20:=h2
 obtain ⟨⟨_,_,_,_,_,_,_,_,_,_,_,_,e,-⟩,-⟩:=h2
 have e:=congrArg Array.toList (Value.agg.inj e)
 dsimp only at e
 subst e
 refine ⟨?_,_,_,_,_,_,_,_,_,_,_,_,_,_,_,ad,h0,h3 0 _ rfl,h3 1 _ rfl,h3 2 _ rfl,h3 3 _ rfl,h3 4 _ rfl,h3 5 _ rfl,h20⟩
 cases p with
 | none=>cases h0
 | some a=>rfl
theorem HG {V:View}{b1:Bool}{p1:OA}{n1 c1:Nat}{p2:OA}{n2 c2:Nat}{b2:Bool}{p3:OA}{n3 c3:Nat}{p4:OA}{n4 c4:Nat}{x y:Rat}(h:RP V (.agg #[.bool b1,.slice p1 n1 c1,.slice p2 n2 c2,.bool b2,.slice p3 n3 c3,.slice p4 n4 c4]) x y) :
  RQ V (.agg #[.bool b1,.slice p1 n1 c1,.slice p2 n2 c2]) x/\RQ V (.agg #[.bool b2,.slice p3 n3 c3,.slice p4 n4 c4]) y:=by
 obtain ⟨_,_,_,_,_,_,_,_,_,_,_,_,e,h1,h2⟩:=h
 cases e
 exact ⟨h1,h2⟩
theorem Pa {V:View}{b1:Bool}{p1:OA}{n1 c1:Nat}{p2:OA}{n2 c2:Nat}{b2:Bool}{p3:OA}{n3 c3:Nat}{p4:OA}{n4 c4:Nat}{x y:Rat}(h1:RQ V (.agg #[.bool b1,.slice p1 n1 c1,.slice p2 n2 c2]) x)(h2:RQ V (.agg #[.bool b2,.slice p3 n3 c3,.slice p4 n4 c4]) y) :
  RP V (.agg #[.bool b1,.slice p1 n1 c1,.slice p2 n2 c2,.bool b2,.slice p3 n3 c3,.slice p4 n4 c4]) x y:=by
 have h10:=h1
 have h20:=h2
 obtain ⟨_,_,_,_,_,_,e,-⟩:=h1
 cases e
 obtain ⟨_,_,_,_,_,_,e,-⟩:=h2
 cases e
 exact ⟨_,_,_,_,_,_,_,_,_,_,_,_,rfl,h10,h20⟩
theorem sM {V:View}{lp:OA}{ln lc:Nat}{ls:List L3}{pv:Value}{p:Rat×Rat}(h:nV 6 l_ V lp ln ls)(hb:∀l∈ls,Bd l)(hk:∀l∈ls,kk l=true/\cJ l=l)(hnd:ls.Nodup)(hl:ls.length<=1000)(hp:RP V pv p.1 p.2)(s1:Sz 100000 p.1)(s2:Sz 100000 p.2) :
  ab prog 19 #[.slice lp ln lc,pv,.bool false] V fun r V'=>∃q n c E S,r=.slice q n c/\aw.AD E/\aw.EJ E S/\E.Perm (eQ p ls)/\S.length<=2001/\nV 6 (tR 6000) V' q n S:=by
 have hn:=h.len
 subst hn
 have hp0:=hp
 obtain ⟨_,_,_,_,_,_,_,_,_,_,_,_,rfl,-⟩:=hp
 have dl:=x_ p ls
 refine rN lp ls.length lc _ _ _ _ _ _ _ _ _ _ _ _ _ _ V _ ⟨fun z V'=>∃i:Nat,z.2.2.2=(i:Int)/\i<=ls.length/\GR 6 (tR 1000) V' z.1 z.2.1 z.2.2.1 (eQ p (ls.take i)),fun z=>(ls.length-z.2.2.2).toNat,⟨(0,0,[],0),by and_intros<;>first|rfl|trivial,0,rfl,Nat.zero_le _,GR.nil⟩,?_⟩
 rintro ⟨n1,c1,vs1,z⟩ V1 l1 ⟨i,e,hi,g⟩
 dsimp only at e g ⊢
 subst e
 refine ⟨rfl,fun hlt=>?_,fun hlt=>?_⟩
 ·have hlt:i<ls.length:=by have:=of_decide_eq_true hlt;omega
  have w1:i64.wrap ((i:Int)+1)=((i+1:Nat):Int):=by rw [ar (by omega)];rfl
  rw [w1]
  simp only [Int.toNat_natCast]
  obtain ⟨is,b1,p1,n1',c1',b2,p2,n2,c2,b3,p3,n3,c3,a,had,a0,a1,a2,a3,a4,a5,hl1⟩:=tJ (h.le l1 fun _ _ g=>l_.le g l1) hlt
  have sl:=(hb _ (List.getElem_mem hlt)).HY
  have et:=C4 (p:=p) hlt
  unfold uD at et
  have gl:=g.len
  have W8:n1<=2*ls.length:=by rw [gl];have:=x_ p (ls.take i);rw [List.length_take] at this;omega
  generalize ls[i]=A at *
  refine ⟨is,⟨by omega,by omega⟩,b1,p1,n1',c1',b2,p2,n2,c2,b3,p3,n3,c3,a,had,a0,a1,a2,a3,a4,a5,fun V2 l2=>(Hy (x:=p.1) (y:=p.2) (hl1.le l2) (hp0.le (l1.trans l2)) ⟨sl.1.mono (Nat.le_trans (by omega) (Nat.le_refl 100000)),sl.2.1.mono (by omega),sl.2.2.mono (by omega)⟩ s1 s2 (by omega)).mono ?_⟩
  rintro r V3 l3 rfl
  refine ⟨_,rfl,fun e0 V4 l4=>(jz (hl1.le (l2.trans (l3.trans l4))) sl.1 sl.2.1 sl.2.2 (by omega)).mono ?_,fun e0=>⟨(n1,c1,vs1,((i+1:Nat):Int)),by dsimp only;omega,by and_intros<;>first|rfl|trivial,i+1,rfl,by omega,?_⟩⟩
  ·have e0:aT A p.1 p.2=0:=aw.cu.1 (by simpa using e0)
   rw [if_pos e0] at et
   rintro r V5 l5 gd
   have Ns:=gd
   obtain ⟨_,_,_,_,_,_,_,_,_,_,_,_,rfl,-⟩:=gd
   refine ⟨_,_,_,_,_,_,_,_,_,_,_,_,_,_,rfl,fun V6 l6=>(jz (hl1.le (l2.trans (l3.trans (l4.trans (l5.trans l6))))) sl.1 sl.2.1 sl.2.2 (by omega)).mono ?_⟩
   rintro r V7 l7 ge
   have PZ:RP V7 r (aw.cF A).1 (aw.cF A).2:=ge
   obtain ⟨_,_,_,_,_,_,_,_,_,_,_,_,rfl,-⟩:=ge
   refine ⟨_,_,_,_,_,_,_,_,_,_,_,_,_,_,rfl,fun V8 l8=>(A4 (p:=aw.cF A) (PZ.le l8) sl.2.1 sl.1.neg (by omega)).mono ?_⟩
   rintro r V9 l9 gf
   have Rf:=gf
   obtain ⟨_,_,_,_,_,_,_,_,_,_,_,_,rfl,-⟩:=gf
   refine ⟨_,_,_,_,_,_,_,_,_,_,_,_,_,_,rfl,by omega,g.le,g.cap,rfl,LI,fun sp c' g1 g2=>⟨(n1+2,c',_,((i+1:Nat):Int)),by dsimp only;omega,by and_intros<;>first|rfl|trivial,i+1,rfl,by omega,?_⟩⟩
   rw [et]
   exact (g.mono fun _ _ g=>tR.le g (l2.trans (l3.trans (l4.trans (l5.trans (l6.trans (l7.trans (l8.trans l9)))))))).Kx (xs:=[_,_,_,_,_,_]) (ys:=[_,_,_,_,_,_]) rfl rfl ⟨Ns.le (l6.trans (l7.trans (l8.trans l9))),sl.2.1,sl.1.neg⟩ ⟨Rf,sl.2.1.neg,sl.1.neg.neg⟩ (by decide) g1 g2
  ·have e0:¬aT A p.1 p.2=0:=fun h=>by rw [aw.cu.2 h] at e0;cases e0
   rw [if_neg e0,List.append_nil] at et
   rw [et]
   exact g.mono fun _ _ g=>tR.le g (l2.trans l3)
 have hlt:i=ls.length:=by have:=of_decide_eq_false hlt;omega
 subst hlt
 rw [List.take_length] at g
 have g1:=g.len
 have J3:=g.le
 have gr:=g.row
 clear g
 generalize eL:eQ p ls=L at *
 subst g1
 refine ⟨fun z V'=>∃(i:Nat)(m:List (Rat×Rat)),z.1=(i:Int)/\i<=L.length/\Row 6 (tR 1000) V' z.2 m/\h_ bq L m 0 L.length/\pG dv bq m 0 i,fun z=>(L.length-z.1).toNat,⟨(0,vs1),by and_intros<;>first|rfl|trivial,0,L,rfl,Nat.zero_le _,gr,.refl _ _ _,.short (by omega)⟩,?_⟩
 rintro ⟨z,us⟩ ie l10 ⟨i,m,e,hi,hm,sg,AE⟩
 dsimp only at e hm ⊢
 subst e
 have ml:=sg.len
 refine ⟨rfl,fun hlt=>?_,fun hlt=>?_⟩
 ·have hlt:i<L.length:=by have:=of_decide_eq_true hlt;omega
  have w2:i64.wrap ((i:Int)+1)=((i+1:Nat):Int):=by rw [ar (by omega)];rfl
  rw [w2]
  refine ⟨fun z V'=>∃(j:Nat)(k:List (Rat×Rat)),z.1=(j:Int)/\j<=i/\Row 6 (tR 1000) V' z.2 k/\h_ bq L k 0 L.length/\Ih dv bq k 0 i j,fun z=>z.1.toNat,⟨((i:Int),us),by and_intros<;>first|rfl|trivial,i,m,rfl,Nat.le_refl _,hm,sg,.start AE⟩,?_⟩
  rintro ⟨z,ws⟩ gV bI ⟨j,k,e,hji,hk1,sg,ins⟩
  dsimp only at e hk1 ⊢
  subst e
  have kl:=sg.len
  refine ⟨rfl,fun hj=>?_,fun hj=>⟨(((i+1:Nat):Int),ws),by dsimp only;omega,by and_intros<;>first|rfl|trivial,i+1,k,rfl,by omega,hk1,sg,ins.done fJ hji (.inl (by have:=of_decide_eq_false hj;omega))⟩⟩
  have hj:0<j:=by have:=of_decide_eq_true hj;omega
  have w1:i64.wrap ((j:Int)-1)=((j-1:Nat):Int):=by rw [ar (by omega)];omega
  rw [w1,Int.toNat_natCast,Int.toNat_natCast]
  obtain ⟨x1,x2,x3,x4,x5,x6,x7,x8,x9,x10,Mh,Mi,Mj,Mk,g1,r1⟩:=tN hk1 (i:=j-1) (by omega)
  obtain ⟨y1,y2,y3,y4,y5,y6,y7,y8,y9,MK,ML,MM,y13,MN,g2,r2⟩:=tN hk1 (i:=j) (by omega)
  refine ⟨⟨by omega,by omega⟩,J3,x1,x2,x3,x4,x5,x6,x7,x8,x9,x10,Mh,Mi,Mj,Mk,g1,⟨by omega,by omega⟩,J3,y1,y2,y3,y4,y5,y6,y7,y8,y9,MK,ML,MM,y13,MN,g2,fun lO cg=>(nX (r1.1.le cg) (r2.1.le cg) r1.2.1 r1.2.2 r2.2.1 r2.2.2 (by omega)).mono ?_⟩
  rintro r me cp rfl
  have hk2:=hk1.le fun _ _ g=>tR.le g (cg.trans cp)
  refine ⟨_,rfl,fun gt=>?_,fun gt=>⟨(((i+1:Nat):Int),ws),by dsimp only;omega,by and_intros<;>first|rfl|trivial,i+1,k,rfl,by omega,hk2,sg,ins.done fJ hji (.inr fun h=>absurd (D7.2 h) (of_decide_eq_false gt))⟩⟩
  have hlt2:dv (k.getD j bq) (k.getD (j-1) bq)<0:=D7.1 (of_decide_eq_true gt)
  have e1:(ae ws ((j-1)*6) [.bool y1,.slice y2 y3 y4,.slice y5 y6 y7,.bool y8,.slice y9 MK ML,.slice MM y13 MN]).length=ws.length:=jP (by simp only [List.length_cons,List.length_nil];omega)
  have sw:=(hk2.swap (i:=j-1) (j:=j) (xs:=[.bool x1,.slice x2 x3 x4,.slice x5 x6 x7,.bool x8,.slice x9 x10 Mh,.slice Mi Mj Mk]) (ys:=[.bool y1,.slice y2 y3 y4,.slice y5 y6 y7,.bool y8,.slice y9 MK ML,.slice MM y13 MN]) (d:=bq) (by omega) (by omega) (by decide) rfl rfl (r1.le (cg.trans cp)) (r2.le (cg.trans cp)))
  have ec:jn bq k (j-1) j=jn bq k j (j-1):=by
   unfold jn
   exact List.set_comm _ _ (by omega)
  rw [ec] at sw
  exact ⟨⟨by omega,by omega⟩,J3,y1,y2,y3,y4,y5,y6,y7,y8,y9,MK,ML,MM,y13,MN,g2,⟨by omega,by omega⟩,J3,x1,x2,x3,x4,x5,x6,x7,x8,x9,x10,Mh,Mi,Mj,Mk,g1,⟨by omega,by omega⟩,J3,g1.1,⟨by omega,by omega⟩,J3,by rw [e1];exact g2.1,
   (((j-1:Nat):Int),_),by dsimp only;omega,by and_intros<;>first|rfl|trivial,j-1,_,rfl,by omega,sw,sg.trans (h_.jn (by omega) (by omega) (by omega) (by omega) (by omega)),ins.move fJ hj hji (by omega) hlt2⟩
 have hlt:i=L.length:=by have:=of_decide_eq_false hlt;omega
 subst hlt
 have pm:m.Perm (eQ p ls):=by rw [eL];exact sg.perm
 have pw:m.Pairwise fun x y=>¬dv y x<0:=by
  refine List.pairwise_iff_getElem.2 fun i j hi hj wQ=>?_
  have:=AE i j (by omega) wQ (by omega)
  rw [List.getD_eq_getElem?_getD,List.getD_eq_getElem?_getD,List.getElem?_eq_getElem hi,List.getElem?_eq_getElem hj] at this
  simp only [Option.getD_some] at this
  exact this
 have ry:=Gm hk hnd pm pw
 refine ⟨fun h0 pC dz=>(dJ 1 0 (by omega) (by omega) (by omega) (by omega)).mono ?_,fun h0=>?_⟩
 ·rintro r nh dm gx
  have Rk:=gx
  obtain ⟨_,_,_,_,_,_,_,_,_,_,_,_,rfl,-⟩:=gx
  refine ⟨_,_,_,_,_,_,_,_,_,_,_,_,_,_,rfl,fun mr cS bk hbk=>⟨_,1,1,m,[(1,0)],rfl,ry,.inl ⟨List.length_eq_zero_iff.1 (by have:=beq_iff_eq.1 h0;omega),rfl⟩,sg.perm,by simp,nV.zK hbk (row_one rfl ⟨Rk.le cS,?_,?_⟩)⟩⟩
  ·exact (qv (z:=1) (by omega)).mono (by omega)
  ·exact (qv (z:=0) (by omega)).mono (by omega)
 have hL0:L.length≠0:=fun e=>by rw [e] at h0;cases h0
 have hm0:m≠[]:=fun e=>by rw [e] at ml;exact hL0 ml.symm
 refine ⟨fun z V'=>∃(i:Nat)(S:List (Rat×Rat)),z.2.2.2=(i:Int)/\i<=L.length/\S.length=i/\GR 6 (tR 6000) V' z.1 z.2.1 z.2.2.1 S/\∀j u w x,m[j]?=some u->m[(j+1)%m.length]?=some w->S[j]?=some x->aw.qL u w x,fun z=>(L.length-z.2.2.2).toNat,⟨(0,0,[],0),by and_intros<;>first|rfl|trivial,0,[],rfl,Nat.zero_le _,rfl,GR.nil,fun j u w x _ _ h=>by cases h⟩,?_⟩
 rintro ⟨n2,c2,vs2,z⟩ nN cP ⟨i,S,e,hi,hS,g,sm⟩
 dsimp only at e g ⊢
 subst e
 have gl:=g.len
 refine ⟨rfl,fun hlt=>?_,fun hlt Wf sQ bk hbk=>?_⟩
 ·have hlt:i<L.length:=by have:=of_decide_eq_true hlt;omega
  have w1:i64.wrap ((i:Int)+1)=((i+1:Nat):Int):=by rw [ar (by omega)];rfl
  have hmod:(((i+1:Nat):Int)).tmod (L.length:Int)=(((i+1)%L.length:Nat):Int):=by rw [Int.ofNat_tmod]
  have hj:(i+1)%L.length<L.length:=Nat.mod_lt _ (by omega)
  rw [w1,hmod,Int.toNat_natCast,Int.toNat_natCast]
  have hm':=hm.le fun _ _ g=>tR.le g cP
  obtain ⟨x1,x2,x3,x4,x5,x6,x7,x8,x9,x10,Mh,Mi,Mj,Mk,g1,r1⟩:=tN hm' (i:=i) (by omega)
  obtain ⟨y1,y2,y3,y4,y5,y6,y7,y8,y9,MK,ML,MM,y13,MN,g2,r2⟩:=tN hm' (i:=(i+1)%L.length) (by omega)
  have hu:m[i]?=some (m.getD i bq):=by rw [List.getD_eq_getElem?_getD,List.getElem?_eq_getElem (by omega)];rfl
  have hw:m[(i+1)%m.length]?=some (m.getD ((i+1)%L.length) bq):=by rw [ml,List.getD_eq_getElem?_getD,List.getElem?_eq_getElem (by omega)];rfl
  have ge:=aw.Hf ry hu hw
  have nx:=HA ry hu hw
  have nu:=ry.nz _ (List.mem_of_getElem? hu)
  have nw:=ry.nz _ (List.mem_of_getElem? hw)
  have done:∀{x:Rat×Rat},aw.qL (m.getD i bq) (m.getD ((i+1)%L.length) bq) x->∀j u w y,m[j]?=some u->m[(j+1)%m.length]?=some w->(S++[x])[j]?=some y->aw.qL u w y:=fun {x} hx j u w y h1 h2 h3=>by
   by_cases c:j<S.length
   ·rw [List.getElem?_append_left c] at h3;exact sm j u w y h1 h2 h3
   ·have hj':=(List.getElem?_eq_some_iff.1 h3).1
    rw [List.length_append,List.length_singleton] at hj'
    have e:j=i:=by omega
    rw [e] at h1 h2
    rw [List.getElem?_append_right (by omega),show j-S.length=0 by omega] at h3
    rw [hu] at h1
    rw [hw] at h2
    cases h1;cases h2;cases h3
    exact hx
  generalize m.getD i bq=u at *
  generalize m.getD ((i+1)%L.length) bq=w at *
  refine ⟨⟨by omega,by omega⟩,J3,x1,x2,x3,x4,x5,x6,x7,x8,x9,x10,Mh,Mi,Mj,Mk,g1,by omega,⟨by omega,by omega⟩,J3,y1,y2,y3,y4,y5,y6,y7,y8,y9,MK,ML,MM,y13,MN,g2,fun z V'=>nN.Le V'/\z=false,fun pH df=>(nX (r1.1.le df) (r2.1.le df) r1.2.1 r1.2.2 r2.2.1 r2.2.2 (by omega)).mono ?_,?_⟩
  ·rintro r rP dA rfl
   refine ⟨_,rfl,fun z0=>⟨_,by and_intros<;>first|rfl|trivial,df.trans dA,?_⟩,fun z0=>⟨_,by and_intros<;>first|rfl|trivial,df.trans dA,rfl⟩⟩
   refine decide_eq_false fun gt=>nx (by omega) (by simpa using z0)
  rintro z yN XT ⟨gZ,rfl⟩
  refine ⟨rfl,(fun h=>by cases h),fun _ sJ eo=>(nY (r1.1.le (gZ.trans eo)) (r2.1.le (gZ.trans eo)) r1.2.1 r1.2.2 r2.2.1 r2.2.2 (by omega)).mono ?_⟩
  rintro r wB jE gc
  have Ib:=gc
  obtain ⟨_,_,_,_,_,_,rfl⟩:=gc.shape
  refine ⟨_,_,_,_,_,_,_,rfl,fun tD fa=>(kx (Ib.le fa)).mono ?_⟩
  rintro r CD oe rfl
  have MO:=gZ.trans (eo.trans (jE.trans (fa.trans oe)))
  obtain ⟨gx,gy⟩:=HG r1.1
  refine ⟨_,rfl,fun z0 D3 gE=>(iT (gy.le (MO.trans gE)) r1.2.2 (by omega)).mono ?_,fun z0 Il kC=>(jA (r1.1.le (MO.trans kC)) nu r1.2.1 r1.2.2 (by omega) (by omega)).mono ?_⟩
  ·have c0:aw.cr u w=0:=aw.cu.1 (beq_iff_eq.1 z0)
   rintro r FR oN go
   have go0:=go
   obtain ⟨_,_,_,_,_,_,rfl⟩:=go.shape
   refine ⟨_,_,_,_,_,_,_,rfl,by omega,g.le,g.cap,rfl,Er,fun sp c' k1 k2=>⟨(n2+1,c',_,((i+1:Nat):Int)),by dsimp only;omega,by and_intros<;>first|rfl|trivial,i+1,S++[(-u.2,u.1)],rfl,by omega,by simp [hS],?_,done (L4 c0)⟩⟩
   exact (g.mono fun _ _ g=>tR.le g (MO.trans (gE.trans oN))).snoc (xs:=[_,_,_,_,_,_]) rfl ⟨Pa go0 (gx.le (MO.trans (gE.trans oN))),r1.2.2.neg.mono (by omega),r1.2.1.mono (by omega)⟩ (by decide) k1 k2
  ·have c0:aw.cr u w>0:=by
    have:¬aw.cr u w=0:=fun e=>by
     have:=aw.cu.2 e
     unfold aw.cr at this
     rw [this] at z0
     cases z0
    grind
   rintro r FT uU ⟨a,a0,ga,sa1,VG⟩
   have Nr:=ga
   obtain ⟨_,_,_,_,_,_,_,_,_,_,_,_,rfl,-⟩:=ga
   refine ⟨_,_,_,_,_,_,_,_,_,_,_,_,_,_,rfl,fun KK rz=>(fm 1 (by omega) (by omega)).mono ?_⟩
   rintro r FU uV go
   have go0:=go
   obtain ⟨_,_,_,_,_,_,rfl⟩:=go.shape
   have T3:=MO.trans (kC.trans (uU.trans (rz.trans uV)))
   refine ⟨_,_,_,_,_,_,_,rfl,fun MT CF=>(jA (r2.1.le (T3.trans CF)) nw r2.2.1 r2.2.2 (by omega) (by omega)).mono ?_⟩
   rintro r Qu FO ⟨b,b0,gb,sb1,VH⟩
   have W5:=gb
   obtain ⟨_,_,_,_,_,_,_,_,_,_,_,_,rfl,-⟩:=gb
   have s3:Sz 2000 ((1:Int):Rat):=(qv (z:=1) (by omega)).mono (by omega)
   have GP:=CF.trans FO
   refine ⟨_,_,_,_,_,_,_,_,_,_,_,_,_,_,rfl,fun PN yn=>(eO (Nr.le (rz.trans (uV.trans (GP.trans yn)))) (go0.le (GP.trans yn)) (W5.le yn) sa1 VG s3 sb1 VH (by omega)).mono ?_⟩
   rintro r T4 I_ gs
   have gs0:=gs
   obtain ⟨_,_,_,_,_,_,_,_,_,_,_,_,rfl,-⟩:=gs
   have We:=T3.trans (GP.trans (yn.trans I_))
   refine ⟨_,_,_,_,_,_,_,_,_,_,_,_,_,_,rfl,by omega,g.le,g.cap,rfl,Er,fun sp c' k1 k2=>⟨(n2+1,c',_,((i+1:Nat):Int)),by dsimp only;omega,by and_intros<;>first|rfl|trivial,i+1,S++[_],rfl,by omega,by simp [hS],(g.mono fun _ _ g=>tR.le g We).snoc (xs:=[_,_,_,_,_,_]) rfl ⟨gs0,(sa1.add ((qv (z:=1) (by omega)).mul sb1)).mono (by omega),(VG.add ((qv (z:=1) (by omega)).mul VH)).mono (by omega)⟩ (by decide) k1 k2,done (L1 a0 b0 c0)⟩⟩
 ·have hlt:i=L.length:=by have:=of_decide_eq_false hlt;omega
  have gc:=g.cap
  have US:=g.le
  subst gl
  exact ⟨_,S.length,c2,m,S,rfl,ry,L9 hm0 (by omega) sm,sg.perm,by omega,nV.tL hbk (g.row.le fun _ _ g=>tR.le g sQ) (by decide) (by omega)⟩
end Go.Proofs.Tryz
namespace Go.Proofs.Tryz
open Go.bL
set_option maxRecDepth 100000
end Go.Proofs.Tryz
namespace Go.Proofs.Tryz
open Go.bL Go.fN
def LL:L3:=(0,1,0)
theorem JS:kk LL=true:=by decide
theorem vB {z:Int}(k:Nat)(hk:k≠0)(h:z.natAbs<=1):z.natAbs<2^k:=Nat.lt_of_le_of_lt h (Nat.one_lt_two_pow hk)
theorem KG (k:Nat)(hk:k≠0):LL.1.natAbs<2^k/\LL.2.1.natAbs<2^k/\LL.2.2.natAbs<2^k:=⟨vB k hk (by decide),vB k hk (by decide),vB k hk (by decide)⟩
theorem JR:Bd LL:=KG 1000 (by decide)
theorem FQ {V:View}{v:Value}{a b c:Int}(h:RL V v a b c):∃(b1:Bool)(p1:OA)(n1 c1:Nat)(b2:Bool)(p2:OA)(n2 c2:Nat)(b3:Bool)(p3:OA)(n3 c3:Nat),v=.agg #[.bool b1,.slice p1 n1 c1,.bool b2,.slice p2 n2 c2,.bool b3,.slice p3 n3 c3]:=by
 obtain ⟨p,n,s,p',n',s',q,m,e,rfl,-⟩:=h
 exact ⟨_,_,_,_,_,_,_,_,_,_,_,_,rfl⟩
theorem zu {V:View}{u w:Value}(hp:RP V u ((0:Int):Rat) ((0:Int):Rat))(hq:RP V w ((1:Int):Rat) ((0:Int):Rat)) :
  ab prog 50 #[u,w] V fun r V'=>∃l,r=.tuple #[l,.bool true]/\RL V' l LL.1 LL.2.1 LL.2.2:=by
 have s0:Sz 1 ((0:Int):Rat):=by unfold Sz;decide
 have s1:Sz 1 ((1:Int):Rat):=Af
 refine (lR hp hq s0 s0 s1 s0 (by omega) (by omega)).mono ?_
 have e1:(wC ((0:Int):Rat) ((0:Int):Rat) ((1:Int):Rat) ((0:Int):Rat)).1.num=0:=by decide +kernel
 have e2:(wC ((0:Int):Rat) ((0:Int):Rat) ((1:Int):Rat) ((0:Int):Rat)).2.1.num=1:=by decide +kernel
 have e3:(wC ((0:Int):Rat) ((0:Int):Rat) ((1:Int):Rat) ((0:Int):Rat)).2.2.num=0:=by decide +kernel
 rw [e1,e2,e3]
 rintro r V' _ ⟨-,h⟩
 exact h (by omega)
structure Qs (V:View) (y z:Value):Prop where
 inv:wE V 0 y
 El:wE V 1 z
 yE:MR y
 zE:MR z
theorem Qs.le {V V':View}{y z:Value}(h:Qs V y z)(l:V.Le V'):Qs V' y z:=⟨h.inv.le l,h.El.le l,h.yE,h.zE⟩
theorem sR:IsIface .nilIface/\eK .nilIface=true:=⟨.inl rfl,rfl⟩
theorem AT.leaf {V:View}(i:Bool):AT V (.agg #[.int .i64 (rt 0 (.leaf i)),.slice none 0 0]) (rt 0 (.leaf i)) (wr 0 (.leaf i)):=⟨_,_,_,rfl,NS.nil⟩
theorem pY {p:L3->Prop}:∀{t:Tr} {k:Nat},t.lN p->∀x∈wr k t,p x.ln
 | .leaf _,_,_,x,h=>by simp [wr] at h
 | .node l a b,k,⟨h1,h2,h3⟩,x,h=>by
  simp only [wr,List.mem_cons,List.mem_append] at h
  rcases h with rfl|h|h
  ·exact h1
  ·exact pY h2 x h
  ·exact pY h3 x h
end Go.Proofs.Tryz
