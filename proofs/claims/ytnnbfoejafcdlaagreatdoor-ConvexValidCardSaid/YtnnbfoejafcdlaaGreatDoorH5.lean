import Derived.Test.YtnnbfoejafcdlaaGreatDoorH4
import Derived.Orders
import Derived.Scope
import Derived.Laws.Sem
import Derived.Test.YtnnbfoejafcdlaaGreatDoorProg
set_option linter.unusedVariables false
open Go.IntKind (i64 u64 u32)
namespace Go.bE
variable {P:Program} {T:cV} {LF RF:List Nat} {n:Nat} {V0:View} {bC:Ey} {β0:Nat->Nat}
def Ao (P:Program)(T:cV)(m:Nat->CM)(hint:Nat->Hint)(ops:Array Oper):Nat->Array Bool->St->View->(St->View->Prop)->Prop
 | 0,listed,st,V,K=>Region.ready .any ops listed=[]/\K st V
 | fuel+1,listed,st,V,K=>(Region.ready .any ops listed=[]->K st V) /\
  ∀i∈Region.ready .any ops listed,∀o,ops[i]?=some o->qj P T (m i) (hint i) ops o st V fun st' V'=>Ao P T m hint ops fuel (listed.setIfInBounds i true) st' V' K
theorem sI (hT:cV.ok P T){m:Nat->CM}{hint:Nat->Hint}{ops:Array Oper}(hd:∀(i:Nat)(o:Oper),ops[i]?=some o->∀d,o.dst=some d->d<n){Q:Exit->Act->World->Prop}{K:St->View->Prop}
  (hK:∀st' β' a' w' V',Mod n V0 bC β0 st' β' a' w' V'->K st' V'->Q .normal a' w') :
  ∀(fuel:Nat)(listed:Array Bool)(st:St)(β:Nat->Nat)(a:Act)(w:World)(V:View),Mod n V0 bC β0 st β a w V->Ao P T m hint ops fuel listed st V K->wpAny P .any ops Q fuel listed a w
 | 0,_,_,_,_,_,_,hM,hv=>⟨hv.1,hK _ _ _ _ _ hM hv.2⟩
 | fuel+1,listed,st,β,a,w,V,hM,hv=>by
  refine ⟨fun h=>hK _ _ _ _ _ hM (hv.1 h),fun i hi=>?_⟩
  obtain ⟨-,o,ho,-⟩:=mem_ready.1 hi
  have:=Dq (Q:=Q) (next:=wpAny P .any ops Q fuel (listed.setIfInBounds i true)) hT hM (hd i o ho) (hv.2 i hi o ho) (fun st' β' a' w' V' hM' vx=>sI hT hd hK fuel _ st' β' a' w' V' hM' vx)
  unfold wpOp
  rw [ho]
  dsimp only
  split at this
  ·rename_i hw;rw [if_pos hw];exact .inl this
  ·rename_i hw;rw [if_neg hw];exact this
theorem qA {sc:List Prop}{k k':Prop}(h:k->k')(g:Aq sc k):Aq sc k':=by
 obtain ⟨h1,h2⟩:=(dE sc _).1 g
 exact (dE sc _).2 ⟨h1,h h2⟩
theorem yZ {s:Nat}{vs:List Value}{k c size bytes:Nat}{ty:TypeId}{d:Nat}{st:St}{V:View}{K K':St->View->Prop}{j:Nat}{xs:List Value}(hk:∀s V',V.Le V'->K s V'->K' s V')
  (h:Ce s vs k c size bytes ty d st V K j xs):Ce s vs k c size bytes ty d st V K' j xs:=by
 unfold Ce at h ⊢
 obtain ⟨h1,h2,h3,h4,h5,h6⟩:=h
 refine ⟨h1,h2,h3,h4,h5,?_⟩
 split at h6
 ·exact h6.elim
 ·exact fun b J spare c' g1 g2=>hk _ _ (View.Le.refl V) (h6 b J spare c' g1 g2)
theorem vG {s:Nat}{vs:List Value}{k c size bytes:Nat}{ty:TypeId}{d:Nat}{st:St}{V:View}{K K':St->View->Prop}{j:Nat}{xs:List Value}(hk:∀s V',V.Le V'->K s V'->K' s V')
  (h:r_ s vs k c size bytes ty d st V K j xs):r_ s vs k c size bytes ty d st V K' j xs:=by
 unfold r_ at h ⊢
 obtain ⟨h1,h2,h3,h4,h5,h6⟩:=h
 refine ⟨h1,h2,h3,h4,h5,?_⟩
 split at h6
 ·exact h6.elim
 ·exact fun spare c' g1 g2=>hk _ _ (View.Le.refl V) (h6 spare c' g1 g2)
theorem y_ {vs:List Value}{k c size bytes:Nat}{ty:TypeId}{d:Nat}{st:St}{V:View}{K K':St->View->Prop}{j:Nat}{xs:List Value}(hk:∀s V',V.Le V'->K s V'->K' s V')
  (h:Cf vs k c size bytes ty d st V K j xs):Cf vs k c size bytes ty d st V K' j xs:=by
 unfold Cf at h ⊢
 obtain ⟨h1,h2,h3,h4,h6⟩:=h
 refine ⟨h1,h2,h3,h4,?_⟩
 split at h6
 ·exact h6.elim
 ·exact fun spare c' g1 g2=>hk _ _ (View.Le.refl V) (h6 spare c' g1 g2)
theorem K0 {Q0:Q}{dst:Option Nat}{st:St}{V:View}{K K':St->View->Prop}(hk:∀s V',V.Le V'->K s V'->K' s V')(h:sZ Q0 dst st V K):sZ Q0 dst st V K':=by
 cases Q0 with
 | fail=>exact h
 | ret sc x=>exact qA (hk _ _ (View.Le.refl V)) h
 | new sc b x=>
  simp only [sZ] at h ⊢
  split at h
  ·split at h
   ·rename_i hn;exact qA (hk _ _ (View.Le.refl V)) h
   ·exact h.elim
  ·exact h.elim
 | sW sc s b=>
  simp only [sZ] at h ⊢
  split at h
  ·exact qA (hk _ _ (View.Le.refl V)) h
  ·exact h.elim
 | rd a sh=>
  obtain ⟨x,h1,h2⟩:=sh.split h
  exact h2 _ (pR.2 ⟨(pR.1 h1).1,hk _ _ (View.Le.refl V) (pR.1 h1).2⟩)
 | nO vs of size sh=>
  obtain ⟨x,h1,h2⟩:=sh.split h
  exact h2 _ ⟨h1.1,hk _ _ (View.Le.refl V) h1.2⟩
 | qY s vs a c src size bytes ty=>
  simp only [sZ] at h ⊢
  split at h
  ·exact h.elim
  ·cases src with
   | inr xs=>exact vG hk h
   | inl ak=>
    obtain ⟨xs,h1,h2,h3⟩:=h
    exact ⟨xs,h1,h2,vG hk h3⟩
 | app old ba vs a c src size bytes ty=>
  simp only [sZ] at h ⊢
  split at h
  ·exact h.elim
  ·cases old with
   | some s=>
    dsimp only at h ⊢
    cases src with
    | inr xs=>exact yZ hk h
    | inl ak=>
     obtain ⟨xs,h1,h2,h3⟩:=h
     exact ⟨xs,h1,h2,yZ hk h3⟩
   | none=>
    obtain ⟨vs,g1,g2,g3,g4,h⟩:=h
    refine ⟨vs,g1,g2,g3,g4,?_⟩
    cases src with
    | inr xs=>exact y_ hk h
    | inl ak=>
     obtain ⟨xs,h1,h2,h3,h4⟩:=h
     exact ⟨xs,h1,h2,fun e=>hk _ _ (View.Le.refl V) (h3 e),fun e=>y_ hk (h4 e)⟩
theorem Af {bx:Nat->Option aQ}{β:Nat->Nat}{V:View}:∀{L:List Nat} {k k':Prop},(k->k')->xW bx β V L k->xW bx β V L k'
 | [],_,_,h,g=>h g
 | s::r,k,k',h,g=>by
  simp only [xW] at g ⊢
  split at g
  ·exact fun h1=>Af h (g h1)
  ·exact g.elim
theorem vM {give:Bool}{sh:Sh}{L:List Nat}{mm:Option Nat}{d:Nat}{ety:TypeId}{β:Nat->Nat}{st:St}{V V' eN:View}{K K':St->View->Prop}{r':Value}
  (hm:∀k,mm=some k->k∈L)(hV:V.Le V')(hV2:V.Le eN)(hlv:∀s∈L,∃b,st.boxes s=some b/\(b.live->V'.H (β s)))(hk:∀s V',V.Le V'->K s V'->K' s V')
  (h:cj T give sh L mm d ety β st V' K r' eN):cj T give sh L mm d ety β st V' K' r' eN:=by
 refine oq (p:=fun _=>none) (q:=iX) (W:=eU mm d::L) (D:=[d]) (fun s hs=>⟨rfl,List.mem_cons_of_mem _ hs⟩) hm ⟨rfl,by simp⟩ ⟨rfl,by simp⟩ hV hV2 hlv (fun s2 V2 hG=>?_) h
 exact hk _ _ hG.1 hG.2.2.2
theorem iC {m:CM}{f:FuncId}{xs:List SV}{ty:TypeId}{dst:Option Nat}{st:St}{V:View}{K K':St->View->Prop}(hk:∀s V',V.Le V'->K s V'->K' s V')
  (h:fj P T m f xs ty dst st V K):fj P T m f xs ty dst st V K':=by
 unfold fj at h ⊢
 split at h
 ·exact h.elim
 ·split at h
  ·split at h
   ·split at h
    ·split at h
     ·exact h.elim
     ·exact fun V' hV=>(h V' hV).mono fun _ eN hle g=>vM (fun k hk=>by cases hk) hV (hV.trans hle) (fun s hs=>absurd hs (by simp)) hk g
    ·exact h.elim
   ·split at h
    ·split at h
     ·exact h.elim
     ·split at h
      ·split at h
       ·split at h
        ·refine fun V' hV=>(h V' hV).mono fun _ eN hle g=>?_
         obtain ⟨b,hb⟩:=g
         obtain ⟨cs,⟨g1,g2,g3,g4⟩,g5⟩:=mZ _ hb
         refine ⟨b,g5 _ ⟨g1,g2,g3,hk _ _ ?_ g4⟩⟩
         intro x o hx
         obtain ⟨k1,k2⟩:=(hV.trans hle) x o hx
         obtain ⟨k3,k4⟩:=hV x o hx
         have:=aE k4
         exact ⟨fun h=>h.elim k1 fun h=>by have:=h.1;omega,k2⟩
        ·exact h.elim
       ·exact h.elim
      ·exact h.elim
    ·exact h.elim
   ·exact fun V' hV=>(h V' hV).mono fun _ _ hle g=>Sh.mono g fun x hx=>⟨hx.1,hk _ _ (hV.trans hle) hx.2⟩
  ·split at h
   ·exact h.elim
   ·rename_i hcl
    rename_i L0 s0 r0 hL _
    have mv:∀{give:Bool} {sh:Sh} {mm:Option Nat} {d:Nat} {ety:TypeId} {L:List Nat},(∀k,mm=some k->k∈L) ->
      (∀V':View,V.Le V'->lI L (fun _=>0) fun β=>ik st.boxes β V' L (ab P f (aT β xs) (V'.cG (L.map (dG st.boxes β V'.w.heap.size))) (cj T give sh L mm d ety β st V' K))) ->
      ∀V':View,V.Le V'->lI L (fun _=>0) fun β=>ik st.boxes β V' L (ab P f (aT β xs) (V'.cG (L.map (dG st.boxes β V'.w.heap.size))) (cj T give sh L mm d ety β st V' K')):=by
     intro give sh mm d ety L hm h V' hV
     exact iG (fun β hb=>iV (fun _ _=>rfl) (fun hH hf=>hf.mono fun _ _ hle g=>vM hm hV ((hV.trans (tY V' _)).trans hle) hH hk g) hb) (h V' hV)
    split at h
    ·exact h.elim
    ·exact h.elim
    ·split at h
     ·split at h
      ·exact h.elim
      ·exact mv (fun k hk=>by cases hk) h
     ·rename_i d ety k h1 h2 h3
      split at h
      ·exact h.elim
      ·refine mv (fun j hj=>?_) h
       cases hj
       rw [←hL]
       exact eE 3 _ k (bK.2 (vi k (by rw [h2];simp)))
     ·exact h.elim
    ·split at h
     ·exact fun V' hV=>iG (fun β hb=>iV (fun _ _=>rfl) (fun _ hf=>hf.mono fun _ _ hle g=>Sh.mono g fun x hx=>⟨hx.1,jx (p:=fun _=>none) (q:=iX) (W:=_) (fun s hs=>⟨rfl,hs⟩) (fun st' _ _ h3=>hk _ _ (((hV.trans (tY V' _)).trans hle).trans (GS _)) h3) hx.2⟩) hb) (h V' hV)
     ·rename_i k hmv
      split at h
      ·split at h
       ·exact h.elim
       ·refine mv (fun j hj=>?_) h
        cases hj
        exact J2 hcl k (by rw [hmv];simp)
      ·exact h.elim
     ·exact h.elim
    ·split at h
     ·exact h.elim
     ·exact fun V' hV=>iG (fun β hb=>Af (fun hf=>hf.mono fun _ _ hle g=>Sh.mono g fun x hx=>⟨hx.1,fun J=>hk _ _ (hV.trans hle) (hx.2 J)⟩) hb) (h V' hV)
theorem sJ {m:CM}{f:FuncId}{xs:List SV}{ty:TypeId}{dst:Option Nat}{st:St}{V:View}{K K':St->View->Prop}(hk:∀s V',V.Le V'->K s V'->K' s V')
  (h:jU P T m f xs ty dst st V K):jU P T m f xs ty dst st V K':=by
 unfold jU at h ⊢
 split at h
 ·split at h
  ·exact ⟨fun e=>⟨(h.1 e).1,iC hk (h.1 e).2⟩,fun e=>iC hk (h.2 e)⟩
  ·exact iC hk h
 ·exact iC hk h
theorem qi {m:CM}{o:Oper}{st:St}{V:View}{K K':St->View->Prop}(hk:∀s V',V.Le V'->K s V'->K' s V')(h:cO P T m o st V K):cO P T m o st V K':=by
 unfold cO at h ⊢
 split at h
 ·split at h
  ·split at h
   ·exact sJ hk h
   ·exact h.elim
  ·exact h.elim
 ·split at h
  ·split at h
   ·split at h
    ·exact sJ hk h
    ·exact h.elim
   ·exact h.elim
  ·exact h.elim
 ·exact K0 hk h
theorem DV {m:CM}{hi:Hint}{o:Oper}{st:St}{V:View}{K K':St->View->Prop}(hk:∀s V',V.Le V'->K s V'->K' s V')(h:cH P T m hi o st V K):cH P T m hi o st V K':=by
 unfold cH at h ⊢
 split at h
 ·exact qi hk h
 ·split at h
  ·split at h
   ·exact qi hk h
   ·exact h.elim
  ·exact h.elim
theorem kz {m:CM}{hi:Hint}{ops:Array Oper}{o:Oper}{st:St}{V:View}{K K':St->View->Prop}(hk:∀s V',V.Le V'->K s V'->K' s V')(h:qj P T m hi ops o st V K):qj P T m hi ops o st V K':=by
 rw [BI] at h ⊢
 refine mH (fun s w hb=>?_) h
 cases w with
 | true=>exact DV hk hb
 | false=>exact hk _ _ (View.Le.refl V) hb
def J0 (LF RF:List Nat)(m:CM)(o:Oper):Prop:=
 mr (bf LF RF o.op)=true\/(bf LF RF o.op=.call/\m=.none)\/((bf LF RF o.op=.kl/\m=.cG)\/(bf LF RF o.op=.give/\m=.give)\/bf LF RF o.op=.app)
theorem Ki {m:CM}{h:Hint}{ops:Array Oper}{o:Oper}{st:St}{V:View}{R W:List Nat}(hq:mr (bf LF RF o.op)=true)(hrw:pV (bf LF RF o.op) h (dX o)=some (R,W))
  (hv:qj P T m h ops o st V fun _ _=>False):False:=by
 rw [BI] at hv
 obtain ⟨p,w,hG⟩:=fu hv
 have:=hG.next
 cases w with
 | true=>obtain ⟨p,q,hO⟩:=nk hq hrw this;exact hO.next
 | false=>exact this
theorem rY {ops:Array Oper}{h1 h2:Hint}{o1 o2:Oper}(hi:indep LF RF ops h1 h2 o1 o2=true) :
  mr (bf LF RF o1.op)=true/\(∃R W,pV (bf LF RF o1.op) h1 (dX o1)=some (R,W))/\∃R W,pV (bf LF RF o2.op) h2 (dX o2)=some (R,W):=by
 unfold indep at hi
 simp only [Bool.and_eq_true] at hi
 obtain ⟨⟨⟨⟨⟨hq1,-⟩,-⟩,-⟩,-⟩,hrw⟩:=hi
 split at hrw
 ·rename_i R1 W1 R2 W2 hr1 hr2
  exact ⟨hq1,⟨_,_,hr1⟩,_,_,hr2⟩
 ·cases hrw
theorem Ib {ops:Array Oper}{i:Nat}{o:Oper}(ho:ops[i]?=some o){h:Hint}{R W:List Nat}(hrw:pV (bf LF RF o.op) h (dX o)=some (R,W)):J0 LF RF (jL LF RF ops i) o:=by
 unfold J0 jL
 rw [ho]
 dsimp only
 generalize bf LF RF o.op=c at hrw
 cases c with
 | odd=>cases h<;>cases hrw
 | ig=>cases h<;>cases hrw
 | call=>exact .inr (.inl ⟨rfl,rfl⟩)
 | kl=>exact .inr (.inr (.inl ⟨rfl,rfl⟩))
 | give=>exact .inr (.inr (.inr (.inl ⟨rfl,rfl⟩)))
 | app=>exact .inr (.inr (.inr (.inr rfl)))
 | _=>exact .inl rfl
section
variable {ops:Array Oper} {hint:Nat->Hint} {anc:Nat->Nat->Prop} {K:St->View->Prop}
theorem DU (hA:∀j o,ops[j]?=some o->∀i,anc j i->∃e∈o.after,Region.binds .any e=true/\(e.on=i\/anc e.on i)){i:Nat}{oi:Oper}(hi:ops[i]?=some oi) :
  ∀(fuel:Nat)(listed:Array Bool)(st:St)(V:View),(∀j,listed.getD j false=true->∀k,anc j k->listed.getD k false=true) ->
   (∀j oj,ops[j]?=some oj->j≠i->listed.getD j true=false->¬anc j i->indep LF RF ops (hint i) (hint j) oi oj=true)->i∈Region.ready .any ops listed ->
   (qj P T (jL LF RF ops i) (hint i) ops oi st V fun st' V'=>Ao P T (jL LF RF ops) hint ops fuel (listed.setIfInBounds i true) st' V' K) ->
   Ao P T (jL LF RF ops) hint ops (fuel+1) listed st V K:=by
 have Kb:∀(listed:Array Bool)(j:Nat),(∀j,listed.getD j false=true->∀k,anc j k->listed.getD k false=true)->i∈Region.ready .any ops listed->j∈Region.ready .any ops listed->¬anc j i:=by
  intro listed j hcl hr hj L1
  obtain ⟨hun,-⟩:=mem_ready.1 hr
  have hno:listed.getD i false=true->False:=by
   intro h
   rcases Nat.lt_or_ge i listed.size with h'|h'
   ·simp [h'] at hun h;rw [hun] at h;cases h
   ·simp [h'] at h
  obtain ⟨-,o,ho,hall⟩:=mem_ready.1 hj
  obtain ⟨e,he,hb,h⟩:=hA j o ho i L1
  have h1:=hall e he hb
  rcases h with h|h
  ·rw [h] at h1;exact hno h1
  ·exact hno (hcl _ h1 i h)
 intro fuel
 induction fuel with
 | zero=>
  intro listed st V hcl hfree hr H
  refine ⟨fun h=>(by rw [h] at hr;cases hr),fun j hj o ho=>?_⟩
  by_cases hji:j=i
  ·subst hji;rw [hi] at ho;cases ho;exact H
  ·exfalso
   have L_:=hfree j o ho hji (mem_ready.1 hj).1 (Kb listed j hcl hr hj)
   obtain ⟨q1,⟨R,W,q2⟩,-⟩:=rY L_
   refine Ki q1 q2 (kz (fun s V' _ h=>?_) H)
   have:=ready_mono hj hji
   rw [h.1] at this
   cases this
 | succ fuel ih=>
  intro listed st V hcl hfree hr H
  refine ⟨fun h=>(by rw [h] at hr;cases hr),fun j hj oj hoj=>?_⟩
  by_cases hji:j=i
  ·subst hji;rw [hi] at hoj;cases hoj;exact H
  ·have hnot:=Kb listed j hcl hr hj
   have L_:=hfree j oj hoj hji (mem_ready.1 hj).1 hnot
   obtain ⟨q1,⟨R,W,q2⟩,R',W',q3⟩:=rY L_
   have h1:=kz (fun s V' _ h=>h.2 j (ready_mono hj hji) oj hoj) H
   have h2:=Mv L_ (Ib hoj q3) h1
   refine kz (fun s V' _ h=>?_) h2
   obtain ⟨-,oj',QD,hall⟩:=mem_ready.1 hj
   rw [hoj] at QD
   cases QD
   have hjl:j<ops.size:=by
    rcases Nat.lt_or_ge j ops.size with h'|h'
    ·exact h'
    ·rw [Array.getElem?_eq_none h'] at hoj;cases hoj
   refine ih (listed.setIfInBounds j true) s V' ?_ ?_ (ready_mono hr (Ne.symm hji)) ?_
   ·intro k hk l hl
    by_cases hjk:j=k
    ·subst hjk
     obtain ⟨e,he,hb,h⟩:=hA j oj hoj l hl
     have h1:=hall e he hb
     rcases h with h|h
     ·rw [←h];exact getD_set_true h1
     ·exact getD_set_true (hcl _ h1 l h)
    ·rw [getD_set_ne false hjk] at hk
     exact getD_set_true (hcl k hk l hl)
   ·intro k ok hk hki hun hno
    refine hfree k ok hk hki ?_ hno
    by_cases hjk:j=k
    ·subst hjk;exact (mem_ready.1 hj).1
    ·rw [getD_set_ne true hjk] at hun;exact hun
   ·rw [Array.setIfInBounds_comm _ _ hji]
    exact h
theorem Hj (hA:∀j o,ops[j]?=some o->∀i,anc j i->∃e∈o.after,Region.binds .any e=true/\(e.on=i\/anc e.on i)) :
  ∀(l done:List Nat)(listed:Array Bool)(st:St)(V:View),listed.size=ops.size->(∀j,listed.getD j false=eI j done)->(∀j,j<ops.size->j∈done\/j∈l) ->
   (∀j,listed.getD j false=true->∀k,anc j k->listed.getD k false=true)->pS ops done l=true ->
   (∀i r1 r2,l=r1++i::r2->∀j∈r2,anc j i\/∃a b,ops[i]?=some a/\ops[j]?=some b/\indep LF RF ops (hint i) (hint j) a b=true) ->
   KZ P T (jL LF RF ops) hint ops l st V K->Ao P T (jL LF RF ops) hint ops l.length listed st V K
 | [],done,listed,st,V,hs,hrel,LY,_,_,_,hv=>by
  refine ⟨?_,hv⟩
  cases hr:Region.ready .any ops listed with
  | nil=>rfl
  | cons x xs=>
   exfalso
   have hx:x∈Region.ready .any ops listed:=by rw [hr];simp
   obtain ⟨h1,o,ho,-⟩:=mem_ready.1 hx
   have hlt:x<ops.size:=by
    rcases Nat.lt_or_ge x ops.size with h'|h'
    ·exact h'
    ·rw [Array.getElem?_eq_none h'] at ho;cases ho
   rcases LY x hlt with h|h
   ·have h2:=hrel x
    rw [cf.2 h] at h2
    simp [hs,hlt] at h1 h2
    rw [h1] at h2;cases h2
   ·cases h
 | i::r,done,listed,st,V,hs,hrel,LY,hcl,hra,Nu,hv=>by
  simp only [pS,Bool.and_eq_true] at hra
  obtain ⟨IQ,hra⟩:=hra
  unfold FH at IQ
  split at IQ
  ·rename_i oi hoi
   simp only [Bool.and_eq_true,Bool.not_eq_true',List.all_eq_true,Bool.or_eq_true] at IQ
   obtain ⟨Uz,UA⟩:=IQ
   have hil:i<ops.size:=by
    rcases Nat.lt_or_ge i ops.size with h'|h'
    ·exact h'
    ·rw [Array.getElem?_eq_none h'] at hoi;cases hoi
   have hafter:∀e∈oi.after,Region.binds .any e=true->listed.getD e.on false=true:=by
    intro e he hb
    rw [hrel]
    rcases UA e (by simpa using he) with h|h
    ·rw [hb] at h;cases h
    ·exact h
   have OH:i∈Region.ready .any ops listed:=by
    refine mem_ready.2 ⟨?_,oi,hoi,hafter⟩
    have:=hrel i
    rw [Uz] at this
    simp [hs,hil] at this ⊢
    exact this
   have hcl':∀j,(listed.setIfInBounds i true).getD j false=true->∀k,anc j k->(listed.setIfInBounds i true).getD k false=true:=by
    intro k hk l hl
    by_cases hjk:i=k
    ·subst hjk
     obtain ⟨e,he,hb,h⟩:=hA i oi hoi l hl
     have h1:=hafter e he hb
     rcases h with h|h
     ·rw [←h];exact getD_set_true h1
     ·exact getD_set_true (hcl _ h1 l h)
    ·rw [getD_set_ne false hjk] at hk
     exact getD_set_true (hcl k hk l hl)
   refine DU hA hoi r.length listed st V hcl (fun j oj hoj hji hun hno=>?_) OH ?_
   ·have hjl:j<ops.size:=by
     rcases Nat.lt_or_ge j ops.size with h'|h'
     ·exact h'
     ·rw [Array.getElem?_eq_none h'] at hoj;cases hoj
    have hjr:j∈r:=by
     rcases LY j hjl with h|h
     ·exfalso
      have h2:=hrel j
      rw [cf.2 h] at h2
      simp [hs,hjl] at hun h2
      rw [hun] at h2;cases h2
     ·rcases List.mem_cons.1 h with h|h
      ·exact absurd h hji
      ·exact h
    rcases Nu i [] r rfl j hjr with h|⟨a,b,ha,hb,h⟩
    ·exact absurd h hno
    ·rw [hoi] at ha;rw [hoj] at hb;cases ha;cases hb;exact h
   ·simp only [KZ,hoi] at hv
    have hrest:∀s V',KZ P T (jL LF RF ops) hint ops r s V' K->Ao P T (jL LF RF ops) hint ops r.length (listed.setIfInBounds i true) s V' K:=by
     intro s V' vx
     refine Hj hA r (i::done) (listed.setIfInBounds i true) s V' (by simp [hs]) ?_ ?_ hcl' hra (fun k r1 r2 e j hj=>Nu k (i::r1) r2 (by rw [e];rfl) j hj) vx
     ·intro j
      by_cases hji:i=j
      ·subst hji;simp [eI,Nat.beq_refl,hs,hil]
      ·rw [getD_set_ne false hji,hrel j];simp [eI,dw (Ne.symm hji)]
     ·intro j hj
      rcases LY j hj with h|h
      ·exact .inl (by simp [h])
      ·rcases List.mem_cons.1 h with h|h
       ·exact .inl (by simp [h])
       ·exact .inr h
    exact kz (fun s V' _ h=>hrest s V' h) hv
  ·cases IQ
end
theorem I7 {m i:Nat}:Oa m i=true↔m.testBit i=true:=by
 unfold Oa
 rw [beq_eq,Nat.testBit_eq_decide_div_mod_eq,decide_eq_true_iff]
 show Nat.land (m >>> i) 1=1↔_
 rw [show Nat.land (m >>> i) 1=(m >>> i) &&& 1 from rfl,Nat.and_one_is_mod,Nat.shiftRight_eq_div_pow]
def I2 (acc:List Nat)(o:Oper):Nat:=o.after.toList.foldl (fun s e=>cond (Region.binds .any e) (Nat.lor (Nat.lor (Nat.shiftLeft 1 e.on) (acc.getD e.on 0)) s) s) 0
theorem Cc {acc:List Nat}{i:Nat}:∀(es:List Edge)(s:Nat),(es.foldl (fun s e=>cond (Region.binds .any e) (Nat.lor (Nat.lor (Nat.shiftLeft 1 e.on) (acc.getD e.on 0)) s) s) s).testBit i=true ->
  s.testBit i=true\/∃e∈es,Region.binds .any e=true/\(e.on=i\/(acc.getD e.on 0).testBit i=true)
 | [],s,h=>.inl h
 | e::r,s,h=>by
  simp only [List.foldl_cons] at h
  rcases Cc r _ h with h1|⟨e',h1,h2,h3⟩
  ·cases hb:Region.binds .any e with
   | false=>rw [hb] at h1;exact .inl h1
   | true=>
    rw [hb] at h1
    simp only [cond_true] at h1
    have h1:(((1 <<< e.on) ||| (acc.getD e.on 0)) ||| s).testBit i=true:=h1
    rw [Nat.testBit_or,Nat.testBit_or,Bool.or_eq_true,Bool.or_eq_true] at h1
    rcases h1 with (h1|h1)|h1
    ·rw [Nat.shiftLeft_eq,Nat.one_mul,Nat.testBit_two_pow] at h1
     exact .inr ⟨e,by simp,hb,.inl (by simpa using h1)⟩
    ·exact .inr ⟨e,by simp,hb,.inr h1⟩
    ·exact .inl h1
  ·exact .inr ⟨e',by simp [h1],h2,h3⟩
theorem yY:∀(l:List Oper)(acc:List Nat),∃ext,l.foldl (fun acc o=>acc++[I2 acc o]) acc=acc++ext/\∀k o,l[k]?=some o->∃pre S2,ext=pre++S2/\ext.getD k 0=I2 (acc++pre) o
 | [],acc=>⟨[],by simp,fun k o h=>by simp at h⟩
 | o::r,acc=>by
  obtain ⟨ext,h1,h2⟩:=yY r (acc++[I2 acc o])
  refine ⟨I2 acc o::ext,by simp [h1],fun k o' h=>?_⟩
  cases k with
  | zero=>
   simp at h
   subst h
   exact ⟨[],_,rfl,by simp⟩
  | succ k=>
   simp at h
   obtain ⟨pre,S2,e1,e2⟩:=h2 k o' h
   exact ⟨I2 acc o::pre,S2,by simp [e1],by simpa using e2⟩
theorem EF {ops:List Oper}(j:Nat)(o:Oper)(ho:ops[j]?=some o):∀i,((Hu ops).getD j 0).testBit i=true->∃e∈o.after,Region.binds .any e=true/\(e.on=i\/((Hu ops).getD e.on 0).testBit i=true):=by
 intro i hi
 obtain ⟨ext,h1,h2⟩:=yY ops []
 have he:Hu ops=ext:=(show Hu ops=[]++ext from h1).trans (List.nil_append _)
 obtain ⟨pre,S2,e1,e2⟩:=h2 j o ho
 rw [he,e2] at hi
 rcases Cc _ _ hi with h|⟨e,g1,g2,g3⟩
 ·simp at h
 ·refine ⟨e,by simpa using g1,g2,?_⟩
  rcases g3 with g3|g3
  ·exact .inl g3
  ·right
   simp only [List.nil_append] at g3
   rw [he,e1]
   rcases Nat.lt_or_ge e.on pre.length with h'|h'
   ·simpa [List.getElem?_append_left h'] using g3
   ·simp [h'] at g3
theorem vR {ops:Array Oper}{hs:List Hint}{an:List Nat}:∀{l:List Nat},t_ LF RF ops hs an l=true->∀i r1 r2,l=r1++i::r2->∀j∈r2,(an.getD j 0).testBit i=true\/∃a b,ops[i]?=some a/\ops[j]?=some b/\indep LF RF ops (hs.getD i .free) (hs.getD j .free) a b=true
 | [],_,i,r1,r2,e,_,_=>by simp at e
 | x::l,h,i,r1,r2,e,j,hj=>by
  simp only [t_,Bool.and_eq_true,List.all_eq_true] at h
  cases r1 with
  | nil=>
   simp at e
   obtain ⟨rfl,rfl⟩:=e
   have:=h.1 j hj
   rw [Bool.or_eq_true] at this
   rcases this with h1|h1
   ·exact .inl (I7.1 h1)
   ·split at h1
    ·rename_i a b ha hb;exact .inr ⟨a,b,ha,hb,h1⟩
    ·cases h1
  | cons y r1=>
   simp at e
   exact vR h.2 i r1 r2 e.2 j hj
theorem FV {m:Nat->CM}{hint:Nat->Hint}{ops:Array Oper}:∀{l:List Nat} {st:St} {V:View} {K K':St->View->Prop},(∀s V',V.Le V'->K s V'->K' s V')->KZ P T m hint ops l st V K->KZ P T m hint ops l st V K'
 | [],_,V,_,_,hk,h=>hk _ _ (View.Le.refl V) h
 | i::r,st,V,K,K',hk,h=>by
  simp only [KZ] at h ⊢
  split at h
  ·exact kz (fun s V' hle h=>FV (fun s eN hle' h=>hk s eN (hle.trans hle') h) h) h
  ·exact h.elim
theorem pT {st:St}{β:Nat->Nat}{a:Act}{w:World}{V:View}(hT:cV.ok P T)(hmx:P.follows .mixedOrders=true)(hM:Mod n V0 bC β0 st β a w V){id:Nat}{ops:Array Oper}{draw:Bool}
  (hd:∀(i:Nat)(o:Oper),ops[i]?=some o->∀d,o.dst=some d->d<n){Q:Exit->Act->World->Prop}{K:Exit->St->View->Prop}
  (hv:DW P T LF RF ops draw st V (K .normal))(hK:∀st' β' a' w' V',Mod n V0 bC β0 st' β' a' w' V'->V.Le V'->K .normal st' V'->Q .normal a' w'):(Code.region id ops draw).wp P Q a w:=by
 cases draw with
 | false=>
  simp only [DW] at hv
  exact wp_region (z_ (K:=fun s V'=>V.Le V'/\K .normal s V') hT hd (fun st' β' a' w' V' hM' h=>hK st' β' a' w' V' hM' h.1 h.2) _ st β a w V hM (FV (fun s V' hle h=>⟨hle,h⟩) hv))
 | true=>
  simp only [DW] at hv
  split at hv
  ·rename_i ho
   simp only [G4,Bool.and_eq_true,List.all_eq_true,List.mem_range] at ho
   obtain ⟨⟨⟨h1,h2⟩,h3⟩,h4⟩:=ho
   refine wp_region_any hmx ?_
   have:=Hj (P:=P) (T:=T) (LF:=LF) (RF:=RF) (ops:=ops) (hint:=fun i=>(ops.toList.map (JJ LF RF st ops.toList)).getD i .free) (anc:=fun j i=>((Hu ops.toList).getD j 0).testBit i=true) (K:=fun s V'=>V.Le V'/\K .normal s V')
    (fun j o ho=>EF j o (by simpa using ho)) (oz LF RF ops) [] (Array.replicate ops.size false) st V (by simp) (fun j=>by
     simp only [eI,Array.getD]
     split<;>simp) (fun j hj=>.inr (cf.1 (h2 j hj))) (fun j hj=>by
     exfalso
     simp only [Array.getD] at hj
     split at hj<;>simp at hj) h3 (vR h4) (FV (fun s V' hle h=>⟨hle,h⟩) hv)
   rw [beq_eq.1 h1] at this
   exact sI hT hd (fun st' β' a' w' V' hM' h=>hK st' β' a' w' V' hM' h.1 h.2) _ _ _ β _ _ _ hM.drew this
  ·exact hv.elim
end Go.bE
namespace Go.bE
variable {P:Program} {T:cV} {LF RF:List Nat} {n:Nat} {V0:View} {bC:Ey} {β0:Nat->Nat} {β:Nat->Nat}
theorem cz {c:Bool}{l:List Prop}(h:∀p∈(cond c l [False]),p):c=true/\∀p∈l,p:=by
 cases c with
 | true=>exact ⟨rfl,h⟩
 | false=>exact (h False (by simp)).elim
theorem zK {ρ:List (Nat×Nat)}{β β':Nat->Nat}:∀{ss ts:List Nat},(∀s'∈ts,∀s,oc ρ s s'=true->β' s'=β s)->zJ ρ ss ts=true->ss.map β=ts.map β'
 | [],[],_,_=>rfl
 | s::r,s'::r',hβ,h=>by
  simp only [zJ,Bool.and_eq_true] at h
  simp only [List.map_cons]
  rw [hβ s' (by simp) s h.1,zK (fun u hu=>hβ u (by simp [hu])) h.2]
 | [],_::_,_,h=>by simp [zJ] at h
 | _::_,[],_,h=>by simp [zJ] at h
theorem GG {ρ:List (Nat×Nat)}{β β':Nat->Nat}{a b:C}(hβ:∀s'∈b.ids,∀s,oc ρ s s'=true->β' s'=β s)(h:∀p∈SJ ρ a b,p):a.den β=b.den β':=by
 unfold SJ at h
 split at h
 ·obtain ⟨h1,h2⟩:=cz h
  have:=zU h1
  have:=h2 _ (List.mem_singleton.2 rfl)
  subst_vars;rfl
 ·have:=h _ (List.mem_singleton.2 rfl);subst this;rfl
 ·have:=h _ (List.mem_singleton.2 rfl);subst this;rfl
 ·have:=h _ (List.mem_singleton.2 rfl);subst this;rfl
 ·rename_i a n c a' n' c'
  have h1:=h (a=a') (by simp)
  have h2:=h (n=n') (by simp)
  have h3:=h (c=c') (by simp)
  subst h1 h2 h3;rfl
 ·rename_i a n c s' n' c'
  have h1:=h (a=none) (by simp)
  have h2:=h (n=n') (by simp)
  have h3:=h (c=c') (by simp)
  have h4:=h (c=0) (by simp)
  subst h1 h2 h3 h4;rfl
 ·have:=h _ (List.mem_singleton.2 rfl);subst this;rfl
 ·have:=h _ (List.mem_singleton.2 rfl);subst this;rfl
 ·have:=h _ (List.mem_singleton.2 rfl);subst this;rfl
 ·have:=h _ (List.mem_singleton.2 rfl);subst this;rfl
 ·have:=h _ (List.mem_singleton.2 rfl);subst this;rfl
 ·rfl
 ·rfl
 ·rename_i s o s' o'
  obtain ⟨h1,h2⟩:=cz h
  have e:=hβ s' (by simp [C.ids]) s h1
  have:=h2 (o=o') (by simp)
  subst_vars;simp only [C.den,e]
 ·rename_i s o n c s' o' n' c'
  obtain ⟨h0,h⟩:=cz h
  have e:=hβ s' (by simp [C.ids]) s h0
  have h1:=h (o=o') (by simp)
  have h2:=h (n=n') (by simp)
  have h3:=h (c=c') (by simp)
  subst_vars;simp only [C.den,e]
 ·rename_i s o n c s' n' c'
  obtain ⟨h0,h⟩:=cz h
  have e:=hβ s' (by simp [C.ids]) s h0
  have h1:=h (o=0) (by simp)
  have h2:=h (n=n') (by simp)
  have h3:=h (c=c') (by simp)
  have h4:=h (c≠0) (by simp)
  subst h1 h2 h3;simp only [C.den,e,mA,h4,if_false]
 ·rename_i s n c s' n' c'
  obtain ⟨h0,h⟩:=cz h
  have e:=hβ s' (by simp [C.ids]) s h0
  have h2:=h (n=n') (by simp)
  have h3:=h (c=c') (by simp)
  subst_vars;simp only [C.den,e]
 ·rename_i f ss g ts
  obtain ⟨h0,h⟩:=cz h
  have h1:=h (f=g) (by simp)
  have e:ss.map β=ts.map β':=zK (β:=β) (β':=β') (ts:=ts) (fun s' hs=>hβ s' hs) h0
  subst h1
  have e2:(ss.map fun s=>Value.pointer (some ⟨β s,0,none⟩))=ts.map fun s=>Value.pointer (some ⟨β' s,0,none⟩):=by
   have:=congrArg (List.map fun b=>Value.pointer (some ⟨b,0,none⟩)) e
   simpa [List.map_map,Function.comp_def] using this
  simp only [C.den,e2]
 ·exact (h False (by simp)).elim
theorem ve {ρ:List (Nat×Nat)}{β β':Nat->Nat}:∀{l m:List C},(∀s'∈m.flatMap C.ids,∀s,oc ρ s s'=true->β' s'=β s)->(∀p∈E3 ρ l m,p)->l.map (C.den β)=m.map (C.den β')
 | [],[],_,_=>rfl
 | a::r,b::s,hβ,h=>by
  simp only [E3,List.mem_append] at h
  simp only [List.map_cons]
  rw [GG (fun u hu=>hβ u (by simp [hu])) fun p hp=>h p (.inl hp),ve (fun u hu=>hβ u (by rw [List.flatMap_cons];exact List.mem_append_right _ hu)) fun p hp=>h p (.inr hp)]
 | [],_::_,_,h=>(h False (by simp [E3])).elim
 | _::_,[],_,h=>(h False (by simp [E3])).elim
theorem Jw {ρ:List (Nat×Nat)}{β β':Nat->Nat}{a b:SV}(hβ:∀s'∈b.ids,∀s,oc ρ s s'=true->β' s'=β s)(h:∀p∈Oj ρ a b,p):a.den β=b.den β':=by
 unfold Oj at h
 split at h
 ·exact GG hβ h
 ·simp only [SV.den];rw [ve hβ h]
 ·exact (h False (by simp)).elim
theorem HP {ρ:List (Nat×Nat)}{β β':Nat->Nat}{a b:aQ}(hβ:∀s'∈b.cs.ids,∀s,oc ρ s s'=true->β' s'=β s)(h:∀p∈Jv ρ a b,p):a.obj β=b.obj β'/\(b.live->a.live):=by
 unfold Jv at h
 obtain ⟨ac,at'⟩:=a
 obtain ⟨bc,bt⟩:=b
 dsimp only at h
 split at h
 ·obtain ⟨h1,h2⟩:=cz h
  simp only [aQ.obj,Cells.den]
  rw [ve hβ h2,beq_eq.1 h1]
  exact ⟨rfl,fun _=>cL⟩
 ·obtain ⟨h1,h2⟩:=cz h
  have:=h2 _ (List.mem_singleton.2 rfl)
  subst this
  simp only [aQ.obj,Cells.den]
  rw [beq_eq.1 h1]
  exact ⟨rfl,fun _=>cd⟩
 ·obtain ⟨h1,h2⟩:=cz h
  have:=h2 _ (List.mem_singleton.2 rfl)
  subst this
  simp only [aQ.obj,Cells.den]
  rw [beq_eq.1 h1]
  exact ⟨rfl,fun l=>l⟩
 ·obtain ⟨h1,h2⟩:=cz h
  have:=h2 _ (List.mem_singleton.2 rfl)
  subst this
  simp only [aQ.obj,Cells.den]
  rw [beq_eq.1 h1]
  exact ⟨rfl,fun _=>cd⟩
 ·split at h
  ·rename_i ws hws
   obtain ⟨h1,h2⟩:=cz h
   have:=h2 _ (List.mem_singleton.2 rfl)
   subst this
   simp only [aQ.obj,Cells.den]
   rw [(fD (β:=β) hws).1,beq_eq.1 h1]
   exact ⟨rfl,fun _=>cL⟩
  ·exact (h False (by simp)).elim
 ·exact (h False (by simp)).elim
theorem bW {α:Type}:∀{l:List (Nat×α)} {t:Nat} {x:α},aC l t=some x->(t,x)∈l
 | [],_,_,h=>by cases h
 | (s,y)::r,t,x,h=>by
  simp only [aC] at h
  by_cases e:t=s
  ·subst e;rw [Nat.beq_refl] at h;cases h;simp
  ·rw [dw e] at h;exact List.mem_cons_of_mem _ (bW h)
theorem fJ {α:Type}:∀{l:List (Nat×α)} {t:Nat},t∈l.map (·.1)->∃x,aC l t=some x
 | [],_,h=>by simp at h
 | (s,y)::r,t,h=>by
  simp only [aC]
  by_cases e:t=s
  ·subst e;rw [Nat.beq_refl];exact ⟨_,rfl⟩
  ·rw [dw e]
   exact fJ (by simpa [e] using h)
theorem zO {ρ:List (Nat×Nat)}{β β':Nat->Nat}{st:St}:∀{l:List (Nat×SV)},(∀t x,(t,x)∈l->∀s'∈x.ids,∀s,oc ρ s s'=true->β' s'=β s)->(∀p∈LR ρ st l,p)->∀t x,(t,x)∈l->∃y,st.au t=some y/\y.den β=x.den β'
 | [],_,_,_,_,h=>nomatch h
 | (s,z)::r,hβ,h,t,x,hm=>by
  simp only [LR] at h
  split at h
  ·rename_i y hy
   simp only [List.mem_append] at h
   rcases List.mem_cons.1 hm with e|hm
   ·cases e;exact ⟨y,hy,Jw (hβ _ _ List.mem_cons_self) fun p hp=>h p (.inl hp)⟩
   ·exact zO (fun t x h=>hβ t x (by simp [h])) (fun p hp=>h p (.inr hp)) t x hm
  ·exact (h False (by simp)).elim
theorem zN {ρ:List (Nat×Nat)}{β β':Nat->Nat}{st:St}:∀{l:List (Nat×aQ)},(∀t x,(t,x)∈l->∀s'∈x.cs.ids,∀s,oc ρ s s'=true->β' s'=β s)->(∀p∈HU ρ st l,p)->∀t x,(t,x)∈l->x.live ->
  t∈mw ρ l/\∃y,st.boxes (BB ρ t)=some y/\y.obj β=x.obj β'/\y.live
 | [],_,_,_,_,h,_=>nomatch h
 | (s,z)::r,hβ,h,t,x,hm,hl=>by
  have Z_:∀t x,(t,x)∈r->∀s'∈x.cs.ids,∀s,oc ρ s s'=true->β' s'=β s:=fun t x h=>hβ t x (by simp [h])
  have tail:(∀p∈HU ρ st r,p)->(t,x)∈r->t∈mw ρ ((s,z)::r)/\∃y,st.boxes (BB ρ t)=some y/\y.obj β=x.obj β'/\y.live:=by
   intro h hm
   obtain ⟨h1,h2⟩:=zN Z_ h t x hm hl
   refine ⟨?_,h2⟩
   unfold mw
   split
   ·split
    ·exact List.mem_cons_of_mem _ h1
    ·exact h1
   ·exact List.mem_cons_of_mem _ h1
  simp only [HU] at h
  split at h
  ·rename_i l0 hcs hal
   rcases List.mem_cons.1 hm with e|hm
   ·cases e
    have:=h (l0=[]) (by simp)
    subst this
    exact absurd (hl [] hcs) (by simp)
   ·exact tail (fun p hp=>h p (List.mem_cons_of_mem _ hp)) hm
  ·rename_i hne
   split at h
   ·rename_i y hy
    simp only [List.mem_append] at h
    rcases List.mem_cons.1 hm with e|hm
    ·cases e
     obtain ⟨h1,h2⟩:=HP (hβ _ _ List.mem_cons_self) fun p hp=>h p (.inl hp)
     refine ⟨?_,y,hy,h1,h2 hl⟩
     unfold mw
     split
     ·rename_i l0 hcs
      split
      ·simp
      ·rename_i hal;exact absurd hal (hne l0 hcs)
     ·simp
    ·exact tail (fun p hp=>h p (.inr hp)) hm
   ·exact (h False (by simp)).elim
theorem DE {ρ:List (Nat×Nat)}:∀{l:List (Nat×aQ)} {t:Nat} {x:aQ},(t,x)∈l->(∃s,aC ρ t=some s)->t∈mw ρ l
 | [],_,_,h,_=>nomatch h
 | (s,z)::r,t,x,hm,ha=>by
  rcases List.mem_cons.1 hm with e|hm
  ·cases e
   unfold mw
   split
   ·obtain ⟨s,hs⟩:=ha
    rw [hs];simp
   ·simp
  ·have:=DE hm ha
   unfold mw
   split
   ·split
    ·exact List.mem_cons_of_mem _ this
    ·exact this
   ·exact List.mem_cons_of_mem _ this
theorem vY {ρ:List (Nat×Nat)}:∀{l:List Nat},Ah ρ l=true->(∀t∈l,(t<100000↔BB ρ t<100000)/\(100000<=t->t<200000->BB ρ t=t))/\∀t∈l,∀t'∈l,BB ρ t=BB ρ t'->t=t'
 | [],_=>⟨fun t h=>(nomatch h),fun t h=>(nomatch h)⟩
 | t::r,h=>by
  simp only [Ah,Bool.and_eq_true,List.all_eq_true] at h
  obtain ⟨⟨⟨h1,h2⟩,h3⟩,h4⟩:=h
  obtain ⟨i1,i2⟩:=vY h4
  have hlt:∀a b:Nat,Nat.blt a b=true↔a<b:=fun a b=>by rw [Nat.blt_eq]
  have k1:t<100000↔BB ρ t<100000:=by
   rw [←hlt,←hlt,beq_iff_eq.1 h1]
  have k2:100000<=t->t<200000->BB ρ t=t:=by
   intro g1 g2
   simp only [Bool.or_eq_true] at h2
   rcases h2 with (h2|h2)|h2
   ·rw [hlt] at h2;omega
   ·have:=Nat.le_of_ble_eq_true h2;omega
   ·exact beq_eq.1 h2
  have k3:∀u∈r,BB ρ t≠BB ρ u:=by
   intro u hu e
   have:=h3 u hu
   rw [e,Nat.beq_refl] at this
   cases this
  refine ⟨fun u hu=>?_,fun u hu v hv e=>?_⟩
  ·rcases List.mem_cons.1 hu with rfl|hu
   ·exact ⟨k1,k2⟩
   ·exact i1 u hu
  ·rcases List.mem_cons.1 hu with hu|hu<;>rcases List.mem_cons.1 hv with hv|hv
   ·rw [hu,hv]
   ·rw [hu] at e;exact absurd e (k3 v hv)
   ·rw [hv] at e;exact absurd e.symm (k3 u hu)
   ·exact i2 u hu v hv e
theorem wk {ss:List (Nat×SV)}{bs:List (Nat×aQ)}(h:mF ss bs=true) :
  (∀t x,aC ss t=some x->∀s∈x.ids,∃b,aC bs s=some b)/\(∀t x,aC bs t=some x->∀s∈x.cs.ids,∃b,aC bs s=some b):=by
 unfold mF at h
 simp only [Bool.and_eq_true,List.all_eq_true] at h
 refine ⟨fun t x hx s hs=>fJ (cf.1 (h.1 _ (bW hx) s hs)),fun t x hx s hs=>fJ (cf.1 (h.2 _ (bW hx) s hs))⟩
theorem yX:∀{l:List Prop},N8 l->∀p∈l,p
 | [],_,_,h=>nomatch h
 | [q],h,p,hp=>by rw [List.mem_singleton.1 hp];exact h
 | q::r::s,h,p,hp=>by
  rcases List.mem_cons.1 hp with e|e
  ·rw [e];exact h.1
  ·exact yX h.2 p e
theorem iT {st:St}{a:Act}{w:World}{V:View}(hM:Mod n V0 bC β0 st β a w V){A:NX}{x:A.τ}{k:Prop}(ht:mF (A.au x) (A.boxes x)=true)(h:A.fits st x k):(∃β',Mod n V0 bC β0 (A.st x) β' a w V)/\k:=by
 unfold NX.fits at h
 dsimp only at h
 generalize KE st (A.au x) (A.boxes x)=ρ at h
 obtain ⟨h1,h2⟩:=h
 refine ⟨?_,h2⟩
 replace h1:=yX h1
 obtain ⟨t1,t2⟩:=wk ht
 have hR:Ah ρ (mw ρ (A.boxes x))=true:=by
  have:=fun p hp=>h1 p (List.mem_append_right _ hp)
  unfold Qn at this
  cases hc:Ah ρ (mw ρ (A.boxes x)) with
  | true=>rfl
  | false=>rw [hc] at this;exact (this False (by simp)).elim
 obtain ⟨r1,r2⟩:=vY hR
 let β':Nat->Nat:=fun t=>if t∈mw ρ (A.boxes x) then β (BB ρ t) else β t
 have hin:∀t,t∈mw ρ (A.boxes x)->β' t=β (BB ρ t):=fun t h=>if_pos h
 have hβ:∀s',(∃b,aC (A.boxes x) s'=some b)->∀s,oc ρ s s'=true->β' s'=β s:=by
  rintro s' ⟨b,hb⟩ s he
  unfold oc at he
  split at he
  ·rename_i u hu
   have e:=beq_eq.1 he
   subst e
   rw [hin s' (DE (bW hb) ⟨_,hu⟩)]
   simp only [BB,hu]
  ·rename_i hu
   have e:=beq_eq.1 he
   subst e
   by_cases hm:s∈mw ρ (A.boxes x)
   ·rw [hin s hm];simp only [BB,hu]
   ·exact if_neg hm
 have UK:∀t y,(t,y)∈A.au x->∀s∈y.ids,∃b,aC (A.boxes x) s=some b:=by
  intro t y hy s hs
  unfold mF at ht
  simp only [Bool.and_eq_true,List.all_eq_true] at ht
  exact fJ (cf.1 (ht.1 _ hy s hs))
 have UJ:∀t y,(t,y)∈A.boxes x->∀s∈y.cs.ids,∃b,aC (A.boxes x) s=some b:=by
  intro t y hy s hs
  unfold mF at ht
  simp only [Bool.and_eq_true,List.all_eq_true] at ht
  exact fJ (cf.1 (ht.2 _ hy s hs))
 have fs:=zO (ρ:=ρ) (β:=β) (β':=β') (st:=st) (l:=A.au x) (fun t y hy s hs=>hβ s (UK t y hy s hs)) fun p hp=>h1 p (List.mem_append_left _ (List.mem_append_left _ hp))
 have fb:=zN (ρ:=ρ) (β:=β) (β':=β') (st:=st) (l:=A.boxes x) (fun t y hy s hs=>hβ s (UJ t y hy s hs)) fun p hp=>h1 p (List.mem_append_left _ (List.mem_append_right _ hp))
 refine ⟨β',hM.defers,hM.size,?_,t1,t2,?_,?_,hM.oR,?_,hM.ext,?_,?_,hM.kb,hM.small⟩
 ·intro t y hy
  obtain ⟨z,hz,hd⟩:=fs t y (bW hy)
  rw [hM.au t z hz,hd]
 ·intro s b hb l
  obtain ⟨hr,z,hz,hd,hl⟩:=fb s b (bW hb) l
  rw [hin s hr,hM.boxes _ z hz hl,hd]
 ·intro s s' b b' hb l hb' l' he
  obtain ⟨hr,z,hz,hd,hl⟩:=fb s b (bW hb) l
  obtain ⟨hr',z',hz',hd',hl'⟩:=fb s' b' (bW hb') l'
  rw [hin s hr,hin s' hr'] at he
  exact r2 s hr s' hr' (hM.inj _ _ z z' hz hl hz' hl' he)
 ·intro s b hb l
  obtain ⟨hr,z,hz,hd,hl⟩:=fb s b (bW hb) l
  rw [hin s hr]
  exact hM.tW _ z hz hl
 ·intro s b hb l
  obtain ⟨hr,z,hz,hd,hl⟩:=fb s b (bW hb) l
  rw [hin s hr]
  refine (hM.own _ z hz hl).imp id fun h=>⟨?_,h.2⟩
  have:=(r1 s hr).1
  omega
 ·intro s hs
  obtain ⟨g1,g2⟩:=hM.lJ s hs
  refine ⟨g1,?_⟩
  by_cases hm:s∈mw ρ (A.boxes x)
  ·rw [hin s hm,(r1 s hm).2 g1.1 g1.2];exact g2
  ·exact (if_neg hm:β' s=β s).trans g2
theorem EZ (hT:cV.ok P T)(hmx:P.follows .mixedOrders=true){L J:B9}:∀(c:Code)(st:St)(β:Nat->Nat)(a:Act)(w:World)(V:View)(K:Exit->St->View->Prop)(Q:Exit->Act->World->Prop),
  Mod n V0 bC β0 st β a w V->hU n c=true->vc P T LF RF L J c st V K->(∀e st' β' a' w' V',Mod n V0 bC β0 st' β' a' w' V'->V.Le V'->K e st' V'->Q e a' w')->c.wp P Q a w:=by
 intro c
 induction c with
 | skip=>intro st β a w V K Q hM _ hv hK;exact wp_skip (hK _ _ _ _ _ _ hM (View.Le.refl V) hv)
 | region id ops draw=>
  intro st β a w V K Q hM hb hv hK
  have hd:∀(i:Nat)(o:Oper),ops[i]?=some o->∀d,o.dst=some d->d<n:=by
   intro i o ho d hd
   simp only [hU,List.all_eq_true] at hb
   have:=hb o (by rw [←Array.getElem?_toList] at ho;exact List.mem_of_getElem? ho)
   rw [hd] at this
   simp only [Nat.blt_eq] at this
   exact this
  simp only [vc] at hv
  split at hv
  ·obtain ⟨st1,V1,hM1,hle1,hv1⟩:=hM.release hv
   exact pT hT hmx hM1 hd hv1 (fun st' β' a' w' V' hM' hle hk=>hK _ _ _ _ _ _ hM' (hle1.trans hle) hk)
  ·rename_i A hA
   obtain ⟨I,hv,hj⟩:=hv
   obtain ⟨st1,V1,hM1,hle1,hv1⟩:=hM.release hv
   refine pT (K:=fun _ s V'=>∃x,(A.at st).fits s x (I x V')) hT hmx hM1 hd hv1 (fun st' β' a' w' V' hM' hle hk=>?_)
   obtain ⟨x,hf⟩:=hk
   have hinv:I x V':=hf.2
   obtain ⟨h1,h2⟩:=hj x V' (hle1.trans hle) hinv
   obtain ⟨β2,hM2⟩:=(iT hM' h1 hf).1
   exact hK _ _ _ _ _ _ hM2 (hle1.trans hle) h2
 | seq x y PI ihy=>
  intro st β a w V K Q hM hb hv hK
  simp only [hU,Bool.and_eq_true] at hb
  refine wp_seq (PI st β a w V _ _ hM hb.1 hv ?_)
  intro e st' β' a' w' V' hM' hle hk
  cases e with
  | normal=>exact ihy st' β' a' w' V' K Q hM' hb.2 hk (fun e s b a w eN h1 h2 h3=>hK e s b a w eN h1 (hle.trans h2) h3)
  | _=>exact hK _ _ _ _ _ _ hM' hle hk
 | cond c x y PI ihy=>
  intro st β a w V K Q hM hb hv hK
  simp only [hU,Bool.and_eq_true] at hb
  simp only [vc] at hv
  split at hv
  ·split at hv
   ·rename_i hc
    exact wp_cond_true (hM.eval hc) (PI st β a w V K Q hM hb.1 hv hK)
   ·rename_i hc
    exact wp_cond_false (hM.eval hc) (ihy st β a w V K Q hM hb.2 hv hK)
   ·rename_i t hc
    exact wp_cond_split (hM.eval hc) (fun ht=>PI st β a w V K Q hM hb.1 (hv.1 ht) hK) (fun ht=>ihy st β a w V K Q hM hb.2 (hv.2 ht) hK)
   ·exact hv.elim
  ·rename_i A hA
   split at hv
   ·rename_i hc
    exact wp_cond_true (hM.eval hc) (PI st β a w V K Q hM hb.1 hv hK)
   ·rename_i hc
    exact wp_cond_false (hM.eval hc) (ihy st β a w V K Q hM hb.2 hv hK)
   ·rename_i t hc
    obtain ⟨I,⟨hx,hy⟩,hj⟩:=hv
    have join:∀e st' β' a' w' V',Mod n V0 bC β0 st' β' a' w' V'->V.Le V'->(match e with|.normal=>∃x,(A.at st).fits st' x (I x V')|e=>K e st' V')->Q e a' w':=by
     intro e st' β' a' w' V' hM' hle hk
     cases e with
     | normal=>
      obtain ⟨x,hf⟩:=hk
      have hinv:I x V':=hf.2
      obtain ⟨h1,h2⟩:=hj x V' hle hinv
      obtain ⟨β2,hM2⟩:=(iT hM' h1 hf).1
      exact hK _ _ _ _ _ _ hM2 hle h2
     | _=>exact hK _ _ _ _ _ _ hM' hle hk
    exact wp_cond_split (hM.eval hc) (fun ht=>PI st β a w V _ Q hM hb.1 (hx ht) join) (fun ht=>ihy st β a w V _ Q hM hb.2 (hy ht) join)
   ·exact hv.elim
 | block id x ih=>
  intro st β a w V K Q hM hb hv hK
  simp only [vc] at hv
  split at hv
  ·refine wp_block (ih st β a w V _ _ hM hb hv ?_)
   intro e st' β' a' w' V' hM' hle hk
   cases e with
   | normal=>exact hK _ _ _ _ _ _ hM' hle hk
   | exit i=>
    simp only [Exit.inBlock]
    dsimp only at hk
    by_cases e:i=id
    ·subst e
     rw [Nat.beq_refl] at hk
     simp only [if_true]
     exact hK _ _ _ _ _ _ hM' hle hk
    ·rw [dw e] at hk
     rw [if_neg e]
     exact hK _ _ _ _ _ _ hM' hle hk
   | _=>exact hK _ _ _ _ _ _ hM' hle hk
  ·rename_i A hA
   obtain ⟨I,hv,hj⟩:=hv
   refine wp_block (ih st β a w V _ _ hM hb hv ?_)
   intro e st' β' a' w' V' hM' hle hk
   have join:(∃x,(A.at st).fits st' x (I x V'))->Q .normal a' w':=by
    rintro ⟨x,hf⟩
    have hinv:I x V':=hf.2
    obtain ⟨h1,h2⟩:=hj x V' hle hinv
    obtain ⟨β2,hM2⟩:=(iT hM' h1 hf).1
    exact hK _ _ _ _ _ _ hM2 hle h2
   cases e with
   | normal=>exact join hk
   | exit i=>
    simp only [Exit.inBlock]
    dsimp only at hk
    by_cases e:i=id
    ·subst e
     rw [Nat.beq_refl] at hk
     simp only [if_true]
     exact join hk
    ·rw [dw e] at hk
     rw [if_neg e]
     exact hK _ _ _ _ _ _ hM' hle hk
   | _=>exact hK _ _ _ _ _ _ hM' hle hk
 | loop x ih=>
  intro st β a w V K Q hM hb hv hK
  simp only [vc] at hv
  split at hv
  ·exact hv.elim
  ·rename_i A hA
   split at hv
   ·obtain ⟨I,ms,⟨x0,hf0⟩,hr⟩:=hv
    have CU:I x0 V:=hf0.2
    refine wp_loop_ghost (fun m a w=>∃x β V',Mod n V0 bC β0 ((A.at st).st x) β a w V'/\V.Le V'/\I x V'/\ms x=m) (ms x0) ?_ ?_
    ·obtain ⟨β2,hM2⟩:=(iT hM (hr x0 V (View.Le.refl V) CU).1 hf0).1
     exact ⟨x0,β2,V,hM2,View.Le.refl V,CU,rfl⟩
    ·rintro m a w ⟨x,β,V',hM',hle,hinv,rfl⟩
     refine ih ((A.at st).st x) β a w V' _ _ hM' hb (hr x V' hle hinv).2 ?_
     intro e Pf β'' a'' w'' eN JI hle' hk
     cases e with
     | normal=>
      obtain ⟨y,hlt,hf⟩:=hk
      have CT:I y eN:=hf.2
      obtain ⟨β2,hM2⟩:=(iT JI (hr y eN (hle.trans hle') CT).1 hf).1
      exact ⟨ms y,hlt,y,β2,eN,hM2,hle.trans hle',CT,rfl⟩
     | _=>exact hK _ _ _ _ _ _ JI (hle.trans hle') hk
   ·obtain ⟨I,⟨x0,k0,hf0⟩,hr⟩:=hv
    have CU:I x0 k0 V:=hf0.2
    refine wp_loop_ghost (fun m a w=>∃x β V',Mod n V0 bC β0 ((A.at st).st x) β a w V'/\V.Le V'/\I x m V') k0 ?_ ?_
    ·obtain ⟨β2,hM2⟩:=(iT hM (hr x0 k0 V (View.Le.refl V) CU).1 hf0).1
     exact ⟨x0,β2,V,hM2,View.Le.refl V,CU⟩
    ·rintro m a w ⟨x,β,V',hM',hle,hinv⟩
     refine ih ((A.at st).st x) β a w V' _ _ hM' hb (hr x m V' hle hinv).2 ?_
     intro e Pf β'' a'' w'' eN JI hle' hk
     cases e with
     | normal=>
      obtain ⟨y,k',hlt,hf⟩:=hk
      have CT:I y k' eN:=hf.2
      obtain ⟨β2,hM2⟩:=(iT JI (hr y k' eN (hle.trans hle') CT).1 hf).1
      exact ⟨k',hlt,y,β2,eN,hM2,hle.trans hle',CT⟩
     | _=>exact hK _ _ _ _ _ _ JI (hle.trans hle') hk
 | exit id=>intro st β a w V K Q hM _ hv hK;exact wp_exit (hK _ _ _ _ _ _ hM (View.Le.refl V) hv)
 | scope x ih=>
  intro st β a w V K Q hM hb hv hK
  simp only [vc] at hv
  refine wp_scope_straight (ih st β a w V _ _ hM hb hv ?_)
  intro e st' β' a' w' V' hM' hle hk
  cases e with
  | goto l=>exact hk.elim
  | _=>exact hK _ _ _ _ _ _ hM' hle hk
 | label l=>intro st β a w V K Q hM _ hv hK;exact wp_label (hK _ _ _ _ _ _ hM (View.Le.refl V) hv)
 | ret=>intro st β a w V K Q hM _ hv hK;exact wp_ret (hK _ _ _ _ _ _ hM (View.Le.refl V) hv)
 | _=>intro st β a w V K Q hM _ hv hK;exact hv.elim
end Go.bE
namespace Go.bE
variable {P:Program} {T:cV} {LF RF:List Nat} {n:Nat} {V0:View} {bC:Ey} {β0:Nat->Nat} {β:Nat->Nat} {st:St} {a:Act} {w:World} {V:View}
def MM (tmps:Array Value):ResultVar->Sem Value
 | .tmp t=>pure (tmps.getD t undef)
 | .cell c t=>do loadVar t (←asAddr (tmps.getD c undef))
theorem FK (fn:Func)(tmps:Array Value):results fn tmps=(do let vs ←fn.results.mapM (MM tmps);pure (if h:vs.size=1 then vs[0] else .tuple vs)):=by
 unfold results
 congr 1
theorem my (hT:cV.ok P T)(hM:Mod n V0 bC β0 st β a w V):∀{l:List ResultVar} {xs:List SV},lj T st l=some xs ->
  (l.mapM (MM a.tmps)).run P w=.ok (xs.map (SV.den β)) w/\∀x∈xs,Live st x
 | [],xs,h=>by cases h;exact ⟨rfl,fun x hx=>nomatch hx⟩
 | .tmp t::r,xs,h=>by
  simp only [lj] at h
  split at h
  ·rename_i x l hx hl
   cases h
   obtain ⟨h1,h2⟩:=my hT hM hl
   refine ⟨?_,fun y hy=>?_⟩
   ·simp only [List.mapM_cons,MM,Sem.run_bind,Sem.run_pure,Result.andThen_ok,h1,List.map_cons]
    rw [hM.au t x hx]
   ·rcases List.mem_cons.1 hy with rfl|hy
    ·exact hM.yP t y hx
    ·exact h2 y hy
  ·cases h
 | .cell c t::r,xs,h=>by
  simp only [lj] at h
  split at h
  ·rename_i s o i l hx hi hl
   split at h
   ·rename_i sc x hq
    cases h
    obtain ⟨h1,h2⟩:=my hT hM hl
    obtain ⟨g1,g2⟩:=Ac hM (hT _ _ hi) hq
    have g3:(loadVar t ⟨β s,o,none⟩).run P w=.ok (x.den β) w:=g1
    refine ⟨?_,fun y hy=>?_⟩
    ·have e1:a.tmps.getD c undef=.pointer (some ⟨β s,o,none⟩):=hM.au c _ hx
     have e2:asAddr (.pointer (some ⟨β s,o,none⟩))=pure ⟨β s,o,none⟩:=rfl
     simp only [List.mapM_cons,MM,e1,e2,Sem.run_bind,Result.andThen_ok,Sem.run_pure,g3,h1,List.map_cons]
    ·rcases List.mem_cons.1 hy with rfl|hy
     ·exact g2
     ·exact h2 y hy
   ·cases h
  ·cases h
theorem DF (hT:cV.ok P T)(hM:Mod n V0 bC β0 st β a w V){fn:Func}{xs:List SV}(h:lj T st fn.results.toList=some xs) :
  (results fn a.tmps).run P w=.ok (lh β xs) w/\∀x∈xs,Live st x:=by
 obtain ⟨h1,h2⟩:=my hT hM h
 refine ⟨?_,h2⟩
 rw [FK,Array.mapM_eq_mapM_toList]
 simp only [map_eq_pure_bind,bind_assoc,pure_bind,Sem.run_bind]
 rw [h1]
 simp only [Result.andThen_ok,Sem.run_pure]
 match xs with
 | []=>simp [lh]
 | [x]=>simp [lh]
 | x::y::r=>simp [lh]
def I9 (β0:Nat->Nat)(s:Nat)(b:aQ):List (Nat×aQ)->Prop
 | []=>True
 | (t,b')::r=>pG (IL b++IL b') (β0 s≠β0 t)/\I9 β0 s b r
def Lx (β0:Nat->Nat)(V:View):List (Nat×aQ)->Prop
 | []=>True
 | (s,b)::r=>(pG (IL b) (V.w.heap[β0 s]?=some (b.obj β0))/\pG (IL b) (V.X (β0 s)))/\I9 β0 s b r/\Lx β0 V r
theorem nX {s:Nat}{b:aQ}:∀{r:List (Nat×aQ)},I9 β0 s b r->∀t b',aC r t=some b'->b.live->b'.live->β0 s≠β0 t
 | [],_,_,_,h=>by cases h
 | (u,c)::r,h,t,b',ha=>by
  simp only [aC] at ha
  by_cases e:t=u
  ·subst e;rw [Nat.beq_refl] at ha;cases ha
   have h1:=h.1
   rw [rX,fe] at h1
   exact fun l l'=>fe.1 (h1 l) l'
  ·rw [dw e] at ha;exact nX h.2 t b' ha
theorem zj:∀{bs:List (Nat×aQ)},Lx β0 V bs->(∀s b,aC bs s=some b->b.live->V.w.heap[β0 s]?=some (b.obj β0)/\V.X (β0 s))/\∀s s' b b',aC bs s=some b->b.live->aC bs s'=some b'->b'.live->β0 s=β0 s'->s=s'
 | [],_=>⟨fun s b h=>(by cases h),fun s s' b b' h=>(by cases h)⟩
 | (s,b)::r,⟨h1,h2,h3⟩=>by
  obtain ⟨g1,g2⟩:=zj h3
  refine ⟨fun t x h l=>?_,fun t t' x x' ht l CV l' he=>?_⟩
  ·simp only [aC] at h
   by_cases e:t=s
   ·subst e;rw [Nat.beq_refl] at h;cases h;exact ⟨fe.1 h1.1 l,fe.1 h1.2 l⟩
   ·rw [dw e] at h;exact g1 t x h l
  ·simp only [aC] at ht CV
   by_cases e:t=s<;>by_cases e':t'=s
   ·rw [e,e']
   ·subst e;rw [Nat.beq_refl] at ht;cases ht
    rw [dw e'] at CV
    exact absurd he (nX h2 t' x' CV l l')
   ·subst e';rw [Nat.beq_refl] at CV;cases CV
    rw [dw e] at ht
    exact absurd he.symm (nX h2 t x ht l' l)
   ·rw [dw e] at ht
    rw [dw e'] at CV
    exact g2 t t' x x' ht l CV l' he
theorem mB:∀{l:List (Nat×SV)} {i:Nat},nq i l=true->∀t x,aC l t=some x->∃k,t=i+k/\l[k]?=some (t,x)
 | [],_,_,_,_,h=>by cases h
 | (j,y)::r,i,hs,t,x,h=>by
  simp only [nq,Bool.and_eq_true] at hs
  obtain ⟨⟨h1,-⟩,h2⟩:=hs
  have h1:=beq_eq.1 h1
  simp only [aC] at h
  by_cases e:t=j
  ·subst e;rw [Nat.beq_refl] at h;cases h;exact ⟨0,by omega,rfl⟩
  ·rw [dw e] at h
   obtain ⟨k,h3,h4⟩:=mB h2 t x h
   exact ⟨k+1,by omega,by simpa using h4⟩
theorem qD {bx:Nat->Option aQ}{V':View}:∀{l:List Nat} {k:Prop},I8 bx β V' l k->(∀s∈l,∀b,bx s=some b->b.live->V'.w.heap[β s]?=some (b.obj β))->(∀s∈l,∃b,bx s=some b/\b.live)/\k
 | [],_,h,_=>⟨fun s hs=>(nomatch hs),h⟩
 | s::r,k,h,hf=>by
  simp only [I8] at h
  split at h
  ·exact h.elim
  ·rename_i b hne hb
   have lb:b.live:=by
    intro vs e
    obtain ⟨cs,ty⟩:=b
    dsimp only at e
    subst e
    exact absurd rfl (hne vs ty)
   obtain ⟨h1,h2⟩:=qD (h (hf s (by simp) b hb lb)) fun t ht=>hf t (List.mem_cons_of_mem _ ht)
   exact ⟨fun t ht=>by rcases List.mem_cons.1 ht with rfl|ht;exact ⟨b,hb,lb⟩;exact h1 t ht,h2⟩
  ·exact h.elim
theorem zP:∀{bs:List (Nat×aQ)} {m:Nat} {b:aQ},(m,b)∈bs->(∃vs,b.cs=.a_ vs)\/m∈jj bs
 | [],_,_,h=>nomatch h
 | (s,x)::r,m,b,h=>by
  rcases List.mem_cons.1 h with e|h
  ·cases e
   unfold jj
   split
   ·rename_i vs hcs;exact .inl ⟨vs,hcs⟩
   ·exact .inr (by simp)
  ·refine (zP h).imp id fun h=>?_
   unfold jj
   split
   ·exact h
   ·exact List.mem_cons_of_mem _ h
theorem vj:∀{bs:List (Nat×aQ)} {m:Nat},m∈jj bs->m∈bs.map (·.1)
 | [],_,h=>nomatch h
 | (s,x)::r,m,h=>by
  unfold jj at h
  split at h
  ·exact List.mem_cons_of_mem _ (vj h)
  ·rcases List.mem_cons.1 h with rfl|h
   ·simp
   ·exact List.mem_cons_of_mem _ (vj h)
theorem zZ {b:Nat}{k:Prop}:∀{bs:List (Nat×aQ)} {m:Nat} {vs:List Value} {ty:TypeId},(m,(⟨.a_ vs,ty⟩:aQ))∈bs->vs≠[]->b=β0 m->J1 bs β0 b k
 | [],_,_,_,h,_,_=>nomatch h
 | (s,x)::r,m,vs,ty,h,hv,he=>by
  rcases List.mem_cons.1 h with e|h
  ·cases e;exact .inl ⟨hv,he⟩
  ·have:=zZ (k:=k) h hv he
   unfold J1
   split
   ·exact .inr this
   ·exact this
theorem kn {l m:List Nat}{s:Nat}:s∈minus l m↔s∈l/\s∉m:=by
 unfold minus
 rw [List.mem_filter,Bool.not_eq_true']
 refine and_congr_right fun _=>⟨fun h hm=>?_,fun h=>?_⟩
 ·rw [cf.2 hm] at h;cases h
 ·cases hb:eI s m
  ·rfl
  ·exact absurd (cf.1 hb) h
theorem Hi {bx:Nat->Option aQ}{s:Nat}(h:sF T bx s=false):s<100000:=by
 rcases Nat.lt_or_ge s 100000 with g|g
 ·exact g
 ·unfold sF at h
  rw [show Nat.ble 100000 s=true from by rw [Nat.ble_eq];exact g] at h
  cases h
theorem Ai {bs:List (Nat×aQ)}(hT:cV.ok P T)(hM:Mod n V0 ⟨jj bs,fun b=>∃m b0,aC bs m=some b0/\b0.live/\b=β0 m⟩ β0 st β a w V){fn:Func}{R:Value->View->Prop}(hv:G8 T fn.results.toList bs β0 V0.w.heap.size R st V) :
  ∃v,(results fn a.tmps).run P w=.ok v w/\R v (V0.to w hM.ext.size):=by
 unfold G8 at hv
 split at hv
 ·exact hv.elim
 ·rename_i xs hxs
  obtain ⟨h1,h2⟩:=DF hT hM hxs
  dsimp only at hv
  split at hv
  ·exact hv.elim
  ·rename_i hcl
   generalize hL:reach st.boxes 3 (dedup (xs.flatMap SV.ids++jj bs))=L at hv hcl
   have hin:∀s,s∈xs.flatMap SV.ids\/s∈jj bs->s∈L:=fun s hs=>by
    rw [←hL];exact eE 3 _ s (bK.2 (List.mem_append.2 hs))
   have hle:V.Le (V0.to w hM.ext.size):=by
    intro b o hb
    obtain ⟨g1,g2⟩:=hM.oR b o hb
    exact ⟨g2,g1⟩
   have γf:∀γ:Nat->Nat,γ=(fun t=>if t∈minus L (jj bs) then β t else β0 t)->(∀s∈L,γ s=β s)/\lh γ xs=lh β xs:=by
    intro γ hγ
    have jh:∀s∈L,γ s=β s:=by
     intro s hs
     rw [hγ]
     by_cases hb:s∈jj bs
     ·have:s∉minus L (jj bs):=fun h=>(kn.1 h).2 hb
      simp only [this,if_false]
      exact (hM.lJ s hb).2.symm
     ·simp only [kn.2 ⟨hs,hb⟩,if_true]
    refine ⟨jh,?_⟩
    have hx:∀x∈xs,x.den γ=x.den β:=fun x hx=>SV.bL fun s hs=>jh s (hin s (.inl (List.mem_flatMap.2 ⟨x,hx,hs⟩)))
    match xs,hx with
    | [],_=>rfl
    | [x],hx=>exact hx x (by simp)
    | x::y::r,hx=>simp only [lh];rw [List.map_congr_left hx]
   have vt:∀γ:Nat->Nat,(∀s∈L,γ s=β s)->∀s∈L,∀b,st.boxes s=some b->b.live->(V0.to w hM.ext.size).w.heap[γ s]?=some (b.obj γ):=by
    intro γ jh s hs b hb l
    rw [jh s hs,aQ.di fun t ht=>jh t (gS hcl hs hb t ht)]
    exact hM.boxes s b hb l
   have hrel:∀γ:Nat->Nat,(∀s∈L,γ s=β s)->∀s∈L,s<100000->∀b,st.boxes s=some b->b.live->(V0.to w hM.ext.size).bG (γ s) (b.obj γ):=by
    intro γ jh s hs hsm b hb l
    refine ⟨fun hH=>?_,vt γ jh s hs b hb l⟩
    have hH:V0.H (γ s):=hH
    rw [jh s hs] at hH
    rcases hM.own s b hb l with h|⟨h,-⟩
    ·have:=V0.hH _ hH;omega
    ·omega
   split at hv
   ·rename_i LZ
    have hsm:∀s∈minus L (jj bs),s<100000:=by
     intro s hs
     cases ht:sF T st.boxes s with
     | false=>exact Hi ht
     | true=>
      have:s∈(minus L (jj bs)).filter (sF T st.boxes):=List.mem_filter.2 ⟨hs,ht⟩
      rw [LZ] at this;cases this
    have hv1:=j8 (hv _ hle) β
    generalize hγ:(fun t=>if t∈minus L (jj bs) then β t else β0 t)=γ at hv1
    obtain ⟨jh,hres⟩:=γf γ hγ.symm
    obtain ⟨-,hv2⟩:=qD hv1 (fun s hs b hb l=>vt γ jh s (hin s (.inr hs)) b hb l)
    obtain ⟨-,hv3⟩:=ku hv2 (fun s hs b hb l=>hrel γ jh s (kn.1 hs).1 (hsm s hs) b hb l)
    refine ⟨_,h1,?_⟩
    rw [←hres]
    exact hv3
   ·rename_i s LZ
    split at hv
    ·rename_i b hb
     have hs:s∈minus L (jj bs):=by
      have:s∈(minus L (jj bs)).filter (sF T st.boxes):=by rw [LZ];simp
      exact (List.mem_filter.1 this).1
     obtain ⟨hsL,ZR⟩:=kn.1 hs
     have hv1:=j8 (hv (V0.to w hM.ext.size)) β
     generalize hγ:(fun t=>if t∈minus L (jj bs) then β t else β0 t)=γ at hv1
     obtain ⟨jh,hres⟩:=γf γ hγ.symm
     have hle2:V.Le ((V0.to w hM.ext.size).mf (TS b) (γ s)):=by
      intro x o hx
      obtain ⟨g1,g2⟩:=hle x o hx
      refine ⟨fun hh=>?_,g2⟩
      rcases hh with hh|⟨hp,e,-⟩
      ·exact g1 hh
      ·rw [jh s hsL] at e
       exact hM.tW s b hb (LU.1 hp) o (e▸hx)
     obtain ⟨hF,hv2⟩:=qD (hv1 hle2) (fun s hs b hb l=>vt γ jh s (hin s (.inr hs)) b hb l)
     have hv3:=hv2 (fe.2 fun l=>vt γ jh s hsL b hb l) (fe.2 fun l=>by
      rw [jh s hsL]
      rcases hM.own s b hb l with h|⟨-,m,b0,hm,l0,he⟩
      ·exact .inl h
      ·right
       rcases zP (bW hm) with ⟨vs,hcs⟩|Uv
       ·obtain ⟨cs,ty⟩:=b0
        dsimp only at hcs
        subst hcs
        exact zZ (bW hm) (l0 vs rfl) he
       ·exfalso
        obtain ⟨b1,hb1,l1⟩:=hF m Uv
        have e:=(hM.lJ m Uv).2
        rw [←e] at he
        have:=hM.inj s m b b1 hb l hb1 l1 he
        exact ZR (this▸Uv))
     obtain ⟨-,hv4⟩:=ku hv3 (fun u hu b' hb' l'=>by
      obtain ⟨g1,g2⟩:=List.mem_filter.1 hu
      have QK:u≠s:=fun e=>by subst e;rw [Nat.beq_refl] at g2;cases g2
      have hlt:u<100000:=by
       cases ht:sF T st.boxes u with
       | false=>exact Hi ht
       | true=>
        have:u∈(minus L (jj bs)).filter (sF T st.boxes):=List.mem_filter.2 ⟨g1,ht⟩
        rw [LZ] at this
        exact absurd (List.mem_singleton.1 this) QK
      exact hrel γ jh u (kn.1 g1).1 hlt b' hb' l')
     refine ⟨_,h1,?_⟩
     rw [←hres]
     exact hv4
    ·exact hv.elim
   ·exact hv.elim
theorem Jx (hT : cV.ok P T)(hmx : P.follows .mixedOrders = true){L J : B9}{f : FuncId}{fn : Func}(hf : P.funcs[f]? = some fn)(hn : (fn.name == "runtime.NumGoroutine") = false)
  {ss:List (Nat×SV)}{bs:List (Nat×aQ)}{args:Array Value}{R:Value->View->Prop}(ha:args=(ss.map fun x=>x.2.den β0).toArray)(hb:Lx β0 V bs)
  (hv:BH P T LF RF L J fn ss bs β0 V R):ab P f args V R:=by
 unfold BH at hv
 split at hv
 ·rename_i code hcode
  split at hv
  ·rename_i H0
   simp only [Bool.and_eq_true,List.all_eq_true,Nat.ble_eq] at H0
   obtain ⟨⟨⟨⟨⟨hbelow,Fh⟩,hlen⟩,hsmall⟩,fF⟩,ZV⟩:=H0
   have Ns:∀x∈bs,100000<=x.1/\x.1<200000:=fun x hx=>by
    obtain ⟨g1,g2⟩:=fF x hx
    exact ⟨g1,Nat.le_of_ble_eq_true g2⟩
   refine ⟨⟨fn,hf,by rw [hcode];rfl,hn⟩,calls_of_wp hf hcode ?_⟩
   obtain ⟨b1,b2⟩:=zj hb
   obtain ⟨t1,t2⟩:=wk ZV
   have hsz:args.size=ss.length:=by rw [ha];simp
   have hM:Mod fn.ntmps V ⟨jj bs,fun b=>∃m b0,aC bs m=some b0/\b0.live/\b=β0 m⟩ β0 ⟨aC ss,aC bs⟩ β0 { tmps:=args++Array.replicate (fn.ntmps-args.size) undef,defers:=[] } V.w V:=by
    refine ⟨rfl,by simp;omega,?_,t1,t2,fun s b h l=>(b1 s b h l).1,fun s s' b b' h l h' l'=>b2 s s' b b' h l h' l',fun b o h=>⟨h.2,h.1⟩,fun s b h l o ho=>ho.1 (V.hX _ (b1 s b h l).2),eM.refl _ _,?_,?_,?_,hsmall⟩
    ·intro t x hx
     obtain ⟨k,h1,h2⟩:=mB Fh t x hx
     have hk:k<ss.length:=by
      rcases Nat.lt_or_ge k ss.length with h'|h'
      ·exact h'
      ·rw [List.getElem?_eq_none h'] at h2;cases h2
     have htk:t=k:=by omega
     subst htk
     have:args[t]?=some (x.den β0):=by rw [ha];simp [h2]
     have hlt:t<args.size:=by omega
     show (args++Array.replicate (fn.ntmps-args.size) undef).getD t undef=_
     rw [Array.getD_eq_getD_getElem?,Array.getElem?_append_left hlt,this]
     rfl
    ·intro s b h l
     exact .inr ⟨(Ns _ (bW h)).1,s,b,h,l,rfl⟩
    ·intro s hs
     obtain ⟨x,hx,rfl⟩:=List.mem_map.1 (vj hs)
     exact ⟨Ns x hx,rfl⟩
    ·rintro b ⟨m,b0,hm,l,rfl⟩
     exact (b1 m b0 hm l).2
   refine EZ hT hmx code _ β0 _ _ V _ _ hM hbelow hv ?_
   intro e st' β' a' w' V' hM' hle hk
   cases e with
   | normal=>
    obtain ⟨v,h1,h2⟩:=Ai hT hM' hk
    exact ⟨hM'.defers,v,h1,v,rfl,hM'.ext,h2⟩
   | ret=>
    obtain ⟨v,h1,h2⟩:=Ai hT hM' hk
    exact ⟨hM'.defers,v,h1,v,rfl,hM'.ext,h2⟩
   | _=>exact hk.elim
  ·exact hv.elim
 ·exact hv.elim
theorem AZ (hT : cV.ok P T)(hmx : P.follows .mixedOrders = true)(L J : B9){f : FuncId}{fn : Func}(hf : P.funcs[f]? = some fn)(hn : (fn.name == "runtime.NumGoroutine") = false)
  (ss:List (Nat×SV))(bs:List (Nat×aQ)){args:Array Value}{R:Value->View->Prop}(ha:args=(ss.map fun x=>x.2.den β0).toArray)(hb:Lx β0 V bs)
  {G:Prop}(h:G)(hG:G=BH P T LF RF L J fn ss bs β0 V R):ab P f args V R:=by
 subst hG
 exact Jx hT hmx hf hn ha hb h
theorem NO (h:T.map (fun x=>kq P x.1)=T.map fun x=>some x.2):cV.ok P T:=by
 intro t i hi
 have hm:=bW hi
 obtain ⟨k,hk⟩:=List.getElem?_of_mem hm
 have:=congrArg (fun l=>l[k]?) h
 simp only [List.getElem?_map,hk,Option.map_some,Option.some.injEq] at this
 exact this
end Go.bE
namespace Go.Proofs.Tryz
open Go.bE
abbrev aR:List Nat:=[]
def VM:cV:=[
 (3,⟨.int .i64,1,8,[.v (.int .i64 0)]⟩),
 (4,⟨.bool,1,1,[.ff]⟩),
 (0,⟨.tuple [],1,0,[.v (.tuple #[])]⟩),
 (139,⟨.struct [(2,0),(2,1),(137,2)],3,24,[.v (.int .i64 0),.v (.int .i64 0),.v (.pointer none)]⟩),
 (31,⟨.struct [(25,0),(23,2)],3,56,[.ff,.v (.slice none 0 0),.v (.slice none 0 0)]⟩),
 (187,⟨.int .u64,1,8,[.v (.int .u64 0)]⟩),
 (38,⟨.slice 188,1,24,[.v (.slice none 0 0)]⟩),
 (188,⟨.int .u32,1,4,[.v (.int .u32 0)]⟩),
 (33,⟨.struct [(31,0),(31,3)],6,112,[.ff,.v (.slice none 0 0),.v (.slice none 0 0),.ff,.v (.slice none 0 0),.v (.slice none 0 0)]⟩),
 (27,⟨.struct [(25,0),(25,2),(25,4)],6,96,[.ff,.v (.slice none 0 0),.ff,.v (.slice none 0 0),.ff,.v (.slice none 0 0)]⟩),
 (23,⟨.slice 188,1,24,[.v (.slice none 0 0)]⟩),
 (37,⟨.struct [(35,0)],1,24,[.v (.slice none 0 0)]⟩),
 (25,⟨.struct [(4,0),(23,1)],2,32,[.ff,.v (.slice none 0 0)]⟩),
 (2,⟨.int .i64,1,8,[.v (.int .i64 0)]⟩),
 (47,⟨.iface,1,16,[.v (.nilIface)]⟩),
 (40,⟨.struct [(4,0),(38,1)],2,32,[.ff,.v (.slice none 0 0)]⟩),
 (141,⟨.struct [(139,0),(139,3),(139,6)],9,72,[.v (.int .i64 0),.v (.int .i64 0),.v (.pointer none),.v (.int .i64 0),.v (.int .i64 0),.v (.pointer none),.v (.int .i64 0),.v (.int .i64 0),.v (.pointer none)]⟩),
 (148,⟨.struct [(139,0),(139,3)],6,48,[.v (.int .i64 0),.v (.int .i64 0),.v (.pointer none),.v (.int .i64 0),.v (.int .i64 0),.v (.pointer none)]⟩),
 (56,⟨.slice 27,1,24,[.v (.slice none 0 0)]⟩),
 (119,⟨.slice 211,1,24,[.v (.slice none 0 0)]⟩),
 (209,⟨.struct [(139,0),(139,3),(4,6),(4,7)],8,56,[.v (.int .i64 0),.v (.int .i64 0),.v (.pointer none),.v (.int .i64 0),.v (.int .i64 0),.v (.pointer none),.ff,.ff]⟩),
 (67,⟨.struct [(40,0),(38,2)],3,56,[.ff,.v (.slice none 0 0),.v (.slice none 0 0)]⟩),
 (211,⟨.struct [(141,0),(209,9)],17,128,[.v (.int .i64 0),.v (.int .i64 0),.v (.pointer none),.v (.int .i64 0),.v (.int .i64 0),.v (.pointer none),.v (.int .i64 0),.v (.int .i64 0),.v (.pointer none),.v (.int .i64 0),.v (.int .i64 0),.v (.pointer none),.v (.int .i64 0),.v (.int .i64 0),.v (.pointer none),.ff,.ff]⟩),
 (42,⟨.struct [(40,0),(40,2),(40,4)],6,96,[.ff,.v (.slice none 0 0),.ff,.v (.slice none 0 0),.ff,.v (.slice none 0 0)]⟩),
 (71,⟨.struct [(67,0),(67,3)],6,112,[.ff,.v (.slice none 0 0),.v (.slice none 0 0),.ff,.v (.slice none 0 0),.v (.slice none 0 0)]⟩),
 (35,⟨.slice 42,1,24,[.v (.slice none 0 0)]⟩),
 (137,⟨.ptr 256,1,8,[.v (.pointer none)]⟩),
 (22,⟨.slice 188,1,24,[.v (.slice none 0 0)]⟩),
 (154,⟨.struct [(31,0),(31,3),(4,6),(4,7)],8,120,[.ff,.v (.slice none 0 0),.v (.slice none 0 0),.ff,.v (.slice none 0 0),.v (.slice none 0 0),.ff,.ff]⟩),
 (63,⟨.slice 71,1,24,[.v (.slice none 0 0)]⟩),
 (189,⟨.int .u64,1,8,[.v (.int .u64 0)]⟩),
 (78,⟨.slice 33,1,24,[.v (.slice none 0 0)]⟩),
 (58,⟨.ptr 136,1,8,[.v (.pointer none)]⟩),
 (118,⟨.slice 211,1,24,[.v (.slice none 0 0)]⟩),
 (52,⟨.slice 3,1,24,[.v (.slice none 0 0)]⟩),
 (256,⟨.struct [(40,0),(38,2)],3,56,[.ff,.v (.slice none 0 0),.v (.slice none 0 0)]⟩),
 (115,⟨.slice 141,1,24,[.v (.slice none 0 0)]⟩),
 (145,⟨.slice 148,1,24,[.v (.slice none 0 0)]⟩),
 (136,⟨.struct [(52,0),(3,1)],2,32,[.v (.slice none 0 0),.v (.int .i64 0)]⟩),
 (60,⟨.tuple [3,47],1,0,[.v (.tuple #[.int .i64 0,.nilIface])]⟩),
 (247,⟨.tuple [187,4],1,0,[.v (.tuple #[.int .u64 0,.bool false])]⟩),
 (53,⟨.tuple [37,47],1,0,[.v (.tuple #[.agg #[.slice none 0 0],.nilIface])]⟩),
 (101,⟨.tuple [33,4],1,0,[.v (.tuple #[.agg #[.bool false,.slice none 0 0,.slice none 0 0,.bool false,.slice none 0 0,.slice none 0 0],.bool false])]⟩),
 (192,⟨.tuple [23,23],1,0,[.v (.tuple #[.slice none 0 0,.slice none 0 0])]⟩),
 (126,⟨.tuple [119,47],1,0,[.v (.tuple #[.slice none 0 0,.nilIface])]⟩),
 (272,⟨.tuple [2,4],1,0,[.v (.tuple #[.int .i64 0,.bool false])]⟩),
 (68,⟨.tuple [67,47],1,0,[.v (.tuple #[.agg #[.bool false,.slice none 0 0,.slice none 0 0],.nilIface])]⟩),
 (120,⟨.tuple [119,4],1,0,[.v (.tuple #[.slice none 0 0,.bool false])]⟩),
 (214,⟨.tuple [209,4],1,0,[.v (.tuple #[.agg #[.int .i64 0,.int .i64 0,.pointer none,.int .i64 0,.int .i64 0,.pointer none,.bool false,.bool false],.bool false])]⟩),
 (243,⟨.slice 38,1,24,[.v (.slice none 0 0)]⟩),
 (244,⟨.slice 67,1,24,[.v (.slice none 0 0)]⟩),
 (5,⟨.int .u8,1,1,[.v (.int .u8 0)]⟩),
 (9,⟨.str,1,16,[.v (.string ByteArray.empty)]⟩),
 (28,⟨.tuple [27,4],1,0,[.v (.tuple #[.agg #[.bool false,.slice none 0 0,.bool false,.slice none 0 0,.bool false,.slice none 0 0],.bool false])]⟩),
 (48,⟨.tuple [4,47],1,0,[.v (.tuple #[.bool false,.nilIface])]⟩),
 (74,⟨.tuple [56,4],1,0,[.v (.tuple #[.slice none 0 0,.bool false])]⟩),
 (91,⟨.slice 37,1,24,[.v (.slice none 0 0)]⟩),
 (116,⟨.tuple [115,4],1,0,[.v (.tuple #[.slice none 0 0,.bool false])]⟩),
 (319,⟨.struct [(9,0)],1,16,[.v (.string ByteArray.empty)]⟩),
 (64,⟨.tuple [63,47],1,0,[.v (.tuple #[.slice none 0 0,.nilIface])]⟩),
 (249,⟨.tuple [188,188],1,0,[.v (.tuple #[.int .u32 0,.int .u32 0])]⟩),
 (278,⟨.tuple [38,38,4],1,0,[.v (.tuple #[.slice none 0 0,.slice none 0 0,.bool false])]⟩),
 (206,⟨.slice 47,1,24,[.v (.slice none 0 0)]⟩),
 (72,⟨.tuple [71,47],1,0,[.v (.tuple #[.agg #[.bool false,.slice none 0 0,.slice none 0 0,.bool false,.slice none 0 0,.slice none 0 0],.nilIface])]⟩),
 (142,⟨.tuple [119,141,47],1,0,[.v (.tuple #[.slice none 0 0,.agg #[.int .i64 0,.int .i64 0,.pointer none,.int .i64 0,.int .i64 0,.pointer none,.int .i64 0,.int .i64 0,.pointer none],.nilIface])]⟩),
 (155,⟨.tuple [154,4],1,0,[.v (.tuple #[.agg #[.bool false,.slice none 0 0,.slice none 0 0,.bool false,.slice none 0 0,.slice none 0 0,.bool false,.bool false],.bool false])]⟩),
 (195,⟨.tuple [141,4],1,0,[.v (.tuple #[.agg #[.int .i64 0,.int .i64 0,.pointer none,.int .i64 0,.int .i64 0,.pointer none,.int .i64 0,.int .i64 0,.pointer none],.bool false])]⟩),
 (200,⟨.iface,1,16,[.v (.nilIface)]⟩),
 (285,⟨.tuple [38,4],1,0,[.v (.tuple #[.slice none 0 0,.bool false])]⟩),
 (203,⟨.iface,1,16,[.v (.nilIface)]⟩),
 (205,⟨.iface,1,16,[.v (.nilIface)]⟩),
 (239,⟨.func,1,8,[.v (.nilFunc)]⟩),
 (201,⟨.tuple [200,4],1,0,[.v (.tuple #[.nilIface,.bool false])]⟩),
 (221,⟨.tuple [148,4],1,0,[.v (.tuple #[.agg #[.int .i64 0,.int .i64 0,.pointer none,.int .i64 0,.int .i64 0,.pointer none],.bool false])]⟩),
 (236,⟨.tuple [3,4],1,0,[.v (.tuple #[.int .i64 0,.bool false])]⟩),
 (282,⟨.tuple [187,187],1,0,[.v (.tuple #[.int .u64 0,.int .u64 0])]⟩),
 (288,⟨.tuple [38,188],1,0,[.v (.tuple #[.slice none 0 0,.int .u32 0])]⟩),
 (290,⟨.tuple [38,38],1,0,[.v (.tuple #[.slice none 0 0,.slice none 0 0])]⟩),
 (20,⟨.iface,1,16,[.v (.nilIface)]⟩),
 (123,⟨.iface,1,16,[.v (.nilIface)]⟩),
 (294,⟨.ptr 319,1,8,[.v (.pointer none)]⟩)]
def VN:cV:=VM++[
 (27,⟨.struct [(25,0),(25,2),(25,4)],6,96,[.ff,.v (.slice none 0 0),.ff,.v (.slice none 0 0),.ff,.v (.slice none 0 0)]⟩)]
theorem M3:cV.ok prog VN:=NO (by kernel_rfl)
theorem FQ:cV.ok prog VM:=NO (by kernel_rfl)
theorem mixed:prog.follows .mixedOrders=true:=by kernel_rfl
abbrev VP:=View->Prop
abbrev VR:=Value->VP
abbrev Rt (V:View)(R:VR)(x:Value):Prop:=∀v:View,V.Le v->R x v
abbrev s3 {α0 α1 α2:Type}(a:α0)(b:α1)(c:α2)(K:Prop):Prop:=sm a/\sm b/\sm c/\K
abbrev s4 {α0 α1 α2 α3:Type}(a:α0)(b:α1)(c:α2)(d:α3)(K:Prop):Prop:=sm a/\sm b/\sm c/\sm d/\K
abbrev s5 {α0 α1 α2 α3 α4:Type}(a:α0)(b:α1)(c:α2)(d:α3)(e:α4)(K:Prop):Prop:=sm a/\sm b/\sm c/\sm d/\sm e/\K
abbrev s6 {α0 α1 α2 α3 α4 α5:Type}(a:α0)(b:α1)(c:α2)(d:α3)(e:α4)(f:α5)(K:Prop):Prop:=sm a/\sm b/\sm c/\sm d/\sm e/\sm f/\K
abbrev s7 {α0 α1 α2 α3 α4 α5 α6:Type}(a:α0)(b:α1)(c:α2)(d:α3)(e:α4)(f:α5)(g:α6)(K:Prop):Prop:=sm a/\sm b/\sm c/\sm d/\sm e/\sm f/\sm g/\K
abbrev s8 {α0 α1 α2 α3 α4 α5 α6 α7:Type}(a:α0)(b:α1)(c:α2)(d:α3)(e:α4)(f:α5)(g:α6)(h:α7)(K:Prop):Prop:=sm a/\sm b/\sm c/\sm d/\sm e/\sm f/\sm g/\sm h/\K
abbrev s9 {α0 α1 α2 α3 α4 α5 α6 α7 α8:Type}(a:α0)(b:α1)(c:α2)(d:α3)(e:α4)(f:α5)(g:α6)(h:α7)(i:α8)(K:Prop):Prop:=sm a/\sm b/\sm c/\sm d/\sm e/\sm f/\sm g/\sm h/\sm i/\K
abbrev PL {α0 α1 α2 α3 α4 α5 α6 α7 α8 α9:Type}(a:α0)(b:α1)(c:α2)(d:α3)(e:α4)(f:α5)(g:α6)(h:α7)(i:α8)(j:α9)(K:Prop):Prop:=sm a/\sm b/\sm c/\sm d/\sm e/\sm f/\sm g/\sm h/\sm i/\sm j/\K
abbrev vZ {α0 α1 α2 α3 α4 α5 α6 α7 α8 α9 Wn:Type}(a:α0)(b:α1)(c:α2)(d:α3)(e:α4)(f:α5)(g:α6)(h:α7)(i:α8)(j:α9)(k:Wn)(K:Prop):Prop:=sm a/\sm b/\sm c/\sm d/\sm e/\sm f/\sm g/\sm h/\sm i/\sm j/\sm k/\K
abbrev eG {α0 α1 α2 α3 α4 α5 α6 α7 α8 α9 Wn α11:Type}(a:α0)(b:α1)(c:α2)(d:α3)(e:α4)(f:α5)(g:α6)(h:α7)(i:α8)(j:α9)(k:Wn)(l:α11)(K:Prop):Prop:=sm a/\sm b/\sm c/\sm d/\sm e/\sm f/\sm g/\sm h/\sm i/\sm j/\sm k/\sm l/\K
abbrev Ca (V:View)(f:Nat)(a:Array Value)(K:VR):Prop:=∀V1:View,V.Le V1->ab prog f a V1 K
def sV:Value->SV
  | .agg l=>.agg (l.toList.map C.v)
  | v=>.c (.v v)
def sA:Nat->List Value->List (Nat×SV)
  | _,[]=>[]
  | n,v::l=>(n,sV v)::sA (n+1) l
theorem fd {LF RF:List Nat}(L K:B9){f:FuncId}{fn:Func}(hf:prog.funcs[f]?=some fn){l:List Value}{V:View}{R:VR}{G:Prop}(h:G)
 (hn:(fn.name=="runtime.NumGoroutine")=false:=by kernel_rfl)(ha:l.toArray=((sA 0 l).map fun x=>x.2.den fun _=>0).toArray:=by kernel_rfl)
 (hG:G=BH prog VM LF RF L K fn (sA 0 l) [] (fun _=>0) V R:=by kernel_rfl):ab prog f l.toArray V R:=
  AZ (LF:=LF) (RF:=RF) (β0:=fun _=>0) FQ mixed L K hf hn (sA 0 l) [] ha trivial h hG
open Go.Value renaming int→I,pointer→P,slice→S,agg→A,bool→B,tuple→T
open Go.IntKind renaming i64→J,u64→U,u32→W
abbrev Yo (a:OA)(n:Nat)(m:View)(v:Value):Prop:=∃q,ah a n=some q/\m.at q v
abbrev Xh (V:View)(b:Nat)(l:List Value)(t:Nat):Prop:=V.w.heap[b]?=some (.cells l.toArray t (0,0))
abbrev Z0 (r:Value)(K:OA->Nat->Nat->Int->Prop):Prop:=∃(v0:OA)(v1:Nat)(v2:Nat)(v3:Int),r=T #[S v0 v1 v2,I W v3]/\K v0 v1 v2 v3
abbrev Z1 (r:Value)(K:OA->Nat->Nat->OA->Nat->Nat->Prop):Prop:=∃(v0:OA)(v1:Nat)(v2:Nat)(v3:OA)(v4:Nat)(v5:Nat),r=T #[S v0 v1 v2,S v3 v4 v5]/\K v0 v1 v2 v3 v4 v5
abbrev Z2 (r:Value)(K:OA->Nat->Nat->OA->Nat->Nat->Bool->Prop):Prop:=∃(v0:OA)(v1:Nat)(v2:Nat)(v3:OA)(v4:Nat)(v5:Nat)(v6:Bool),r=T #[S v0 v1 v2,S v3 v4 v5,B v6]/\K v0 v1 v2 v3 v4 v5 v6
abbrev Z3 (r:Value)(K:Int->Bool->Prop):Prop:=∃(v0:Int)(v1:Bool),r=T #[I U v0,B v1]/\K v0 v1
abbrev X4 (v0:OA)(v1:Nat)(v2:Nat)(v3:OA)(v4:Nat)(v5:Nat):Value:=T #[S v0 v1 v2,S v3 v4 v5]
abbrev Z5 (r:Value)(K:Bool->OA->Nat->Nat->Prop):Prop:=∃(v0:Bool)(v1:OA)(v2:Nat)(v3:Nat),r=A #[B v0,S v1 v2 v3]/\K v0 v1 v2 v3
abbrev X6 (v0:Bool)(v1:OA)(v2:Nat)(v3:Nat):Value:=A #[B v0,S v1 v2 v3]
abbrev Z7 (r:Value)(K:OA->Nat->Nat->Bool->Prop):Prop:=∃(v0:OA)(v1:Nat)(v2:Nat)(v3:Bool),r=T #[S v0 v1 v2,B v3]/\K v0 v1 v2 v3
abbrev Z8 (r:Value)(K:Int->Int->OA->Prop):Prop:=∃(v0:Int)(v1:Int)(v2:OA),r=A #[I J v0,I J v1,P v2]/\K v0 v1 v2
abbrev X9 (v0:Int)(v1:Int)(v2:OA):Value:=A #[I J v0,I J v1,P v2]
abbrev I0 (r:Value)(K:Int->Bool->Prop):Prop:=∃(v0:Int)(v1:Bool),r=T #[I J v0,B v1]/\K v0 v1
abbrev aX (v0:Bool)(v1:OA)(v2:Nat)(v3:Nat)(v4:OA)(v5:Nat)(v6:Nat):Value:=A #[B v0,S v1 v2 v3,S v4 v5 v6]
abbrev YV (r:Value)(K:Int->Int->Prop):Prop:=∃(v0:Int)(v1:Int),r=T #[I U v0,I U v1]/\K v0 v1
abbrev Tu (r:Value)(K:Int->Int->Prop):Prop:=∃(v0:Int)(v1:Int),r=T #[I W v0,I W v1]/\K v0 v1
abbrev bQ (r:Value)(K:Bool->OA->Nat->Nat->OA->Nat->Nat->Prop):Prop:=∃(v0:Bool)(v1:OA)(v2:Nat)(v3:Nat)(v4:OA)(v5:Nat)(v6:Nat),r=A #[B v0,S v1 v2 v3,S v4 v5 v6]/\K v0 v1 v2 v3 v4 v5 v6
abbrev hJ (v0:Bool)(v1:OA)(v2:Nat)(v3:Nat)(v4:OA)(v5:Nat)(v6:Nat)(v7:Bool)(v8:OA)(v9:Nat)(v10:Nat)(v11:OA)(v12:Nat)(v13:Nat):Value:=A #[B v0,S v1 v2 v3,S v4 v5 v6,B v7,S v8 v9 v10,S v11 v12 v13]
abbrev rL (r:Value)(K:Bool->OA->Nat->Nat->OA->Nat->Nat->Bool->OA->Nat->Nat->OA->Nat->Nat->Prop):Prop:=∃(v0:Bool)(v1:OA)(v2:Nat)(v3:Nat)(v4:OA)(v5:Nat)(v6:Nat)(v7:Bool)(v8:OA)(v9:Nat)(v10:Nat)(v11:OA)(v12:Nat)(v13:Nat),r=A #[B v0,S v1 v2 v3,S v4 v5 v6,B v7,S v8 v9 v10,S v11 v12 v13]/\K v0 v1 v2 v3 v4 v5 v6 v7 v8 v9 v10 v11 v12 v13
abbrev lS (v0:Bool)(v1:OA)(v2:Nat)(v3:Nat)(v4:Bool)(v5:OA)(v6:Nat)(v7:Nat)(v8:Bool)(v9:OA)(v10:Nat)(v11:Nat):Value:=A #[B v0,S v1 v2 v3,B v4,S v5 v6 v7,B v8,S v9 v10 v11]
abbrev j7 (v0:Int)(v1:Int)(v2:OA)(v3:Int)(v4:Int)(v5:OA)(v6:Int)(v7:Int)(v8:OA):Value:=A #[I J v0,I J v1,P v2,I J v3,I J v4,P v5,I J v6,I J v7,P v8]
abbrev kE (v0:Int)(v1:Int)(v2:OA)(v3:Int)(v4:Int)(v5:OA):Value:=A #[I J v0,I J v1,P v2,I J v3,I J v4,P v5]
abbrev B7 (r:Value)(K:Int->Int->OA->Int->Int->OA->Prop):Prop:=∃(v0:Int)(v1:Int)(v2:OA)(v3:Int)(v4:Int)(v5:OA),r=A #[I J v0,I J v1,P v2,I J v3,I J v4,P v5]/\K v0 v1 v2 v3 v4 v5
abbrev Hs (v0:Int)(v1:Int)(v2:OA)(v3:Int)(v4:Int)(v5:OA)(v6:Bool)(v7:Bool):Value:=A #[I J v0,I J v1,P v2,I J v3,I J v4,P v5,B v6,B v7]
abbrev YT (a:OA)(n:Nat)(m:View)(K:Bool->OA->Nat->Nat->OA->Nat->Nat->Addr->Prop):Prop:=∃(v0:Bool)(v1:OA)(v2:Nat)(v3:Nat)(v4:OA)(v5:Nat)(v6:Nat)(q:Addr),ah a n=some q/\m.at (q.add 0) (B v0)/\m.at (q.add 1) (S v1 v2 v3)/\m.at (q.add 2) (S v4 v5 v6)/\K v0 v1 v2 v3 v4 v5 v6 q
abbrev SG (a:OA)(n:Nat)(m:View)(K:Bool->OA->Nat->Nat->OA->Nat->Nat->Bool->OA->Nat->Nat->OA->Nat->Nat->Addr->Prop):Prop:=∃(v0:Bool)(v1:OA)(v2:Nat)(v3:Nat)(v4:OA)(v5:Nat)(v6:Nat)(v7:Bool)(v8:OA)(v9:Nat)(v10:Nat)(v11:OA)(v12:Nat)(v13:Nat)(q:Addr),ah a n=some q/\m.at (q.add 0) (B v0)/\m.at (q.add 1) (S v1 v2 v3)/\m.at (q.add 2) (S v4 v5 v6)/\m.at (q.add 3) (B v7)/\m.at (q.add 4) (S v8 v9 v10)/\m.at (q.add 5) (S v11 v12 v13)/\K v0 v1 v2 v3 v4 v5 v6 v7 v8 v9 v10 v11 v12 v13 q
abbrev Lg (a:OA)(n:Nat)(m:View)(K:Bool->OA->Nat->Nat->Bool->OA->Nat->Nat->Bool->OA->Nat->Nat->Addr->Prop):Prop:=∃(v0:Bool)(v1:OA)(v2:Nat)(v3:Nat)(v4:Bool)(v5:OA)(v6:Nat)(v7:Nat)(v8:Bool)(v9:OA)(v10:Nat)(v11:Nat)(q:Addr),ah a n=some q/\m.at (q.add 0) (B v0)/\m.at (q.add 1) (S v1 v2 v3)/\m.at (q.add 2) (B v4)/\m.at (q.add 3) (S v5 v6 v7)/\m.at (q.add 4) (B v8)/\m.at (q.add 5) (S v9 v10 v11)/\K v0 v1 v2 v3 v4 v5 v6 v7 v8 v9 v10 v11 q
abbrev YW (r:Value)(K:Int->Int->OA->Int->Int->OA->Bool->Bool->Prop):Prop:=∃(v0:Int)(v1:Int)(v2:OA)(v3:Int)(v4:Int)(v5:OA)(v6:Bool)(v7:Bool),r=A #[I J v0,I J v1,P v2,I J v3,I J v4,P v5,B v6,B v7]/\K v0 v1 v2 v3 v4 v5 v6 v7
abbrev Lt (a:OA)(n:Nat)(m:View)(K:Int->Int->OA->Int->Int->OA->Int->Int->OA->Int->Int->OA->Int->Int->OA->Bool->Bool->Addr->Prop):Prop:=∃(v0:Int)(v1:Int)(v2:OA)(v3:Int)(v4:Int)(v5:OA)(v6:Int)(v7:Int)(v8:OA)(v9:Int)(v10:Int)(v11:OA)(v12:Int)(v13:Int)(v14:OA)(v15:Bool)(v16:Bool)(q:Addr),ah a n=some q/\m.at (q.add 0) (I J v0)/\m.at (q.add 1) (I J v1)/\m.at (q.add 2) (P v2)/\m.at (q.add 3) (I J v3)/\m.at (q.add 4) (I J v4)/\m.at (q.add 5) (P v5)/\m.at (q.add 6) (I J v6)/\m.at (q.add 7) (I J v7)/\m.at (q.add 8) (P v8)/\m.at (q.add 9) (I J v9)/\m.at (q.add 10) (I J v10)/\m.at (q.add 11) (P v11)/\m.at (q.add 12) (I J v12)/\m.at (q.add 13) (I J v13)/\m.at (q.add 14) (P v14)/\m.at (q.add 15) (B v15)/\m.at (q.add 16) (B v16)/\K v0 v1 v2 v3 v4 v5 v6 v7 v8 v9 v10 v11 v12 v13 v14 v15 v16 q
abbrev WS (v0:Int)(v1:Int)(v2:OA)(v3:Int)(v4:Int)(v5:OA)(v6:Int)(v7:Int)(v8:OA)(v9:Int)(v10:Int)(v11:OA)(v12:Int)(v13:Int)(v14:OA)(v15:Bool)(v16:Bool):Value:=A #[I J v0,I J v1,P v2,I J v3,I J v4,P v5,I J v6,I J v7,P v8,I J v9,I J v10,P v11,I J v12,I J v13,P v14,B v15,B v16]
abbrev WU (r:Value)(K:Bool->OA->Nat->Nat->Bool->OA->Nat->Nat->Bool->OA->Nat->Nat->Prop):Prop:=∃(v0:Bool)(v1:OA)(v2:Nat)(v3:Nat)(v4:Bool)(v5:OA)(v6:Nat)(v7:Nat)(v8:Bool)(v9:OA)(v10:Nat)(v11:Nat),r=A #[B v0,S v1 v2 v3,B v4,S v5 v6 v7,B v8,S v9 v10 v11]/\K v0 v1 v2 v3 v4 v5 v6 v7 v8 v9 v10 v11
abbrev YU (a:OA)(n:Nat)(m:View)(K:Int->Int->OA->Int->Int->OA->Int->Int->OA->Addr->Prop):Prop:=∃(v0:Int)(v1:Int)(v2:OA)(v3:Int)(v4:Int)(v5:OA)(v6:Int)(v7:Int)(v8:OA)(q:Addr),ah a n=some q/\m.at (q.add 0) (I J v0)/\m.at (q.add 1) (I J v1)/\m.at (q.add 2) (P v2)/\m.at (q.add 3) (I J v3)/\m.at (q.add 4) (I J v4)/\m.at (q.add 5) (P v5)/\m.at (q.add 6) (I J v6)/\m.at (q.add 7) (I J v7)/\m.at (q.add 8) (P v8)/\K v0 v1 v2 v3 v4 v5 v6 v7 v8 q
abbrev Tt (a:OA)(n:Nat)(m:View)(K:Int->Int->OA->Int->Int->OA->Addr->Prop):Prop:=∃(v0:Int)(v1:Int)(v2:OA)(v3:Int)(v4:Int)(v5:OA)(q:Addr),ah a n=some q/\m.at (q.add 0) (I J v0)/\m.at (q.add 1) (I J v1)/\m.at (q.add 2) (P v2)/\m.at (q.add 3) (I J v3)/\m.at (q.add 4) (I J v4)/\m.at (q.add 5) (P v5)/\K v0 v1 v2 v3 v4 v5 q
abbrev uk (v0:OA)(v1:Nat)(v2:Nat):Value:=A #[S v0 v1 v2]
abbrev WV (r:Value)(K:OA->Nat->Nat->Prop):Prop:=∃(v0:OA)(v1:Nat)(v2:Nat),r=A #[S v0 v1 v2]/\K v0 v1 v2
abbrev YX (r:Value)(K:Bool->OA->Nat->Nat->OA->Nat->Nat->Bool->OA->Nat->Nat->OA->Nat->Nat->Bool->Bool->Prop):Prop:=∃(v0:Bool)(v1:OA)(v2:Nat)(v3:Nat)(v4:OA)(v5:Nat)(v6:Nat)(v7:Bool)(v8:OA)(v9:Nat)(v10:Nat)(v11:OA)(v12:Nat)(v13:Nat)(v14:Bool)(v15:Bool),r=A #[B v0,S v1 v2 v3,S v4 v5 v6,B v7,S v8 v9 v10,S v11 v12 v13,B v14,B v15]/\K v0 v1 v2 v3 v4 v5 v6 v7 v8 v9 v10 v11 v12 v13 v14 v15
abbrev WT (v0:Bool)(v1:OA)(v2:Nat)(v3:Nat)(v4:OA)(v5:Nat)(v6:Nat)(v7:Bool)(v8:OA)(v9:Nat)(v10:Nat)(v11:OA)(v12:Nat)(v13:Nat)(v14:Bool)(v15:Bool):Value:=A #[B v0,S v1 v2 v3,S v4 v5 v6,B v7,S v8 v9 v10,S v11 v12 v13,B v14,B v15]
end Go.Proofs.Tryz
