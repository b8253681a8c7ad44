/- A part of the proof (joined by program from: Eng16, Eng17, Eng18, Tab, EndB, Big). -/
import Derived.Test.YtcbcbdbheiopbaaGreatDoorL4
import Derived.Orders
import Derived.Scope
import Derived.Laws.Sem
import Derived.Test.YtcbcbdbheiopbaaGreatDoorProg
import Derived.Test.YtcbcbdbheiopbaaGreatDoorCards
import Derived.Test.YtcbcbdbheiopbaaGreatDoorTie
import Derived.WalkKit
import Derived.ProofKit
import Derived.OpenShut
import Derived.Deep.DeepHandedRow
import Derived.LaidLaws
import Derived.Lay
import Derived.Carry
set_option linter.unusedVariables false
open Go.IntKind (i64 u64 u32)
/- Any order, part four: one good order stands for all. -/
namespace Go.Eng
variable {P:Program} {T:Tab} {LF RF:List Nat} {n:Nat} {V0:View} {bor:Bor} {β0:Nat->Nat}
def vcAny (P:Program) (T:Tab) (m:Nat->CM) (hint:Nat->Hint) (ops:Array Oper):Nat->Array Bool->St->View->(St->View->Prop)->Prop
 | 0,listed,st,V,K=>Region.ready .any ops listed=[]/\K st V
 | fuel + 1,listed,st,V,K=>(Region.ready .any ops listed=[]->K st V) /\
  ∀i ∈ Region.ready .any ops listed,∀o,ops[i]?=some o->vcOp P T (m i) (hint i) ops o st V fun st' V'=>vcAny P T m hint ops fuel (listed.setIfInBounds i true) st' V' K
theorem vcAny_sound (hT:Tab.ok P T) {m:Nat->CM} {hint:Nat->Hint} {ops:Array Oper} (hd:∀(i:Nat) (o:Oper),ops[i]?=some o->∀d,o.dst=some d->d < n) {Q:Exit->Act->World->Prop} {K:St->View->Prop}
  (hK:∀st' β' a' w' V',Mod n V0 bor β0 st' β' a' w' V'->K st' V'->Q .normal a' w') :
  ∀(fuel:Nat) (listed:Array Bool) (st:St) (β:Nat->Nat) (a:Act) (w:World) (V:View),Mod n V0 bor β0 st β a w V->vcAny P T m hint ops fuel listed st V K->wpAny P .any ops Q fuel listed a w
 | 0,_,_,_,_,_,_,hM,hv=>⟨hv.1,hK _ _ _ _ _ hM hv.2⟩
 | fuel + 1,listed,st,β,a,w,V,hM,hv=>by
  refine ⟨fun h=>hK _ _ _ _ _ hM (hv.1 h),fun i hi=>?_⟩
  obtain ⟨-,o,ho,-⟩:=mem_ready.1 hi
  have:=op_sound (Q:=Q) (next:=wpAny P .any ops Q fuel (listed.setIfInBounds i true)) hT hM (hd i o ho) (hv.2 i hi o ho) (fun st' β' a' w' V' hM' hv'=>vcAny_sound hT hd hK fuel _ st' β' a' w' V' hM' hv')
  unfold wpOp
  rw [ho]
  dsimp only
  split at this
  ·rename_i hw; rw [if_pos hw]; exact .inl this
  ·rename_i hw; rw [if_neg hw]; exact this
/-! what follows may be weakened -/
theorem andL_mono {sc:List Prop} {k k':Prop} (h:k->k') (g:andL sc k):andL sc k':=by
 obtain ⟨h1,h2⟩:=(andL_iff sc _).1 g
 exact (andL_iff sc _).2 ⟨h1,h h2⟩
theorem appK_mono {s:Nat} {vs:List Value} {k c size bytes:Nat} {ty:TypeId} {d:Nat} {st:St} {V:View} {K K':St->View->Prop} {j:Nat} {xs:List Value} (hk:∀s V',V.Le V'->K s V'->K' s V')
  (h:appK s vs k c size bytes ty d st V K j xs):appK s vs k c size bytes ty d st V K' j xs:=by
 unfold appK at h ⊢
 obtain ⟨h1,h2,h3,h4,h5,h6⟩:=h
 refine ⟨h1,h2,h3,h4,h5,?_⟩
 split at h6
 ·exact h6.elim
 ·exact fun b J spare c' g1 g2=>hk _ _ (View.Le.refl V) (h6 b J spare c' g1 g2)
theorem mappK_mono {s:Nat} {vs:List Value} {k c size bytes:Nat} {ty:TypeId} {d:Nat} {st:St} {V:View} {K K':St->View->Prop} {j:Nat} {xs:List Value} (hk:∀s V',V.Le V'->K s V'->K' s V')
  (h:mappK s vs k c size bytes ty d st V K j xs):mappK s vs k c size bytes ty d st V K' j xs:=by
 unfold mappK at h ⊢
 obtain ⟨h1,h2,h3,h4,h5,h6⟩:=h
 refine ⟨h1,h2,h3,h4,h5,?_⟩
 split at h6
 ·exact h6.elim
 ·exact fun spare c' g1 g2=>hk _ _ (View.Le.refl V) (h6 spare c' g1 g2)
theorem appP_mono {vs:List Value} {k c size bytes:Nat} {ty:TypeId} {d:Nat} {st:St} {V:View} {K K':St->View->Prop} {j:Nat} {xs:List Value} (hk:∀s V',V.Le V'->K s V'->K' s V')
  (h:appP vs k c size bytes ty d st V K j xs):appP vs k c size bytes ty d st V K' j xs:=by
 unfold appP at h ⊢
 obtain ⟨h1,h2,h3,h4,h6⟩:=h
 refine ⟨h1,h2,h3,h4,?_⟩
 split at h6
 ·exact h6.elim
 ·exact fun spare c' g1 g2=>hk _ _ (View.Le.refl V) (h6 spare c' g1 g2)
theorem vcQ_mono {Q0:Q} {dst:Option Nat} {st:St} {V:View} {K K':St->View->Prop} (hk:∀s V',V.Le V'->K s V'->K' s V') (h:vcQ Q0 dst st V K):vcQ Q0 dst st V K':=by
 cases Q0 with
 | fail=>exact h
 | ret sc x=>exact andL_mono (hk _ _ (View.Le.refl V)) h
 | new sc b x=>
  simp only [vcQ] at h ⊢
  split at h
  ·split at h
   ·rename_i hn; exact andL_mono (hk _ _ (View.Le.refl V)) h
   ·exact h.elim
  ·exact h.elim
 | upd sc s b=>
  simp only [vcQ] at h ⊢
  split at h
  ·exact andL_mono (hk _ _ (View.Le.refl V)) h
  ·exact h.elim
 | rd a sh=>
  obtain ⟨x,h1,h2⟩:=sh.split h
  exact h2 _ (rdV_and.2 ⟨(rdV_and.1 h1).1,hk _ _ (View.Le.refl V) (rdV_and.1 h1).2⟩)
 | rdRow vs of size sh=>
  obtain ⟨x,h1,h2⟩:=sh.split h
  exact h2 _ ⟨h1.1,hk _ _ (View.Le.refl V) h1.2⟩
 | mapp s vs a c src size bytes ty=>
  simp only [vcQ] at h ⊢
  split at h
  ·exact h.elim
  ·cases src with
   | inr xs=>exact mappK_mono hk h
   | inl ak=>
    obtain ⟨xs,h1,h2,h3⟩:=h
    exact ⟨xs,h1,h2,mappK_mono hk h3⟩
 | app old ba vs a c src size bytes ty=>
  simp only [vcQ] at h ⊢
  split at h
  ·exact h.elim
  ·cases old with
   | some s=>
    dsimp only at h ⊢
    cases src with
    | inr xs=>exact appK_mono hk h
    | inl ak=>
     obtain ⟨xs,h1,h2,h3⟩:=h
     exact ⟨xs,h1,h2,appK_mono hk h3⟩
   | none=>
    obtain ⟨vs,g1,g2,g3,g4,h⟩:=h
    refine ⟨vs,g1,g2,g3,g4,?_⟩
    cases src with
    | inr xs=>exact appP_mono hk h
    | inl ak=>
     obtain ⟨xs,h1,h2,h3,h4⟩:=h
     exact ⟨xs,h1,h2,fun e=>hk _ _ (View.Le.refl V) (h3 e),fun e=>appP_mono hk (h4 e)⟩
theorem relH_mono {bx:Nat->Option Box} {β:Nat->Nat} {V:View}:∀{L:List Nat} {k k':Prop},(k->k')->relH bx β V L k->relH bx β V L k'
 | [],_,_,h,g=>h g
 | s :: r,k,k',h,g=>by
  simp only [relH] at g ⊢
  split at g
  ·exact fun h1=>relH_mono h (g h1)
  ·exact g.elim
theorem moved_mono {give:Bool} {sh:Sh} {L:List Nat} {mm:Option Nat} {d:Nat} {ety:TypeId} {β:Nat->Nat} {st:St} {V V' V'':View} {K K':St->View->Prop} {r':Value}
  (hm:∀k,mm=some k->k ∈ L) (hV:V.Le V') (hV2:V.Le V'') (hlv:∀s ∈ L,∃b,st.boxes s=some b/\(b.live->V'.H (β s))) (hk:∀s V',V.Le V'->K s V'->K' s V')
  (h:vcMoved T give sh L mm d ety β st V' K r' V''):vcMoved T give sh L mm d ety β st V' K' r' V'':=by
 refine moved_over (p:=fun _=>none) (q:=none2) (W:=nbOf mm d :: L) (D:=[d]) (fun s hs=>⟨rfl,List.mem_cons_of_mem _ hs⟩) hm ⟨rfl,by simp⟩ ⟨rfl,by simp⟩ hV hV2 hlv (fun s2 V2 hG=>?_) h
 exact hk _ _ hG.1 hG.2.2.2
theorem vcCall0_mono {m:CM} {f:FuncId} {xs:List SV} {ty:TypeId} {dst:Option Nat} {st:St} {V:View} {K K':St->View->Prop} (hk:∀s V',V.Le V'->K s V'->K' s V')
  (h:vcCall0 P T m f xs ty dst st V K):vcCall0 P T m f xs ty dst st V K':=by
 unfold vcCall0 at h ⊢
 split at h
 ·exact h.elim
 ·split at h
  ·split at h
   ·split at h
    ·split at h
     ·exact h.elim
     ·exact fun V' hV=>(h V' hV).mono fun _ V'' hle g=>moved_mono (fun k hk=>by cases hk) hV (hV.trans hle) (fun s hs=>absurd hs (by simp)) hk g
    ·exact h.elim
   ·split at h
    ·split at h
     ·exact h.elim
     ·split at h
      ·split at h
       ·split at h
        ·refine fun V' hV=>(h V' hV).mono fun _ V'' hle g=>?_
         obtain ⟨b,hb⟩:=g
         obtain ⟨cs,⟨g1,g2,g3,g4⟩,g5⟩:=exL_split _ hb
         refine ⟨b,g5 _ ⟨g1,g2,g3,hk _ _ ?_ g4⟩⟩
         intro x o hx
         obtain ⟨k1,k2⟩:=(hV.trans hle) x o hx
         obtain ⟨k3,k4⟩:=hV x o hx
         have:=lt_of_some k4
         exact ⟨fun h=>h.elim k1 fun h=>by have:=h.1; omega,k2⟩
        ·exact h.elim
       ·exact h.elim
      ·exact h.elim
    ·exact h.elim
   ·exact fun V' hV=>(h V' hV).mono fun _ _ hle g=>Sh.mono g fun x hx=>⟨hx.1,hk _ _ (hV.trans hle) hx.2⟩
  ·split at h
   ·exact h.elim
   ·rename_i hcl
    rename_i L0 s0 r0 hL _ 
    have mv:∀{give:Bool} {sh:Sh} {mm:Option Nat} {d:Nat} {ety:TypeId} {L:List Nat},(∀k,mm=some k->k ∈ L) ->
      (∀V':View,V.Le V'->allB L (fun _=>0) fun β=>lentH st.boxes β V' L (Acts P f (denArgs β xs) (V'.lend (L.map (lentB st.boxes β V'.w.heap.size))) (vcMoved T give sh L mm d ety β st V' K))) ->
      ∀V':View,V.Le V'->allB L (fun _=>0) fun β=>lentH st.boxes β V' L (Acts P f (denArgs β xs) (V'.lend (L.map (lentB st.boxes β V'.w.heap.size))) (vcMoved T give sh L mm d ety β st V' K')):=by
     intro give sh mm d ety L hm h V' hV
     exact allB_mono (fun β hb=>lentH_mono (fun _ _=>rfl) (fun hH hf=>hf.mono fun _ _ hle g=>moved_mono hm hV ((hV.trans (le_lend V' _)).trans hle) hH hk g) hb) (h V' hV)
    split at h
    ·exact h.elim
    ·exact h.elim
    ·split at h
     ·split at h
      ·exact h.elim
      ·exact mv (fun k hk=>by cases hk) h
     ·rename_i d ety k h1 h2 h3
      split at h
      ·exact h.elim
      ·refine mv (fun j hj=>?_) h
       cases hj
       rw [← hL]
       exact reach_sub 3 _ k (dedup_mem.2 (firstSl_in k (by rw [h2]; simp)))
     ·exact h.elim
    ·split at h
     ·exact fun V' hV=>allB_mono (fun β hb=>lentH_mono (fun _ _=>rfl) (fun _ hf=>hf.mono fun _ _ hle g=>Sh.mono g fun x hx=>⟨hx.1,lentEx_over (p:=fun _=>none) (q:=none2) (W:=_) (fun s hs=>⟨rfl,hs⟩) (fun st' _ _ h3=>hk _ _ (((hV.trans (le_lend V' _)).trans hle).trans (le_shut _)) h3) hx.2⟩) hb) (h V' hV)
     ·rename_i k hmv
      split at h
      ·split at h
       ·exact h.elim
       ·refine mv (fun j hj=>?_) h
        cases hj
        exact mvs_in hcl k (by rw [hmv]; simp)
      ·exact h.elim
     ·exact h.elim
    ·split at h
     ·exact h.elim
     ·exact fun V' hV=>allB_mono (fun β hb=>relH_mono (fun hf=>hf.mono fun _ _ hle g=>Sh.mono g fun x hx=>⟨hx.1,fun J=>hk _ _ (hV.trans hle) (hx.2 J)⟩) hb) (h V' hV)
theorem vcCall_mono {m:CM} {f:FuncId} {xs:List SV} {ty:TypeId} {dst:Option Nat} {st:St} {V:View} {K K':St->View->Prop} (hk:∀s V',V.Le V'->K s V'->K' s V')
  (h:vcCall P T m f xs ty dst st V K):vcCall P T m f xs ty dst st V K':=by
 unfold vcCall at h ⊢
 split at h
 ·split at h
  ·exact ⟨fun e=>⟨(h.1 e).1,vcCall0_mono hk (h.1 e).2⟩,fun e=>vcCall0_mono hk (h.2 e)⟩
  ·exact vcCall0_mono hk h
 ·exact vcCall0_mono hk h
theorem vcBody_mono' {m:CM} {o:Oper} {st:St} {V:View} {K K':St->View->Prop} (hk:∀s V',V.Le V'->K s V'->K' s V') (h:vcBody' P T m o st V K):vcBody' P T m o st V K':=by
 unfold vcBody' at h ⊢
 split at h
 ·split at h
  ·split at h
   ·exact vcCall_mono hk h
   ·exact h.elim
  ·exact h.elim
 ·split at h
  ·split at h
   ·split at h
    ·exact vcCall_mono hk h
    ·exact h.elim
   ·exact h.elim
  ·exact h.elim
 ·exact vcQ_mono hk h
theorem vcBody_mono {m:CM} {hi:Hint} {o:Oper} {st:St} {V:View} {K K':St->View->Prop} (hk:∀s V',V.Le V'->K s V'->K' s V') (h:vcBody P T m hi o st V K):vcBody P T m hi o st V K':=by
 unfold vcBody at h ⊢
 split at h
 ·exact vcBody_mono' hk h
 ·split at h
  ·split at h
   ·exact vcBody_mono' hk h
   ·exact h.elim
  ·exact h.elim
theorem vcOp_mono {m:CM} {hi:Hint} {ops:Array Oper} {o:Oper} {st:St} {V:View} {K K':St->View->Prop} (hk:∀s V',V.Le V'->K s V'->K' s V') (h:vcOp P T m hi ops o st V K):vcOp P T m hi ops o st V K':=by
 rw [vcOp_eq] at h ⊢
 refine vcG_mono (fun s w hb=>?_) h
 cases w with
 | true=>exact vcBody_mono hk hb
 | false=>exact hk _ _ (View.Le.refl V) hb
def modeOk (LF RF:List Nat) (m:CM) (o:Oper):Prop:=
 quietC (clsOf LF RF o.op)=true \/ (clsOf LF RF o.op=.call/\m=.none) \/ ((clsOf LF RF o.op=.lcall/\m=.lend) \/ (clsOf LF RF o.op=.give/\m=.give) \/ clsOf LF RF o.op=.app)
theorem op_false {m:CM} {h:Hint} {ops:Array Oper} {o:Oper} {st:St} {V:View} {R W:List Nat} (hq:quietC (clsOf LF RF o.op)=true) (hrw:rwOf (clsOf LF RF o.op) h (dstL o)=some (R,W))
  (hv:vcOp P T m h ops o st V fun _ _=>False):False:=by
 rw [vcOp_eq] at hv
 obtain ⟨p,w,hG⟩:=guard_out hv
 have:=hG.next
 cases w with
 | true=>obtain ⟨p,q,hO⟩:=quiet_out hq hrw this; exact hO.next
 | false=>exact this
theorem indep_facts {ops:Array Oper} {h1 h2:Hint} {o1 o2:Oper} (hi:indep LF RF ops h1 h2 o1 o2=true) :
  quietC (clsOf LF RF o1.op)=true/\(∃R W,rwOf (clsOf LF RF o1.op) h1 (dstL o1)=some (R,W))/\∃R W,rwOf (clsOf LF RF o2.op) h2 (dstL o2)=some (R,W):=by
 unfold indep at hi
 simp only [Bool.and_eq_true] at hi
 obtain ⟨⟨⟨⟨⟨hq1,-⟩,-⟩,-⟩,-⟩,hrw⟩:=hi
 split at hrw
 ·rename_i R1 W1 R2 W2 hr1 hr2
  exact ⟨hq1,⟨_,_,hr1⟩,_,_,hr2⟩
 ·cases hrw
theorem modeOk_of {ops:Array Oper} {i:Nat} {o:Oper} (ho:ops[i]?=some o) {h:Hint} {R W:List Nat} (hrw:rwOf (clsOf LF RF o.op) h (dstL o)=some (R,W)):modeOk LF RF (modeOf LF RF ops i) o:=by
 unfold modeOk modeOf
 rw [ho]
 dsimp only
 generalize clsOf LF RF o.op=c at hrw
 cases c with
 | odd=>cases h <;> cases hrw
 | adopt=>cases h <;> cases hrw
 | call=>exact .inr (.inl ⟨rfl,rfl⟩)
 | lcall=>exact .inr (.inr (.inl ⟨rfl,rfl⟩))
 | give=>exact .inr (.inr (.inr (.inl ⟨rfl,rfl⟩)))
 | app=>exact .inr (.inr (.inr (.inr rfl)))
 | _=>exact .inl rfl
section
variable {ops:Array Oper} {hint:Nat->Hint} {anc:Nat->Nat->Prop} {K:St->View->Prop}
theorem vcAny_first (hA:∀j o,ops[j]?=some o->∀i,anc j i->∃e ∈ o.after,Region.binds .any e=true/\(e.on=i \/ anc e.on i)) {i:Nat} {oi:Oper} (hi:ops[i]?=some oi) :
  ∀(fuel:Nat) (listed:Array Bool) (st:St) (V:View),(∀j,listed.getD j false=true->∀k,anc j k->listed.getD k false=true) ->
   (∀j oj,ops[j]?=some oj->j≠i->listed.getD j true=false->¬ anc j i->indep LF RF ops (hint i) (hint j) oi oj=true)->i ∈ Region.ready .any ops listed ->
   (vcOp P T (modeOf LF RF ops i) (hint i) ops oi st V fun st' V'=>vcAny P T (modeOf LF RF ops) hint ops fuel (listed.setIfInBounds i true) st' V' K) ->
   vcAny P T (modeOf LF RF ops) hint ops (fuel + 1) listed st V K:=by
 have notanc:∀(listed:Array Bool) (j:Nat),(∀j,listed.getD j false=true->∀k,anc j k->listed.getD k false=true)->i ∈ Region.ready .any ops listed->j ∈ Region.ready .any ops listed->¬ anc j i:=by
  intro listed j hcl hr hj hij
  obtain ⟨hun,-⟩:=mem_ready.1 hr
  have hno:listed.getD i false=true->False:=by
   intro h
   rcases Nat.lt_or_ge i listed.size with h' | h'
   ·simp [h'] at hun h; rw [hun] at h; cases h
   ·simp [h'] at h
  obtain ⟨-,o,ho,hall⟩:=mem_ready.1 hj
  obtain ⟨e,he,hb,h⟩:=hA j o ho i hij
  have h1:=hall e he hb
  rcases h with h | h
  ·rw [h] at h1; exact hno h1
  ·exact hno (hcl _ h1 i h)
 intro fuel
 induction fuel with
 | zero=>
  intro listed st V hcl hfree hr H
  refine ⟨fun h=>(by rw [h] at hr; cases hr),fun j hj o ho=>?_⟩
  by_cases hji:j=i
  ·subst hji; rw [hi] at ho; cases ho; exact H
  ·exfalso
   have hind:=hfree j o ho hji (mem_ready.1 hj).1 (notanc listed j hcl hr hj)
   obtain ⟨q1,⟨R,W,q2⟩,-⟩:=indep_facts hind
   refine op_false q1 q2 (vcOp_mono (fun s V' _ h=>?_) H)
   have:=ready_mono hj hji
   rw [h.1] at this
   cases this
 | succ fuel ih=>
  intro listed st V hcl hfree hr H
  refine ⟨fun h=>(by rw [h] at hr; cases hr),fun j hj oj hoj=>?_⟩
  by_cases hji:j=i
  ·subst hji; rw [hi] at hoj; cases hoj; exact H
  ·have hnot:=notanc listed j hcl hr hj
   have hind:=hfree j oj hoj hji (mem_ready.1 hj).1 hnot
   obtain ⟨q1,⟨R,W,q2⟩,R',W',q3⟩:=indep_facts hind
   have h1:=vcOp_mono (fun s V' _ h=>h.2 j (ready_mono hj hji) oj hoj) H
   have h2:=op_swap hind (modeOk_of hoj q3) h1
   refine vcOp_mono (fun s V' _ h=>?_) h2
   obtain ⟨-,oj',hoj',hall⟩:=mem_ready.1 hj
   rw [hoj] at hoj'
   cases hoj'
   have hjl:j < ops.size:=by
    rcases Nat.lt_or_ge j ops.size with h' | h'
    ·exact h'
    ·rw [Array.getElem?_eq_none h'] at hoj; cases hoj
   refine ih (listed.setIfInBounds j true) s V' ?_ ?_ (ready_mono hr (Ne.symm hji)) ?_
   ·intro k hk l hl
    by_cases hjk:j=k
    ·subst hjk
     obtain ⟨e,he,hb,h⟩:=hA j oj hoj l hl
     have h1:=hall e he hb
     rcases h with h | h
     ·rw [← h]; exact getD_set_true h1
     ·exact getD_set_true (hcl _ h1 l h)
    ·rw [getD_set_ne false hjk] at hk
     exact getD_set_true (hcl k hk l hl)
   ·intro k ok hk hki hun hno
    refine hfree k ok hk hki ?_ hno
    by_cases hjk:j=k
    ·subst hjk; exact (mem_ready.1 hj).1
    ·rw [getD_set_ne true hjk] at hun; exact hun
   ·rw [Array.setIfInBounds_comm _ _ hji]
    exact h
theorem vcL_any (hA:∀j o,ops[j]?=some o->∀i,anc j i->∃e ∈ o.after,Region.binds .any e=true/\(e.on=i \/ anc e.on i)) :
  ∀(l done:List Nat) (listed:Array Bool) (st:St) (V:View),listed.size=ops.size->(∀j,listed.getD j false=nmem j done)->(∀j,j < ops.size->j ∈ done \/ j ∈ l) ->
   (∀j,listed.getD j false=true->∀k,anc j k->listed.getD k false=true)->readyAll ops done l=true ->
   (∀i r1 r2,l=r1++i :: r2->∀j ∈ r2,anc j i \/ ∃a b,ops[i]?=some a/\ops[j]?=some b/\indep LF RF ops (hint i) (hint j) a b=true) ->
   vcL P T (modeOf LF RF ops) hint ops l st V K->vcAny P T (modeOf LF RF ops) hint ops l.length listed st V K
 | [],done,listed,st,V,hs,hrel,hcov,_,_,_,hv=>by
  refine ⟨?_,hv⟩
  cases hr:Region.ready .any ops listed with
  | nil=>rfl
  | cons x xs=>
   exfalso
   have hx:x ∈ Region.ready .any ops listed:=by rw [hr]; simp
   obtain ⟨h1,o,ho,-⟩:=mem_ready.1 hx
   have hlt:x < ops.size:=by
    rcases Nat.lt_or_ge x ops.size with h' | h'
    ·exact h'
    ·rw [Array.getElem?_eq_none h'] at ho; cases ho
   rcases hcov x hlt with h | h
   ·have h2:=hrel x
    rw [nmem_iff.2 h] at h2
    simp [hs,hlt] at h1 h2
    rw [h1] at h2; cases h2
   ·cases h
 | i :: r,done,listed,st,V,hs,hrel,hcov,hcl,hra,hpair,hv=>by
  simp only [readyAll,Bool.and_eq_true] at hra
  obtain ⟨hri,hra⟩:=hra
  unfold readyB at hri
  split at hri
  ·rename_i oi hoi
   simp only [Bool.and_eq_true,Bool.not_eq_true',List.all_eq_true,Bool.or_eq_true] at hri
   obtain ⟨hri1,hri2⟩:=hri
   have hil:i < ops.size:=by
    rcases Nat.lt_or_ge i ops.size with h' | h'
    ·exact h'
    ·rw [Array.getElem?_eq_none h'] at hoi; cases hoi
   have hafter:∀e ∈ oi.after,Region.binds .any e=true->listed.getD e.on false=true:=by
    intro e he hb
    rw [hrel]
    rcases hri2 e (by simpa using he) with h | h
    ·rw [hb] at h; cases h
    ·exact h
   have hready:i ∈ Region.ready .any ops listed:=by
    refine mem_ready.2 ⟨?_,oi,hoi,hafter⟩
    have:=hrel i
    rw [hri1] at this
    simp [hs,hil] at this ⊢
    exact this
   have hcl':∀j,(listed.setIfInBounds i true).getD j false=true->∀k,anc j k->(listed.setIfInBounds i true).getD k false=true:=by
    intro k hk l hl
    by_cases hjk:i=k
    ·subst hjk
     obtain ⟨e,he,hb,h⟩:=hA i oi hoi l hl
     have h1:=hafter e he hb
     rcases h with h | h
     ·rw [← h]; exact getD_set_true h1
     ·exact getD_set_true (hcl _ h1 l h)
    ·rw [getD_set_ne false hjk] at hk
     exact getD_set_true (hcl k hk l hl)
   refine vcAny_first hA hoi r.length listed st V hcl (fun j oj hoj hji hun hno=>?_) hready ?_
   ·have hjl:j < ops.size:=by
     rcases Nat.lt_or_ge j ops.size with h' | h'
     ·exact h'
     ·rw [Array.getElem?_eq_none h'] at hoj; cases hoj
    have hjr:j ∈ r:=by
     rcases hcov j hjl with h | h
     ·exfalso
      have h2:=hrel j
      rw [nmem_iff.2 h] at h2
      simp [hs,hjl] at hun h2
      rw [hun] at h2; cases h2
     ·rcases List.mem_cons.1 h with h | h
      ·exact absurd h hji
      ·exact h
    rcases hpair i [] r rfl j hjr with h | ⟨a,b,ha,hb,h⟩
    ·exact absurd h hno
    ·rw [hoi] at ha; rw [hoj] at hb; cases ha; cases hb; exact h
   ·simp only [vcL,hoi] at hv
    have hrest:∀s V',vcL P T (modeOf LF RF ops) hint ops r s V' K->vcAny P T (modeOf LF RF ops) hint ops r.length (listed.setIfInBounds i true) s V' K:=by
     intro s V' hv'
     refine vcL_any hA r (i :: done) (listed.setIfInBounds i true) s V' (by simp [hs]) ?_ ?_ hcl' hra (fun k r1 r2 e j hj=>hpair k (i :: r1) r2 (by rw [e]; rfl) j hj) hv'
     ·intro j
      by_cases hji:i=j
      ·subst hji; simp [nmem,Nat.beq_refl,hs,hil]
      ·rw [getD_set_ne false hji,hrel j]; simp [nmem,beq_ne (Ne.symm hji)]
     ·intro j hj
      rcases hcov j hj with h | h
      ·exact .inl (by simp [h])
      ·rcases List.mem_cons.1 h with h | h
       ·exact .inl (by simp [h])
       ·exact .inr h
    exact vcOp_mono (fun s V' _ h=>hrest s V' h) hv
  ·cases hri
end
/-! what is known of 'ancs' -/
theorem bitB_iff {m i:Nat}:bitB m i=true↔m.testBit i=true:=by
 unfold bitB
 rw [beq_eq,Nat.testBit_eq_decide_div_mod_eq,decide_eq_true_iff]
 show Nat.land (m >>> i) 1=1↔_
 rw [show Nat.land (m >>> i) 1=(m >>> i) &&& 1 from rfl,Nat.and_one_is_mod,Nat.shiftRight_eq_div_pow]
def ancF (acc:List Nat) (o:Oper):Nat:=o.after.toList.foldl (fun s e=>cond (Region.binds .any e) (Nat.lor (Nat.lor (Nat.shiftLeft 1 e.on) (acc.getD e.on 0)) s) s) 0
theorem ancF_mem {acc:List Nat} {i:Nat}:∀(es:List Edge) (s:Nat),(es.foldl (fun s e=>cond (Region.binds .any e) (Nat.lor (Nat.lor (Nat.shiftLeft 1 e.on) (acc.getD e.on 0)) s) s) s).testBit i=true ->
  s.testBit i=true \/ ∃e ∈ es,Region.binds .any e=true/\(e.on=i \/ (acc.getD e.on 0).testBit i=true)
 | [],s,h=>.inl h
 | e :: r,s,h=>by
  simp only [List.foldl_cons] at h
  rcases ancF_mem r _ h with h1 | ⟨e',h1,h2,h3⟩
  ·cases hb:Region.binds .any e with
   | false=>rw [hb] at h1; exact .inl h1
   | true=>
    rw [hb] at h1
    simp only [cond_true] at h1
    have h1:(((1 <<< e.on) ||| (acc.getD e.on 0)) ||| s).testBit i=true:=h1
    rw [Nat.testBit_or,Nat.testBit_or,Bool.or_eq_true,Bool.or_eq_true] at h1
    rcases h1 with (h1 | h1) | h1
    ·rw [Nat.shiftLeft_eq,Nat.one_mul,Nat.testBit_two_pow] at h1
     exact .inr ⟨e,by simp,hb,.inl (by simpa using h1)⟩
    ·exact .inr ⟨e,by simp,hb,.inr h1⟩
    ·exact .inl h1
  ·exact .inr ⟨e',by simp [h1],h2,h3⟩
theorem ancs_spec:∀(l:List Oper) (acc:List Nat),∃ext,l.foldl (fun acc o=>acc++[ancF acc o]) acc=acc++ext/\∀k o,l[k]?=some o->∃pre suf,ext=pre++suf/\ext.getD k 0=ancF (acc++pre) o
 | [],acc=>⟨[],by simp,fun k o h=>by simp at h⟩
 | o :: r,acc=>by
  obtain ⟨ext,h1,h2⟩:=ancs_spec r (acc++[ancF acc o])
  refine ⟨ancF acc o :: ext,by simp [h1],fun k o' h=>?_⟩
  cases k with
  | zero=>
   simp at h
   subst h
   exact ⟨[],_,rfl,by simp⟩
  | succ k=>
   simp at h
   obtain ⟨pre,suf,e1,e2⟩:=h2 k o' h
   exact ⟨ancF acc o :: pre,suf,by simp [e1],by simpa using e2⟩
theorem ancs_after {ops:List Oper} (j:Nat) (o:Oper) (ho:ops[j]?=some o):∀i,((ancs ops).getD j 0).testBit i=true->∃e ∈ o.after,Region.binds .any e=true/\(e.on=i \/ ((ancs ops).getD e.on 0).testBit i=true):=by
 intro i hi
 obtain ⟨ext,h1,h2⟩:=ancs_spec ops []
 have he:ancs ops=ext:=(show ancs ops=[]++ext from h1).trans (List.nil_append _)
 obtain ⟨pre,suf,e1,e2⟩:=h2 j o ho
 rw [he,e2] at hi
 rcases ancF_mem _ _ hi with h | ⟨e,g1,g2,g3⟩
 ·simp at h
 ·refine ⟨e,by simpa using g1,g2,?_⟩
  rcases g3 with g3 | g3
  ·exact .inl g3
  ·right
   simp only [List.nil_append] at g3
   rw [he,e1]
   rcases Nat.lt_or_ge e.on pre.length with h' | h'
   ·simpa [List.getElem?_append_left h'] using g3
   ·simp [h'] at g3
theorem pairs_spec {ops:Array Oper} {hs:List Hint} {an:List Nat}:∀{l:List Nat},pairsOk LF RF ops hs an l=true->∀i r1 r2,l=r1++i :: r2->∀j ∈ r2,(an.getD j 0).testBit i=true \/ ∃a b,ops[i]?=some a/\ops[j]?=some b/\indep LF RF ops (hs.getD i .free) (hs.getD j .free) a b=true
 | [],_,i,r1,r2,e,_,_=>by simp at e
 | x :: l,h,i,r1,r2,e,j,hj=>by
  simp only [pairsOk,Bool.and_eq_true,List.all_eq_true] at h
  cases r1 with
  | nil=>
   simp at e
   obtain ⟨rfl,rfl⟩:=e
   have:=h.1 j hj
   rw [Bool.or_eq_true] at this
   rcases this with h1 | h1
   ·exact .inl (bitB_iff.1 h1)
   ·split at h1
    ·rename_i a b ha hb; exact .inr ⟨a,b,ha,hb,h1⟩
    ·cases h1
  | cons y r1=>
   simp at e
   exact pairs_spec h.2 i r1 r2 e.2 j hj
theorem vcL_le {m:Nat->CM} {hint:Nat->Hint} {ops:Array Oper}:∀{l:List Nat} {st:St} {V:View} {K K':St->View->Prop},(∀s V',V.Le V'->K s V'->K' s V')->vcL P T m hint ops l st V K->vcL P T m hint ops l st V K'
 | [],_,V,_,_,hk,h=>hk _ _ (View.Le.refl V) h
 | i :: r,st,V,K,K',hk,h=>by
  simp only [vcL] at h ⊢
  split at h
  ·exact vcOp_mono (fun s V' hle h=>vcL_le (fun s V'' hle' h=>hk s V'' (hle.trans hle') h) h) h
  ·exact h.elim
theorem region_sound {st:St} {β:Nat->Nat} {a:Act} {w:World} {V:View} (hT:Tab.ok P T) (hmx:P.follows .mixedOrders=true) (hM:Mod n V0 bor β0 st β a w V) {id:Nat} {ops:Array Oper} {draw:Bool}
  (hd:∀(i:Nat) (o:Oper),ops[i]?=some o->∀d,o.dst=some d->d < n) {Q:Exit->Act->World->Prop} {K:Exit->St->View->Prop}
  (hv:vcReg P T LF RF ops draw st V (K .normal)) (hK:∀st' β' a' w' V',Mod n V0 bor β0 st' β' a' w' V'->V.Le V'->K .normal st' V'->Q .normal a' w'):(Code.region id ops draw).wp P Q a w:=by
 cases draw with
 | false=>
  simp only [vcReg] at hv
  exact wp_region (ops_sound (K:=fun s V'=>V.Le V'/\K .normal s V') hT hd (fun st' β' a' w' V' hM' h=>hK st' β' a' w' V' hM' h.1 h.2) _ st β a w V hM (vcL_le (fun s V' hle h=>⟨hle,h⟩) hv))
 | true=>
  simp only [vcReg] at hv
  split at hv
  ·rename_i ho
   simp only [orderOk,Bool.and_eq_true,List.all_eq_true,List.mem_range] at ho
   obtain ⟨⟨⟨h1,h2⟩,h3⟩,h4⟩:=ho
   refine wp_region_any hmx ?_
   have:=vcL_any (P:=P) (T:=T) (LF:=LF) (RF:=RF) (ops:=ops) (hint:=fun i=>(ops.toList.map (hintOf LF RF st ops.toList)).getD i .free) (anc:=fun j i=>((ancs ops.toList).getD j 0).testBit i=true) (K:=fun s V'=>V.Le V'/\K .normal s V')
    (fun j o ho=>ancs_after j o (by simpa using ho)) (stageOrder LF RF ops) [] (Array.replicate ops.size false) st V (by simp) (fun j=>by
     simp only [nmem,Array.getD]
     split <;> simp) (fun j hj=>.inr (nmem_iff.1 (h2 j hj))) (fun j hj=>by
     exfalso
     simp only [Array.getD] at hj
     split at hj <;> simp at hj) h3 (pairs_spec h4) (vcL_le (fun s V' hle h=>⟨hle,h⟩) hv)
   rw [beq_eq.1 h1] at this
   exact vcAny_sound hT hd (fun st' β' a' w' V' hM' h=>hK st' β' a' w' V' hM' h.1 h.2) _ _ _ β _ _ _ hM.drew this
  ·exact hv.elim
end Go.Eng
/- The symbolic executor is sound: code, functions. -/
namespace Go.Eng
variable {P:Program} {T:Tab} {LF RF:List Nat} {n:Nat} {V0:View} {bor:Bor} {β0:Nat->Nat} {β:Nat->Nat}
theorem cond_facts {c:Bool} {l:List Prop} (h:∀p ∈ (cond c l [False]),p):c=true/\∀p ∈ l,p:=by
 cases c with
 | true=>exact ⟨rfl,h⟩
 | false=>exact (h False (by simp)).elim
theorem eqIds_map {ρ:List (Nat × Nat)} {β β':Nat->Nat}:∀{ss ts:List Nat},(∀s' ∈ ts,∀s,eqId ρ s s'=true->β' s'=β s)->eqIds ρ ss ts=true->ss.map β=ts.map β'
 | [],[],_,_=>rfl
 | s :: r,s' :: r',hβ,h=>by
  simp only [eqIds,Bool.and_eq_true] at h
  simp only [List.map_cons]
  rw [hβ s' (by simp) s h.1,eqIds_map (fun u hu=>hβ u (by simp [hu])) h.2]
 | [],_ :: _,_,h=>by simp [eqIds] at h
 | _ :: _,[],_,h=>by simp [eqIds] at h
theorem eqC_den {ρ:List (Nat × Nat)} {β β':Nat->Nat} {a b:C} (hβ:∀s' ∈ b.ids,∀s,eqId ρ s s'=true->β' s'=β s) (h:∀p ∈ eqC ρ a b,p):a.den β=b.den β':=by
 unfold eqC at h
 split at h
 ·obtain ⟨h1,h2⟩:=cond_facts h
  have:=kindEq_eq h1
  have:=h2 _ (List.mem_singleton.2 rfl)
  subst_vars; rfl
 ·have:=h _ (List.mem_singleton.2 rfl); subst this; rfl
 ·have:=h _ (List.mem_singleton.2 rfl); subst this; rfl
 ·have:=h _ (List.mem_singleton.2 rfl); subst this; rfl
 ·rename_i a n c a' n' c'
  have h1:=h (a=a') (by simp)
  have h2:=h (n=n') (by simp)
  have h3:=h (c=c') (by simp)
  subst h1 h2 h3; rfl
 ·rename_i a n c s' n' c'
  have h1:=h (a=none) (by simp)
  have h2:=h (n=n') (by simp)
  have h3:=h (c=c') (by simp)
  have h4:=h (c=0) (by simp)
  subst h1 h2 h3 h4; rfl
 ·have:=h _ (List.mem_singleton.2 rfl); subst this; rfl
 ·have:=h _ (List.mem_singleton.2 rfl); subst this; rfl
 ·have:=h _ (List.mem_singleton.2 rfl); subst this; rfl
 ·have:=h _ (List.mem_singleton.2 rfl); subst this; rfl
 ·have:=h _ (List.mem_singleton.2 rfl); subst this; rfl
 ·rfl
 ·rfl
 ·rename_i s o s' o'
  obtain ⟨h1,h2⟩:=cond_facts h
  have e:=hβ s' (by simp [C.ids]) s h1
  have:=h2 (o=o') (by simp)
  subst_vars; simp only [C.den,e]
 ·rename_i s o n c s' o' n' c'
  obtain ⟨h0,h⟩:=cond_facts h
  have e:=hβ s' (by simp [C.ids]) s h0
  have h1:=h (o=o') (by simp)
  have h2:=h (n=n') (by simp)
  have h3:=h (c=c') (by simp)
  subst_vars; simp only [C.den,e]
 ·rename_i s o n c s' n' c'
  obtain ⟨h0,h⟩:=cond_facts h
  have e:=hβ s' (by simp [C.ids]) s h0
  have h1:=h (o=0) (by simp)
  have h2:=h (n=n') (by simp)
  have h3:=h (c=c') (by simp)
  have h4:=h (c≠0) (by simp)
  subst h1 h2 h3; simp only [C.den,e,mA,h4,if_false]
 ·rename_i s n c s' n' c'
  obtain ⟨h0,h⟩:=cond_facts h
  have e:=hβ s' (by simp [C.ids]) s h0
  have h2:=h (n=n') (by simp)
  have h3:=h (c=c') (by simp)
  subst_vars; simp only [C.den,e]
 ·rename_i f ss g ts
  obtain ⟨h0,h⟩:=cond_facts h
  have h1:=h (f=g) (by simp)
  have e:ss.map β=ts.map β':=eqIds_map (β:=β) (β':=β') (ts:=ts) (fun s' hs=>hβ s' hs) h0
  subst h1
  have e2:(ss.map fun s=>Value.pointer (some ⟨β s,0,none⟩))=ts.map fun s=>Value.pointer (some ⟨β' s,0,none⟩):=by
   have:=congrArg (List.map fun b=>Value.pointer (some ⟨b,0,none⟩)) e
   simpa [List.map_map,Function.comp_def] using this
  simp only [C.den,e2]
 ·exact (h False (by simp)).elim
theorem eqCs_den {ρ:List (Nat × Nat)} {β β':Nat->Nat}:∀{l m:List C},(∀s' ∈ m.flatMap C.ids,∀s,eqId ρ s s'=true->β' s'=β s)->(∀p ∈ eqCs ρ l m,p)->l.map (C.den β)=m.map (C.den β')
 | [],[],_,_=>rfl
 | a :: r,b :: s,hβ,h=>by
  simp only [eqCs,List.mem_append] at h
  simp only [List.map_cons]
  rw [eqC_den (fun u hu=>hβ u (by simp [hu])) fun p hp=>h p (.inl hp),eqCs_den (fun u hu=>hβ u (by rw [List.flatMap_cons]; exact List.mem_append_right _ hu)) fun p hp=>h p (.inr hp)]
 | [],_ :: _,_,h=>(h False (by simp [eqCs])).elim
 | _ :: _,[],_,h=>(h False (by simp [eqCs])).elim
theorem eqSV_den {ρ:List (Nat × Nat)} {β β':Nat->Nat} {a b:SV} (hβ:∀s' ∈ b.ids,∀s,eqId ρ s s'=true->β' s'=β s) (h:∀p ∈ eqSV ρ a b,p):a.den β=b.den β':=by
 unfold eqSV at h
 split at h
 ·exact eqC_den hβ h
 ·simp only [SV.den]; rw [eqCs_den hβ h]
 ·exact (h False (by simp)).elim
theorem eqBox_obj {ρ:List (Nat × Nat)} {β β':Nat->Nat} {a b:Box} (hβ:∀s' ∈ b.cs.ids,∀s,eqId ρ s s'=true->β' s'=β s) (h:∀p ∈ eqBox ρ a b,p):a.obj β=b.obj β'/\(b.live->a.live):=by
 unfold eqBox at h
 obtain ⟨ac,at'⟩:=a
 obtain ⟨bc,bt⟩:=b
 dsimp only at h
 split at h
 ·obtain ⟨h1,h2⟩:=cond_facts h
  simp only [Box.obj,Cells.den]
  rw [eqCs_den hβ h2,beq_eq.1 h1]
  exact ⟨rfl,fun _=>live_lit⟩
 ·obtain ⟨h1,h2⟩:=cond_facts h
  have:=h2 _ (List.mem_singleton.2 rfl)
  subst this
  simp only [Box.obj,Cells.den]
  rw [beq_eq.1 h1]
  exact ⟨rfl,fun _=>live_row⟩
 ·obtain ⟨h1,h2⟩:=cond_facts h
  have:=h2 _ (List.mem_singleton.2 rfl)
  subst this
  simp only [Box.obj,Cells.den]
  rw [beq_eq.1 h1]
  exact ⟨rfl,fun l=>l⟩
 ·obtain ⟨h1,h2⟩:=cond_facts h
  have:=h2 _ (List.mem_singleton.2 rfl)
  subst this
  simp only [Box.obj,Cells.den]
  rw [beq_eq.1 h1]
  exact ⟨rfl,fun _=>live_row⟩
 ·split at h
  ·rename_i ws hws
   obtain ⟨h1,h2⟩:=cond_facts h
   have:=h2 _ (List.mem_singleton.2 rfl)
   subst this
   simp only [Box.obj,Cells.den]
   rw [(vals?_den (β:=β) hws).1,beq_eq.1 h1]
   exact ⟨rfl,fun _=>live_lit⟩
  ·exact (h False (by simp)).elim
 ·exact (h False (by simp)).elim
theorem alook_mem {α:Type}:∀{l:List (Nat × α)} {t:Nat} {x:α},alook l t=some x->(t,x) ∈ l
 | [],_,_,h=>by cases h
 | (s,y) :: r,t,x,h=>by
  simp only [alook] at h
  by_cases e:t=s
  ·subst e; rw [Nat.beq_refl] at h; cases h; simp
  ·rw [beq_ne e] at h; exact List.mem_cons_of_mem _ (alook_mem h)
theorem alook_of_mem {α:Type}:∀{l:List (Nat × α)} {t:Nat},t ∈ l.map (·.1)->∃x,alook l t=some x
 | [],_,h=>by simp at h
 | (s,y) :: r,t,h=>by
  simp only [alook]
  by_cases e:t=s
  ·subst e; rw [Nat.beq_refl]; exact ⟨_,rfl⟩
  ·rw [beq_ne e]
   exact alook_of_mem (by simpa [e] using h)
theorem fitS_spec {ρ:List (Nat × Nat)} {β β':Nat->Nat} {st:St}:∀{l:List (Nat × SV)},(∀t x,(t,x) ∈ l->∀s' ∈ x.ids,∀s,eqId ρ s s'=true->β' s'=β s)->(∀p ∈ fitS ρ st l,p)->∀t x,(t,x) ∈ l->∃y,st.slots t=some y/\y.den β=x.den β'
 | [],_,_,_,_,h=>nomatch h
 | (s,z) :: r,hβ,h,t,x,hm=>by
  simp only [fitS] at h
  split at h
  ·rename_i y hy
   simp only [List.mem_append] at h
   rcases List.mem_cons.1 hm with e | hm
   ·cases e; exact ⟨y,hy,eqSV_den (hβ _ _ List.mem_cons_self) fun p hp=>h p (.inl hp)⟩
   ·exact fitS_spec (fun t x h=>hβ t x (by simp [h])) (fun p hp=>h p (.inr hp)) t x hm
  ·exact (h False (by simp)).elim
theorem fitB_spec {ρ:List (Nat × Nat)} {β β':Nat->Nat} {st:St}:∀{l:List (Nat × Box)},(∀t x,(t,x) ∈ l->∀s' ∈ x.cs.ids,∀s,eqId ρ s s'=true->β' s'=β s)->(∀p ∈ fitB ρ st l,p)->∀t x,(t,x) ∈ l->x.live ->
  t ∈ renL ρ l/\∃y,st.boxes (ren ρ t)=some y/\y.obj β=x.obj β'/\y.live
 | [],_,_,_,_,h,_=>nomatch h
 | (s,z) :: r,hβ,h,t,x,hm,hl=>by
  have hβr:∀t x,(t,x) ∈ r->∀s' ∈ x.cs.ids,∀s,eqId ρ s s'=true->β' s'=β s:=fun t x h=>hβ t x (by simp [h])
  have tail:(∀p ∈ fitB ρ st r,p)->(t,x) ∈ r->t ∈ renL ρ ((s,z) :: r)/\∃y,st.boxes (ren ρ t)=some y/\y.obj β=x.obj β'/\y.live:=by
   intro h hm
   obtain ⟨h1,h2⟩:=fitB_spec hβr h t x hm hl
   refine ⟨?_,h2⟩
   unfold renL
   split
   ·split
    ·exact List.mem_cons_of_mem _ h1
    ·exact h1
   ·exact List.mem_cons_of_mem _ h1
  simp only [fitB] at h
  split at h
  ·rename_i l0 hcs hal
   rcases List.mem_cons.1 hm with e | hm
   ·cases e
    have:=h (l0=[]) (by simp)
    subst this
    exact absurd (hl [] hcs) (by simp)
   ·exact tail (fun p hp=>h p (List.mem_cons_of_mem _ hp)) hm
  ·rename_i hne
   split at h
   ·rename_i y hy
    simp only [List.mem_append] at h
    rcases List.mem_cons.1 hm with e | hm
    ·cases e
     obtain ⟨h1,h2⟩:=eqBox_obj (hβ _ _ List.mem_cons_self) fun p hp=>h p (.inl hp)
     refine ⟨?_,y,hy,h1,h2 hl⟩
     unfold renL
     split
     ·rename_i l0 hcs
      split
      ·simp
      ·rename_i hal; exact absurd hal (hne l0 hcs)
     ·simp
    ·exact tail (fun p hp=>h p (.inr hp)) hm
   ·exact (h False (by simp)).elim
theorem renL_mem {ρ:List (Nat × Nat)}:∀{l:List (Nat × Box)} {t:Nat} {x:Box},(t,x) ∈ l->(∃s,alook ρ t=some s)->t ∈ renL ρ l
 | [],_,_,h,_=>nomatch h
 | (s,z) :: r,t,x,hm,ha=>by
  rcases List.mem_cons.1 hm with e | hm
  ·cases e
   unfold renL
   split
   ·obtain ⟨s,hs⟩:=ha
    rw [hs]; simp
   ·simp
  ·have:=renL_mem hm ha
   unfold renL
   split
   ·split
    ·exact List.mem_cons_of_mem _ this
    ·exact this
   ·exact List.mem_cons_of_mem _ this
theorem renOk_spec {ρ:List (Nat × Nat)}:∀{l:List Nat},renOk ρ l=true->(∀t ∈ l,(t < 100000↔ren ρ t < 100000)/\(100000<=t->t < 200000->ren ρ t=t))/\∀t ∈ l,∀t' ∈ l,ren ρ t=ren ρ t'->t=t'
 | [],_=>⟨fun t h=>(nomatch h),fun t h=>(nomatch h)⟩
 | t :: r,h=>by
  simp only [renOk,Bool.and_eq_true,List.all_eq_true] at h
  obtain ⟨⟨⟨h1,h2⟩,h3⟩,h4⟩:=h
  obtain ⟨i1,i2⟩:=renOk_spec h4
  have hlt:∀a b:Nat,Nat.blt a b=true↔a < b:=fun a b=>by rw [Nat.blt_eq]
  have k1:t < 100000↔ren ρ t < 100000:=by
   rw [← hlt,← hlt,beq_iff_eq.1 h1]
  have k2:100000<=t->t < 200000->ren ρ t=t:=by
   intro g1 g2
   simp only [Bool.or_eq_true] at h2
   rcases h2 with (h2 | h2) | h2
   ·rw [hlt] at h2; omega
   ·have:=Nat.le_of_ble_eq_true h2; omega
   ·exact beq_eq.1 h2
  have k3:∀u ∈ r,ren ρ t≠ren ρ u:=by
   intro u hu e
   have:=h3 u hu
   rw [e,Nat.beq_refl] at this
   cases this
  refine ⟨fun u hu=>?_,fun u hu v hv e=>?_⟩
  ·rcases List.mem_cons.1 hu with rfl | hu
   ·exact ⟨k1,k2⟩
   ·exact i1 u hu
  ·rcases List.mem_cons.1 hu with hu | hu <;> rcases List.mem_cons.1 hv with hv | hv
   ·rw [hu,hv]
   ·rw [hu] at e; exact absurd e (k3 v hv)
   ·rw [hv] at e; exact absurd e.symm (k3 u hu)
   ·exact i2 u hu v hv e
theorem tmplB_spec {ss:List (Nat × SV)} {bs:List (Nat × Box)} (h:tmplB ss bs=true) :
  (∀t x,alook ss t=some x->∀s ∈ x.ids,∃b,alook bs s=some b)/\(∀t x,alook bs t=some x->∀s ∈ x.cs.ids,∃b,alook bs s=some b):=by
 unfold tmplB at h
 simp only [Bool.and_eq_true,List.all_eq_true] at h
 refine ⟨fun t x hx s hs=>alook_of_mem (nmem_iff.1 (h.1 _ (alook_mem hx) s hs)),fun t x hx s hs=>alook_of_mem (nmem_iff.1 (h.2 _ (alook_mem hx) s hs))⟩
theorem allL_spec:∀{l:List Prop},allL l->∀p ∈ l,p
 | [],_,_,h=>nomatch h
 | [q],h,p,hp=>by rw [List.mem_singleton.1 hp]; exact h
 | q :: r :: s,h,p,hp=>by
  rcases List.mem_cons.1 hp with e | e
  ·rw [e]; exact h.1
  ·exact allL_spec h.2 p e
/-- A state that fits a template is the template's. -/
theorem fits_mod {st:St} {a:Act} {w:World} {V:View} (hM:Mod n V0 bor β0 st β a w V) {A:Ann} {x:A.τ} {k:Prop} (ht:tmplB (A.slots x) (A.boxes x)=true) (h:A.fits st x k):(∃β',Mod n V0 bor β0 (A.st x) β' a w V)/\k:=by
 unfold Ann.fits at h
 dsimp only at h
 generalize renAll st (A.slots x) (A.boxes x)=ρ at h
 obtain ⟨h1,h2⟩:=h
 refine ⟨?_,h2⟩
 replace h1:=allL_spec h1
 obtain ⟨t1,t2⟩:=tmplB_spec ht
 have hR:renOk ρ (renL ρ (A.boxes x))=true:=by
  have:=fun p hp=>h1 p (List.mem_append_right _ hp)
  unfold fitR at this
  cases hc:renOk ρ (renL ρ (A.boxes x)) with
  | true=>rfl
  | false=>rw [hc] at this; exact (this False (by simp)).elim
 obtain ⟨r1,r2⟩:=renOk_spec hR
 let β':Nat->Nat:=fun t=>if t ∈ renL ρ (A.boxes x) then β (ren ρ t) else β t
 have hin:∀t,t ∈ renL ρ (A.boxes x)->β' t=β (ren ρ t):=fun t h=>if_pos h
 have hβ:∀s',(∃b,alook (A.boxes x) s'=some b)->∀s,eqId ρ s s'=true->β' s'=β s:=by
  rintro s' ⟨b,hb⟩ s he
  unfold eqId at he
  split at he
  ·rename_i u hu
   have e:=beq_eq.1 he
   subst e
   rw [hin s' (renL_mem (alook_mem hb) ⟨_,hu⟩)]
   simp only [ren,hu]
  ·rename_i hu
   have e:=beq_eq.1 he
   subst e
   by_cases hm:s ∈ renL ρ (A.boxes x)
   ·rw [hin s hm]; simp only [ren,hu]
   ·exact if_neg hm
 have idsS:∀t y,(t,y) ∈ A.slots x->∀s ∈ y.ids,∃b,alook (A.boxes x) s=some b:=by
  intro t y hy s hs
  unfold tmplB at ht
  simp only [Bool.and_eq_true,List.all_eq_true] at ht
  exact alook_of_mem (nmem_iff.1 (ht.1 _ hy s hs))
 have idsB:∀t y,(t,y) ∈ A.boxes x->∀s ∈ y.cs.ids,∃b,alook (A.boxes x) s=some b:=by
  intro t y hy s hs
  unfold tmplB at ht
  simp only [Bool.and_eq_true,List.all_eq_true] at ht
  exact alook_of_mem (nmem_iff.1 (ht.2 _ hy s hs))
 have fs:=fitS_spec (ρ:=ρ) (β:=β) (β':=β') (st:=st) (l:=A.slots x) (fun t y hy s hs=>hβ s (idsS t y hy s hs)) fun p hp=>h1 p (List.mem_append_left _ (List.mem_append_left _ hp))
 have fb:=fitB_spec (ρ:=ρ) (β:=β) (β':=β') (st:=st) (l:=A.boxes x) (fun t y hy s hs=>hβ s (idsB t y hy s hs)) fun p hp=>h1 p (List.mem_append_left _ (List.mem_append_right _ hp))
 refine ⟨β',hM.defers,hM.size,?_,t1,t2,?_,?_,hM.vis,?_,hM.ext,?_,?_,hM.borX,hM.small⟩
 ·intro t y hy
  obtain ⟨z,hz,hd⟩:=fs t y (alook_mem hy)
  rw [hM.slots t z hz,hd]
 ·intro s b hb l
  obtain ⟨hr,z,hz,hd,hl⟩:=fb s b (alook_mem hb) l
  rw [hin s hr,hM.boxes _ z hz hl,hd]
 ·intro s s' b b' hb l hb' l' he
  obtain ⟨hr,z,hz,hd,hl⟩:=fb s b (alook_mem hb) l
  obtain ⟨hr',z',hz',hd',hl'⟩:=fb s' b' (alook_mem hb') l'
  rw [hin s hr,hin s' hr'] at he
  exact r2 s hr s' hr' (hM.inj _ _ z z' hz hl hz' hl' he)
 ·intro s b hb l
  obtain ⟨hr,z,hz,hd,hl⟩:=fb s b (alook_mem hb) l
  rw [hin s hr]
  exact hM.hid _ z hz hl
 ·intro s b hb l
  obtain ⟨hr,z,hz,hd,hl⟩:=fb s b (alook_mem hb) l
  rw [hin s hr]
  refine (hM.own _ z hz hl).imp id fun h=>⟨?_,h.2⟩
  have:=(r1 s hr).1
  omega
 ·intro s hs
  obtain ⟨g1,g2⟩:=hM.borB s hs
  refine ⟨g1,?_⟩
  by_cases hm:s ∈ renL ρ (A.boxes x)
  ·rw [hin s hm,(r1 s hm).2 g1.1 g1.2]; exact g2
  ·exact (if_neg hm:β' s=β s).trans g2
theorem code_sound (hT:Tab.ok P T) (hmx:P.follows .mixedOrders=true) {L J:Anns}:∀(c:Code) (st:St) (β:Nat->Nat) (a:Act) (w:World) (V:View) (K:Exit->St->View->Prop) (Q:Exit->Act->World->Prop),
  Mod n V0 bor β0 st β a w V->belowB n c=true->vc P T LF RF L J c st V K->(∀e st' β' a' w' V',Mod n V0 bor β0 st' β' a' w' V'->V.Le V'->K e st' V'->Q e a' w')->c.wp P Q a w:=by
 intro c
 induction c with
 | skip=>intro st β a w V K Q hM _ hv hK; exact wp_skip (hK _ _ _ _ _ _ hM (View.Le.refl V) hv)
 | region id ops draw=>
  intro st β a w V K Q hM hb hv hK
  have hd:∀(i:Nat) (o:Oper),ops[i]?=some o->∀d,o.dst=some d->d < n:=by
   intro i o ho d hd
   simp only [belowB,List.all_eq_true] at hb
   have:=hb o (by rw [← Array.getElem?_toList] at ho; exact List.mem_of_getElem? ho)
   rw [hd] at this
   simp only [Nat.blt_eq] at this
   exact this
  simp only [vc] at hv
  split at hv
  ·obtain ⟨st1,V1,hM1,hle1,hv1⟩:=hM.release hv
   exact region_sound hT hmx hM1 hd hv1 (fun st' β' a' w' V' hM' hle hk=>hK _ _ _ _ _ _ hM' (hle1.trans hle) hk)
  ·rename_i A hA
   obtain ⟨I,hv,hj⟩:=hv
   obtain ⟨st1,V1,hM1,hle1,hv1⟩:=hM.release hv
   refine region_sound (K:=fun _ s V'=>∃x,(A.at st).fits s x (I x V')) hT hmx hM1 hd hv1 (fun st' β' a' w' V' hM' hle hk=>?_)
   obtain ⟨x,hf⟩:=hk
   have hinv:I x V':=hf.2
   obtain ⟨h1,h2⟩:=hj x V' (hle1.trans hle) hinv
   obtain ⟨β2,hM2⟩:=(fits_mod hM' h1 hf).1
   exact hK _ _ _ _ _ _ hM2 (hle1.trans hle) h2
 | seq x y ihx ihy=>
  intro st β a w V K Q hM hb hv hK
  simp only [belowB,Bool.and_eq_true] at hb
  refine wp_seq (ihx st β a w V _ _ hM hb.1 hv ?_)
  intro e st' β' a' w' V' hM' hle hk
  cases e with
  | normal=>exact ihy st' β' a' w' V' K Q hM' hb.2 hk (fun e s b a w V'' h1 h2 h3=>hK e s b a w V'' h1 (hle.trans h2) h3)
  | _=>exact hK _ _ _ _ _ _ hM' hle hk
 | cond c x y ihx ihy=>
  intro st β a w V K Q hM hb hv hK
  simp only [belowB,Bool.and_eq_true] at hb
  simp only [vc] at hv
  split at hv
  ·split at hv
   ·rename_i hc
    exact wp_cond_true (hM.eval hc) (ihx st β a w V K Q hM hb.1 hv hK)
   ·rename_i hc
    exact wp_cond_false (hM.eval hc) (ihy st β a w V K Q hM hb.2 hv hK)
   ·rename_i t hc
    exact wp_cond_split (hM.eval hc) (fun ht=>ihx st β a w V K Q hM hb.1 (hv.1 ht) hK) (fun ht=>ihy st β a w V K Q hM hb.2 (hv.2 ht) hK)
   ·exact hv.elim
  ·rename_i A hA
   split at hv
   ·rename_i hc
    exact wp_cond_true (hM.eval hc) (ihx st β a w V K Q hM hb.1 hv hK)
   ·rename_i hc
    exact wp_cond_false (hM.eval hc) (ihy st β a w V K Q hM hb.2 hv hK)
   ·rename_i t hc
    obtain ⟨I,⟨hx,hy⟩,hj⟩:=hv
    have join:∀e st' β' a' w' V',Mod n V0 bor β0 st' β' a' w' V'->V.Le V'->(match e with | .normal=>∃x,(A.at st).fits st' x (I x V') | e=>K e st' V')->Q e a' w':=by
     intro e st' β' a' w' V' hM' hle hk
     cases e with
     | normal=>
      obtain ⟨x,hf⟩:=hk
      have hinv:I x V':=hf.2
      obtain ⟨h1,h2⟩:=hj x V' hle hinv
      obtain ⟨β2,hM2⟩:=(fits_mod hM' h1 hf).1
      exact hK _ _ _ _ _ _ hM2 hle h2
     | _=>exact hK _ _ _ _ _ _ hM' hle hk
    exact wp_cond_split (hM.eval hc) (fun ht=>ihx st β a w V _ Q hM hb.1 (hx ht) join) (fun ht=>ihy st β a w V _ Q hM hb.2 (hy ht) join)
   ·exact hv.elim
 | block id x ih=>
  intro st β a w V K Q hM hb hv hK
  simp only [vc] at hv
  split at hv
  ·refine wp_block (ih st β a w V _ _ hM hb hv ?_)
   intro e st' β' a' w' V' hM' hle hk
   cases e with
   | normal=>exact hK _ _ _ _ _ _ hM' hle hk
   | exit i=>
    simp only [Exit.inBlock]
    dsimp only at hk
    by_cases e:i=id
    ·subst e
     rw [Nat.beq_refl] at hk
     simp only [if_true]
     exact hK _ _ _ _ _ _ hM' hle hk
    ·rw [beq_ne e] at hk
     rw [if_neg e]
     exact hK _ _ _ _ _ _ hM' hle hk
   | _=>exact hK _ _ _ _ _ _ hM' hle hk
  ·rename_i A hA
   obtain ⟨I,hv,hj⟩:=hv
   refine wp_block (ih st β a w V _ _ hM hb hv ?_)
   intro e st' β' a' w' V' hM' hle hk
   have join:(∃x,(A.at st).fits st' x (I x V'))->Q .normal a' w':=by
    rintro ⟨x,hf⟩
    have hinv:I x V':=hf.2
    obtain ⟨h1,h2⟩:=hj x V' hle hinv
    obtain ⟨β2,hM2⟩:=(fits_mod hM' h1 hf).1
    exact hK _ _ _ _ _ _ hM2 hle h2
   cases e with
   | normal=>exact join hk
   | exit i=>
    simp only [Exit.inBlock]
    dsimp only at hk
    by_cases e:i=id
    ·subst e
     rw [Nat.beq_refl] at hk
     simp only [if_true]
     exact join hk
    ·rw [beq_ne e] at hk
     rw [if_neg e]
     exact hK _ _ _ _ _ _ hM' hle hk
   | _=>exact hK _ _ _ _ _ _ hM' hle hk
 | loop x ih=>
  intro st β a w V K Q hM hb hv hK
  simp only [vc] at hv
  split at hv
  ·exact hv.elim
  ·rename_i A hA
   split at hv
   ·obtain ⟨I,ms,⟨x0,hf0⟩,hr⟩:=hv
    have hinv0:I x0 V:=hf0.2
    refine wp_loop_ghost (fun m a w=>∃x β V',Mod n V0 bor β0 ((A.at st).st x) β a w V'/\V.Le V'/\I x V'/\ms x=m) (ms x0) ?_ ?_
    ·obtain ⟨β2,hM2⟩:=(fits_mod hM (hr x0 V (View.Le.refl V) hinv0).1 hf0).1
     exact ⟨x0,β2,V,hM2,View.Le.refl V,hinv0,rfl⟩
    ·rintro m a w ⟨x,β,V',hM',hle,hinv,rfl⟩
     refine ih ((A.at st).st x) β a w V' _ _ hM' hb (hr x V' hle hinv).2 ?_
     intro e st'' β'' a'' w'' V'' hM'' hle' hk
     cases e with
     | normal=>
      obtain ⟨y,hlt,hf⟩:=hk
      have hinv':I y V'':=hf.2
      obtain ⟨β2,hM2⟩:=(fits_mod hM'' (hr y V'' (hle.trans hle') hinv').1 hf).1
      exact ⟨ms y,hlt,y,β2,V'',hM2,hle.trans hle',hinv',rfl⟩
     | _=>exact hK _ _ _ _ _ _ hM'' (hle.trans hle') hk
   ·obtain ⟨I,⟨x0,k0,hf0⟩,hr⟩:=hv
    have hinv0:I x0 k0 V:=hf0.2
    refine wp_loop_ghost (fun m a w=>∃x β V',Mod n V0 bor β0 ((A.at st).st x) β a w V'/\V.Le V'/\I x m V') k0 ?_ ?_
    ·obtain ⟨β2,hM2⟩:=(fits_mod hM (hr x0 k0 V (View.Le.refl V) hinv0).1 hf0).1
     exact ⟨x0,β2,V,hM2,View.Le.refl V,hinv0⟩
    ·rintro m a w ⟨x,β,V',hM',hle,hinv⟩
     refine ih ((A.at st).st x) β a w V' _ _ hM' hb (hr x m V' hle hinv).2 ?_
     intro e st'' β'' a'' w'' V'' hM'' hle' hk
     cases e with
     | normal=>
      obtain ⟨y,k',hlt,hf⟩:=hk
      have hinv':I y k' V'':=hf.2
      obtain ⟨β2,hM2⟩:=(fits_mod hM'' (hr y k' V'' (hle.trans hle') hinv').1 hf).1
      exact ⟨k',hlt,y,β2,V'',hM2,hle.trans hle',hinv'⟩
     | _=>exact hK _ _ _ _ _ _ hM'' (hle.trans hle') hk
 | exit id=>intro st β a w V K Q hM _ hv hK; exact wp_exit (hK _ _ _ _ _ _ hM (View.Le.refl V) hv)
 | scope x ih=>
  intro st β a w V K Q hM hb hv hK
  simp only [vc] at hv
  refine wp_scope_straight (ih st β a w V _ _ hM hb hv ?_)
  intro e st' β' a' w' V' hM' hle hk
  cases e with
  | goto l=>exact hk.elim
  | _=>exact hK _ _ _ _ _ _ hM' hle hk
 | label l=>intro st β a w V K Q hM _ hv hK; exact wp_label (hK _ _ _ _ _ _ hM (View.Le.refl V) hv)
 | ret=>intro st β a w V K Q hM _ hv hK; exact wp_ret (hK _ _ _ _ _ _ hM (View.Le.refl V) hv)
 | _=>intro st β a w V K Q hM _ hv hK; exact hv.elim
end Go.Eng
/- The symbolic executor is sound: functions. -/
namespace Go.Eng
variable {P:Program} {T:Tab} {LF RF:List Nat} {n:Nat} {V0:View} {bor:Bor} {β0:Nat->Nat} {β:Nat->Nat} {st:St} {a:Act} {w:World} {V:View}
def resG (tmps:Array Value):ResultVar->Sem Value
 | .tmp t=>pure (tmps.getD t undef)
 | .cell c t=>do loadVar t (← asAddr (tmps.getD c undef))
theorem results_eq (fn:Func) (tmps:Array Value):results fn tmps=(do let vs ← fn.results.mapM (resG tmps); pure (if h:vs.size=1 then vs[0] else .tuple vs)):=by
 unfold results
 congr 1
theorem resVals_run (hT:Tab.ok P T) (hM:Mod n V0 bor β0 st β a w V):∀{l:List ResultVar} {xs:List SV},resVals T st l=some xs ->
  (l.mapM (resG a.tmps)).run P w=.ok (xs.map (SV.den β)) w/\∀x ∈ xs,Live st x
 | [],xs,h=>by cases h; exact ⟨rfl,fun x hx=>nomatch hx⟩
 | .tmp t :: r,xs,h=>by
  simp only [resVals] at h
  split at h
  ·rename_i x l hx hl
   cases h
   obtain ⟨h1,h2⟩:=resVals_run hT hM hl
   refine ⟨?_,fun y hy=>?_⟩
   ·simp only [List.mapM_cons,resG,Sem.run_bind,Sem.run_pure,Result.andThen_ok,h1,List.map_cons]
    rw [hM.slots t x hx]
   ·rcases List.mem_cons.1 hy with rfl | hy
    ·exact hM.wfS t y hx
    ·exact h2 y hy
  ·cases h
 | .cell c t :: r,xs,h=>by
  simp only [resVals] at h
  split at h
  ·rename_i s o i l hx hi hl
   split at h
   ·rename_i sc x hq
    cases h
    obtain ⟨h1,h2⟩:=resVals_run hT hM hl
    obtain ⟨g1,g2⟩:=qLoad_ret hM (hT _ _ hi) hq
    have g3:(loadVar t ⟨β s,o,none⟩).run P w=.ok (x.den β) w:=g1
    refine ⟨?_,fun y hy=>?_⟩
    ·have e1:a.tmps.getD c undef=.pointer (some ⟨β s,o,none⟩):=hM.slots c _ hx
     have e2:asAddr (.pointer (some ⟨β s,o,none⟩))=pure ⟨β s,o,none⟩:=rfl
     simp only [List.mapM_cons,resG,e1,e2,Sem.run_bind,Result.andThen_ok,Sem.run_pure,g3,h1,List.map_cons]
    ·rcases List.mem_cons.1 hy with rfl | hy
     ·exact g2
     ·exact h2 y hy
   ·cases h
  ·cases h
theorem results_run (hT:Tab.ok P T) (hM:Mod n V0 bor β0 st β a w V) {fn:Func} {xs:List SV} (h:resVals T st fn.results.toList=some xs) :
  (results fn a.tmps).run P w=.ok (resDen β xs) w/\∀x ∈ xs,Live st x:=by
 obtain ⟨h1,h2⟩:=resVals_run hT hM h
 refine ⟨?_,h2⟩
 rw [results_eq,Array.mapM_eq_mapM_toList]
 simp only [map_eq_pure_bind,bind_assoc,pure_bind,Sem.run_bind]
 rw [h1]
 simp only [Result.andThen_ok,Sem.run_pure]
 match xs with
 | []=>simp [resDen]
 | [x]=>simp [resDen]
 | x :: y :: r=>simp [resDen]
/-- What a borrower holds: the boxes that it may change, one by one. -/
def borNe (β0:Nat->Nat) (s:Nat) (b:Box):List (Nat × Box)->Prop
 | []=>True
 | (t,b') :: r=>impL (gdL b++gdL b') (β0 s≠β0 t)/\borNe β0 s b r
def borP (β0:Nat->Nat) (V:View):List (Nat × Box)->Prop
 | []=>True
 | (s,b) :: r=>(impL (gdL b) (V.w.heap[β0 s]?=some (b.obj β0))/\impL (gdL b) (V.X (β0 s)))/\borNe β0 s b r/\borP β0 V r
theorem borNe_spec {s:Nat} {b:Box}:∀{r:List (Nat × Box)},borNe β0 s b r->∀t b',alook r t=some b'->b.live->b'.live->β0 s≠β0 t
 | [],_,_,_,h=>by cases h
 | (u,c) :: r,h,t,b',ha=>by
  simp only [alook] at ha
  by_cases e:t=u
  ·subst e; rw [Nat.beq_refl] at ha; cases ha
   have h1:=h.1
   rw [impL_append,impL_gd] at h1
   exact fun l l'=>impL_gd.1 (h1 l) l'
  ·rw [beq_ne e] at ha; exact borNe_spec h.2 t b' ha
theorem borP_spec:∀{bs:List (Nat × Box)},borP β0 V bs->(∀s b,alook bs s=some b->b.live->V.w.heap[β0 s]?=some (b.obj β0)/\V.X (β0 s))/\∀s s' b b',alook bs s=some b->b.live->alook bs s'=some b'->b'.live->β0 s=β0 s'->s=s'
 | [],_=>⟨fun s b h=>(by cases h),fun s s' b b' h=>(by cases h)⟩
 | (s,b) :: r,⟨h1,h2,h3⟩=>by
  obtain ⟨g1,g2⟩:=borP_spec h3
  refine ⟨fun t x h l=>?_,fun t t' x x' ht l ht' l' he=>?_⟩
  ·simp only [alook] at h
   by_cases e:t=s
   ·subst e; rw [Nat.beq_refl] at h; cases h; exact ⟨impL_gd.1 h1.1 l,impL_gd.1 h1.2 l⟩
   ·rw [beq_ne e] at h; exact g1 t x h l
  ·simp only [alook] at ht ht'
   by_cases e:t=s <;> by_cases e':t'=s
   ·rw [e,e']
   ·subst e; rw [Nat.beq_refl] at ht; cases ht
    rw [beq_ne e'] at ht'
    exact absurd he (borNe_spec h2 t' x' ht' l l')
   ·subst e'; rw [Nat.beq_refl] at ht'; cases ht'
    rw [beq_ne e] at ht
    exact absurd he.symm (borNe_spec h2 t x ht l' l)
   ·rw [beq_ne e] at ht
    rw [beq_ne e'] at ht'
    exact g2 t t' x x' ht l ht' l' he
theorem slotsFrom_spec:∀{l:List (Nat × SV)} {i:Nat},slotsFrom i l=true->∀t x,alook l t=some x->∃k,t=i + k/\l[k]?=some (t,x)
 | [],_,_,_,_,h=>by cases h
 | (j,y) :: r,i,hs,t,x,h=>by
  simp only [slotsFrom,Bool.and_eq_true] at hs
  obtain ⟨⟨h1,-⟩,h2⟩:=hs
  have h1:=beq_eq.1 h1
  simp only [alook] at h
  by_cases e:t=j
  ·subst e; rw [Nat.beq_refl] at h; cases h; exact ⟨0,by omega,rfl⟩
  ·rw [beq_ne e] at h
   obtain ⟨k,h3,h4⟩:=slotsFrom_spec h2 t x h
   exact ⟨k + 1,by omega,by simpa using h4⟩
theorem borH_spec {bx:Nat->Option Box} {V':View}:∀{l:List Nat} {k:Prop},borH bx β V' l k->(∀s ∈ l,∀b,bx s=some b->b.live->V'.w.heap[β s]?=some (b.obj β))->(∀s ∈ l,∃b,bx s=some b/\b.live)/\k
 | [],_,h,_=>⟨fun s hs=>(nomatch hs),h⟩
 | s :: r,k,h,hf=>by
  simp only [borH] at h
  split at h
  ·exact h.elim
  ·rename_i b hne hb
   have lb:b.live:=by
    intro vs e
    obtain ⟨cs,ty⟩:=b
    dsimp only at e
    subst e
    exact absurd rfl (hne vs ty)
   obtain ⟨h1,h2⟩:=borH_spec (h (hf s (by simp) b hb lb)) fun t ht=>hf t (List.mem_cons_of_mem _ ht)
   exact ⟨fun t ht=>by rcases List.mem_cons.1 ht with rfl | ht; exact ⟨b,hb,lb⟩; exact h1 t ht,h2⟩
  ·exact h.elim
theorem fixB_spec:∀{bs:List (Nat × Box)} {m:Nat} {b:Box},(m,b) ∈ bs->(∃vs,b.cs=.mrow vs) \/ m ∈ fixB bs
 | [],_,_,h=>nomatch h
 | (s,x) :: r,m,b,h=>by
  rcases List.mem_cons.1 h with e | h
  ·cases e
   unfold fixB
   split
   ·rename_i vs hcs; exact .inl ⟨vs,hcs⟩
   ·exact .inr (by simp)
  ·refine (fixB_spec h).imp id fun h=>?_
   unfold fixB
   split
   ·exact h
   ·exact List.mem_cons_of_mem _ h
theorem fixB_key:∀{bs:List (Nat × Box)} {m:Nat},m ∈ fixB bs->m ∈ bs.map (·.1)
 | [],_,h=>nomatch h
 | (s,x) :: r,m,h=>by
  unfold fixB at h
  split at h
  ·exact List.mem_cons_of_mem _ (fixB_key h)
  ·rcases List.mem_cons.1 h with rfl | h
   ·simp
   ·exact List.mem_cons_of_mem _ (fixB_key h)
theorem movH_spec {b:Nat} {k:Prop}:∀{bs:List (Nat × Box)} {m:Nat} {vs:List Value} {ty:TypeId},(m,(⟨.mrow vs,ty⟩:Box)) ∈ bs->vs≠[]->b=β0 m->movH bs β0 b k
 | [],_,_,_,h,_,_=>nomatch h
 | (s,x) :: r,m,vs,ty,h,hv,he=>by
  rcases List.mem_cons.1 h with e | h
  ·cases e; exact .inl ⟨hv,he⟩
  ·have:=movH_spec (k:=k) h hv he
   unfold movH
   split
   ·exact .inr this
   ·exact this
theorem mem_minus {l m:List Nat} {s:Nat}:s ∈ minus l m↔s ∈ l/\s ∉ m:=by
 unfold minus
 rw [List.mem_filter,Bool.not_eq_true']
 refine and_congr_right fun _=>⟨fun h hm=>?_,fun h=>?_⟩
 ·rw [nmem_iff.2 hm] at h; cases h
 ·cases hb:nmem s m
  ·rfl
  ·exact absurd (nmem_iff.1 hb) h
theorem ret_sound {bs:List (Nat × Box)} (hT:Tab.ok P T) (hM:Mod n V0 ⟨fixB bs,fun b=>∃m b0,alook bs m=some b0/\b0.live/\b=β0 m⟩ β0 st β a w V) {fn:Func} {R:Value->View->Prop} (hv:retVC T fn.results.toList bs β0 V0.w.heap.size R st V) :
  ∃v,(results fn a.tmps).run P w=.ok v w/\R v (V0.to w hM.ext.size):=by
 unfold retVC at hv
 split at hv
 ·exact hv.elim
 ·rename_i xs hxs
  obtain ⟨h1,h2⟩:=results_run hT hM hxs
  dsimp only at hv
  split at hv
  ·exact hv.elim
  ·rename_i hcl
   generalize hL:reach st.boxes 3 (dedup (xs.flatMap SV.ids++fixB bs))=L at hv hcl
   have hin:∀s,s ∈ xs.flatMap SV.ids \/ s ∈ fixB bs->s ∈ L:=fun s hs=>by
    rw [← hL]; exact reach_sub 3 _ s (dedup_mem.2 (List.mem_append.2 hs))
   have hle:V.Le (V0.to w hM.ext.size):=by
    intro b o hb
    obtain ⟨g1,g2⟩:=hM.vis b o hb
    exact ⟨g2,g1⟩
   have γf:∀γ:Nat->Nat,γ=(fun t=>if t ∈ minus L (fixB bs) then β t else β0 t)->(∀s ∈ L,γ s=β s)/\resDen γ xs=resDen β xs:=by
    intro γ hγ
    have hγL:∀s ∈ L,γ s=β s:=by
     intro s hs
     rw [hγ]
     by_cases hb:s ∈ fixB bs
     ·have:s ∉ minus L (fixB bs):=fun h=>(mem_minus.1 h).2 hb
      simp only [this,if_false]
      exact (hM.borB s hb).2.symm
     ·simp only [mem_minus.2 ⟨hs,hb⟩,if_true]
    refine ⟨hγL,?_⟩
    have hx:∀x ∈ xs,x.den γ=x.den β:=fun x hx=>SV.den_congr fun s hs=>hγL s (hin s (.inl (List.mem_flatMap.2 ⟨x,hx,hs⟩)))
    match xs,hx with
    | [],_=>rfl
    | [x],hx=>exact hx x (by simp)
    | x :: y :: r,hx=>simp only [resDen]; rw [List.map_congr_left hx]
   have hobj:∀γ:Nat->Nat,(∀s ∈ L,γ s=β s)->∀s ∈ L,∀b,st.boxes s=some b->b.live->(V0.to w hM.ext.size).w.heap[γ s]?=some (b.obj γ):=by
    intro γ hγL s hs b hb l
    rw [hγL s hs,Box.obj_congr fun t ht=>hγL t (closed_spec hcl hs hb t ht)]
    exact hM.boxes s b hb l
   have hrel:∀γ:Nat->Nat,(∀s ∈ L,γ s=β s)->∀s ∈ L,s < 100000->∀b,st.boxes s=some b->b.live->(V0.to w hM.ext.size).blk (γ s) (b.obj γ):=by
    intro γ hγL s hs hsm b hb l
    refine ⟨fun hH=>?_,hobj γ hγL s hs b hb l⟩
    have hH:V0.H (γ s):=hH
    rw [hγL s hs] at hH
    rcases hM.own s b hb l with h | ⟨h,-⟩
    ·have:=V0.hH _ hH; omega
    ·omega
   split at hv
   ·rename_i hflt
    have hsm:∀s ∈ minus L (fixB bs),s < 100000:=by
     intro s hs
     rcases Nat.lt_or_ge s 100000 with h | h
     ·exact h
     ·have:s ∈ (minus L (fixB bs)).filter (Nat.ble 100000 ·):=List.mem_filter.2 ⟨hs,by rw [Nat.ble_eq]; exact h⟩
      rw [hflt] at this; cases this
    have hv1:=allB_spec (hv _ hle) β
    generalize hγ:(fun t=>if t ∈ minus L (fixB bs) then β t else β0 t)=γ at hv1
    obtain ⟨hγL,hres⟩:=γf γ hγ.symm
    obtain ⟨-,hv2⟩:=borH_spec hv1 (fun s hs b hb l=>hobj γ hγL s (hin s (.inr hs)) b hb l)
    obtain ⟨-,hv3⟩:=relH_spec hv2 (fun s hs b hb l=>hrel γ hγL s (mem_minus.1 hs).1 (hsm s hs) b hb l)
    refine ⟨_,h1,?_⟩
    rw [← hres]
    exact hv3
   ·rename_i s hflt
    split at hv
    ·rename_i b hb
     have hs:s ∈ minus L (fixB bs)/\100000<=s:=by
      have:s ∈ (minus L (fixB bs)).filter (Nat.ble 100000 ·):=by rw [hflt]; simp
      obtain ⟨g1,g2⟩:=List.mem_filter.1 this
      exact ⟨g1,Nat.le_of_ble_eq_true g2⟩
     obtain ⟨hsL,hsF⟩:=mem_minus.1 hs.1
     have hv1:=allB_spec (hv (V0.to w hM.ext.size)) β
     generalize hγ:(fun t=>if t ∈ minus L (fixB bs) then β t else β0 t)=γ at hv1
     obtain ⟨hγL,hres⟩:=γf γ hγ.symm
     have hle2:V.Le ((V0.to w hM.ext.size).hideG (gdP b) (γ s)):=by
      intro x o hx
      obtain ⟨g1,g2⟩:=hle x o hx
      refine ⟨fun hh=>?_,g2⟩
      rcases hh with hh | ⟨hp,e,-⟩
      ·exact g1 hh
      ·rw [hγL s hsL] at e
       exact hM.hid s b hb (gdP_iff.1 hp) o (e ▸ hx)
     obtain ⟨hF,hv2⟩:=borH_spec (hv1 hle2) (fun s hs b hb l=>hobj γ hγL s (hin s (.inr hs)) b hb l)
     have hv3:=hv2 (impL_gd.2 fun l=>hobj γ hγL s hsL b hb l) (impL_gd.2 fun l=>by
      rw [hγL s hsL]
      rcases hM.own s b hb l with h | ⟨-,m,b0,hm,l0,he⟩
      ·exact .inl h
      ·right
       rcases fixB_spec (alook_mem hm) with ⟨vs,hcs⟩ | hmF
       ·obtain ⟨cs,ty⟩:=b0
        dsimp only at hcs
        subst hcs
        exact movH_spec (alook_mem hm) (l0 vs rfl) he
       ·exfalso
        obtain ⟨b1,hb1,l1⟩:=hF m hmF
        have e:=(hM.borB m hmF).2
        rw [← e] at he
        have:=hM.inj s m b b1 hb l hb1 l1 he
        exact hsF (this ▸ hmF))
     obtain ⟨-,hv4⟩:=relH_spec hv3 (fun u hu b' hb' l'=>by
      obtain ⟨g1,g2⟩:=List.mem_filter.1 hu
      have hus:u≠s:=fun e=>by subst e; rw [Nat.beq_refl] at g2; cases g2
      have hlt:u < 100000:=by
       rcases Nat.lt_or_ge u 100000 with h | h
       ·exact h
       ·have:u ∈ (minus L (fixB bs)).filter (Nat.ble 100000 ·):=List.mem_filter.2 ⟨g1,by rw [Nat.ble_eq]; exact h⟩
        rw [hflt] at this
        exact absurd (List.mem_singleton.1 this) hus
      exact hrel γ hγL u (mem_minus.1 g1).1 hlt b' hb' l')
     refine ⟨_,h1,?_⟩
     rw [← hres]
     exact hv4
    ·exact hv.elim
   ·exact hv.elim
/-- THE ENGINE'S LAW. -/
theorem fn_sound (hT : Tab.ok P T) (hmx : P.follows .mixedOrders = true) {L J : Anns} {f : FuncId} {fn : Func} (hf : P.funcs[f]? = some fn) (hn : (fn.name == "runtime.NumGoroutine") = false)
  {ss:List (Nat × SV)} {bs:List (Nat × Box)} {args:Array Value} {R:Value->View->Prop} (ha:args=(ss.map fun x=>x.2.den β0).toArray) (hb:borP β0 V bs)
  (hv:vcFunc P T LF RF L J fn ss bs β0 V R):Acts P f args V R:=by
 unfold vcFunc at hv
 split at hv
 ·rename_i code hcode
  split at hv
  ·rename_i hchk
   simp only [Bool.and_eq_true,List.all_eq_true,Nat.ble_eq] at hchk
   obtain ⟨⟨⟨⟨⟨hbelow,hslots⟩,hlen⟩,hsmall⟩,hids⟩,htm⟩:=hchk
   have hids2:∀x ∈ bs,100000<=x.1/\x.1 < 200000:=fun x hx=>by
    obtain ⟨g1,g2⟩:=hids x hx
    exact ⟨g1,Nat.le_of_ble_eq_true g2⟩
   refine ⟨⟨fn,hf,by rw [hcode]; rfl,hn⟩,calls_of_wp hf hcode ?_⟩
   obtain ⟨b1,b2⟩:=borP_spec hb
   obtain ⟨t1,t2⟩:=tmplB_spec htm
   have hsz:args.size=ss.length:=by rw [ha]; simp
   have hM:Mod fn.ntmps V ⟨fixB bs,fun b=>∃m b0,alook bs m=some b0/\b0.live/\b=β0 m⟩ β0 ⟨alook ss,alook bs⟩ β0 { tmps:=args++Array.replicate (fn.ntmps - args.size) undef,defers:=[] } V.w V:=by
    refine ⟨rfl,by simp; omega,?_,t1,t2,fun s b h l=>(b1 s b h l).1,fun s s' b b' h l h' l'=>b2 s s' b b' h l h' l',fun b o h=>⟨h.2,h.1⟩,fun s b h l o ho=>ho.1 (V.hX _ (b1 s b h l).2),ExtX.refl _ _,?_,?_,?_,hsmall⟩
    ·intro t x hx
     obtain ⟨k,h1,h2⟩:=slotsFrom_spec hslots t x hx
     have hk:k < ss.length:=by
      rcases Nat.lt_or_ge k ss.length with h' | h'
      ·exact h'
      ·rw [List.getElem?_eq_none h'] at h2; cases h2
     have htk:t=k:=by omega
     subst htk
     have:args[t]?=some (x.den β0):=by rw [ha]; simp [h2]
     have hlt:t < args.size:=by omega
     show (args++Array.replicate (fn.ntmps - args.size) undef).getD t undef=_
     rw [Array.getD_eq_getD_getElem?,Array.getElem?_append_left hlt,this]
     rfl
    ·intro s b h l
     exact .inr ⟨(hids2 _ (alook_mem h)).1,s,b,h,l,rfl⟩
    ·intro s hs
     obtain ⟨x,hx,rfl⟩:=List.mem_map.1 (fixB_key hs)
     exact ⟨hids2 x hx,rfl⟩
    ·rintro b ⟨m,b0,hm,l,rfl⟩
     exact (b1 m b0 hm l).2
   refine code_sound hT hmx code _ β0 _ _ V _ _ hM hbelow hv ?_
   intro e st' β' a' w' V' hM' hle hk
   cases e with
   | normal=>
    obtain ⟨v,h1,h2⟩:=ret_sound hT hM' hk
    exact ⟨hM'.defers,v,h1,v,rfl,hM'.ext,h2⟩
   | ret=>
    obtain ⟨v,h1,h2⟩:=ret_sound hT hM' hk
    exact ⟨hM'.defers,v,h1,v,rfl,hM'.ext,h2⟩
   | _=>exact hk.elim
  ·exact hv.elim
 ·exact hv.elim
/-- As the programs use it: the conditions written out, and that they are the function's. -/
theorem fn_does (hT : Tab.ok P T) (hmx : P.follows .mixedOrders = true) (L J : Anns) {f : FuncId} {fn : Func} (hf : P.funcs[f]? = some fn) (hn : (fn.name == "runtime.NumGoroutine") = false)
  (ss:List (Nat × SV)) (bs:List (Nat × Box)) {args:Array Value} {R:Value->View->Prop} (ha:args=(ss.map fun x=>x.2.den β0).toArray) (hb:borP β0 V bs)
  {G:Prop} (h:G) (hG:G=vcFunc P T LF RF L J fn ss bs β0 V R):Acts P f args V R:=by
 subst hG
 exact fn_sound hT hmx hf hn ha hb h
theorem tabOk (h:T.map (fun x=>mkTI P x.1)=T.map fun x=>some x.2):Tab.ok P T:=by
 intro t i hi
 have hm:=alook_mem hi
 obtain ⟨k,hk⟩:=List.getElem?_of_mem hm
 have:=congrArg (fun l=>l[k]?) h
 simp only [List.getElem?_map,hk,Option.map_some,Option.some.injEq] at this
 exact this
end Go.Eng
/- The types that the functions work with. -/
namespace Go.Proofs.Tryz
open Go.Eng
abbrev LF0:List Nat:=[16,17,19,23,25,34,37,52,71,98,121,141,151,184,187,210,233,253,272,282,299,300,301,302,303,304,305,306,315,316,317,318,319,320,321,322,325,327,330,331,332,333,334,335,336,337,346,348,349,350,351,352,353,356,357,358,359,363,364,366,367,368,369,370,371,372,373,374,375,376,377,378,76,153,154,189,212,235,354,1000076,1000153,1000154,1000189,1000212,1000235,1000354]
def tab:Tab:=[
 (3,⟨.int .i64,1,8,[.v (.int .i64 0)]⟩),
 (4,⟨.bool,1,1,[.ff]⟩),
 (0,⟨.tuple [],1,0,[.v (.tuple #[])]⟩),
 (143,⟨.struct [(2,0),(2,1),(141,2)],3,24,[.v (.int .i64 0),.v (.int .i64 0),.v (.pointer none)]⟩),
 (32,⟨.struct [(30,0),(28,2)],3,56,[.ff,.v (.slice none 0 0),.v (.slice none 0 0)]⟩),
 (145,⟨.struct [(143,0),(143,3)],6,48,[.v (.int .i64 0),.v (.int .i64 0),.v (.pointer none),.v (.int .i64 0),.v (.int .i64 0),.v (.pointer none)]⟩),
 (34,⟨.struct [(32,0),(32,3)],6,112,[.ff,.v (.slice none 0 0),.v (.slice none 0 0),.ff,.v (.slice none 0 0),.v (.slice none 0 0)]⟩),
 (263,⟨.int .u64,1,8,[.v (.int .u64 0)]⟩),
 (44,⟨.slice 264,1,24,[.v (.slice none 0 0)]⟩),
 (187,⟨.struct [(143,0),(143,3),(143,6)],9,72,[.v (.int .i64 0),.v (.int .i64 0),.v (.pointer none),.v (.int .i64 0),.v (.int .i64 0),.v (.pointer none),.v (.int .i64 0),.v (.int .i64 0),.v (.pointer none)]⟩),
 (264,⟨.int .u32,1,4,[.v (.int .u32 0)]⟩),
 (61,⟨.struct [(30,0),(30,2),(30,4)],6,96,[.ff,.v (.slice none 0 0),.ff,.v (.slice none 0 0),.ff,.v (.slice none 0 0)]⟩),
 (28,⟨.slice 264,1,24,[.v (.slice none 0 0)]⟩),
 (42,⟨.struct [(3,0),(40,1)],2,32,[.v (.int .i64 0),.v (.slice none 0 0)]⟩),
 (30,⟨.struct [(4,0),(28,1)],2,32,[.ff,.v (.slice none 0 0)]⟩),
 (214,⟨.slice 145,1,24,[.v (.slice none 0 0)]⟩),
 (46,⟨.struct [(4,0),(44,1)],2,32,[.ff,.v (.slice none 0 0)]⟩),
 (310,⟨.slice 143,1,24,[.v (.slice none 0 0)]⟩),
 (2,⟨.int .i64,1,8,[.v (.int .i64 0)]⟩),
 (184,⟨.slice 187,1,24,[.v (.slice none 0 0)]⟩),
 (402,⟨.slice 405,1,24,[.v (.slice none 0 0)]⟩),
 (405,⟨.struct [(143,0),(3,3),(3,4)],5,40,[.v (.int .i64 0),.v (.int .i64 0),.v (.pointer none),.v (.int .i64 0),.v (.int .i64 0)]⟩),
 (37,⟨.iface,1,16,[.v (.nilIface)]⟩),
 (196,⟨.struct [(143,0),(143,3),(4,6),(4,7)],8,56,[.v (.int .i64 0),.v (.int .i64 0),.v (.pointer none),.v (.int .i64 0),.v (.int .i64 0),.v (.pointer none),.ff,.ff]⟩),
 (198,⟨.struct [(187,0),(196,9)],17,128,[.v (.int .i64 0),.v (.int .i64 0),.v (.pointer none),.v (.int .i64 0),.v (.int .i64 0),.v (.pointer none),.v (.int .i64 0),.v (.int .i64 0),.v (.pointer none),.v (.int .i64 0),.v (.int .i64 0),.v (.pointer none),.v (.int .i64 0),.v (.int .i64 0),.v (.pointer none),.ff,.ff]⟩),
 (50,⟨.struct [(48,0),(48,3)],6,112,[.ff,.v (.slice none 0 0),.v (.slice none 0 0),.ff,.v (.slice none 0 0),.v (.slice none 0 0)]⟩),
 (101,⟨.struct [(32,0),(32,3),(4,6),(4,7)],8,120,[.ff,.v (.slice none 0 0),.v (.slice none 0 0),.ff,.v (.slice none 0 0),.v (.slice none 0 0),.ff,.ff]⟩),
 (48,⟨.struct [(46,0),(44,2)],3,56,[.ff,.v (.slice none 0 0),.v (.slice none 0 0)]⟩),
 (40,⟨.slice 82,1,24,[.v (.slice none 0 0)]⟩),
 (103,⟨.struct [(61,0),(101,6)],14,216,[.ff,.v (.slice none 0 0),.ff,.v (.slice none 0 0),.ff,.v (.slice none 0 0),.ff,.v (.slice none 0 0),.v (.slice none 0 0),.ff,.v (.slice none 0 0),.v (.slice none 0 0),.ff,.ff]⟩),
 (203,⟨.slice 198,1,24,[.v (.slice none 0 0)]⟩),
 (137,⟨.ptr 250,1,8,[.v (.pointer none)]⟩),
 (106,⟨.slice 112,1,24,[.v (.slice none 0 0)]⟩),
 (112,⟨.struct [(80,0),(110,6)],14,216,[.ff,.v (.slice none 0 0),.ff,.v (.slice none 0 0),.ff,.v (.slice none 0 0),.ff,.v (.slice none 0 0),.v (.slice none 0 0),.ff,.v (.slice none 0 0),.v (.slice none 0 0),.ff,.ff]⟩),
 (110,⟨.struct [(48,0),(48,3),(4,6),(4,7)],8,120,[.ff,.v (.slice none 0 0),.v (.slice none 0 0),.ff,.v (.slice none 0 0),.v (.slice none 0 0),.ff,.ff]⟩),
 (80,⟨.struct [(46,0),(46,2),(46,4)],6,96,[.ff,.v (.slice none 0 0),.ff,.v (.slice none 0 0),.ff,.v (.slice none 0 0)]⟩),
 (265,⟨.int .u64,1,8,[.v (.int .u64 0)]⟩),
 (69,⟨.slice 34,1,24,[.v (.slice none 0 0)]⟩),
 (25,⟨.ptr 74,1,8,[.v (.pointer none)]⟩),
 (23,⟨.ptr 133,1,8,[.v (.pointer none)]⟩),
 (82,⟨.struct [(80,0),(3,6),(3,7)],8,112,[.ff,.v (.slice none 0 0),.ff,.v (.slice none 0 0),.ff,.v (.slice none 0 0),.v (.int .i64 0),.v (.int .i64 0)]⟩),
 (223,⟨.slice 32,1,24,[.v (.slice none 0 0)]⟩),
 (56,⟨.slice 61,1,24,[.v (.slice none 0 0)]⟩),
 (115,⟨.slice 103,1,24,[.v (.slice none 0 0)]⟩),
 (141,⟨.ptr 340,1,8,[.v (.pointer none)]⟩),
 (27,⟨.slice 264,1,24,[.v (.slice none 0 0)]⟩),
 (210,⟨.slice 101,1,24,[.v (.slice none 0 0)]⟩),
 (74,⟨.struct [(4,0),(4,1),(61,2),(25,8),(25,9)],10,120,[.ff,.ff,.ff,.v (.slice none 0 0),.ff,.v (.slice none 0 0),.ff,.v (.slice none 0 0),.v (.pointer none),.v (.pointer none)]⟩),
 (423,⟨.int .u64,1,8,[.v (.int .u64 0)]⟩),
 (22,⟨.slice 3,1,24,[.v (.slice none 0 0)]⟩),
 (250,⟨.struct [(187,0),(137,9),(137,10),(4,11)],12,96,[.v (.int .i64 0),.v (.int .i64 0),.v (.pointer none),.v (.int .i64 0),.v (.int .i64 0),.v (.pointer none),.v (.int .i64 0),.v (.int .i64 0),.v (.pointer none),.v (.pointer none),.v (.pointer none),.ff]⟩),
 (174,⟨.slice 4,1,24,[.v (.slice none 0 0)]⟩),
 (385,⟨.int .i64,1,8,[.v (.int .i64 0)]⟩),
 (289,⟨.func,1,8,[.v (.nilFunc)]⟩),
 (312,⟨.func,1,8,[.v (.nilFunc)]⟩),
 (333,⟨.func,1,8,[.v (.nilFunc)]⟩),
 (407,⟨.func,1,8,[.v (.nilFunc)]⟩),
 (427,⟨.ptr 3,1,8,[.v (.pointer none)]⟩),
 (340,⟨.struct [(46,0),(44,2)],3,56,[.ff,.v (.slice none 0 0),.v (.slice none 0 0)]⟩),
 (240,⟨.struct [(40,0),(174,1),(3,2),(4,3)],4,64,[.v (.slice none 0 0),.v (.slice none 0 0),.v (.int .i64 0),.ff]⟩),
 (120,⟨.slice 50,1,24,[.v (.slice none 0 0)]⟩),
 (92,⟨.slice 80,1,24,[.v (.slice none 0 0)]⟩),
 (325,⟨.slice 196,1,24,[.v (.slice none 0 0)]⟩),
 (345,⟨.slice 137,1,24,[.v (.slice none 0 0)]⟩),
 (323,⟨.func,1,8,[.v (.nilFunc)]⟩),
 (133,⟨.struct [(22,0),(3,1)],2,32,[.v (.slice none 0 0),.v (.int .i64 0)]⟩),
 (437,⟨.tuple [3,3],1,0,[.v (.tuple #[.int .i64 0,.int .i64 0])]⟩),
 (38,⟨.tuple [3,37],1,0,[.v (.tuple #[.int .i64 0,.nilIface])]⟩),
 (324,⟨.slice 196,1,24,[.v (.slice none 0 0)]⟩),
 (403,⟨.arr 2 3,2,16,[.v (.int .i64 0),.v (.int .i64 0)]⟩),
 (284,⟨.func,1,8,[.v (.nilFunc)]⟩),
 (138,⟨.tuple [137,4],1,0,[.v (.tuple #[.pointer none,.bool false])]⟩),
 (238,⟨.ptr 240,1,8,[.v (.pointer none)]⟩),
 (256,⟨.tuple [28,28],1,0,[.v (.tuple #[.slice none 0 0,.slice none 0 0])]⟩),
 (118,⟨.tuple [106,37],1,0,[.v (.tuple #[.slice none 0 0,.nilIface])]⟩),
 (341,⟨.tuple [263,4],1,0,[.v (.tuple #[.int .u64 0,.bool false])]⟩),
 (62,⟨.tuple [3,4,37],1,0,[.v (.tuple #[.int .i64 0,.bool false,.nilIface])]⟩),
 (150,⟨.tuple [61,4],1,0,[.v (.tuple #[.agg #[.bool false,.slice none 0 0,.bool false,.slice none 0 0,.bool false,.slice none 0 0],.bool false])]⟩),
 (209,⟨.arr 2 115,2,48,[.v (.slice none 0 0),.v (.slice none 0 0)]⟩),
 (369,⟨.arr 2 324,2,48,[.v (.slice none 0 0),.v (.slice none 0 0)]⟩),
 (199,⟨.tuple [198,4],1,0,[.v (.tuple #[.agg #[.int .i64 0,.int .i64 0,.pointer none,.int .i64 0,.int .i64 0,.pointer none,.int .i64 0,.int .i64 0,.pointer none,.int .i64 0,.int .i64 0,.pointer none,.int .i64 0,.int .i64 0,.pointer none,.bool false,.bool false],.bool false])]⟩),
 (201,⟨.tuple [187,4],1,0,[.v (.tuple #[.agg #[.int .i64 0,.int .i64 0,.pointer none,.int .i64 0,.int .i64 0,.pointer none,.int .i64 0,.int .i64 0,.pointer none],.bool false])]⟩),
 (5,⟨.int .u8,1,1,[.v (.int .u8 0)]⟩),
 (375,⟨.tuple [2,4],1,0,[.v (.tuple #[.int .i64 0,.bool false])]⟩),
 (9,⟨.str,1,16,[.v (.string ByteArray.empty)]⟩),
 (65,⟨.tuple [4,4],1,0,[.v (.tuple #[.bool false,.bool false])]⟩),
 (84,⟨.tuple [25,4],1,0,[.v (.tuple #[.pointer none,.bool false])]⟩),
 (267,⟨.slice 48,1,24,[.v (.slice none 0 0)]⟩),
 (268,⟨.slice 44,1,24,[.v (.slice none 0 0)]⟩),
 (89,⟨.tuple [42,37],1,0,[.v (.tuple #[.agg #[.int .i64 0,.slice none 0 0],.nilIface])]⟩),
 (296,⟨.tuple [196,4],1,0,[.v (.tuple #[.agg #[.int .i64 0,.int .i64 0,.pointer none,.int .i64 0,.int .i64 0,.pointer none,.bool false,.bool false],.bool false])]⟩),
 (370,⟨.func,1,8,[.v (.nilFunc)]⟩),
 (386,⟨.tuple [3,385],1,0,[.v (.tuple #[.int .i64 0,.int .i64 0])]⟩),
 (390,⟨.tuple [3,4],1,0,[.v (.tuple #[.int .i64 0,.bool false])]⟩),
 (436,⟨.ptr 423,1,8,[.v (.pointer none)]⟩),
 (474,⟨.struct [(9,0)],1,16,[.v (.string ByteArray.empty)]⟩),
 (147,⟨.tuple [40,3],1,0,[.v (.tuple #[.slice none 0 0,.int .i64 0])]⟩),
 (343,⟨.tuple [264,264],1,0,[.v (.tuple #[.int .u32 0,.int .u32 0])]⟩),
 (373,⟨.tuple [44,44,4],1,0,[.v (.tuple #[.slice none 0 0,.slice none 0 0,.bool false])]⟩),
 (278,⟨.slice 37,1,24,[.v (.slice none 0 0)]⟩),
 (287,⟨.func,1,8,[.v (.nilFunc)]⟩),
 (52,⟨.func,1,8,[.v (.nilFunc)]⟩),
 (107,⟨.tuple [106,106,37],1,0,[.v (.tuple #[.slice none 0 0,.slice none 0 0,.nilIface])]⟩),
 (129,⟨.tuple [103,4],1,0,[.v (.tuple #[.agg #[.bool false,.slice none 0 0,.bool false,.slice none 0 0,.bool false,.slice none 0 0,.bool false,.slice none 0 0,.slice none 0 0,.bool false,.slice none 0 0,.slice none 0 0,.bool false,.bool false],.bool false])]⟩),
 (135,⟨.tuple [34,4],1,0,[.v (.tuple #[.agg #[.bool false,.slice none 0 0,.slice none 0 0,.bool false,.slice none 0 0,.slice none 0 0],.bool false])]⟩),
 (272,⟨.iface,1,16,[.v (.nilIface)]⟩),
 (352,⟨.tuple [143,4],1,0,[.v (.tuple #[.agg #[.int .i64 0,.int .i64 0,.pointer none],.bool false])]⟩),
 (421,⟨.tuple [44,4],1,0,[.v (.tuple #[.slice none 0 0,.bool false])]⟩),
 (98,⟨.ptr 82,1,8,[.v (.pointer none)]⟩),
 (219,⟨.tuple [50,4],1,0,[.v (.tuple #[.agg #[.bool false,.slice none 0 0,.slice none 0 0,.bool false,.slice none 0 0,.slice none 0 0],.bool false])]⟩),
 (275,⟨.iface,1,16,[.v (.nilIface)]⟩),
 (277,⟨.iface,1,16,[.v (.nilIface)]⟩),
 (292,⟨.func,1,8,[.v (.nilFunc)]⟩),
 (315,⟨.func,1,8,[.v (.nilFunc)]⟩),
 (335,⟨.func,1,8,[.v (.nilFunc)]⟩),
 (20,⟨.iface,1,16,[.v (.nilIface)]⟩),
 (93,⟨.tuple [92,37],1,0,[.v (.tuple #[.slice none 0 0,.nilIface])]⟩),
 (116,⟨.tuple [115,115],1,0,[.v (.tuple #[.slice none 0 0,.slice none 0 0])]⟩),
 (204,⟨.tuple [203,203],1,0,[.v (.tuple #[.slice none 0 0,.slice none 0 0])]⟩),
 (211,⟨.tuple [210,4],1,0,[.v (.tuple #[.slice none 0 0,.bool false])]⟩),
 (216,⟨.tuple [112,4],1,0,[.v (.tuple #[.agg #[.bool false,.slice none 0 0,.bool false,.slice none 0 0,.bool false,.slice none 0 0,.bool false,.slice none 0 0,.slice none 0 0,.bool false,.slice none 0 0,.slice none 0 0,.bool false,.bool false],.bool false])]⟩),
 (228,⟨.tuple [203,4],1,0,[.v (.tuple #[.slice none 0 0,.bool false])]⟩),
 (234,⟨.tuple [101,4],1,0,[.v (.tuple #[.agg #[.bool false,.slice none 0 0,.slice none 0 0,.bool false,.slice none 0 0,.slice none 0 0,.bool false,.bool false],.bool false])]⟩),
 (236,⟨.tuple [4,37],1,0,[.v (.tuple #[.bool false,.nilIface])]⟩),
 (273,⟨.tuple [272,4],1,0,[.v (.tuple #[.nilIface,.bool false])]⟩),
 (319,⟨.func,1,8,[.v (.nilFunc)]⟩),
 (365,⟨.tuple [145,4],1,0,[.v (.tuple #[.agg #[.int .i64 0,.int .i64 0,.pointer none,.int .i64 0,.int .i64 0,.pointer none],.bool false])]⟩),
 (414,⟨.tuple [44,264],1,0,[.v (.tuple #[.slice none 0 0,.int .u32 0])]⟩),
 (416,⟨.tuple [44,44],1,0,[.v (.tuple #[.slice none 0 0,.slice none 0 0])]⟩),
 (418,⟨.tuple [263,263],1,0,[.v (.tuple #[.int .u64 0,.int .u64 0])]⟩),
 (177,⟨.iface,1,16,[.v (.nilIface)]⟩),
 (449,⟨.ptr 474,1,8,[.v (.pointer none)]⟩)]
theorem tab_ok:Tab.ok prog tab:=tabOk (by kernel_rfl)
theorem mixed:prog.follows .mixedOrders=true:=by kernel_rfl
abbrev VP:=View->Prop
abbrev VR:=Value->VP
abbrev Rt (V:View) (R:VR) (x:Value):Prop:=∀v:View,V.Le v->R x v
abbrev s3 {α0 α1 α2:Type} (a:α0) (b:α1) (c:α2) (K:Prop):Prop:=sm a/\sm b/\sm c/\K
abbrev s4 {α0 α1 α2 α3:Type} (a:α0) (b:α1) (c:α2) (d:α3) (K:Prop):Prop:=sm a/\sm b/\sm c/\sm d/\K
abbrev s5 {α0 α1 α2 α3 α4:Type} (a:α0) (b:α1) (c:α2) (d:α3) (e:α4) (K:Prop):Prop:=sm a/\sm b/\sm c/\sm d/\sm e/\K
abbrev s6 {α0 α1 α2 α3 α4 α5:Type} (a:α0) (b:α1) (c:α2) (d:α3) (e:α4) (f:α5) (K:Prop):Prop:=sm a/\sm b/\sm c/\sm d/\sm e/\sm f/\K
abbrev s7 {α0 α1 α2 α3 α4 α5 α6:Type} (a:α0) (b:α1) (c:α2) (d:α3) (e:α4) (f:α5) (g:α6) (K:Prop):Prop:=sm a/\sm b/\sm c/\sm d/\sm e/\sm f/\sm g/\K
abbrev s8 {α0 α1 α2 α3 α4 α5 α6 α7:Type} (a:α0) (b:α1) (c:α2) (d:α3) (e:α4) (f:α5) (g:α6) (h:α7) (K:Prop):Prop:=sm a/\sm b/\sm c/\sm d/\sm e/\sm f/\sm g/\sm h/\K
abbrev s9 {α0 α1 α2 α3 α4 α5 α6 α7 α8:Type} (a:α0) (b:α1) (c:α2) (d:α3) (e:α4) (f:α5) (g:α6) (h:α7) (i:α8) (K:Prop):Prop:=sm a/\sm b/\sm c/\sm d/\sm e/\sm f/\sm g/\sm h/\sm i/\K
abbrev s10 {α0 α1 α2 α3 α4 α5 α6 α7 α8 α9:Type} (a:α0) (b:α1) (c:α2) (d:α3) (e:α4) (f:α5) (g:α6) (h:α7) (i:α8) (j:α9) (K:Prop):Prop:=sm a/\sm b/\sm c/\sm d/\sm e/\sm f/\sm g/\sm h/\sm i/\sm j/\K
abbrev s11 {α0 α1 α2 α3 α4 α5 α6 α7 α8 α9 α10:Type} (a:α0) (b:α1) (c:α2) (d:α3) (e:α4) (f:α5) (g:α6) (h:α7) (i:α8) (j:α9) (k:α10) (K:Prop):Prop:=sm a/\sm b/\sm c/\sm d/\sm e/\sm f/\sm g/\sm h/\sm i/\sm j/\sm k/\K
abbrev s12 {α0 α1 α2 α3 α4 α5 α6 α7 α8 α9 α10 α11:Type} (a:α0) (b:α1) (c:α2) (d:α3) (e:α4) (f:α5) (g:α6) (h:α7) (i:α8) (j:α9) (k:α10) (l:α11) (K:Prop):Prop:=sm a/\sm b/\sm c/\sm d/\sm e/\sm f/\sm g/\sm h/\sm i/\sm j/\sm k/\sm l/\K
abbrev Ca (V:View) (f:Nat) (a:Array Value) (K:VR):Prop:=∀V1:View,V.Le V1->Acts prog f a V1 K
def sV:Value->SV
  | .agg l=>.agg (l.toList.map C.v)
  | v=>.c (.v v)
def sA:Nat->List Value->List (Nat × SV)
  | _,[]=>[]
  | n,v::l=>(n,sV v)::sA (n+1) l
theorem fd {LF RF:List Nat} (L K:Anns) {f:FuncId} {fn:Func} (hf:prog.funcs[f]?=some fn) {l:List Value} {V:View} {R:VR} {G:Prop} (h:G)
 (hn:(fn.name=="runtime.NumGoroutine")=false:=by kernel_rfl) (ha:l.toArray=((sA 0 l).map fun x=>x.2.den fun _=>0).toArray:=by kernel_rfl)
 (hG:G=vcFunc prog tab LF RF L K fn (sA 0 l) [] (fun _=>0) V R:=by kernel_rfl):Acts prog f l.toArray V R:=
  fn_does (LF:=LF) (RF:=RF) (β0:=fun _=>0) tab_ok mixed L K hf hn (sA 0 l) [] ha trivial h hG
end Go.Proofs.Tryz
/- What the rows' lists give (the sentinels), and how a contract over views closes a law's step. -/
namespace Go.Proofs.YtcbcbdbheiopbaaGreatDoor
open Go.ChangeShapes Go.WideShapes Go.ChangeAt Go.RowKit Go.Eng
theorem own:ownKnob Tryz.prog.godebug=none:=by kernel_rfl
theorem star : "*" ++ "errors.errorString" = "*errors.errorString" := by decide
theorem rowE (u : TypeId) (h : Tryz.prog.typeName? 3 u = some "*errors.errorString") : u = 449 :=
 typeName_ptr_named (nm := "errors.errorString") (by rw [star]; kernel_rfl) (by kernel_rfl) (by decide) u (by rw [star]; exact h)
theorem cellsE:Tryz.prog.cellsOf 474=1:=by kernel_rfl
theorem cellsS:Tryz.prog.cellsOf 9=1:=by kernel_rfl
theorem row0 (g:Nat):MemPlace.cell g 0 ∈ MemPlace.row ⟨g,0,none⟩ 1:=by simp [MemPlace.row]
theorem cell0 {P:Program} {W:World} {name:String} {g:Nat} {v:Value} (hg:P.globalNamed name=some g) (h:W.var? P name=some #[v]):W.cell? ⟨g,0,none⟩=some v:=by simpa using World.var?_cell hg h 0
set_option maxRecDepth 100000 in
/-- What a list gives of a sentinel on it. -/
theorem sent_of_laid {W:World} {l:List (String × DataW Unit)} {name:String} {text:List UInt8} {g:Nat} (hg:Tryz.prog.globalNamed name=some g) (hty:(Tryz.prog.globals[g]?).map (·.type)=some 37)
  (hm : (name, .iface "*errors.errorString" (.ptr (.agg [.lit (.string text)]))) ∈ l) (h : laidMet Tryz.prog l W) :
  ∃a,W.cell? ⟨g,0,none⟩=some (.iface 449 (.pointer (some a))):=by
 obtain ⟨ps,hv,-,hrows⟩:=h
 induction l generalizing ps with
 | nil=>cases hm
 | cons x r ih=>
  obtain ⟨n,d⟩:=x
  obtain ⟨g',t,cs,fuel,p,q,hg',ht',hvar,hd,hr,rfl⟩:=hv
  rcases List.mem_cons.1 hm with e | hm
  ·cases e
   obtain rfl:=Option.some.inj (hg.symm.trans hg')
   obtain rfl:=Option.some.inj (hty.symm.trans ht')
   obtain ⟨l0⟩:=cs
   have ok0:∀u v,l0=[.iface u v]->Value.okWide Tryz.prog W .any 0 u v:=fun u v e=>by
    subst e
    exact (hrows g 0 (List.mem_append_left _ (List.mem_append_left _ (row0 g)))).2 u v (cell0 hg hvar)
   obtain ⟨a,s,rfl,-⟩:=errorString_of_trod Tryz.underlying37 rowE Tryz.underlying449 Tryz.underlying474 rfl rfl Tryz.underlying9 cellsE cellsS hd ok0
   exact ⟨a,cell0 hg hvar⟩
  ·exact ih hm q hr fun b off hb=>hrows b off (List.mem_append_right _ hb)
/-- A world, seen whole. -/
def View.all (W:World):View:=⟨W,fun _=>False,fun _=>False,fun _ h=>h.elim,fun _ h=>h⟩
theorem kept_of_ext {w w':World} (h:ExtX (fun _=>False) w w') (may:MemPlace->Prop):w.keptBut w' may:=by
 refine ⟨h.os,h.out,fun i hi=>?_⟩
 rw [h.blk i hi (fun h=>h)]
 cases w.heap[i]? with
 | none=>rfl
 | some o=>cases o <;> simp
theorem calls_of_acts {f:FuncId} {args:Array Value} {W:World} {R:Value->Prop} (h:Acts Tryz.prog f args (View.all W) fun r _=>R r):Calls Tryz.prog f args W fun e w'=>∃r,e=.returned r/\R r/\ExtX (fun _=>False) W w':=
 h.2.mono fun e w' ⟨r,he,hx,hr⟩=>⟨r,he,hr,hx⟩
theorem laidOut:laidOutB Tryz.prog=true:=by kernel_rfl
theorem below_of_ext {w w':World} (h:ExtX (fun _=>False) w w'):Below w.heap.size w w':=⟨h.os,h.tape,h.out,h.size,fun k hk=>h.blk k hk (fun h=>h)⟩
/-- The arguments read as they did. -/
theorem all_stays {P:Program} (hlo:laidOutB P=true) {H:Type} {enc:TypeId × Value->H} {W W':World} (hb:Below W.heap.size W W') (ts:List TypeId):∀{vs:List Value} {ds:List (DataW H)} {ps:List MemPlace},
  (ts.all fun t=>P.readableRec t && decide (t < P.types.size))=true->DataW.TrodAll enc P W 0 (fun _=>true) true ts vs ds ps->(∀x ∈ ps,x.block < W.heap.size) ->
   DataW.TrodAll enc P W' 0 (fun b=>decide (b < W.heap.size)) true ts vs ds ps:=by
 induction ts with
 | nil=>
  intro vs ds ps _ h _
  obtain ⟨rfl,rfl,rfl⟩:=trodAll_nil h
  exact trodAll_mk0
 | cons t ts ih=>
  intro vs ds ps ht h hlt
  obtain ⟨v,vs',d,ds',p,q,rfl,rfl,rfl,h1,h2⟩:=trodAll_cons h
  simp only [List.all_cons,Bool.and_eq_true,decide_eq_true_eq] at ht
  exact trodAll_cons_mk (Below.trod hlo ht.1.1 ht.1.2 h1 hb fun x hx=>hlt x (List.mem_append_left _ hx)) (ih ht.2 h2 fun x hx=>hlt x (List.mem_append_right _ hx))
set_option maxRecDepth 100000 in
/-- A law's end: true, the arguments read as they did; the row does not say 'again'. -/
theorem law_end {H:Type} {enc:TypeId × Value->H} {fid:FuncId} {f:Func} {s:ChangeSpec} {W:World} {args:Array Value} {ds gs:List (DataW H)} {before:List MemPlace} {fresh handsOn:Bool}
  (hW:DataW.Whole enc Tryz.prog f.params.toList s.vars false W args.toList ds gs before) (hvars:s.vars=[]) (hts:(f.params.toList.all fun t=>Tryz.prog.readableRec t && decide (t < Tryz.prog.types.size))=true)
  (hres:f.resultTypes=#[4]) (hs:s.fn H (ds++gs)={ results:=[.lit (.bool true)],args:=ds })
  (h:Acts Tryz.prog fid args (View.all W) fun r _=>r=.bool true):Calls Tryz.prog fid args W fun e W'=>∃v,e=.returned v/\s.post enc Tryz.prog f false fresh handsOn false W args v W':=by
 refine (calls_of_acts h).mono fun e W' ⟨r,he,hr,hx⟩=>?_
 subst he hr
 have hW':=hW
 obtain ⟨p,q,hA,hV,rfl,-,-⟩:=hW
 rw [hvars] at hV
 obtain ⟨rfl,rfl⟩:=trodVars_none hV
 have hlt:∀x ∈ p++[],x.block < W.heap.size:=fun x hx=>hW'.lt x hx
 refine ⟨_,rfl,ds,_,p++[],[],p++[],[],hW',?_,?_,?_,kept_of_ext hx _,fun h=>nomatch h⟩
 ·rw [hs,hres]
  exact trodAll_cons_mk (shut_bool Tryz.underlying4 _) trodAll_mk0
 ·rw [hs,List.append_nil]
  exact all_stays laidOut (below_of_ext hx) _ hts hA fun x hx=>hlt x (by rw [List.append_nil]; exact hx)
 ·rw [hs,hvars]
  rfl
set_option maxRecDepth 100000 in
/-- A slice of ints as it came in. -/
theorem rdl_of_trod {H:Type} {enc:TypeId × Value->H} {W:World} {p:OA} {n c:Nat} {d:DataW H} {ps:List MemPlace}
  (h:DataW.Trod enc Tryz.prog W 0 (fun _=>true) true 22 (.slice p n c) d ps):n<=c/\∀i,i < n->∃(a:Addr) (x:Int),addrAdd p (i * 1)=some a/\(View.all W).at a (.int .i64 x):=by
 obtain ⟨fuel,hf⟩:=h
 rcases open_ints Tryz.underlying22 Tryz.underlying3 (show Tryz.prog.cellsOf 3=1 by kernel_rfl) hf with ⟨hcs,-⟩ | ⟨a,len',cap',zs,hcs,_,hl,-,hz,-,hcell,-⟩
 ·simp [Value.cells] at hcs
  obtain ⟨rfl,rfl,rfl⟩:=hcs
  exact ⟨Nat.le_refl _,fun i hi=>absurd hi (by omega)⟩
 ·simp [Value.cells] at hcs
  obtain ⟨rfl,rfl,rfl⟩:=hcs
  simp only [if_true] at hz
  exact ⟨hl,fun i hi=>⟨a.add i,_,by rw [Nat.mul_one]; rfl,fun h=>h,hcell i (by omega)⟩⟩
end Go.Proofs.YtcbcbdbheiopbaaGreatDoor
/- Plain facts on lists of digits in base 2^32: their value, their normal form. -/
namespace Go.Big
/-- The value of digits, the least significant first. -/
def val:List Nat->Nat
 | []=>0
 | d :: r=>d + 4294967296 * val r
def Dig (ds:List Nat):Prop:=∀d ∈ ds,d < 4294967296
/-- Without zeros at the end. -/
def trimD:List Nat->List Nat
 | []=>[]
 | d :: r=>if trimD r=[]/\d=0 then [] else d :: trimD r
def Nrm (ds:List Nat):Prop:=trimD ds=ds
def digsF:Nat->Nat->List Nat
 | 0,_=>[]
 | f + 1,n=>if n=0 then [] else n % 4294967296 :: digsF f (n / 4294967296)
def digs (n:Nat):List Nat:=digsF n n
@[simp] theorem val_nil:val []=0:=rfl
@[simp] theorem val_cons (d:Nat) (r:List Nat):val (d :: r)=d + 4294967296 * val r:=rfl
theorem Dig.nil:Dig []:=fun _ h=>nomatch h
theorem Dig.cons {d:Nat} {r:List Nat}:Dig (d :: r)↔d < 4294967296/\Dig r:=by simp [Dig]
theorem Dig.append {a b:List Nat}:Dig (a++b)↔Dig a/\Dig b:=by simp [Dig,or_imp,forall_and]
theorem Dig.take {a:List Nat} (h:Dig a) (k:Nat):Dig (a.take k):=fun d hd=>h d (List.mem_of_mem_take hd)
theorem Dig.drop {a:List Nat} (h:Dig a) (k:Nat):Dig (a.drop k):=fun d hd=>h d (List.mem_of_mem_drop hd)
theorem Dig.set {a:List Nat} (h:Dig a) (k x:Nat) (hx:x < 4294967296):Dig (a.set k x):=fun d hd=>by
 rcases List.mem_or_eq_of_mem_set hd with h' | h'
 ·exact h d h'
 ·exact h' ▸ hx
theorem Dig.get {a:List Nat} (h:Dig a) {i:Nat} (hi:i < a.length):a[i] < 4294967296:=h _ (List.getElem_mem hi)
theorem Dig.rep (n:Nat):Dig (List.replicate n 0):=fun d hd=>by rw [List.eq_of_mem_replicate hd]; omega
theorem val_append (a b:List Nat):val (a++b)=val a + 4294967296 ^ a.length * val b:=by
 induction a with
 | nil=>simp
 | cons d r ih=>simp only [List.cons_append,val_cons,ih,List.length_cons,Nat.pow_succ]; grind
theorem val_lt {ds:List Nat} (h:Dig ds):val ds < 4294967296 ^ ds.length:=by
 induction ds with
 | nil=>simp
 | cons d r ih=>
  have h':=Dig.cons.1 h
  have:=ih h'.2
  have h1:=h'.1
  simp only [val_cons,List.length_cons,Nat.pow_succ]
  have h2:val r + 1<=4294967296 ^ r.length:=this
  have h3:=Nat.mul_le_mul_left 4294967296 h2
  omega
theorem val_rep (n:Nat):val (List.replicate n 0)=0:=by
 induction n with
 | zero=>rfl
 | succ n ih=>simp [List.replicate_succ,ih]
theorem val_take_succ (ds:List Nat) (i:Nat) (h:i < ds.length):val (ds.take (i + 1))=val (ds.take i) + 4294967296 ^ i * ds[i]:=by
 rw [List.take_succ_eq_append_getElem h,val_append]
 simp [List.length_take,Nat.min_eq_left (Nat.le_of_lt h)]
theorem val_take_of_le {ds:List Nat} {i:Nat} (h:ds.length<=i):val (ds.take i)=val ds:=by rw [List.take_of_length_le h]
theorem take_set_succ (ds:List Nat) (i x:Nat) (h:i < ds.length):(ds.set i x).take (i + 1)=ds.take i++[x]:=by
 rw [List.take_succ_eq_append_getElem (by simpa using h),List.take_set,List.set_eq_of_length_le (by simp; omega)]
 simp
theorem val_take_set (ds:List Nat) (i x:Nat) (h:i < ds.length):val ((ds.set i x).take (i + 1))=val (ds.take i) + 4294967296 ^ i * x:=by
 rw [take_set_succ ds i x h,val_append]
 simp [List.length_take,Nat.min_eq_left (Nat.le_of_lt h)]
theorem trimD_snoc_zero (r:List Nat):trimD (r++[0])=trimD r:=by
 induction r with
 | nil=>simp [trimD]
 | cons d r ih=>simp only [List.cons_append,trimD,ih]
theorem trimD_snoc (r:List Nat) (d:Nat) (h:d≠0):trimD (r++[d])=r++[d]:=by
 induction r with
 | nil=>simp [trimD,h]
 | cons x r ih=>simp [List.cons_append,trimD,ih]
theorem val_trimD (ds:List Nat):val (trimD ds)=val ds:=by
 induction ds with
 | nil=>rfl
 | cons d r ih=>
  simp only [trimD]
  split
  ·rename_i h
   rw [val_cons,← ih,h.1,h.2]; rfl
  ·simp [ih]
theorem trimD_len (ds:List Nat):(trimD ds).length<=ds.length:=by
 induction ds with
 | nil=>simp [trimD]
 | cons d r ih=>simp only [trimD]; split <;> simp <;> omega
theorem trimD_pre (ds:List Nat):trimD ds=ds.take (trimD ds).length:=by
 induction ds with
 | nil=>rfl
 | cons d r ih=>
  simp only [trimD]
  split
  ·rfl
  ·simp only [List.length_cons,List.take_succ_cons]; rw [← ih]
theorem Dig.trim {ds:List Nat} (h:Dig ds):Dig (trimD ds):=by rw [trimD_pre]; exact h.take _
theorem trimD_trimD (ds:List Nat):Nrm (trimD ds):=by
 unfold Nrm
 induction ds with
 | nil=>rfl
 | cons d r ih=>
  rw [trimD]
  split
  ·rfl
  ·rename_i h; rw [trimD,ih,if_neg h]
theorem Nrm.tail {d:Nat} {r:List Nat} (h:Nrm (d :: r)):Nrm r:=by
 unfold Nrm at h ⊢
 simp only [trimD] at h
 split at h
 ·cases h
 ·injection h
theorem Nrm.zero {ds:List Nat} (h:Nrm ds) (hv:val ds=0):ds=[]:=by
 induction ds with
 | nil=>rfl
 | cons d r ih=>
  have hr:=ih h.tail (by simp at hv; omega)
  subst hr
  simp at hv; subst hv
  simp [Nrm,trimD] at h
theorem digsF_eq:∀(f n:Nat),n<=f->val (digsF f n)=n/\Dig (digsF f n)/\Nrm (digsF f n)
 | 0,n,h=>⟨by simp [digsF]; omega,Dig.nil,rfl⟩
 | f + 1,n,h=>by
  simp only [digsF]
  split
  ·subst_vars; exact ⟨rfl,Dig.nil,rfl⟩
  ·obtain ⟨h1,h2,h3⟩:=digsF_eq f (n / 4294967296) (by omega)
   refine ⟨by rw [val_cons,h1]; omega,Dig.cons.2 ⟨by omega,h2⟩,?_⟩
   unfold Nrm at h3 ⊢
   rw [trimD,h3,if_neg]
   rintro ⟨e1,e2⟩
   rw [e1] at h1
   simp at h1
   omega
theorem val_digs (n:Nat):val (digs n)=n:=(digsF_eq n n (Nat.le_refl _)).1
theorem dig_digs (n:Nat):Dig (digs n):=(digsF_eq n n (Nat.le_refl _)).2.1
theorem nrm_digs (n:Nat):Nrm (digs n):=(digsF_eq n n (Nat.le_refl _)).2.2
theorem Nrm.ext:∀{a b:List Nat},Dig a->Dig b->Nrm a->Nrm b->val a=val b->a=b
 | [],b,_,_,_,hb,h=>(hb.zero (by rw [← h]; rfl)).symm
 | d :: r,[],_,_,ha,_,h=>by have:=ha.zero h; cases this
 | d :: r,e :: s,ha,hb,na,nb,h=>by
  have h1:=(Dig.cons.1 ha).1
  have h2:=(Dig.cons.1 hb).1
  simp only [val_cons] at h
  have:val r=val s:=by omega
  have hrs:=Nrm.ext (Dig.cons.1 ha).2 (Dig.cons.1 hb).2 na.tail nb.tail this
  have:d=e:=by omega
  subst this; rw [hrs]
theorem digs_val {ds:List Nat} (h:Dig ds) (hn:Nrm ds):digs (val ds)=ds:=Nrm.ext (dig_digs _) h (nrm_digs _) hn (val_digs _)
theorem trimD_eq {ds:List Nat} (h:Dig ds):trimD ds=digs (val ds):=by
 rw [← val_trimD,digs_val h.trim (trimD_trimD _)]
theorem digs_inj {a b:Nat} (h:digs a=digs b):a=b:=by rw [← val_digs a,h,val_digs]
@[simp] theorem digs_zero:digs 0=[]:=rfl
theorem digs_eq_nil {n:Nat}:digs n=[]↔n=0:=⟨fun h=>digs_inj (by rw [h]; rfl),fun h=>h ▸ rfl⟩
theorem Nrm.last {ds:List Nat} (h:Nrm ds) (hl:0 < ds.length):ds[ds.length - 1]≠0:=by
 intro e
 have hs:ds=ds.take (ds.length - 1)++[ds[ds.length - 1]]:=by
  rw [← List.take_succ_eq_append_getElem (by omega),Nat.sub_add_cancel hl,List.take_length]
 rw [e] at hs
 have h2:trimD ds=ds:=h
 rw [hs,trimD_snoc_zero] at h2
 have:=trimD_len (ds.take (ds.length - 1))
 rw [h2] at this
 simp at this
 omega
theorem nrm_of_last {ds:List Nat} (h:∀hl:0 < ds.length,ds[ds.length - 1]≠0):Nrm ds:=by
 rcases Nat.eq_zero_or_pos ds.length with e | e
 ·rw [List.length_eq_zero_iff.1 e]; rfl
 ·have hs:ds=ds.take (ds.length - 1)++[ds[ds.length - 1]]:=by
   rw [← List.take_succ_eq_append_getElem (by omega),Nat.sub_add_cancel e,List.take_length]
  have:=trimD_snoc (ds.take (ds.length - 1)) _ (h e)
  rw [← hs] at this
  exact this
theorem val_ge {ds:List Nat} (h:Nrm ds) (hl:0 < ds.length):4294967296 ^ (ds.length - 1)<=val ds:=by
 have hs:ds=ds.take (ds.length - 1)++[ds[ds.length - 1]]:=by
  rw [← List.take_succ_eq_append_getElem (by omega),Nat.sub_add_cancel hl,List.take_length]
 have h0:=h.last hl
 rw [hs,val_append]
 simp only [val_cons,val_nil,List.length_take]
 rw [Nat.min_eq_left (by omega)]
 simp only [List.length_append,List.length_take,List.length_singleton]
 rw [Nat.min_eq_left (by omega),Nat.sub_add_cancel hl]
 have:4294967296 ^ (ds.length - 1) * 1<=4294967296 ^ (ds.length - 1) * (ds[ds.length - 1] + 4294967296 * 0):=Nat.mul_le_mul_left _ (by omega)
 omega
theorem digs_len_le {n k:Nat}:(digs n).length<=k↔n < 4294967296 ^ k:=by
 constructor
 ·intro h
  have:=val_lt (dig_digs n)
  rw [val_digs] at this
  exact Nat.lt_of_lt_of_le this (Nat.pow_le_pow_right (by omega) h)
 ·intro h
  rcases Nat.lt_or_ge k (digs n).length with h' | h'
  ·have:=val_ge (nrm_digs n) (by omega)
   rw [val_digs] at this
   have h2:4294967296 ^ k<=4294967296 ^ ((digs n).length - 1):=Nat.pow_le_pow_right (by omega) (by omega)
   omega
  ·exact h'
theorem digs_len_lt {n k:Nat}:k < (digs n).length↔4294967296 ^ k<=n:=by
 have:=@digs_len_le n k
 omega
theorem val_split (ds:List Nat) (i:Nat) (h:i < ds.length):val ds=val (ds.take i) + 4294967296 ^ i * (ds[i] + 4294967296 * val (ds.drop (i + 1))):=by
 have h2:val ds=val (ds.take i++ds.drop i):=by rw [List.take_append_drop]
 rw [h2,val_append,List.drop_eq_getElem_cons h]
 simp only [List.length_take,Nat.min_eq_left (Nat.le_of_lt h),val_cons]
theorem lt_of_digit {a b:List Nat} {i:Nat} (ha:Dig a) (hi:i < a.length) (hj:i < b.length) (hd:a.drop (i + 1)=b.drop (i + 1)) (hl:a[i] < b[i]):val a < val b:=by
 rw [val_split a i hi,val_split b i hj,hd]
 have h1:=val_lt (ha.take i)
 simp only [List.length_take,Nat.min_eq_left (Nat.le_of_lt hi)] at h1
 have h2:4294967296 ^ i * (a[i] + 4294967296 * val (b.drop (i + 1)) + 1)<=4294967296 ^ i * (b[i] + 4294967296 * val (b.drop (i + 1))):=Nat.mul_le_mul_left _ (by omega)
 rw [Nat.mul_add,Nat.mul_one] at h2
 omega
theorem lt_of_len {a b:Nat} (h:(digs a).length < (digs b).length):a < b:=by
 have h1:=val_lt (dig_digs a)
 have h2:=val_ge (nrm_digs b) (by omega)
 rw [val_digs] at h1 h2
 have h3:4294967296 ^ (digs a).length<=4294967296 ^ ((digs b).length - 1):=Nat.pow_le_pow_right (by omega) (by omega)
 omega
def cmpN (a b:Nat):Int:=if a < b then -1 else if b < a then 1 else 0
theorem digs_len_mono {a b:Nat} (h:a<=b):(digs a).length<=(digs b).length:=by
 rcases Nat.lt_or_ge (digs b).length (digs a).length with h' | h'
 ·have:=lt_of_len h'; omega
 ·exact h'
theorem digs_val_len {ds:List Nat} (h:Dig ds):(digs (val ds)).length<=ds.length:=by rw [← trimD_eq h]; exact trimD_len ds
theorem digs_lt {n:Nat} (h:n < 4294967296) (h0:n≠0):digs n=[n]:=by
 have:Nrm [n]:=by simp [Nrm,trimD,h0]
 have:=digs_val (by simp [Dig]; exact h) this
 simpa using this
end Go.Big
