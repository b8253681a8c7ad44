import Derived.Test.YtnnbfoejafcdlaaGreatDoorG4
import Derived.Orders
import Derived.Scope
import Derived.Laws.Sem
import Derived.Test.YtnnbfoejafcdlaaGreatDoorProg
set_option linter.unusedVariables false
open Go.IntKind (i64 u64 u32)
namespace Go.bM
variable {P:Program} {T:dA} {LF RF:List Nat} {n:Nat} {V0:View} {bH:Fw} {β0:Nat->Nat}
def Bn (P:Program)(T:dA)(m:Nat->CM)(hint:Nat->Hint)(ops:Array Oper):Nat->Array Bool->St->View->(St->View->Prop)->Prop
 | 0,listed,st,V,K=>Region.ready .any ops listed=[]/\K st V
 | fuel+1,listed,st,V,K=>(Region.ready .any ops listed=[]->K st V) /\
  ∀i∈Region.ready .any ops listed,∀o,ops[i]?=some o->rk P T (m i) (hint i) ops o st V fun st' V'=>Bn P T m hint ops fuel (listed.setIfInBounds i true) st' V' K
theorem tS (hT:dA.ok P T){m:Nat->CM}{hint:Nat->Hint}{ops:Array Oper}(hd:∀(i:Nat)(o:Oper),ops[i]?=some o->∀d,o.dst=some d->d<n){Q:Exit->Act->World->Prop}{K:St->View->Prop}
  (hK:∀st' β' a' w' V',Mod n V0 bH β0 st' β' a' w' V'->K st' V'->Q .normal a' w') :
  ∀(fuel:Nat)(listed:Array Bool)(st:St)(β:Nat->Nat)(a:Act)(w:World)(V:View),Mod n V0 bH β0 st β a w V->Bn P T m hint ops fuel listed st V K->wpAny P .any ops Q fuel listed a w
 | 0,_,_,_,_,_,_,hM,hv=>⟨hv.1,hK _ _ _ _ _ hM hv.2⟩
 | fuel+1,listed,st,β,a,w,V,hM,hv=>by
  refine ⟨fun h=>hK _ _ _ _ _ hM (hv.1 h),fun i hi=>?_⟩
  obtain ⟨-,o,ho,-⟩:=mem_ready.1 hi
  have:=Eo (Q:=Q) (next:=wpAny P .any ops Q fuel (listed.setIfInBounds i true)) hT hM (hd i o ho) (hv.2 i hi o ho) (fun st' β' a' w' V' b c=>tS hT hd hK fuel _ st' β' a' w' V' b c)
  unfold wpOp
  rw [ho]
  dsimp only
  split at this
  ·rename_i hw;rw [if_pos hw];exact .inl this
  ·rename_i hw;rw [if_neg hw];exact this
theorem rK {sc:List Prop}{k k':Prop}(h:k->k')(g:Br sc k):Br sc k':=by
 obtain ⟨a,b⟩:=(dU sc _).1 g
 exact (dU sc _).2 ⟨a,h b⟩
theorem Ak {s:Nat}{vs:List Value}{k c size bytes:Nat}{ty:TypeId}{d:Nat}{st:St}{V:View}{K K':St->View->Prop}{j:Nat}{xs:List Value}(hk:∀s V',V.Le V'->K s V'->K' s V')
  (h:Dh s vs k c size bytes ty d st V K j xs):Dh s vs k c size bytes ty d st V K' j xs:=by
 unfold Dh at h ⊢
 obtain ⟨e,f,g,i,l,a⟩:=h
 refine ⟨e,f,g,i,l,?_⟩
 split at a
 ·exact a.elim
 ·exact fun b J spare m n o=>hk _ _ (View.Le.refl V) (a b J spare m n o)
theorem wH {s:Nat}{vs:List Value}{k c size bytes:Nat}{ty:TypeId}{d:Nat}{st:St}{V:View}{K K':St->View->Prop}{j:Nat}{xs:List Value}(hk:∀s V',V.Le V'->K s V'->K' s V')
  (h:tK s vs k c size bytes ty d st V K j xs):tK s vs k c size bytes ty d st V K' j xs:=by
 unfold tK at h ⊢
 obtain ⟨b,e,f,g,i,a⟩:=h
 refine ⟨b,e,f,g,i,?_⟩
 split at a
 ·exact a.elim
 ·exact fun spare l m n=>hk _ _ (View.Le.refl V) (a spare l m n)
theorem Al {vs:List Value}{k c size bytes:Nat}{ty:TypeId}{d:Nat}{st:St}{V:View}{K K':St->View->Prop}{j:Nat}{xs:List Value}(hk:∀s V',V.Le V'->K s V'->K' s V')
  (h:Di vs k c size bytes ty d st V K j xs):Di vs k c size bytes ty d st V K' j xs:=by
 unfold Di at h ⊢
 obtain ⟨b,e,f,g,a⟩:=h
 refine ⟨b,e,f,g,?_⟩
 split at a
 ·exact a.elim
 ·exact fun spare i l m=>hk _ _ (View.Le.refl V) (a spare i l m)
theorem Mg {Q0:Q}{dst:Option Nat}{st:St}{V:View}{K K':St->View->Prop}(hk:∀s V',V.Le V'->K s V'->K' s V')(h:uf Q0 dst st V K):uf Q0 dst st V K':=by
 cases Q0 with
 | fail=>exact h
 | ret sc x=>exact rK (hk _ _ (View.Le.refl V)) h
 | new sc b x=>
  simp only [uf] at h ⊢
  split at h
  ·split at h
   ·rename_i o;exact rK (hk _ _ (View.Le.refl V)) h
   ·exact h.elim
  ·exact h.elim
 | ue sc s b=>
  simp only [uf] at h ⊢
  split at h
  ·exact rK (hk _ _ (View.Le.refl V)) h
  ·exact h.elim
 | rd a sh=>
  obtain ⟨x,d,f⟩:=sh.split h
  exact f _ (qJ.2 ⟨(qJ.1 d).1,hk _ _ (View.Le.refl V) (qJ.1 d).2⟩)
 | oT i of size sh=>
  obtain ⟨x,d,f⟩:=sh.split h
  exact f _ ⟨d.1,hk _ _ (View.Le.refl V) d.2⟩
 | sH s i a c src size bytes ty=>
  simp only [uf] at h ⊢
  split at h
  ·exact h.elim
  ·cases src with
   | inr xs=>exact wH hk h
   | inl ak=>
    obtain ⟨xs,d,f,g⟩:=h
    exact ⟨xs,d,f,wH hk g⟩
 | app old ba i a c src size bytes ty=>
  simp only [uf] at h ⊢
  split at h
  ·exact h.elim
  ·cases old with
   | some s=>
    dsimp only at h ⊢
    cases src with
    | inr xs=>exact Ak hk h
    | inl ak=>
     obtain ⟨xs,d,f,g⟩:=h
     exact ⟨xs,d,f,Ak hk g⟩
   | none=>
    obtain ⟨i,j,k,l,m,h⟩:=h
    refine ⟨i,j,k,l,m,?_⟩
    cases src with
    | inr xs=>exact Al hk h
    | inl ak=>
     obtain ⟨xs,d,f,g,n⟩:=h
     exact ⟨xs,d,f,fun e=>hk _ _ (View.Le.refl V) (g e),fun e=>Al hk (n e)⟩
theorem Be {bx:Nat->Option aR}{β:Nat->Nat}{V:View}:∀{L:List Nat} {k k':Prop},(k->k')->zf bx β V L k->zf bx β V L k'
 | [],_,_,h,g=>h g
 | s::r,k,k',h,g=>by
  simp only [zf] at g ⊢
  split at g
  ·exact fun h1=>Be h (g h1)
  ·exact g.elim
theorem wN {give:Bool}{sh:Sh}{L:List Nat}{mm:Option Nat}{d:Nat}{ety:TypeId}{β:Nat->Nat}{st:St}{V V' fr:View}{K K':St->View->Prop}{r':Value}
  (hm:∀k,mm=some k->k∈L)(hV:V.Le V')(hV2:V.Le fr)(hlv:∀s∈L,∃b,st.boxes s=some b/\(b.live->V'.H (β s)))(hk:∀s V',V.Le V'->K s V'->K' s V')
  (h:cD T give sh L mm d ety β st V' K r' fr):cD T give sh L mm d ety β st V' K' r' fr:=by
 refine pA (p:=fun _=>none) (q:=jG) (W:=fC mm d::L) (D:=[d]) (fun s c=>⟨rfl,List.mem_cons_of_mem _ c⟩) hm ⟨rfl,by simp⟩ ⟨rfl,by simp⟩ hV hV2 hlv (fun s2 V2 a=>?_) h
 exact hk _ _ a.1 a.2.2.2
theorem je {m:CM}{f:FuncId}{xs:List SV}{ty:TypeId}{dst:Option Nat}{st:St}{V:View}{K K':St->View->Prop}(hk:∀s V',V.Le V'->K s V'->K' s V')
  (h:fQ P T m f xs ty dst st V K):fQ P T m f xs ty dst st V K':=by
 unfold fQ at h ⊢
 split at h
 ·exact h.elim
 ·split at h
  ·split at h
   ·split at h
    ·split at h
     ·exact h.elim
     ·exact fun V' a=>(h V' a).mono fun _ B hle g=>wN (fun k hk=>by cases hk) a (a.trans hle) (fun s t=>absurd t (by simp)) hk g
    ·exact h.elim
   ·split at h
    ·split at h
     ·exact h.elim
     ·split at h
      ·split at h
       ·split at h
        ·refine fun V' a=>(h V' a).mono fun _ B hle g=>?_
         obtain ⟨b,l⟩:=g
         obtain ⟨cs,⟨C,D,E,F⟩,G⟩:=oq _ l
         refine ⟨b,G _ ⟨C,D,E,hk _ _ ?_ F⟩⟩
         intro x o c
         obtain ⟨H,I⟩:=(a.trans hle) x o c
         obtain ⟨S,M⟩:=a x o c
         have:=aB M
         exact ⟨fun h=>h.elim H fun h=>by have:=h.1;omega,I⟩
        ·exact h.elim
       ·exact h.elim
      ·exact h.elim
    ·exact h.elim
   ·exact fun V' a=>(h V' a).mono fun _ _ hle g=>Sh.mono g fun x c=>⟨c.1,hk _ _ (a.trans hle) c.2⟩
  ·split at h
   ·exact h.elim
   ·rename_i u
    rename_i U X Y N _
    have mv:∀{e:Bool} {v:Sh} {r:Option Nat} {d:Nat} {i:TypeId} {L:List Nat},(∀k,r=some k->k∈L) ->
      (∀V':View,V.Le V'->mT L (fun _=>0) fun β=>iS st.boxes β V' L (ab P f (aU β xs) (V'.bz (L.map (dW st.boxes β V'.w.heap.size))) (cD T e v L r d i β st V' K))) ->
      ∀V':View,V.Le V'->mT L (fun _=>0) fun β=>iS st.boxes β V' L (ab P f (aU β xs) (V'.bz (L.map (dW st.boxes β V'.w.heap.size))) (cD T e v L r d i β st V' K')):=by
     intro e v r d i L hm h V' a
     exact ji (fun β l=>jE (fun _ _=>rfl) (fun O n=>n.mono fun _ _ hle g=>wN hm a ((a.trans (uR V' _)).trans hle) O hk g) l) (h V' a)
    split at h
    ·exact h.elim
    ·exact h.elim
    ·split at h
     ·split at h
      ·exact h.elim
      ·exact mv (fun k hk=>by cases hk) h
     ·rename_i d i k Z Q A
      split at h
      ·exact h.elim
      ·refine mv (fun j y=>?_) h
       cases y
       rw [←N]
       exact e_ 3 _ k (bQ.2 (v_ k (by rw [Q];simp)))
     ·exact h.elim
    ·split at h
     ·exact fun V' a=>ji (fun β l=>jE (fun _ _=>rfl) (fun _ n=>n.mono fun _ _ hle g=>Sh.mono g fun x c=>⟨c.1,kg (p:=fun _=>none) (q:=jG) (W:=_) (fun s t=>⟨rfl,t⟩) (fun R _ _ A=>hk _ _ (((a.trans (uR V' _)).trans hle).trans (HR _)) A) c.2⟩) l) (h V' a)
     ·rename_i k z
      split at h
      ·split at h
       ·exact h.elim
       ·refine mv (fun j y=>?_) h
        cases y
        exact K7 u k (by rw [z];simp)
      ·exact h.elim
     ·exact h.elim
    ·split at h
     ·exact h.elim
     ·exact fun V' a=>ji (fun β l=>Be (fun n=>n.mono fun _ _ hle g=>Sh.mono g fun x c=>⟨c.1,fun J=>hk _ _ (a.trans hle) (c.2 J)⟩) l) (h V' a)
theorem tU {m:CM}{f:FuncId}{xs:List SV}{ty:TypeId}{dst:Option Nat}{st:St}{V:View}{K K':St->View->Prop}(hk:∀s V',V.Le V'->K s V'->K' s V')
  (h:kJ P T m f xs ty dst st V K):kJ P T m f xs ty dst st V K':=by
 unfold kJ at h ⊢
 split at h
 ·split at h
  ·exact ⟨fun e=>⟨(h.1 e).1,je hk (h.1 e).2⟩,fun e=>je hk (h.2 e)⟩
  ·exact je hk h
 ·exact je hk h
theorem rj {m:CM}{o:Oper}{st:St}{V:View}{K K':St->View->Prop}(hk:∀s V',V.Le V'->K s V'->K' s V')(h:di P T m o st V K):di P T m o st V K':=by
 unfold di at h ⊢
 split at h
 ·split at h
  ·split at h
   ·exact tU hk h
   ·exact h.elim
  ·exact h.elim
 ·split at h
  ·split at h
   ·split at h
    ·exact tU hk h
    ·exact h.elim
   ·exact h.elim
  ·exact h.elim
 ·exact Mg hk h
theorem EU {m:CM}{hi:Hint}{o:Oper}{st:St}{V:View}{K K':St->View->Prop}(hk:∀s V',V.Le V'->K s V'->K' s V')(h:cW P T m hi o st V K):cW P T m hi o st V K':=by
 unfold cW at h ⊢
 split at h
 ·exact rj hk h
 ·split at h
  ·split at h
   ·exact rj hk h
   ·exact h.elim
  ·exact h.elim
theorem lG {m:CM}{hi:Hint}{ops:Array Oper}{o:Oper}{st:St}{V:View}{K K':St->View->Prop}(hk:∀s V',V.Le V'->K s V'->K' s V')(h:rk P T m hi ops o st V K):rk P T m hi ops o st V K':=by
 rw [CF] at h ⊢
 refine nU (fun s w a=>?_) h
 cases w with
 | true=>exact EU hk a
 | false=>exact hk _ _ (View.Le.refl V) a
def K4 (LF RF:List Nat)(m:CM)(o:Oper):Prop:=
 nH (bf LF RF o.op)=true\/(bf LF RF o.op=.call/\m=.none)\/((bf LF RF o.op=.lj/\m=.bz)\/(bf LF RF o.op=.give/\m=.give)\/bf LF RF o.op=.app)
theorem Ln {m:CM}{h:Hint}{ops:Array Oper}{o:Oper}{st:St}{V:View}{R W:List Nat}(hq:nH (bf LF RF o.op)=true)(hrw:qO (bf LF RF o.op) h (eK o)=some (R,W))
  (hv:rk P T m h ops o st V fun _ _=>False):False:=by
 rw [CF] at hv
 obtain ⟨p,w,a⟩:=fX hv
 have:=a.next
 cases w with
 | true=>obtain ⟨p,q,b⟩:=oA hq hrw this;exact b.next
 | false=>exact this
theorem tI {ops:Array Oper}{h1 h2:Hint}{o1 o2:Oper}(hi:indep LF RF ops h1 h2 o1 o2=true) :
  nH (bf LF RF o1.op)=true/\(∃R W,qO (bf LF RF o1.op) h1 (eK o1)=some (R,W))/\∃R W,qO (bf LF RF o2.op) h2 (eK o2)=some (R,W):=by
 unfold indep at hi
 simp only [Bool.and_eq_true] at hi
 obtain ⟨⟨⟨⟨⟨b,-⟩,-⟩,-⟩,-⟩,a⟩:=hi
 split at a
 ·rename_i e f g h c d
  exact ⟨b,⟨_,_,c⟩,_,_,d⟩
 ·cases a
theorem I8 {ops:Array Oper}{i:Nat}{o:Oper}(ho:ops[i]?=some o){h:Hint}{R W:List Nat}(hrw:qO (bf LF RF o.op) h (eK o)=some (R,W)):K4 LF RF (kB LF RF ops i) o:=by
 unfold K4 kB
 rw [ho]
 dsimp only
 generalize bf LF RF o.op=c at hrw
 cases c with
 | odd=>cases h<;>cases hrw
 | iQ=>cases h<;>cases hrw
 | call=>exact .inr (.inl ⟨rfl,rfl⟩)
 | lj=>exact .inr (.inr (.inl ⟨rfl,rfl⟩))
 | give=>exact .inr (.inr (.inr (.inl ⟨rfl,rfl⟩)))
 | app=>exact .inr (.inr (.inr (.inr rfl)))
 | _=>exact .inl rfl
section
variable {ops:Array Oper} {hint:Nat->Hint} {anc:Nat->Nat->Prop} {K:St->View->Prop}
theorem ET (hA:∀j o,ops[j]?=some o->∀i,anc j i->∃e∈o.after,Region.binds .any e=true/\(e.on=i\/anc e.on i)){i:Nat}{oi:Oper}(hi:ops[i]?=some oi) :
  ∀(fuel:Nat)(listed:Array Bool)(st:St)(V:View),(∀j,listed.getD j false=true->∀k,anc j k->listed.getD k false=true) ->
   (∀j oj,ops[j]?=some oj->j≠i->listed.getD j true=false->¬anc j i->indep LF RF ops (hint i) (hint j) oi oj=true)->i∈Region.ready .any ops listed ->
   (rk P T (kB LF RF ops i) (hint i) ops oi st V fun st' V'=>Bn P T (kB LF RF ops) hint ops fuel (listed.setIfInBounds i true) st' V' K) ->
   Bn P T (kB LF RF ops) hint ops (fuel+1) listed st V K:=by
 have A:∀(listed:Array Bool)(j:Nat),(∀j,listed.getD j false=true->∀k,anc j k->listed.getD k false=true)->i∈Region.ready .any ops listed->j∈Region.ready .any ops listed->¬anc j i:=by
  intro listed j d p f F
  obtain ⟨g,-⟩:=mem_ready.1 p
  have q:listed.getD i false=true->False:=by
   intro h
   rcases Nat.lt_or_ge i listed.size with t|t
   ·simp [t] at g h;rw [g] at h;cases h
   ·simp [t] at h
  obtain ⟨-,o,u,m⟩:=mem_ready.1 f
  obtain ⟨e,he,y,h⟩:=hA j o u i F
  have r:=m e he y
  rcases h with h|h
  ·rw [h] at r;exact q r
  ·exact q (d _ r i h)
 intro fuel
 induction fuel with
 | zero=>
  intro listed st V d a p H
  refine ⟨fun h=>(by rw [h] at p;cases p),fun j f o u=>?_⟩
  by_cases b:j=i
  ·subst b;rw [hi] at u;cases u;exact H
  ·exfalso
   have w:=a j o u b (mem_ready.1 f).1 (A listed j d p f)
   obtain ⟨B,⟨R,W,C⟩,-⟩:=tI w
   refine Ln B C (lG (fun s V' _ h=>?_) H)
   have:=ready_mono f b
   rw [h.1] at this
   cases this
 | succ fuel ih=>
  intro listed st V d a p H
  refine ⟨fun h=>(by rw [h] at p;cases p),fun j f oj c=>?_⟩
  by_cases b:j=i
  ·subst b;rw [hi] at c;cases c;exact H
  ·have v:=A listed j d p f
   have w:=a j oj c b (mem_ready.1 f).1 v
   obtain ⟨B,⟨R,W,C⟩,M,N,G⟩:=tI w
   have r:=lG (fun s V' _ h=>h.2 j (ready_mono f b) oj c) H
   have I:=NC w (I8 c G) r
   refine lG (fun s V' _ h=>?_) I
   obtain ⟨-,J,D,m⟩:=mem_ready.1 f
   rw [c] at D
   cases D
   have L:j<ops.size:=by
    rcases Nat.lt_or_ge j ops.size with t|t
    ·exact t
    ·rw [Array.getElem?_eq_none t] at c;cases c
   refine ih (listed.setIfInBounds j true) s V' ?_ ?_ (ready_mono p (Ne.symm b)) ?_
   ·intro k x l E
    by_cases n:j=k
    ·subst n
     obtain ⟨e,he,y,h⟩:=hA j oj c l E
     have r:=m e he y
     rcases h with h|h
     ·rw [←h];exact getD_set_true r
     ·exact getD_set_true (d _ r l h)
    ·rw [getD_set_ne false n] at x
     exact getD_set_true (d k x l E)
   ·intro k ok x z g q
    refine a k ok x z ?_ q
    by_cases n:j=k
    ·subst n;exact (mem_ready.1 f).1
    ·rw [getD_set_ne true n] at g;exact g
   ·rw [Array.setIfInBounds_comm _ _ b]
    exact h
theorem Ie (hA:∀j o,ops[j]?=some o->∀i,anc j i->∃e∈o.after,Region.binds .any e=true/\(e.on=i\/anc e.on i)) :
  ∀(l done:List Nat)(listed:Array Bool)(st:St)(V:View),listed.size=ops.size->(∀j,listed.getD j false=fj j done)->(∀j,j<ops.size->j∈done\/j∈l) ->
   (∀j,listed.getD j false=true->∀k,anc j k->listed.getD k false=true)->qK ops done l=true ->
   (∀i r1 r2,l=r1++i::r2->∀j∈r2,anc j i\/∃a b,ops[i]?=some a/\ops[j]?=some b/\indep LF RF ops (hint i) (hint j) a b=true) ->
   Mf P T (kB LF RF ops) hint ops l st V K->Bn P T (kB LF RF ops) hint ops l.length listed st V K
 | [],done,listed,st,V,hs,hrel,Nf,_,_,_,hv=>by
  refine ⟨?_,hv⟩
  cases hr:Region.ready .any ops listed with
  | nil=>rfl
  | cons x xs=>
   exfalso
   have hx:x∈Region.ready .any ops listed:=by rw [hr];simp
   obtain ⟨v,o,I,-⟩:=mem_ready.1 hx
   have w:x<ops.size:=by
    rcases Nat.lt_or_ge x ops.size with f|f
    ·exact f
    ·rw [Array.getElem?_eq_none f] at I;cases I
   rcases Nf x w with h|h
   ·have m:=hrel x
    rw [cA.2 h] at m
    simp [hs,w] at v m
    rw [v] at m;cases m
   ·cases h
 | i::r,done,listed,st,V,hs,hrel,Nf,hcl,n,OJ,hv=>by
  simp only [qK,Bool.and_eq_true] at n
  obtain ⟨y,n⟩:=n
  unfold GL at y
  split at y
  ·rename_i E c
   simp only [Bool.and_eq_true,Bool.not_eq_true',List.all_eq_true,Bool.or_eq_true] at y
   obtain ⟨N,O⟩:=y
   have z:i<ops.size:=by
    rcases Nat.lt_or_ge i ops.size with f|f
    ·exact f
    ·rw [Array.getElem?_eq_none f] at c;cases c
   have d:∀e∈E.after,Region.binds .any e=true->listed.getD e.on false=true:=by
    intro e he t
    rw [hrel]
    rcases O e (by simpa using he) with h|h
    ·rw [t] at h;cases h
    ·exact h
   have Q:i∈Region.ready .any ops listed:=by
    refine mem_ready.2 ⟨?_,E,c,d⟩
    have:=hrel i
    rw [N] at this
    simp [hs,z] at this ⊢
    exact this
   have A:∀j,(listed.setIfInBounds i true).getD j false=true->∀k,anc j k->(listed.setIfInBounds i true).getD k false=true:=by
    intro k J l L
    by_cases B:i=k
    ·subst B
     obtain ⟨e,he,t,h⟩:=hA i E c l L
     have v:=d e he t
     rcases h with h|h
     ·rw [←h];exact getD_set_true v
     ·exact getD_set_true (hcl _ v l h)
    ·rw [getD_set_ne false B] at J
     exact getD_set_true (hcl k J l L)
   refine ET hA c r.length listed st V hcl (fun j S p g C F=>?_) Q ?_
   ·have D:j<ops.size:=by
     rcases Nat.lt_or_ge j ops.size with f|f
     ·exact f
     ·rw [Array.getElem?_eq_none f] at p;cases p
    have G:j∈r:=by
     rcases Nf j D with h|h
     ·exfalso
      have m:=hrel j
      rw [cA.2 h] at m
      simp [hs,D] at C m
      rw [C] at m;cases m
     ·rcases List.mem_cons.1 h with h|h
      ·exact absurd h g
      ·exact h
    rcases OJ i [] r rfl j G with h|⟨a,b,M,t,h⟩
    ·exact absurd h F
    ·rw [c] at M;rw [p] at t;cases M;cases t;exact h
   ·simp only [Mf,c] at hv
    have q:∀s u,Mf P T (kB LF RF ops) hint ops r s u K->Bn P T (kB LF RF ops) hint ops r.length (listed.setIfInBounds i true) s u K:=by
     intro s u R
     refine Ie hA r (i::done) (listed.setIfInBounds i true) s u (by simp [hs]) ?_ ?_ A n (fun k r1 r2 e j H=>OJ k (i::r1) r2 (by rw [e];rfl) j H) R
     ·intro j
      by_cases g:i=j
      ·subst g;simp [fj,Nat.beq_refl,hs,z]
      ·rw [getD_set_ne false g,hrel j];simp [fj,dN (Ne.symm g)]
     ·intro j H
      rcases Nf j H with h|h
      ·exact .inl (by simp [h])
      ·rcases List.mem_cons.1 h with h|h
       ·exact .inl (by simp [h])
       ·exact .inr h
    exact lG (fun s u _ h=>q s u h) hv
  ·cases y
end
theorem JS {m i:Nat}:Pv m i=true↔m.testBit i=true:=by
 unfold Pv
 rw [beq_eq,Nat.testBit_eq_decide_div_mod_eq,decide_eq_true_iff]
 show Nat.land (m >>> i) 1=1↔_
 rw [show Nat.land (m >>> i) 1=(m >>> i) &&& 1 from rfl,Nat.and_one_is_mod,Nat.shiftRight_eq_div_pow]
def JM (acc:List Nat)(o:Oper):Nat:=o.after.toList.foldl (fun s e=>cond (Region.binds .any e) (Nat.lor (Nat.lor (Nat.shiftLeft 1 e.on) (acc.getD e.on 0)) s) s) 0
theorem Df {acc:List Nat}{i:Nat}:∀(es:List Edge)(s:Nat),(es.foldl (fun s e=>cond (Region.binds .any e) (Nat.lor (Nat.lor (Nat.shiftLeft 1 e.on) (acc.getD e.on 0)) s) s) s).testBit i=true ->
  s.testBit i=true\/∃e∈es,Region.binds .any e=true/\(e.on=i\/(acc.getD e.on 0).testBit i=true)
 | [],s,h=>.inl h
 | e::r,s,h=>by
  simp only [List.foldl_cons] at h
  rcases Df r _ h with h1|⟨e',h1,h2,h3⟩
  ·cases hb:Region.binds .any e with
   | false=>rw [hb] at h1;exact .inl h1
   | true=>
    rw [hb] at h1
    simp only [cond_true] at h1
    have h1:(((1 <<< e.on) ||| (acc.getD e.on 0)) ||| s).testBit i=true:=h1
    rw [Nat.testBit_or,Nat.testBit_or,Bool.or_eq_true,Bool.or_eq_true] at h1
    rcases h1 with (h1|h1)|h1
    ·rw [Nat.shiftLeft_eq,Nat.one_mul,Nat.testBit_two_pow] at h1
     exact .inr ⟨e,by simp,hb,.inl (by simpa using h1)⟩
    ·exact .inr ⟨e,by simp,hb,.inr h1⟩
    ·exact .inl h1
  ·exact .inr ⟨e',by simp [h1],h2,h3⟩
theorem Aj:∀(l:List Oper)(acc:List Nat),∃ext,l.foldl (fun acc o=>acc++[JM acc o]) acc=acc++ext/\∀k o,l[k]?=some o->∃pre UE,ext=pre++UE/\ext.getD k 0=JM (acc++pre) o
 | [],acc=>⟨[],by simp,fun k o h=>by simp at h⟩
 | o::r,acc=>by
  obtain ⟨ext,h1,h2⟩:=Aj r (acc++[JM acc o])
  refine ⟨JM acc o::ext,by simp [h1],fun k a h=>?_⟩
  cases k with
  | zero=>
   simp at h
   subst h
   exact ⟨[],_,rfl,by simp⟩
  | succ k=>
   simp at h
   obtain ⟨pre,UE,b,c⟩:=h2 k a h
   exact ⟨JM acc o::pre,UE,by simp [b],by simpa using c⟩
theorem FD {ops:List Oper}(j:Nat)(o:Oper)(ho:ops[j]?=some o):∀i,((Io ops).getD j 0).testBit i=true->∃e∈o.after,Region.binds .any e=true/\(e.on=i\/((Io ops).getD e.on 0).testBit i=true):=by
 intro i c
 obtain ⟨ext,d,f⟩:=Aj ops []
 have he:Io ops=ext:=(show Io ops=[]++ext from d).trans (List.nil_append _)
 obtain ⟨pre,n,g,k⟩:=f j o ho
 rw [he,k] at c
 rcases Df _ _ c with h|⟨e,l,m,a⟩
 ·simp at h
 ·refine ⟨e,by simpa using l,m,?_⟩
  rcases a with a|a
  ·exact .inl a
  ·right
   simp only [List.nil_append] at a
   rw [he,g]
   rcases Nat.lt_or_ge e.on pre.length with b|b
   ·simpa [List.getElem?_append_left b] using a
   ·simp [b] at a
theorem wU {ops:Array Oper}{hs:List Hint}{an:List Nat}:∀{l:List Nat},uW LF RF ops hs an l=true->∀i r1 r2,l=r1++i::r2->∀j∈r2,(an.getD j 0).testBit i=true\/∃a b,ops[i]?=some a/\ops[j]?=some b/\indep LF RF ops (hs.getD i .free) (hs.getD j .free) a b=true
 | [],_,i,r1,r2,e,_,_=>by simp at e
 | x::l,h,i,r1,r2,e,j,hj=>by
  simp only [uW,Bool.and_eq_true,List.all_eq_true] at h
  cases r1 with
  | nil=>
   simp at e
   obtain ⟨rfl,rfl⟩:=e
   have:=h.1 j hj
   rw [Bool.or_eq_true] at this
   rcases this with c|c
   ·exact .inl (JS.1 c)
   ·split at c
    ·rename_i a b d f;exact .inr ⟨a,b,d,f,c⟩
    ·cases c
  | cons y r1=>
   simp at e
   exact wU h.2 i r1 r2 e.2 j hj
theorem GX {m:Nat->CM}{hint:Nat->Hint}{ops:Array Oper}:∀{l:List Nat} {st:St} {V:View} {K K':St->View->Prop},(∀s V',V.Le V'->K s V'->K' s V')->Mf P T m hint ops l st V K->Mf P T m hint ops l st V K'
 | [],_,V,_,_,hk,h=>hk _ _ (View.Le.refl V) h
 | i::r,st,V,K,K',hk,h=>by
  simp only [Mf] at h ⊢
  split at h
  ·exact lG (fun s V' hle h=>GX (fun s fr hle' h=>hk s fr (hle.trans hle') h) h) h
  ·exact h.elim
theorem qL {st:St}{β:Nat->Nat}{a:Act}{w:World}{V:View}(hT:dA.ok P T)(hmx:P.follows .mixedOrders=true)(hM:Mod n V0 bH β0 st β a w V){id:Nat}{ops:Array Oper}{draw:Bool}
  (hd:∀(i:Nat)(o:Oper),ops[i]?=some o->∀d,o.dst=some d->d<n){Q:Exit->Act->World->Prop}{K:Exit->St->View->Prop}
  (hv:EV P T LF RF ops draw st V (K .normal))(hK:∀st' β' a' w' V',Mod n V0 bH β0 st' β' a' w' V'->V.Le V'->K .normal st' V'->Q .normal a' w'):(Code.region id ops draw).wp P Q a w:=by
 cases draw with
 | false=>
  simp only [EV] at hv
  exact wp_region (A8 (K:=fun s V'=>V.Le V'/\K .normal s V') hT hd (fun st' β' a' w' V' b h=>hK st' β' a' w' V' b h.1 h.2) _ st β a w V hM (GX (fun s V' hle h=>⟨hle,h⟩) hv))
 | true=>
  simp only [EV] at hv
  split at hv
  ·rename_i e
   simp only [HY,Bool.and_eq_true,List.all_eq_true,List.mem_range] at e
   obtain ⟨⟨⟨f,g⟩,k⟩,l⟩:=e
   refine wp_region_any hmx ?_
   have:=Ie (P:=P) (T:=T) (LF:=LF) (RF:=RF) (ops:=ops) (hint:=fun i=>(ops.toList.map (Ku LF RF st ops.toList)).getD i .free) (anc:=fun j i=>((Io ops.toList).getD j 0).testBit i=true) (K:=fun s V'=>V.Le V'/\K .normal s V')
    (fun j o e=>FD j o (by simpa using e)) (pD LF RF ops) [] (Array.replicate ops.size false) st V (by simp) (fun j=>by
     simp only [fj,Array.getD]
     split<;>simp) (fun j c=>.inr (cA.1 (g j c))) (fun j c=>by
     exfalso
     simp only [Array.getD] at c
     split at c<;>simp at c) k (wU l) (GX (fun s V' hle h=>⟨hle,h⟩) hv)
   rw [beq_eq.1 f] at this
   exact tS hT hd (fun st' β' a' w' V' b h=>hK st' β' a' w' V' b h.1 h.2) _ _ _ β _ _ _ hM.drew this
  ·exact hv.elim
end Go.bM
namespace Go.bM
variable {P:Program} {T:dA} {LF RF:List Nat} {n:Nat} {V0:View} {bH:Fw} {β0:Nat->Nat} {β:Nat->Nat}
theorem cL {c:Bool}{l:List Prop}(h:∀p∈(cond c l [False]),p):c=true/\∀p∈l,p:=by
 cases c with
 | true=>exact ⟨rfl,h⟩
 | false=>exact (h False (by simp)).elim
theorem AG {ρ:List (Nat×Nat)}{β β':Nat->Nat}:∀{ss ts:List Nat},(∀s'∈ts,∀s,pk ρ s s'=true->β' s'=β s)->AF ρ ss ts=true->ss.map β=ts.map β'
 | [],[],_,_=>rfl
 | s::r,s'::r',hβ,h=>by
  simp only [AF,Bool.and_eq_true] at h
  simp only [List.map_cons]
  rw [hβ s' (by simp) s h.1,AG (fun u hu=>hβ u (by simp [hu])) h.2]
 | [],_::_,_,h=>by simp [AF] at h
 | _::_,[],_,h=>by simp [AF] at h
theorem HE {ρ:List (Nat×Nat)}{β β':Nat->Nat}{a b:C}(hβ:∀s'∈b.ids,∀s,pk ρ s s'=true->β' s'=β s)(h:∀p∈Um ρ a b,p):a.den β=b.den β':=by
 unfold Um at h
 split at h
 ·obtain ⟨d,i⟩:=cL h
  have:=AV d
  have:=i _ (List.mem_singleton.2 rfl)
  subst_vars;rfl
 ·have:=h _ (List.mem_singleton.2 rfl);subst this;rfl
 ·have:=h _ (List.mem_singleton.2 rfl);subst this;rfl
 ·have:=h _ (List.mem_singleton.2 rfl);subst this;rfl
 ·rename_i a n c t j k
  have d:=h (a=t) (by simp)
  have i:=h (n=j) (by simp)
  have l:=h (c=k) (by simp)
  subst d i l;rfl
 ·rename_i a n c s' j k
  have d:=h (a=none) (by simp)
  have i:=h (n=j) (by simp)
  have l:=h (c=k) (by simp)
  have q:=h (c=0) (by simp)
  subst d i l q;rfl
 ·have:=h _ (List.mem_singleton.2 rfl);subst this;rfl
 ·have:=h _ (List.mem_singleton.2 rfl);subst this;rfl
 ·have:=h _ (List.mem_singleton.2 rfl);subst this;rfl
 ·have:=h _ (List.mem_singleton.2 rfl);subst this;rfl
 ·have:=h _ (List.mem_singleton.2 rfl);subst this;rfl
 ·rfl
 ·rfl
 ·rename_i s o s' r
  obtain ⟨d,i⟩:=cL h
  have e:=hβ s' (by simp [C.ids]) s d
  have:=i (o=r) (by simp)
  subst_vars;simp only [C.den,e]
 ·rename_i s o n c s' r j k
  obtain ⟨m,h⟩:=cL h
  have e:=hβ s' (by simp [C.ids]) s m
  have d:=h (o=r) (by simp)
  have i:=h (n=j) (by simp)
  have l:=h (c=k) (by simp)
  subst_vars;simp only [C.den,e]
 ·rename_i s o n c s' j k
  obtain ⟨m,h⟩:=cL h
  have e:=hβ s' (by simp [C.ids]) s m
  have d:=h (o=0) (by simp)
  have i:=h (n=j) (by simp)
  have l:=h (c=k) (by simp)
  have q:=h (c≠0) (by simp)
  subst d i l;simp only [C.den,e,mA,q,if_false]
 ·rename_i s n c s' j k
  obtain ⟨m,h⟩:=cL h
  have e:=hβ s' (by simp [C.ids]) s m
  have i:=h (n=j) (by simp)
  have l:=h (c=k) (by simp)
  subst_vars;simp only [C.den,e]
 ·rename_i f ss g ts
  obtain ⟨m,h⟩:=cL h
  have d:=h (f=g) (by simp)
  have e:ss.map β=ts.map β':=AG (β:=β) (β':=β') (ts:=ts) (fun s' u=>hβ s' u) m
  subst d
  have v:(ss.map fun s=>Value.pointer (some ⟨β s,0,none⟩))=ts.map fun s=>Value.pointer (some ⟨β' s,0,none⟩):=by
   have:=congrArg (List.map fun b=>Value.pointer (some ⟨b,0,none⟩)) e
   simpa [List.map_map,Function.comp_def] using this
  simp only [C.den,v]
 ·exact (h False (by simp)).elim
theorem vV {ρ:List (Nat×Nat)}{β β':Nat->Nat}:∀{l m:List C},(∀s'∈m.flatMap C.ids,∀s,pk ρ s s'=true->β' s'=β s)->(∀p∈F3 ρ l m,p)->l.map (C.den β)=m.map (C.den β')
 | [],[],_,_=>rfl
 | a::r,b::s,hβ,h=>by
  simp only [F3,List.mem_append] at h
  simp only [List.map_cons]
  rw [HE (fun u hu=>hβ u (by simp [hu])) fun p hp=>h p (.inl hp),vV (fun u hu=>hβ u (by rw [List.flatMap_cons];exact List.mem_append_right _ hu)) fun p hp=>h p (.inr hp)]
 | [],_::_,_,h=>(h False (by simp [F3])).elim
 | _::_,[],_,h=>(h False (by simp [F3])).elim
theorem Kg {ρ:List (Nat×Nat)}{β β':Nat->Nat}{a b:SV}(hβ:∀s'∈b.ids,∀s,pk ρ s s'=true->β' s'=β s)(h:∀p∈PF ρ a b,p):a.den β=b.den β':=by
 unfold PF at h
 split at h
 ·exact HE hβ h
 ·simp only [SV.den];rw [vV hβ h]
 ·exact (h False (by simp)).elim
theorem IJ {ρ:List (Nat×Nat)}{β β':Nat->Nat}{a b:aR}(hβ:∀s'∈b.cs.ids,∀s,pk ρ s s'=true->β' s'=β s)(h:∀p∈Kf ρ a b,p):a.obj β=b.obj β'/\(b.live->a.live):=by
 unfold Kf at h
 obtain ⟨ac,at'⟩:=a
 obtain ⟨f,g⟩:=b
 dsimp only at h
 split at h
 ·obtain ⟨c,d⟩:=cL h
  simp only [aR.obj,Cells.den]
  rw [vV hβ d,beq_eq.1 c]
  exact ⟨rfl,fun _=>df⟩
 ·obtain ⟨c,d⟩:=cL h
  have:=d _ (List.mem_singleton.2 rfl)
  subst this
  simp only [aR.obj,Cells.den]
  rw [beq_eq.1 c]
  exact ⟨rfl,fun _=>cz⟩
 ·obtain ⟨c,d⟩:=cL h
  have:=d _ (List.mem_singleton.2 rfl)
  subst this
  simp only [aR.obj,Cells.den]
  rw [beq_eq.1 c]
  exact ⟨rfl,fun l=>l⟩
 ·obtain ⟨c,d⟩:=cL h
  have:=d _ (List.mem_singleton.2 rfl)
  subst this
  simp only [aR.obj,Cells.den]
  rw [beq_eq.1 c]
  exact ⟨rfl,fun _=>cz⟩
 ·split at h
  ·rename_i ws e
   obtain ⟨c,d⟩:=cL h
   have:=d _ (List.mem_singleton.2 rfl)
   subst this
   simp only [aR.obj,Cells.den]
   rw [(gj (β:=β) e).1,beq_eq.1 c]
   exact ⟨rfl,fun _=>df⟩
  ·exact (h False (by simp)).elim
 ·exact (h False (by simp)).elim
theorem cf {α:Type}:∀{l:List (Nat×α)} {t:Nat} {x:α},aA l t=some x->(t,x)∈l
 | [],_,_,h=>by cases h
 | (s,y)::r,t,x,h=>by
  simp only [aA] at h
  by_cases e:t=s
  ·subst e;rw [Nat.beq_refl] at h;cases h;simp
  ·rw [dN e] at h;exact List.mem_cons_of_mem _ (cf h)
theorem gG {α:Type}:∀{l:List (Nat×α)} {t:Nat},t∈l.map (·.1)->∃x,aA l t=some x
 | [],_,h=>by simp at h
 | (s,y)::r,t,h=>by
  simp only [aA]
  by_cases e:t=s
  ·subst e;rw [Nat.beq_refl];exact ⟨_,rfl⟩
  ·rw [dN e]
   exact gG (by simpa [e] using h)
theorem AL {ρ:List (Nat×Nat)}{β β':Nat->Nat}{st:St}:∀{l:List (Nat×SV)},(∀t x,(t,x)∈l->∀s'∈x.ids,∀s,pk ρ s s'=true->β' s'=β s)->(∀p∈M8 ρ st l,p)->∀t x,(t,x)∈l->∃y,st.aw t=some y/\y.den β=x.den β'
 | [],_,_,_,_,h=>nomatch h
 | (s,z)::r,hβ,h,t,x,hm=>by
  simp only [M8] at h
  split at h
  ·rename_i y hy
   simp only [List.mem_append] at h
   rcases List.mem_cons.1 hm with e|hm
   ·cases e;exact ⟨y,hy,Kg (hβ _ _ List.mem_cons_self) fun p hp=>h p (.inl hp)⟩
   ·exact AL (fun t x h=>hβ t x (by simp [h])) (fun p hp=>h p (.inr hp)) t x hm
  ·exact (h False (by simp)).elim
theorem AK {ρ:List (Nat×Nat)}{β β':Nat->Nat}{st:St}:∀{l:List (Nat×aR)},(∀t x,(t,x)∈l->∀s'∈x.cs.ids,∀s,pk ρ s s'=true->β' s'=β s)->(∀p∈IP ρ st l,p)->∀t x,(t,x)∈l->x.live ->
  t∈nJ ρ l/\∃y,st.boxes (Cv ρ t)=some y/\y.obj β=x.obj β'/\y.live
 | [],_,_,_,_,h,_=>nomatch h
 | (s,z)::r,hβ,h,t,x,hm,hl=>by
  have hβr:∀t x,(t,x)∈r->∀s'∈x.cs.ids,∀s,pk ρ s s'=true->β' s'=β s:=fun t x h=>hβ t x (by simp [h])
  have tail:(∀p∈IP ρ st r,p)->(t,x)∈r->t∈nJ ρ ((s,z)::r)/\∃y,st.boxes (Cv ρ t)=some y/\y.obj β=x.obj β'/\y.live:=by
   intro h hm
   obtain ⟨b,f⟩:=AK hβr h t x hm hl
   refine ⟨?_,f⟩
   unfold nJ
   split
   ·split
    ·exact List.mem_cons_of_mem _ b
    ·exact b
   ·exact List.mem_cons_of_mem _ b
  simp only [IP] at h
  split at h
  ·rename_i g a c
   rcases List.mem_cons.1 hm with e|hm
   ·cases e
    have:=h (g=[]) (by simp)
    subst this
    exact absurd (hl [] a) (by simp)
   ·exact tail (fun p d=>h p (List.mem_cons_of_mem _ d)) hm
  ·rename_i i
   split at h
   ·rename_i y j
    simp only [List.mem_append] at h
    rcases List.mem_cons.1 hm with e|hm
    ·cases e
     obtain ⟨b,f⟩:=IJ (hβ _ _ List.mem_cons_self) fun p d=>h p (.inl d)
     refine ⟨?_,y,j,b,f hl⟩
     unfold nJ
     split
     ·rename_i g a
      split
      ·simp
      ·rename_i c;exact absurd c (i g a)
     ·simp
    ·exact tail (fun p d=>h p (.inr d)) hm
   ·exact (h False (by simp)).elim
theorem EG {ρ:List (Nat×Nat)}:∀{l:List (Nat×aR)} {t:Nat} {x:aR},(t,x)∈l->(∃s,aA ρ t=some s)->t∈nJ ρ l
 | [],_,_,h,_=>nomatch h
 | (s,z)::r,t,x,hm,ha=>by
  rcases List.mem_cons.1 hm with e|hm
  ·cases e
   unfold nJ
   split
   ·obtain ⟨s,hs⟩:=ha
    rw [hs];simp
   ·simp
  ·have:=EG hm ha
   unfold nJ
   split
   ·split
    ·exact List.mem_cons_of_mem _ this
    ·exact this
   ·exact List.mem_cons_of_mem _ this
theorem w_ {ρ:List (Nat×Nat)}:∀{l:List Nat},Bg ρ l=true->(∀t∈l,(t<100000↔Cv ρ t<100000)/\(100000<=t->t<200000->Cv ρ t=t))/\∀t∈l,∀t'∈l,Cv ρ t=Cv ρ t'->t=t'
 | [],_=>⟨fun t h=>(nomatch h),fun t h=>(nomatch h)⟩
 | t::r,h=>by
  simp only [Bg,Bool.and_eq_true,List.all_eq_true] at h
  obtain ⟨⟨⟨h1,h2⟩,h3⟩,h4⟩:=h
  obtain ⟨i1,i2⟩:=w_ h4
  have c:∀a b:Nat,Nat.blt a b=true↔a<b:=fun a b=>by rw [Nat.blt_eq]
  have g:t<100000↔Cv ρ t<100000:=by
   rw [←c,←c,beq_iff_eq.1 h1]
  have i:100000<=t->t<200000->Cv ρ t=t:=by
   intro j k
   simp only [Bool.or_eq_true] at h2
   rcases h2 with (h2|h2)|h2
   ·rw [c] at h2;omega
   ·have:=Nat.le_of_ble_eq_true h2;omega
   ·exact beq_eq.1 h2
  have f:∀u∈r,Cv ρ t≠Cv ρ u:=by
   intro u hu e
   have:=h3 u hu
   rw [e,Nat.beq_refl] at this
   cases this
  refine ⟨fun u hu=>?_,fun u hu v d e=>?_⟩
  ·rcases List.mem_cons.1 hu with rfl|hu
   ·exact ⟨g,i⟩
   ·exact i1 u hu
  ·rcases List.mem_cons.1 hu with hu|hu<;>rcases List.mem_cons.1 d with d|d
   ·rw [hu,d]
   ·rw [hu] at e;exact absurd e (f v d)
   ·rw [d] at e;exact absurd e.symm (f u hu)
   ·exact i2 u hu v d e
theorem xw {ss:List (Nat×SV)}{bs:List (Nat×aR)}(h:nS ss bs=true) :
  (∀t x,aA ss t=some x->∀s∈x.ids,∃b,aA bs s=some b)/\(∀t x,aA bs t=some x->∀s∈x.cs.ids,∃b,aA bs s=some b):=by
 unfold nS at h
 simp only [Bool.and_eq_true,List.all_eq_true] at h
 refine ⟨fun t x a s c=>gG (cA.1 (h.1 _ (cf a) s c)),fun t x a s c=>gG (cA.1 (h.2 _ (cf a) s c))⟩
theorem Ai:∀{l:List Prop},Pr l->∀p∈l,p
 | [],_,_,h=>nomatch h
 | [q],h,p,hp=>by rw [List.mem_singleton.1 hp];exact h
 | q::r::s,h,p,hp=>by
  rcases List.mem_cons.1 hp with e|e
  ·rw [e];exact h.1
  ·exact Ai h.2 p e
theorem jC {st:St}{a:Act}{w:World}{V:View}(hM:Mod n V0 bH β0 st β a w V){A:Ph}{x:A.τ}{k:Prop}(ht:nS (A.aw x) (A.boxes x)=true)(h:A.fits st x k):(∃β',Mod n V0 bH β0 (A.st x) β' a w V)/\k:=by
 unfold Ph.fits at h
 dsimp only at h
 generalize LN st (A.aw x) (A.boxes x)=ρ at h
 obtain ⟨r,J⟩:=h
 refine ⟨?_,J⟩
 replace r:=Ai r
 obtain ⟨t1,t2⟩:=xw ht
 have K:Bg ρ (nJ ρ (A.boxes x))=true:=by
  have:=fun p v=>r p (List.mem_append_right _ v)
  unfold RZ at this
  cases hc:Bg ρ (nJ ρ (A.boxes x)) with
  | true=>rfl
  | false=>rw [hc] at this;exact (this False (by simp)).elim
 obtain ⟨H,L⟩:=w_ K
 let β':Nat->Nat:=fun t=>if t∈nJ ρ (A.boxes x) then β (Cv ρ t) else β t
 have c:∀t,t∈nJ ρ (A.boxes x)->β' t=β (Cv ρ t):=fun t h=>if_pos h
 have hβ:∀d,(∃b,aA (A.boxes x) d=some b)->∀s,pk ρ s d=true->β' d=β s:=by
  rintro d ⟨b,f⟩ s he
  unfold pk at he
  split at he
  ·rename_i u hu
   have e:=beq_eq.1 he
   subst e
   rw [c d (EG (cf f) ⟨_,hu⟩)]
   simp only [Cv,hu]
  ·rename_i hu
   have e:=beq_eq.1 he
   subst e
   by_cases hm:s∈nJ ρ (A.boxes x)
   ·rw [c s hm];simp only [Cv,hu]
   ·exact if_neg hm
 have M:∀t y,(t,y)∈A.aw x->∀s∈y.ids,∃b,aA (A.boxes x) s=some b:=by
  intro t y g s i
  unfold nS at ht
  simp only [Bool.and_eq_true,List.all_eq_true] at ht
  exact gG (cA.1 (ht.1 _ g s i))
 have N:∀t y,(t,y)∈A.boxes x->∀s∈y.cs.ids,∃b,aA (A.boxes x) s=some b:=by
  intro t y g s i
  unfold nS at ht
  simp only [Bool.and_eq_true,List.all_eq_true] at ht
  exact gG (cA.1 (ht.2 _ g s i))
 have O:=AL (ρ:=ρ) (β:=β) (β':=β') (st:=st) (l:=A.aw x) (fun t y g s i=>hβ s (M t y g s i)) fun p v=>r p (List.mem_append_left _ (List.mem_append_left _ v))
 have B:=AK (ρ:=ρ) (β:=β) (β':=β') (st:=st) (l:=A.boxes x) (fun t y g s i=>hβ s (N t y g s i)) fun p v=>r p (List.mem_append_left _ (List.mem_append_right _ v))
 refine ⟨β',hM.defers,hM.size,?_,t1,t2,?_,?_,hM.pV,?_,hM.ext,?_,?_,hM.kS,hM.small⟩
 ·intro t y g
  obtain ⟨z,j,q⟩:=O t y (cf g)
  rw [hM.aw t z j,q]
 ·intro s b f l
  obtain ⟨m,z,j,q,o⟩:=B s b (cf f) l
  rw [c s m,hM.boxes _ z j o,q]
 ·intro s d b P f l D Q he
  obtain ⟨m,z,j,q,o⟩:=B s b (cf f) l
  obtain ⟨C,R,E,S,F⟩:=B d P (cf D) Q
  rw [c s m,c d C] at he
  exact L s m d C (hM.inj _ _ z R j o E F he)
 ·intro s b f l
  obtain ⟨m,z,j,q,o⟩:=B s b (cf f) l
  rw [c s m]
  exact hM.uP _ z j o
 ·intro s b f l
  obtain ⟨m,z,j,q,o⟩:=B s b (cf f) l
  rw [c s m]
  refine (hM.own _ z j o).imp id fun h=>⟨?_,h.2⟩
  have:=(H s m).1
  omega
 ·intro s i
  obtain ⟨G,I⟩:=hM.mU s i
  refine ⟨G,?_⟩
  by_cases hm:s∈nJ ρ (A.boxes x)
  ·rw [c s hm,(H s hm).2 G.1 G.2];exact I
  ·exact (if_neg hm:β' s=β s).trans I
theorem FZ (hT:dA.ok P T)(hmx:P.follows .mixedOrders=true){L J:Dc}:∀(c:Code)(st:St)(β:Nat->Nat)(a:Act)(w:World)(V:View)(K:Exit->St->View->Prop)(Q:Exit->Act->World->Prop),
  Mod n V0 bH β0 st β a w V->iJ n c=true->vc P T LF RF L J c st V K->(∀e st' β' a' w' V',Mod n V0 bH β0 st' β' a' w' V'->V.Le V'->K e st' V'->Q e a' w')->c.wp P Q a w:=by
 intro c
 induction c with
 | skip=>intro st β a w V K Q h _ f j;exact wp_skip (j _ _ _ _ _ _ h (View.Le.refl V) f)
 | region id ops draw=>
  intro st β a w V K Q h q f j
  have X:∀(i:Nat)(o:Oper),ops[i]?=some o->∀d,o.dst=some d->d<n:=by
   intro i o ho d X
   simp only [iJ,List.all_eq_true] at q
   have:=q o (by rw [←Array.getElem?_toList] at ho;exact List.mem_of_getElem? ho)
   rw [X] at this
   simp only [Nat.blt_eq] at this
   exact this
  simp only [vc] at f
  split at f
  ·obtain ⟨Y,V1,E,u,F⟩:=h.release f
   exact qL hT hmx E X F (fun st' β' a' w' V' g hle k=>j _ _ _ _ _ _ g (u.trans hle) k)
  ·rename_i A Z
   obtain ⟨I,f,R⟩:=f
   obtain ⟨Y,V1,E,u,F⟩:=h.release f
   refine qL (K:=fun _ s V'=>∃x,(A.at st).fits s x (I x V')) hT hmx E X F (fun st' β' a' w' V' g hle k=>?_)
   obtain ⟨x,v⟩:=k
   have hinv:I x V':=v.2
   obtain ⟨G,H⟩:=R x V' (u.trans hle) hinv
   obtain ⟨β2,p⟩:=(jC g G v).1
   exact j _ _ _ _ _ _ p (u.trans hle) H
 | seq x y Rd ihy=>
  intro st β a w V K Q h q f j
  simp only [iJ,Bool.and_eq_true] at q
  refine wp_seq (Rd st β a w V _ _ h q.1 f ?_)
  intro e st' β' a' w' V' g hle k
  cases e with
  | normal=>exact ihy st' β' a' w' V' K Q g q.2 k (fun e s b a w C G H h3=>j e s b a w C G (hle.trans H) h3)
  | _=>exact j _ _ _ _ _ _ g hle k
 | cond c x y Rd ihy=>
  intro st β a w V K Q h q f j
  simp only [iJ,Bool.and_eq_true] at q
  simp only [vc] at f
  split at f
  ·split at f
   ·rename_i z
    exact wp_cond_true (h.eval z) (Rd st β a w V K Q h q.1 f j)
   ·rename_i z
    exact wp_cond_false (h.eval z) (ihy st β a w V K Q h q.2 f j)
   ·rename_i t z
    exact wp_cond_split (h.eval z) (fun M=>Rd st β a w V K Q h q.1 (f.1 M) j) (fun M=>ihy st β a w V K Q h q.2 (f.2 M) j)
   ·exact f.elim
  ·rename_i A Z
   split at f
   ·rename_i z
    exact wp_cond_true (h.eval z) (Rd st β a w V K Q h q.1 f j)
   ·rename_i z
    exact wp_cond_false (h.eval z) (ihy st β a w V K Q h q.2 f j)
   ·rename_i t z
    obtain ⟨I,⟨hx,hy⟩,R⟩:=f
    have join:∀e st' β' a' w' V',Mod n V0 bH β0 st' β' a' w' V'->V.Le V'->(match e with|.normal=>∃x,(A.at st).fits st' x (I x V')|e=>K e st' V')->Q e a' w':=by
     intro e st' β' a' w' V' g hle k
     cases e with
     | normal=>
      obtain ⟨x,v⟩:=k
      have hinv:I x V':=v.2
      obtain ⟨G,H⟩:=R x V' hle hinv
      obtain ⟨β2,p⟩:=(jC g G v).1
      exact j _ _ _ _ _ _ p hle H
     | _=>exact j _ _ _ _ _ _ g hle k
    exact wp_cond_split (h.eval z) (fun M=>Rd st β a w V _ Q h q.1 (hx M) join) (fun M=>ihy st β a w V _ Q h q.2 (hy M) join)
   ·exact f.elim
 | block id x ih=>
  intro st β a w V K Q h q f j
  simp only [vc] at f
  split at f
  ·refine wp_block (ih st β a w V _ _ h q f ?_)
   intro e st' β' a' w' V' g hle k
   cases e with
   | normal=>exact j _ _ _ _ _ _ g hle k
   | exit i=>
    simp only [Exit.inBlock]
    dsimp only at k
    by_cases e:i=id
    ·subst e
     rw [Nat.beq_refl] at k
     simp only [if_true]
     exact j _ _ _ _ _ _ g hle k
    ·rw [dN e] at k
     rw [if_neg e]
     exact j _ _ _ _ _ _ g hle k
   | _=>exact j _ _ _ _ _ _ g hle k
  ·rename_i A Z
   obtain ⟨I,f,R⟩:=f
   refine wp_block (ih st β a w V _ _ h q f ?_)
   intro e st' β' a' w' V' g hle k
   have join:(∃x,(A.at st).fits st' x (I x V'))->Q .normal a' w':=by
    rintro ⟨x,v⟩
    have hinv:I x V':=v.2
    obtain ⟨G,H⟩:=R x V' hle hinv
    obtain ⟨β2,p⟩:=(jC g G v).1
    exact j _ _ _ _ _ _ p hle H
   cases e with
   | normal=>exact join k
   | exit i=>
    simp only [Exit.inBlock]
    dsimp only at k
    by_cases e:i=id
    ·subst e
     rw [Nat.beq_refl] at k
     simp only [if_true]
     exact join k
    ·rw [dN e] at k
     rw [if_neg e]
     exact j _ _ _ _ _ _ g hle k
   | _=>exact j _ _ _ _ _ _ g hle k
 | loop x ih=>
  intro st β a w V K Q h q f j
  simp only [vc] at f
  split at f
  ·exact f.elim
  ·rename_i A Z
   split at f
   ·obtain ⟨I,ms,⟨D,B⟩,N⟩:=f
    have S:I D V:=B.2
    refine wp_loop_ghost (fun m a w=>∃x β V',Mod n V0 bH β0 ((A.at st).st x) β a w V'/\V.Le V'/\I x V'/\ms x=m) (ms D) ?_ ?_
    ·obtain ⟨β2,p⟩:=(jC h (N D V (View.Le.refl V) S).1 B).1
     exact ⟨D,β2,V,p,View.Le.refl V,S,rfl⟩
    ·rintro m a w ⟨x,β,V',g,hle,hinv,rfl⟩
     refine ih ((A.at st).st x) β a w V' _ _ g q (N x V' hle hinv).2 ?_
     intro e QJ β'' a0 a1 C U r k
     cases e with
     | normal=>
      obtain ⟨y,O,v⟩:=k
      have W:I y C:=v.2
      obtain ⟨β2,p⟩:=(jC U (N y C (hle.trans r) W).1 v).1
      exact ⟨ms y,O,y,β2,C,p,hle.trans r,W,rfl⟩
     | _=>exact j _ _ _ _ _ _ U (hle.trans r) k
   ·obtain ⟨I,⟨D,k0,B⟩,N⟩:=f
    have S:I D k0 V:=B.2
    refine wp_loop_ghost (fun m a w=>∃x β V',Mod n V0 bH β0 ((A.at st).st x) β a w V'/\V.Le V'/\I x m V') k0 ?_ ?_
    ·obtain ⟨β2,p⟩:=(jC h (N D k0 V (View.Le.refl V) S).1 B).1
     exact ⟨D,β2,V,p,View.Le.refl V,S⟩
    ·rintro m a w ⟨x,β,V',g,hle,hinv⟩
     refine ih ((A.at st).st x) β a w V' _ _ g q (N x m V' hle hinv).2 ?_
     intro e QJ β'' a0 a1 C U r k
     cases e with
     | normal=>
      obtain ⟨y,k',O,v⟩:=k
      have W:I y k' C:=v.2
      obtain ⟨β2,p⟩:=(jC U (N y k' C (hle.trans r) W).1 v).1
      exact ⟨k',O,y,β2,C,p,hle.trans r,W⟩
     | _=>exact j _ _ _ _ _ _ U (hle.trans r) k
 | exit id=>intro st β a w V K Q h _ f j;exact wp_exit (j _ _ _ _ _ _ h (View.Le.refl V) f)
 | scope x ih=>
  intro st β a w V K Q h q f j
  simp only [vc] at f
  refine wp_scope_straight (ih st β a w V _ _ h q f ?_)
  intro e st' β' a' w' V' g hle k
  cases e with
  | goto l=>exact k.elim
  | _=>exact j _ _ _ _ _ _ g hle k
 | label l=>intro st β a w V K Q h _ f j;exact wp_label (j _ _ _ _ _ _ h (View.Le.refl V) f)
 | ret=>intro st β a w V K Q h _ f j;exact wp_ret (j _ _ _ _ _ _ h (View.Le.refl V) f)
 | _=>intro st β a w V K Q h _ f j;exact f.elim
end Go.bM
namespace Go.bM
variable {P:Program} {T:dA} {LF RF:List Nat} {n:Nat} {V0:View} {bH:Fw} {β0:Nat->Nat} {β:Nat->Nat} {st:St} {a:Act} {w:World} {V:View}
def NW (tmps:Array Value):ResultVar->Sem Value
 | .tmp t=>pure (tmps.getD t undef)
 | .cell c t=>do loadVar t (←asAddr (tmps.getD c undef))
theorem GN (fn:Func)(tmps:Array Value):results fn tmps=(do let vs ←fn.results.mapM (NW tmps);pure (if h:vs.size=1 then vs[0] else .tuple vs)):=by
 unfold results
 congr 1
theorem nK (hT:dA.ok P T)(hM:Mod n V0 bH β0 st β a w V):∀{l:List ResultVar} {xs:List SV},mE T st l=some xs ->
  (l.mapM (NW a.tmps)).run P w=.ok (xs.map (SV.den β)) w/\∀x∈xs,Live st x
 | [],xs,h=>by cases h;exact ⟨rfl,fun x hx=>nomatch hx⟩
 | .tmp t::r,xs,h=>by
  simp only [mE] at h
  split at h
  ·rename_i x l hx hl
   cases h
   obtain ⟨h1,h2⟩:=nK hT hM hl
   refine ⟨?_,fun y b=>?_⟩
   ·simp only [List.mapM_cons,NW,Sem.run_bind,Sem.run_pure,Result.andThen_ok,h1,List.map_cons]
    rw [hM.aw t x hx]
   ·rcases List.mem_cons.1 b with rfl|b
    ·exact hM.Ab t y hx
    ·exact h2 y b
  ·cases h
 | .cell c t::r,xs,h=>by
  simp only [mE] at h
  split at h
  ·rename_i s o i l hx d hl
   split at h
   ·rename_i p x e
    cases h
    obtain ⟨h1,h2⟩:=nK hT hM hl
    obtain ⟨f,g⟩:=Ba hM (hT _ _ d) e
    have j:(loadVar t ⟨β s,o,none⟩).run P w=.ok (x.den β) w:=f
    refine ⟨?_,fun y b=>?_⟩
    ·have k:a.tmps.getD c undef=.pointer (some ⟨β s,o,none⟩):=hM.aw c _ hx
     have m:asAddr (.pointer (some ⟨β s,o,none⟩))=pure ⟨β s,o,none⟩:=rfl
     simp only [List.mapM_cons,NW,k,m,Sem.run_bind,Result.andThen_ok,Sem.run_pure,j,h1,List.map_cons]
    ·rcases List.mem_cons.1 b with rfl|b
     ·exact g
     ·exact h2 y b
   ·cases h
  ·cases h
theorem EH (hT:dA.ok P T)(hM:Mod n V0 bH β0 st β a w V){fn:Func}{xs:List SV}(h:mE T st fn.results.toList=some xs) :
  (results fn a.tmps).run P w=.ok (mD β xs) w/\∀x∈xs,Live st x:=by
 obtain ⟨b,c⟩:=nK hT hM h
 refine ⟨?_,c⟩
 rw [GN,Array.mapM_eq_mapM_toList]
 simp only [map_eq_pure_bind,bind_assoc,pure_bind,Sem.run_bind]
 rw [b]
 simp only [Result.andThen_ok,Sem.run_pure]
 match xs with
 | []=>simp [mD]
 | [x]=>simp [mD]
 | x::y::r=>simp [mD]
def JV (β0:Nat->Nat)(s:Nat)(b:aR):List (Nat×aR)->Prop
 | []=>True
 | (t,b')::r=>qB (JC b++JC b') (β0 s≠β0 t)/\JV β0 s b r
def MN (β0:Nat->Nat)(V:View):List (Nat×aR)->Prop
 | []=>True
 | (s,b)::r=>(qB (JC b) (V.w.heap[β0 s]?=some (b.obj β0))/\qB (JC b) (V.X (β0 s)))/\JV β0 s b r/\MN β0 V r
theorem pg {s:Nat}{b:aR}:∀{r:List (Nat×aR)},JV β0 s b r->∀t b',aA r t=some b'->b.live->b'.live->β0 s≠β0 t
 | [],_,_,_,h=>by cases h
 | (u,c)::r,h,t,b',ha=>by
  simp only [aA] at ha
  by_cases e:t=u
  ·subst e;rw [Nat.beq_refl] at ha;cases ha
   have h1:=h.1
   rw [tH,fM] at h1
   exact fun l a=>fM.1 (h1 l) a
  ·rw [dN e] at ha;exact pg h.2 t b' ha
theorem Ap:∀{bs:List (Nat×aR)},MN β0 V bs->(∀s b,aA bs s=some b->b.live->V.w.heap[β0 s]?=some (b.obj β0)/\V.X (β0 s))/\∀s s' b b',aA bs s=some b->b.live->aA bs s'=some b'->b'.live->β0 s=β0 s'->s=s'
 | [],_=>⟨fun s b h=>(by cases h),fun s s' b b' h=>(by cases h)⟩
 | (s,b)::r,⟨h1,h2,h3⟩=>by
  obtain ⟨g1,g2⟩:=Ap h3
  refine ⟨fun t x h l=>?_,fun t f x i a l c g he=>?_⟩
  ·simp only [aA] at h
   by_cases e:t=s
   ·subst e;rw [Nat.beq_refl] at h;cases h;exact ⟨fM.1 h1.1 l,fM.1 h1.2 l⟩
   ·rw [dN e] at h;exact g1 t x h l
  ·simp only [aA] at a c
   by_cases e:t=s<;>by_cases d:f=s
   ·rw [e,d]
   ·subst e;rw [Nat.beq_refl] at a;cases a
    rw [dN d] at c
    exact absurd he (pg h2 f i c l g)
   ·subst d;rw [Nat.beq_refl] at c;cases c
    rw [dN e] at a
    exact absurd he.symm (pg h2 t x a g l)
   ·rw [dN e] at a
    rw [dN d] at c
    exact g2 t f x i a l c g he
theorem nN:∀{l:List (Nat×SV)} {i:Nat},oB i l=true->∀t x,aA l t=some x->∃k,t=i+k/\l[k]?=some (t,x)
 | [],_,_,_,_,h=>by cases h
 | (j,y)::r,i,hs,t,x,h=>by
  simp only [oB,Bool.and_eq_true] at hs
  obtain ⟨⟨h1,-⟩,h2⟩:=hs
  have h1:=beq_eq.1 h1
  simp only [aA] at h
  by_cases e:t=j
  ·subst e;rw [Nat.beq_refl] at h;cases h;exact ⟨0,by omega,rfl⟩
  ·rw [dN e] at h
   obtain ⟨k,b,a⟩:=nN h2 t x h
   exact ⟨k+1,by omega,by simpa using a⟩
theorem rO {bx:Nat->Option aR}{V':View}:∀{l:List Nat} {k:Prop},JU bx β V' l k->(∀s∈l,∀b,bx s=some b->b.live->V'.w.heap[β s]?=some (b.obj β))->(∀s∈l,∃b,bx s=some b/\b.live)/\k
 | [],_,h,_=>⟨fun s hs=>(nomatch hs),h⟩
 | s::r,k,h,hf=>by
  simp only [JU] at h
  split at h
  ·exact h.elim
  ·rename_i b hne hb
   have lb:b.live:=by
    intro c e
    obtain ⟨cs,ty⟩:=b
    dsimp only at e
    subst e
    exact absurd rfl (hne c ty)
   obtain ⟨d,f⟩:=rO (h (hf s (by simp) b hb lb)) fun t a=>hf t (List.mem_cons_of_mem _ a)
   exact ⟨fun t a=>by rcases List.mem_cons.1 a with rfl|a;exact ⟨b,hb,lb⟩;exact d t a,f⟩
  ·exact h.elim
theorem AM:∀{bs:List (Nat×aR)} {m:Nat} {b:aR},(m,b)∈bs->(∃vs,b.cs=.aW vs)\/m∈jV bs
 | [],_,_,h=>nomatch h
 | (s,x)::r,m,b,h=>by
  rcases List.mem_cons.1 h with e|h
  ·cases e
   unfold jV
   split
   ·rename_i vs hcs;exact .inl ⟨vs,hcs⟩
   ·exact .inr (by simp)
  ·refine (AM h).imp id fun h=>?_
   unfold jV
   split
   ·exact h
   ·exact List.mem_cons_of_mem _ h
theorem wb:∀{bs:List (Nat×aR)} {m:Nat},m∈jV bs->m∈bs.map (·.1)
 | [],_,h=>nomatch h
 | (s,x)::r,m,h=>by
  unfold jV at h
  split at h
  ·exact List.mem_cons_of_mem _ (wb h)
  ·rcases List.mem_cons.1 h with rfl|h
   ·simp
   ·exact List.mem_cons_of_mem _ (wb h)
theorem A6 {b:Nat}{k:Prop}:∀{bs:List (Nat×aR)} {m:Nat} {vs:List Value} {ty:TypeId},(m,(⟨.aW vs,ty⟩:aR))∈bs->vs≠[]->b=β0 m->K5 bs β0 b k
 | [],_,_,_,h,_,_=>nomatch h
 | (s,x)::r,m,vs,ty,h,hv,he=>by
  rcases List.mem_cons.1 h with e|h
  ·cases e;exact .inl ⟨hv,he⟩
  ·have:=A6 (k:=k) h hv he
   unfold K5
   split
   ·exact .inr this
   ·exact this
theorem lq {l m:List Nat}{s:Nat}:s∈minus l m↔s∈l/\s∉m:=by
 unfold minus
 rw [List.mem_filter,Bool.not_eq_true']
 refine and_congr_right fun _=>⟨fun h hm=>?_,fun h=>?_⟩
 ·rw [cA.2 hm] at h;cases h
 ·cases hb:fj s m
  ·rfl
  ·exact absurd (cA.1 hb) h
theorem Ic {bx:Nat->Option aR}{s:Nat}(h:tP T bx s=false):s<100000:=by
 rcases Nat.lt_or_ge s 100000 with g|g
 ·exact g
 ·unfold tP at h
  rw [show Nat.ble 100000 s=true from by rw [Nat.ble_eq];exact g] at h
  cases h
theorem Bh {bs:List (Nat×aR)}(hT:dA.ok P T)(hM:Mod n V0 ⟨jV bs,fun b=>∃m b0,aA bs m=some b0/\b0.live/\b=β0 m⟩ β0 st β a w V){fn:Func}{R:Value->View->Prop}(hv:H2 T fn.results.toList bs β0 V0.w.heap.size R st V) :
  ∃v,(results fn a.tmps).run P w=.ok v w/\R v (V0.to w hM.ext.size):=by
 unfold H2 at hv
 split at hv
 ·exact hv.elim
 ·rename_i xs M
  obtain ⟨Y,h2⟩:=EH hT hM M
  dsimp only at hv
  split at hv
  ·exact hv.elim
  ·rename_i E
   generalize hL:reach st.boxes 3 (dedup (xs.flatMap SV.ids++jV bs))=L at hv E
   have p:∀s,s∈xs.flatMap SV.ids\/s∈jV bs->s∈L:=fun s c=>by
    rw [←hL];exact e_ 3 _ s (bQ.2 (List.mem_append.2 c))
   have hle:V.Le (V0.to w hM.ext.size):=by
    intro b o d
    obtain ⟨C,D⟩:=hM.pV b o d
    exact ⟨D,C⟩
   have γf:∀γ:Nat->Nat,γ=(fun t=>if t∈minus L (jV bs) then β t else β0 t)->(∀s∈L,γ s=β s)/\mD γ xs=mD β xs:=by
    intro γ hγ
    have f:∀s∈L,γ s=β s:=by
     intro s c
     rw [hγ]
     by_cases d:s∈jV bs
     ·have:s∉minus L (jV bs):=fun h=>(lq.1 h).2 d
      simp only [this,if_false]
      exact (hM.mU s d).2.symm
     ·simp only [lq.2 ⟨c,d⟩,if_true]
    refine ⟨f,?_⟩
    have j:∀x∈xs,x.den γ=x.den β:=fun x j=>SV.bR fun s c=>f s (p s (.inl (List.mem_flatMap.2 ⟨x,j,c⟩)))
    match xs,j with
    | [],_=>rfl
    | [x],j=>exact j x (by simp)
    | x::y::r,j=>simp only [mD];rw [List.map_congr_left j]
   have J:∀γ:Nat->Nat,(∀s∈L,γ s=β s)->∀s∈L,∀b,st.boxes s=some b->b.live->(V0.to w hM.ext.size).w.heap[γ s]?=some (b.obj γ):=by
    intro γ f s c b d l
    rw [f s c,aR.dG fun t q=>f t (iA E c d t q)]
    exact hM.boxes s b d l
   have k:∀γ:Nat->Nat,(∀s∈L,γ s=β s)->∀s∈L,s<100000->∀b,st.boxes s=some b->b.live->(V0.to w hM.ext.size).bI (γ s) (b.obj γ):=by
    intro γ f s c F b d l
    refine ⟨fun hH=>?_,J γ f s c b d l⟩
    have hH:V0.H (γ s):=hH
    rw [f s c] at hH
    rcases hM.own s b d l with h|⟨h,-⟩
    ·have:=V0.hH _ hH;omega
    ·omega
   split at hv
   ·rename_i K
    have F:∀s∈minus L (jV bs),s<100000:=by
     intro s c
     cases q:tP T st.boxes s with
     | false=>exact Ic q
     | true=>
      have:s∈(minus L (jV bs)).filter (tP T st.boxes):=List.mem_filter.2 ⟨c,q⟩
      rw [K] at this;cases this
    have g:=kP (hv _ hle) β
    generalize hγ:(fun t=>if t∈minus L (jV bs) then β t else β0 t)=γ at g
    obtain ⟨f,i⟩:=γf γ hγ.symm
    obtain ⟨-,z⟩:=rO g (fun s c b d l=>J γ f s (p s (.inr c)) b d l)
    obtain ⟨-,A⟩:=lC z (fun s c b d l=>k γ f s (lq.1 c).1 (F s c) b d l)
    refine ⟨_,Y,?_⟩
    rw [←i]
    exact A
   ·rename_i s K
    split at hv
    ·rename_i b d
     have c:s∈minus L (jV bs):=by
      have:s∈(minus L (jV bs)).filter (tP T st.boxes):=by rw [K];simp
      exact (List.mem_filter.1 this).1
     obtain ⟨B,N⟩:=lq.1 c
     have g:=kP (hv (V0.to w hM.ext.size)) β
     generalize hγ:(fun t=>if t∈minus L (jV bs) then β t else β0 t)=γ at g
     obtain ⟨f,i⟩:=γf γ hγ.symm
     have G:V.Le ((V0.to w hM.ext.size).ke (VN b) (γ s)):=by
      intro x o j
      obtain ⟨C,D⟩:=hle x o j
      refine ⟨fun O=>?_,D⟩
      rcases O with O|⟨Z,e,-⟩
      ·exact C O
      ·rw [f s B] at e
       exact hM.uP s b d (M_.1 Z) o (e▸j)
     obtain ⟨hF,z⟩:=rO (g G) (fun s c b d l=>J γ f s (p s (.inr c)) b d l)
     have A:=z (fM.2 fun l=>J γ f s B b d l) (fM.2 fun l=>by
      rw [f s B]
      rcases hM.own s b d l with h|⟨-,m,b0,hm,l0,he⟩
      ·exact .inl h
      ·right
       rcases AM (cf hm) with ⟨vs,I⟩|Q
       ·obtain ⟨cs,ty⟩:=b0
        dsimp only at I
        subst I
        exact A6 (cf hm) (l0 vs rfl) he
       ·exfalso
        obtain ⟨b1,S,l1⟩:=hF m Q
        have e:=(hM.mU m Q).2
        rw [←e] at he
        have:=hM.inj s m b b1 d l S l1 he
        exact N (this▸Q))
     obtain ⟨-,U⟩:=lC A (fun u hu b' W l'=>by
      obtain ⟨C,D⟩:=List.mem_filter.1 hu
      have SB:u≠s:=fun e=>by subst e;rw [Nat.beq_refl] at D;cases D
      have X:u<100000:=by
       cases q:tP T st.boxes u with
       | false=>exact Ic q
       | true=>
        have:u∈(minus L (jV bs)).filter (tP T st.boxes):=List.mem_filter.2 ⟨C,q⟩
        rw [K] at this
        exact absurd (List.mem_singleton.1 this) SB
      exact k γ f u (lq.1 C).1 X b' W l')
     refine ⟨_,Y,?_⟩
     rw [←i]
     exact U
    ·exact hv.elim
   ·exact hv.elim
theorem Ki (hT : dA.ok P T)(hmx : P.follows .mixedOrders = true){L J : Dc}{f : FuncId}{fn : Func}(hf : P.funcs[f]? = some fn)(hn : (fn.name == "runtime.NumGoroutine") = false)
  {ss:List (Nat×SV)}{bs:List (Nat×aR)}{args:Array Value}{R:Value->View->Prop}(ha:args=(ss.map fun x=>x.2.den β0).toArray)(hb:MN β0 V bs)
  (hv:CE P T LF RF L J fn ss bs β0 V R):ab P f args V R:=by
 unfold CE at hv
 split at hv
 ·rename_i code c
  split at hv
  ·rename_i A
   simp only [Bool.and_eq_true,List.all_eq_true,Nat.ble_eq] at A
   obtain ⟨⟨⟨⟨⟨d,C⟩,hlen⟩,g⟩,D⟩,u⟩:=A
   have B:∀x∈bs,100000<=x.1/\x.1<200000:=fun x j=>by
    obtain ⟨E,F⟩:=D x j
    exact ⟨E,Nat.le_of_ble_eq_true F⟩
   refine ⟨⟨fn,hf,by rw [c];rfl,hn⟩,calls_of_wp hf c ?_⟩
   obtain ⟨b1,b2⟩:=Ap hb
   obtain ⟨t1,t2⟩:=xw u
   have G:args.size=ss.length:=by rw [ha];simp
   have H:Mod fn.ntmps V ⟨jV bs,fun b=>∃m p,aA bs m=some p/\p.live/\b=β0 m⟩ β0 ⟨aA ss,aA bs⟩ β0 { tmps:=args++Array.replicate (fn.ntmps-args.size) undef,defers:=[] } V.w V:=by
    refine ⟨rfl,by simp;omega,?_,t1,t2,fun s b h l=>(b1 s b h l).1,fun s I b K h l n M=>b2 s I b K h l n M,fun b o h=>⟨h.2,h.1⟩,fun s b h l o N=>N.1 (V.hX _ (b1 s b h l).2),fq.refl _ _,?_,?_,?_,g⟩
    ·intro t x j
     obtain ⟨k,q,i⟩:=nN C t x j
     have r:k<ss.length:=by
      rcases Nat.lt_or_ge k ss.length with n|n
      ·exact n
      ·rw [List.getElem?_eq_none n] at i;cases i
     have y:t=k:=by omega
     subst y
     have:args[t]?=some (x.den β0):=by rw [ha];simp [i]
     have z:t<args.size:=by omega
     show (args++Array.replicate (fn.ntmps-args.size) undef).getD t undef=_
     rw [Array.getD_eq_getD_getElem?,Array.getElem?_append_left z,this]
     rfl
    ·intro s b h l
     exact .inr ⟨(B _ (cf h)).1,s,b,h,l,rfl⟩
    ·intro s O
     obtain ⟨x,j,rfl⟩:=List.mem_map.1 (wb O)
     exact ⟨B x j,rfl⟩
    ·rintro b ⟨m,p,hm,l,rfl⟩
     exact (b1 m p hm l).2
   refine FZ hT hmx code _ β0 _ _ V _ _ H d hv ?_
   intro e Q β' S U W a hle r
   cases e with
   | normal=>
    obtain ⟨v,q,i⟩:=Bh hT a r
    exact ⟨a.defers,v,q,v,rfl,a.ext,i⟩
   | ret=>
    obtain ⟨v,q,i⟩:=Bh hT a r
    exact ⟨a.defers,v,q,v,rfl,a.ext,i⟩
   | _=>exact r.elim
  ·exact hv.elim
 ·exact hv.elim
theorem ir (hT : dA.ok P T)(hmx : P.follows .mixedOrders = true)(L J : Dc){f : FuncId}{fn : Func}(hf : P.funcs[f]? = some fn)(hn : (fn.name == "runtime.NumGoroutine") = false)
  (ss:List (Nat×SV))(bs:List (Nat×aR)){args:Array Value}{R:Value->View->Prop}(ha:args=(ss.map fun x=>x.2.den β0).toArray)(hb:MN β0 V bs)
  {G:Prop}(h:G)(hG:G=CE P T LF RF L J fn ss bs β0 V R):ab P f args V R:=by
 subst hG
 exact Ki hT hmx hf hn ha hb h
theorem O9 (h:T.map (fun x=>lu P x.1)=T.map fun x=>some x.2):dA.ok P T:=by
 intro t i a
 have hm:=cf a
 obtain ⟨k,b⟩:=List.getElem?_of_mem hm
 have:=congrArg (fun l=>l[k]?) h
 simp only [List.getElem?_map,b,Option.map_some,Option.some.injEq] at this
 exact this
end Go.bM
namespace Go.Proofs.Tryz
open Go.bM
abbrev aS:List Nat:=[]
def X2:dA:=[
 (3,⟨.int .i64,1,8,[.v (.int .i64 0)]⟩),
 (4,⟨.bool,1,1,[.ff]⟩),
 (0,⟨.tuple [],1,0,[.v (.tuple #[])]⟩),
 (139,⟨.struct [(2,0),(2,1),(137,2)],3,24,[.v (.int .i64 0),.v (.int .i64 0),.v (.pointer none)]⟩),
 (31,⟨.struct [(25,0),(23,2)],3,56,[.ff,.v (.slice none 0 0),.v (.slice none 0 0)]⟩),
 (187,⟨.int .u64,1,8,[.v (.int .u64 0)]⟩),
 (38,⟨.slice 188,1,24,[.v (.slice none 0 0)]⟩),
 (188,⟨.int .u32,1,4,[.v (.int .u32 0)]⟩),
 (33,⟨.struct [(31,0),(31,3)],6,112,[.ff,.v (.slice none 0 0),.v (.slice none 0 0),.ff,.v (.slice none 0 0),.v (.slice none 0 0)]⟩),
 (27,⟨.struct [(25,0),(25,2),(25,4)],6,96,[.ff,.v (.slice none 0 0),.ff,.v (.slice none 0 0),.ff,.v (.slice none 0 0)]⟩),
 (23,⟨.slice 188,1,24,[.v (.slice none 0 0)]⟩),
 (37,⟨.struct [(35,0)],1,24,[.v (.slice none 0 0)]⟩),
 (25,⟨.struct [(4,0),(23,1)],2,32,[.ff,.v (.slice none 0 0)]⟩),
 (2,⟨.int .i64,1,8,[.v (.int .i64 0)]⟩),
 (47,⟨.iface,1,16,[.v (.nilIface)]⟩),
 (40,⟨.struct [(4,0),(38,1)],2,32,[.ff,.v (.slice none 0 0)]⟩),
 (141,⟨.struct [(139,0),(139,3),(139,6)],9,72,[.v (.int .i64 0),.v (.int .i64 0),.v (.pointer none),.v (.int .i64 0),.v (.int .i64 0),.v (.pointer none),.v (.int .i64 0),.v (.int .i64 0),.v (.pointer none)]⟩),
 (148,⟨.struct [(139,0),(139,3)],6,48,[.v (.int .i64 0),.v (.int .i64 0),.v (.pointer none),.v (.int .i64 0),.v (.int .i64 0),.v (.pointer none)]⟩),
 (56,⟨.slice 27,1,24,[.v (.slice none 0 0)]⟩),
 (119,⟨.slice 211,1,24,[.v (.slice none 0 0)]⟩),
 (209,⟨.struct [(139,0),(139,3),(4,6),(4,7)],8,56,[.v (.int .i64 0),.v (.int .i64 0),.v (.pointer none),.v (.int .i64 0),.v (.int .i64 0),.v (.pointer none),.ff,.ff]⟩),
 (67,⟨.struct [(40,0),(38,2)],3,56,[.ff,.v (.slice none 0 0),.v (.slice none 0 0)]⟩),
 (211,⟨.struct [(141,0),(209,9)],17,128,[.v (.int .i64 0),.v (.int .i64 0),.v (.pointer none),.v (.int .i64 0),.v (.int .i64 0),.v (.pointer none),.v (.int .i64 0),.v (.int .i64 0),.v (.pointer none),.v (.int .i64 0),.v (.int .i64 0),.v (.pointer none),.v (.int .i64 0),.v (.int .i64 0),.v (.pointer none),.ff,.ff]⟩),
 (42,⟨.struct [(40,0),(40,2),(40,4)],6,96,[.ff,.v (.slice none 0 0),.ff,.v (.slice none 0 0),.ff,.v (.slice none 0 0)]⟩),
 (71,⟨.struct [(67,0),(67,3)],6,112,[.ff,.v (.slice none 0 0),.v (.slice none 0 0),.ff,.v (.slice none 0 0),.v (.slice none 0 0)]⟩),
 (35,⟨.slice 42,1,24,[.v (.slice none 0 0)]⟩),
 (137,⟨.ptr 256,1,8,[.v (.pointer none)]⟩),
 (22,⟨.slice 188,1,24,[.v (.slice none 0 0)]⟩),
 (154,⟨.struct [(31,0),(31,3),(4,6),(4,7)],8,120,[.ff,.v (.slice none 0 0),.v (.slice none 0 0),.ff,.v (.slice none 0 0),.v (.slice none 0 0),.ff,.ff]⟩),
 (63,⟨.slice 71,1,24,[.v (.slice none 0 0)]⟩),
 (189,⟨.int .u64,1,8,[.v (.int .u64 0)]⟩),
 (78,⟨.slice 33,1,24,[.v (.slice none 0 0)]⟩),
 (58,⟨.ptr 136,1,8,[.v (.pointer none)]⟩),
 (118,⟨.slice 211,1,24,[.v (.slice none 0 0)]⟩),
 (52,⟨.slice 3,1,24,[.v (.slice none 0 0)]⟩),
 (256,⟨.struct [(40,0),(38,2)],3,56,[.ff,.v (.slice none 0 0),.v (.slice none 0 0)]⟩),
 (115,⟨.slice 141,1,24,[.v (.slice none 0 0)]⟩),
 (145,⟨.slice 148,1,24,[.v (.slice none 0 0)]⟩),
 (136,⟨.struct [(52,0),(3,1)],2,32,[.v (.slice none 0 0),.v (.int .i64 0)]⟩),
 (60,⟨.tuple [3,47],1,0,[.v (.tuple #[.int .i64 0,.nilIface])]⟩),
 (247,⟨.tuple [187,4],1,0,[.v (.tuple #[.int .u64 0,.bool false])]⟩),
 (53,⟨.tuple [37,47],1,0,[.v (.tuple #[.agg #[.slice none 0 0],.nilIface])]⟩),
 (101,⟨.tuple [33,4],1,0,[.v (.tuple #[.agg #[.bool false,.slice none 0 0,.slice none 0 0,.bool false,.slice none 0 0,.slice none 0 0],.bool false])]⟩),
 (192,⟨.tuple [23,23],1,0,[.v (.tuple #[.slice none 0 0,.slice none 0 0])]⟩),
 (126,⟨.tuple [119,47],1,0,[.v (.tuple #[.slice none 0 0,.nilIface])]⟩),
 (272,⟨.tuple [2,4],1,0,[.v (.tuple #[.int .i64 0,.bool false])]⟩),
 (68,⟨.tuple [67,47],1,0,[.v (.tuple #[.agg #[.bool false,.slice none 0 0,.slice none 0 0],.nilIface])]⟩),
 (120,⟨.tuple [119,4],1,0,[.v (.tuple #[.slice none 0 0,.bool false])]⟩),
 (214,⟨.tuple [209,4],1,0,[.v (.tuple #[.agg #[.int .i64 0,.int .i64 0,.pointer none,.int .i64 0,.int .i64 0,.pointer none,.bool false,.bool false],.bool false])]⟩),
 (243,⟨.slice 38,1,24,[.v (.slice none 0 0)]⟩),
 (244,⟨.slice 67,1,24,[.v (.slice none 0 0)]⟩),
 (5,⟨.int .u8,1,1,[.v (.int .u8 0)]⟩),
 (9,⟨.str,1,16,[.v (.string ByteArray.empty)]⟩),
 (28,⟨.tuple [27,4],1,0,[.v (.tuple #[.agg #[.bool false,.slice none 0 0,.bool false,.slice none 0 0,.bool false,.slice none 0 0],.bool false])]⟩),
 (48,⟨.tuple [4,47],1,0,[.v (.tuple #[.bool false,.nilIface])]⟩),
 (74,⟨.tuple [56,4],1,0,[.v (.tuple #[.slice none 0 0,.bool false])]⟩),
 (91,⟨.slice 37,1,24,[.v (.slice none 0 0)]⟩),
 (116,⟨.tuple [115,4],1,0,[.v (.tuple #[.slice none 0 0,.bool false])]⟩),
 (319,⟨.struct [(9,0)],1,16,[.v (.string ByteArray.empty)]⟩),
 (64,⟨.tuple [63,47],1,0,[.v (.tuple #[.slice none 0 0,.nilIface])]⟩),
 (249,⟨.tuple [188,188],1,0,[.v (.tuple #[.int .u32 0,.int .u32 0])]⟩),
 (278,⟨.tuple [38,38,4],1,0,[.v (.tuple #[.slice none 0 0,.slice none 0 0,.bool false])]⟩),
 (206,⟨.slice 47,1,24,[.v (.slice none 0 0)]⟩),
 (72,⟨.tuple [71,47],1,0,[.v (.tuple #[.agg #[.bool false,.slice none 0 0,.slice none 0 0,.bool false,.slice none 0 0,.slice none 0 0],.nilIface])]⟩),
 (142,⟨.tuple [119,141,47],1,0,[.v (.tuple #[.slice none 0 0,.agg #[.int .i64 0,.int .i64 0,.pointer none,.int .i64 0,.int .i64 0,.pointer none,.int .i64 0,.int .i64 0,.pointer none],.nilIface])]⟩),
 (155,⟨.tuple [154,4],1,0,[.v (.tuple #[.agg #[.bool false,.slice none 0 0,.slice none 0 0,.bool false,.slice none 0 0,.slice none 0 0,.bool false,.bool false],.bool false])]⟩),
 (195,⟨.tuple [141,4],1,0,[.v (.tuple #[.agg #[.int .i64 0,.int .i64 0,.pointer none,.int .i64 0,.int .i64 0,.pointer none,.int .i64 0,.int .i64 0,.pointer none],.bool false])]⟩),
 (200,⟨.iface,1,16,[.v (.nilIface)]⟩),
 (285,⟨.tuple [38,4],1,0,[.v (.tuple #[.slice none 0 0,.bool false])]⟩),
 (203,⟨.iface,1,16,[.v (.nilIface)]⟩),
 (205,⟨.iface,1,16,[.v (.nilIface)]⟩),
 (239,⟨.func,1,8,[.v (.nilFunc)]⟩),
 (201,⟨.tuple [200,4],1,0,[.v (.tuple #[.nilIface,.bool false])]⟩),
 (221,⟨.tuple [148,4],1,0,[.v (.tuple #[.agg #[.int .i64 0,.int .i64 0,.pointer none,.int .i64 0,.int .i64 0,.pointer none],.bool false])]⟩),
 (236,⟨.tuple [3,4],1,0,[.v (.tuple #[.int .i64 0,.bool false])]⟩),
 (282,⟨.tuple [187,187],1,0,[.v (.tuple #[.int .u64 0,.int .u64 0])]⟩),
 (288,⟨.tuple [38,188],1,0,[.v (.tuple #[.slice none 0 0,.int .u32 0])]⟩),
 (290,⟨.tuple [38,38],1,0,[.v (.tuple #[.slice none 0 0,.slice none 0 0])]⟩),
 (20,⟨.iface,1,16,[.v (.nilIface)]⟩),
 (123,⟨.iface,1,16,[.v (.nilIface)]⟩),
 (294,⟨.ptr 319,1,8,[.v (.pointer none)]⟩)]
def X4:dA:=X2++[
 (27,⟨.struct [(25,0),(25,2),(25,4)],6,96,[.ff,.v (.slice none 0 0),.ff,.v (.slice none 0 0),.ff,.v (.slice none 0 0)]⟩)]
theorem Ib:dA.ok prog X4:=O9 (by kernel_rfl)
theorem mI:dA.ok prog X2:=O9 (by kernel_rfl)
theorem mixed:prog.follows .mixedOrders=true:=by kernel_rfl
abbrev VP:=View->Prop
abbrev VR:=Value->VP
abbrev Rt (V:View)(R:VR)(x:Value):Prop:=∀v:View,V.Le v->R x v
abbrev s3 {α0 α1 α2:Type}(a:α0)(b:α1)(c:α2)(K:Prop):Prop:=sm a/\sm b/\sm c/\K
abbrev s4 {α0 α1 α2 α3:Type}(a:α0)(b:α1)(c:α2)(d:α3)(K:Prop):Prop:=sm a/\sm b/\sm c/\sm d/\K
abbrev s5 {α0 α1 α2 α3 α4:Type}(a:α0)(b:α1)(c:α2)(d:α3)(e:α4)(K:Prop):Prop:=sm a/\sm b/\sm c/\sm d/\sm e/\K
abbrev s6 {α0 α1 α2 α3 α4 α5:Type}(a:α0)(b:α1)(c:α2)(d:α3)(e:α4)(f:α5)(K:Prop):Prop:=sm a/\sm b/\sm c/\sm d/\sm e/\sm f/\K
abbrev s7 {α0 α1 α2 α3 α4 α5 α6:Type}(a:α0)(b:α1)(c:α2)(d:α3)(e:α4)(f:α5)(g:α6)(K:Prop):Prop:=sm a/\sm b/\sm c/\sm d/\sm e/\sm f/\sm g/\K
abbrev s8 {α0 α1 α2 α3 α4 α5 α6 α7:Type}(a:α0)(b:α1)(c:α2)(d:α3)(e:α4)(f:α5)(g:α6)(h:α7)(K:Prop):Prop:=sm a/\sm b/\sm c/\sm d/\sm e/\sm f/\sm g/\sm h/\K
abbrev s9 {α0 α1 α2 α3 α4 α5 α6 α7 α8:Type}(a:α0)(b:α1)(c:α2)(d:α3)(e:α4)(f:α5)(g:α6)(h:α7)(i:α8)(K:Prop):Prop:=sm a/\sm b/\sm c/\sm d/\sm e/\sm f/\sm g/\sm h/\sm i/\K
abbrev Ri {α0 α1 α2 α3 α4 α5 α6 α7 α8 α9:Type}(a:α0)(b:α1)(c:α2)(d:α3)(e:α4)(f:α5)(g:α6)(h:α7)(i:α8)(j:α9)(K:Prop):Prop:=sm a/\sm b/\sm c/\sm d/\sm e/\sm f/\sm g/\sm h/\sm i/\sm j/\K
abbrev uc {α0 α1 α2 α3 α4 α5 α6 α7 α8 α9 Yv:Type}(a:α0)(b:α1)(c:α2)(d:α3)(e:α4)(f:α5)(g:α6)(h:α7)(i:α8)(j:α9)(k:Yv)(K:Prop):Prop:=sm a/\sm b/\sm c/\sm d/\sm e/\sm f/\sm g/\sm h/\sm i/\sm j/\sm k/\K
abbrev dK {α0 α1 α2 α3 α4 α5 α6 α7 α8 α9 Yv α11:Type}(a:α0)(b:α1)(c:α2)(d:α3)(e:α4)(f:α5)(g:α6)(h:α7)(i:α8)(j:α9)(k:Yv)(l:α11)(K:Prop):Prop:=sm a/\sm b/\sm c/\sm d/\sm e/\sm f/\sm g/\sm h/\sm i/\sm j/\sm k/\sm l/\K
abbrev Ca (V:View)(f:Nat)(a:Array Value)(K:VR):Prop:=∀V1:View,V.Le V1->ab prog f a V1 K
def sV:Value->SV
  | .agg l=>.agg (l.toList.map C.v)
  | v=>.c (.v v)
def sA:Nat->List Value->List (Nat×SV)
  | _,[]=>[]
  | n,v::l=>(n,sV v)::sA (n+1) l
theorem fd {LF RF:List Nat}(L K:Dc){f:FuncId}{fn:Func}(hf:prog.funcs[f]?=some fn){l:List Value}{V:View}{R:VR}{G:Prop}(h:G)
 (hn:(fn.name=="runtime.NumGoroutine")=false:=by kernel_rfl)(ha:l.toArray=((sA 0 l).map fun x=>x.2.den fun _=>0).toArray:=by kernel_rfl)
 (hG:G=CE prog X2 LF RF L K fn (sA 0 l) [] (fun _=>0) V R:=by kernel_rfl):ab prog f l.toArray V R:=
  ir (LF:=LF) (RF:=RF) (β0:=fun _=>0) mI mixed L K hf hn (sA 0 l) [] ha trivial h hG
open Go.Value renaming int→I,pointer→P,slice→S,agg→A,bool→B,tuple→T
open Go.IntKind renaming i64→J,u64→U,u32→W
abbrev Yo (a:OA)(n:Nat)(m:View)(v:Value):Prop:=∃q,ag a n=some q/\m.at q v
abbrev Xh (V:View)(b:Nat)(l:List Value)(t:Nat):Prop:=V.w.heap[b]?=some (.cells l.toArray t (0,0))
abbrev Z0 (r:Value)(K:Int->Int->Prop):Prop:=∃(v0:Int)(v1:Int),r=T #[I W v0,I W v1]/\K v0 v1
abbrev Z1 (r:Value)(K:Int->Bool->Prop):Prop:=∃(v0:Int)(v1:Bool),r=T #[I U v0,B v1]/\K v0 v1
abbrev Z2 (r:Value)(K:OA->Nat->Nat->OA->Nat->Nat->Prop):Prop:=∃(v0:OA)(v1:Nat)(v2:Nat)(v3:OA)(v4:Nat)(v5:Nat),r=T #[S v0 v1 v2,S v3 v4 v5]/\K v0 v1 v2 v3 v4 v5
abbrev X3 (v0:OA)(v1:Nat)(v2:Nat)(v3:OA)(v4:Nat)(v5:Nat):Value:=T #[S v0 v1 v2,S v3 v4 v5]
abbrev Z4 (r:Value)(K:OA->Nat->Nat->Int->Prop):Prop:=∃(v0:OA)(v1:Nat)(v2:Nat)(v3:Int),r=T #[S v0 v1 v2,I W v3]/\K v0 v1 v2 v3
abbrev Z5 (r:Value)(K:OA->Nat->Nat->OA->Nat->Nat->Bool->Prop):Prop:=∃(v0:OA)(v1:Nat)(v2:Nat)(v3:OA)(v4:Nat)(v5:Nat)(v6:Bool),r=T #[S v0 v1 v2,S v3 v4 v5,B v6]/\K v0 v1 v2 v3 v4 v5 v6
abbrev Z6 (r:Value)(K:Bool->OA->Nat->Nat->Prop):Prop:=∃(v0:Bool)(v1:OA)(v2:Nat)(v3:Nat),r=A #[B v0,S v1 v2 v3]/\K v0 v1 v2 v3
abbrev X7 (v0:Bool)(v1:OA)(v2:Nat)(v3:Nat):Value:=A #[B v0,S v1 v2 v3]
abbrev X8 (v0:Bool)(v1:OA)(v2:Nat)(v3:Nat)(v4:OA)(v5:Nat)(v6:Nat):Value:=A #[B v0,S v1 v2 v3,S v4 v5 v6]
abbrev Z9 (r:Value)(K:Bool->OA->Nat->Nat->OA->Nat->Nat->Prop):Prop:=∃(v0:Bool)(v1:OA)(v2:Nat)(v3:Nat)(v4:OA)(v5:Nat)(v6:Nat),r=A #[B v0,S v1 v2 v3,S v4 v5 v6]/\K v0 v1 v2 v3 v4 v5 v6
abbrev Q3 (r:Value)(K:OA->Nat->Nat->Bool->Prop):Prop:=∃(v0:OA)(v1:Nat)(v2:Nat)(v3:Bool),r=T #[S v0 v1 v2,B v3]/\K v0 v1 v2 v3
abbrev cE (r:Value)(K:Int->Int->OA->Prop):Prop:=∃(v0:Int)(v1:Int)(v2:OA),r=A #[I J v0,I J v1,P v2]/\K v0 v1 v2
abbrev aI (v0:Int)(v1:Int)(v2:OA):Value:=A #[I J v0,I J v1,P v2]
abbrev JL (r:Value)(K:Int->Bool->Prop):Prop:=∃(v0:Int)(v1:Bool),r=T #[I J v0,B v1]/\K v0 v1
abbrev Z14 (r:Value)(K:Int->Int->Prop):Prop:=∃(v0:Int)(v1:Int),r=T #[I U v0,I U v1]/\K v0 v1
abbrev d_ (v0:Bool)(v1:OA)(v2:Nat)(v3:Nat)(v4:OA)(v5:Nat)(v6:Nat)(v7:Bool)(v8:OA)(v9:Nat)(v10:Nat)(v11:OA)(v12:Nat)(v13:Nat):Value:=A #[B v0,S v1 v2 v3,S v4 v5 v6,B v7,S v8 v9 v10,S v11 v12 v13]
abbrev kO (r:Value)(K:Bool->OA->Nat->Nat->OA->Nat->Nat->Bool->OA->Nat->Nat->OA->Nat->Nat->Prop):Prop:=∃(v0:Bool)(v1:OA)(v2:Nat)(v3:Nat)(v4:OA)(v5:Nat)(v6:Nat)(v7:Bool)(v8:OA)(v9:Nat)(v10:Nat)(v11:OA)(v12:Nat)(v13:Nat),r=A #[B v0,S v1 v2 v3,S v4 v5 v6,B v7,S v8 v9 v10,S v11 v12 v13]/\K v0 v1 v2 v3 v4 v5 v6 v7 v8 v9 v10 v11 v12 v13
abbrev jn (v0:Bool)(v1:OA)(v2:Nat)(v3:Nat)(v4:Bool)(v5:OA)(v6:Nat)(v7:Nat)(v8:Bool)(v9:OA)(v10:Nat)(v11:Nat):Value:=A #[B v0,S v1 v2 v3,B v4,S v5 v6 v7,B v8,S v9 v10 v11]
abbrev kt (v0:Int)(v1:Int)(v2:OA)(v3:Int)(v4:Int)(v5:OA)(v6:Int)(v7:Int)(v8:OA):Value:=A #[I J v0,I J v1,P v2,I J v3,I J v4,P v5,I J v6,I J v7,P v8]
abbrev ku (v0:Int)(v1:Int)(v2:OA)(v3:Int)(v4:Int)(v5:OA):Value:=A #[I J v0,I J v1,P v2,I J v3,I J v4,P v5]
abbrev vf (r:Value)(K:Int->Int->OA->Int->Int->OA->Prop):Prop:=∃(v0:Int)(v1:Int)(v2:OA)(v3:Int)(v4:Int)(v5:OA),r=A #[I J v0,I J v1,P v2,I J v3,I J v4,P v5]/\K v0 v1 v2 v3 v4 v5
abbrev Hr (v0:Int)(v1:Int)(v2:OA)(v3:Int)(v4:Int)(v5:OA)(v6:Bool)(v7:Bool):Value:=A #[I J v0,I J v1,P v2,I J v3,I J v4,P v5,B v6,B v7]
abbrev Z22 (r:Value)(K:Int->Int->OA->Int->Int->OA->Bool->Bool->Prop):Prop:=∃(v0:Int)(v1:Int)(v2:OA)(v3:Int)(v4:Int)(v5:OA)(v6:Bool)(v7:Bool),r=A #[I J v0,I J v1,P v2,I J v3,I J v4,P v5,B v6,B v7]/\K v0 v1 v2 v3 v4 v5 v6 v7
abbrev Po (a:OA)(n:Nat)(m:View)(K:Int->Int->OA->Int->Int->OA->Int->Int->OA->Int->Int->OA->Int->Int->OA->Bool->Bool->Addr->Prop):Prop:=∃(v0:Int)(v1:Int)(v2:OA)(v3:Int)(v4:Int)(v5:OA)(v6:Int)(v7:Int)(v8:OA)(v9:Int)(v10:Int)(v11:OA)(v12:Int)(v13:Int)(v14:OA)(v15:Bool)(v16:Bool)(q:Addr),ag a n=some q/\m.at (q.add 0) (I J v0)/\m.at (q.add 1) (I J v1)/\m.at (q.add 2) (P v2)/\m.at (q.add 3) (I J v3)/\m.at (q.add 4) (I J v4)/\m.at (q.add 5) (P v5)/\m.at (q.add 6) (I J v6)/\m.at (q.add 7) (I J v7)/\m.at (q.add 8) (P v8)/\m.at (q.add 9) (I J v9)/\m.at (q.add 10) (I J v10)/\m.at (q.add 11) (P v11)/\m.at (q.add 12) (I J v12)/\m.at (q.add 13) (I J v13)/\m.at (q.add 14) (P v14)/\m.at (q.add 15) (B v15)/\m.at (q.add 16) (B v16)/\K v0 v1 v2 v3 v4 v5 v6 v7 v8 v9 v10 v11 v12 v13 v14 v15 v16 q
abbrev YY (v0:Int)(v1:Int)(v2:OA)(v3:Int)(v4:Int)(v5:OA)(v6:Int)(v7:Int)(v8:OA)(v9:Int)(v10:Int)(v11:OA)(v12:Int)(v13:Int)(v14:OA)(v15:Bool)(v16:Bool):Value:=A #[I J v0,I J v1,P v2,I J v3,I J v4,P v5,I J v6,I J v7,P v8,I J v9,I J v10,P v11,I J v12,I J v13,P v14,B v15,B v16]
abbrev Uj (r:Value)(K:Bool->OA->Nat->Nat->Bool->OA->Nat->Nat->Bool->OA->Nat->Nat->Prop):Prop:=∃(v0:Bool)(v1:OA)(v2:Nat)(v3:Nat)(v4:Bool)(v5:OA)(v6:Nat)(v7:Nat)(v8:Bool)(v9:OA)(v10:Nat)(v11:Nat),r=A #[B v0,S v1 v2 v3,B v4,S v5 v6 v7,B v8,S v9 v10 v11]/\K v0 v1 v2 v3 v4 v5 v6 v7 v8 v9 v10 v11
abbrev Il (a:OA)(n:Nat)(m:View)(K:Bool->OA->Nat->Nat->Bool->OA->Nat->Nat->Bool->OA->Nat->Nat->Addr->Prop):Prop:=∃(v0:Bool)(v1:OA)(v2:Nat)(v3:Nat)(v4:Bool)(v5:OA)(v6:Nat)(v7:Nat)(v8:Bool)(v9:OA)(v10:Nat)(v11:Nat)(q:Addr),ag a n=some q/\m.at (q.add 0) (B v0)/\m.at (q.add 1) (S v1 v2 v3)/\m.at (q.add 2) (B v4)/\m.at (q.add 3) (S v5 v6 v7)/\m.at (q.add 4) (B v8)/\m.at (q.add 5) (S v9 v10 v11)/\K v0 v1 v2 v3 v4 v5 v6 v7 v8 v9 v10 v11 q
abbrev Y27 (a:OA)(n:Nat)(m:View)(K:Int->Int->OA->Int->Int->OA->Int->Int->OA->Addr->Prop):Prop:=∃(v0:Int)(v1:Int)(v2:OA)(v3:Int)(v4:Int)(v5:OA)(v6:Int)(v7:Int)(v8:OA)(q:Addr),ag a n=some q/\m.at (q.add 0) (I J v0)/\m.at (q.add 1) (I J v1)/\m.at (q.add 2) (P v2)/\m.at (q.add 3) (I J v3)/\m.at (q.add 4) (I J v4)/\m.at (q.add 5) (P v5)/\m.at (q.add 6) (I J v6)/\m.at (q.add 7) (I J v7)/\m.at (q.add 8) (P v8)/\K v0 v1 v2 v3 v4 v5 v6 v7 v8 q
abbrev U_ (a:OA)(n:Nat)(m:View)(K:Int->Int->OA->Int->Int->OA->Addr->Prop):Prop:=∃(v0:Int)(v1:Int)(v2:OA)(v3:Int)(v4:Int)(v5:OA)(q:Addr),ag a n=some q/\m.at (q.add 0) (I J v0)/\m.at (q.add 1) (I J v1)/\m.at (q.add 2) (P v2)/\m.at (q.add 3) (I J v3)/\m.at (q.add 4) (I J v4)/\m.at (q.add 5) (P v5)/\K v0 v1 v2 v3 v4 v5 q
abbrev C9 (v0:OA)(v1:Nat)(v2:Nat):Value:=A #[S v0 v1 v2]
abbrev Va (r:Value)(K:OA->Nat->Nat->Prop):Prop:=∃(v0:OA)(v1:Nat)(v2:Nat),r=A #[S v0 v1 v2]/\K v0 v1 v2
abbrev Ro (a:OA)(n:Nat)(m:View)(K:Bool->OA->Nat->Nat->OA->Nat->Nat->Bool->OA->Nat->Nat->OA->Nat->Nat->Addr->Prop):Prop:=∃(v0:Bool)(v1:OA)(v2:Nat)(v3:Nat)(v4:OA)(v5:Nat)(v6:Nat)(v7:Bool)(v8:OA)(v9:Nat)(v10:Nat)(v11:OA)(v12:Nat)(v13:Nat)(q:Addr),ag a n=some q/\m.at (q.add 0) (B v0)/\m.at (q.add 1) (S v1 v2 v3)/\m.at (q.add 2) (S v4 v5 v6)/\m.at (q.add 3) (B v7)/\m.at (q.add 4) (S v8 v9 v10)/\m.at (q.add 5) (S v11 v12 v13)/\K v0 v1 v2 v3 v4 v5 v6 v7 v8 v9 v10 v11 v12 v13 q
abbrev Z32 (r:Value)(K:Bool->OA->Nat->Nat->OA->Nat->Nat->Bool->OA->Nat->Nat->OA->Nat->Nat->Bool->Bool->Prop):Prop:=∃(v0:Bool)(v1:OA)(v2:Nat)(v3:Nat)(v4:OA)(v5:Nat)(v6:Nat)(v7:Bool)(v8:OA)(v9:Nat)(v10:Nat)(v11:OA)(v12:Nat)(v13:Nat)(v14:Bool)(v15:Bool),r=A #[B v0,S v1 v2 v3,S v4 v5 v6,B v7,S v8 v9 v10,S v11 v12 v13,B v14,B v15]/\K v0 v1 v2 v3 v4 v5 v6 v7 v8 v9 v10 v11 v12 v13 v14 v15
abbrev U9 (v0:Bool)(v1:OA)(v2:Nat)(v3:Nat)(v4:OA)(v5:Nat)(v6:Nat)(v7:Bool)(v8:OA)(v9:Nat)(v10:Nat)(v11:OA)(v12:Nat)(v13:Nat)(v14:Bool)(v15:Bool):Value:=A #[B v0,S v1 v2 v3,S v4 v5 v6,B v7,S v8 v9 v10,S v11 v12 v13,B v14,B v15]
end Go.Proofs.Tryz
