import Derived.Test.YtapnijmlbakblaaGreatDoorZJ4
import Derived.Orders
set_option linter.unusedVariables false
open Go.IntKind (i64 u64 u32)
namespace Go.Eng
variable {P:Program} {T:cG} {LF RF:List Nat} {m:CM}
def Good (p:Nat->Option SV)(q:Nat->Option aP)(W D:List Nat)(st:St)(V:View)(K:St->View->Prop):St->View->Prop:=
 fun st2 V2=>V.Le V2/\(∀t,t∉D->st2.ax t=st.ax t)/\(∀s,s∉W->st2.boxes s=st.boxes s)/\K (ov p q st2) V2
theorem oG {bx bx':Nat->Option aP}:∀{l:List Nat},(∀s∈l,bx' s=bx s)->l.flatMap (kv bx')=l.flatMap (kv bx)
 | [],_=>rfl
 | s::r,h=>by
  simp only [Qw5];rw [oG fun s hs=>h s (by simp [hs])];simp only [kv];rw [h s (by simp)]
theorem lY {bx bx':Nat->Option aP}:∀(n:Nat)(l:List Nat),(∀s∈reach bx n l,bx' s=bx s)->reach bx' n l=reach bx n l
 | 0,_,_=>rfl
 | n+1,l,h=>by
  have hl:∀s∈l,bx' s=bx s:=fun s a=>h s (dK (n+1) l s a);simp only [reach] at h ⊢;rw [oG hl];exact lY n _ h
theorem xm {bx bx':Nat->Option aP}{l:List Nat}(h:∀s∈l,bx' s=bx s):fZ bx' l=fZ bx l:=by
 unfold fZ;rw [Qz3,Qz4,Qz4];constructor
 ·intro g s a;have:=g s a;simp only [kv] at this ⊢;rw [h s a] at this;exact this
 ·intro g s a;have:=g s a;simp only [kv] at this ⊢;rw [h s a];exact this
theorem eP:∀{L:List Nat} {β:Nat->Nat} {k k':(Nat->Nat)->Prop},(∀β,k β->k' β)->kt L β k->kt L β k'
 | [],_,_,_,h,g=>h _ g
 | _::_,_,_,_,h,g=>fun b=>eP h (g b)
theorem vk {bx bx':Nat->Option aP}{b:aP}{β:Nat->Nat}{s:Nat}:∀{r:List Nat} {k k':Prop},(∀t∈r,bx' t=bx t)->(k->k')->LC bx b β s r k->LC bx' b β s r k'
 | [],_,_,_,h,g=>h g
 | t::r,k,k',hb,h,g=>by
  have hr:=fun t a=>hb t (Qq8 _ a);simp only [LC] at g ⊢;rw [hb t (by simp)]
  cases hbq:Nat.beq s t with
  | true=>rw [hbq] at g;exact vk hr h g
  | false=>
   rw [hbq] at g;simp only [cond_false] at g ⊢;split at g
   ·exact fun c=>vk hr h (g c)
   ·exact g
theorem iJ {bx bx':Nat->Option aP}{β:Nat->Nat}{V:View}:∀{L:List Nat} {k k':Prop},(∀s∈L,bx' s=bx s)->((∀s∈L,∃b,bx s=some b/\(b.live->V.H (β s)))->k->k')->gR bx β V L k->gR bx' β V L k'
 | [],_,_,_,h,g=>h (fun s hs=>absurd hs (by simp)) g
 | s::r,k,k',hb,h,g=>by
  have hr:=fun t a=>hb t (Qq8 _ a);simp only [gR] at g ⊢;rw [hb s (by simp)];split at g
  ·rename_i b c;refine fun e d=>iJ hr (fun f=>vk hr (fun i=>h (fun t a=>?_) i)) (g e d);rcases Qq6.1 a with rfl|a
   ·exact ⟨b,c,eA.1 d⟩
   ·exact f t a
  ·exact g
theorem jo {mv:Option (Nat×Nat)}:∀{cs zs:List C} {K K':List C->Prop},(∀c,K c->K' c)->kK mv cs zs K->kK mv cs zs K'
 | [],_,_,_,h,g=>h _ g
 | _::_,[],_,_,_,g=>g.elim
 | c::r,z::zr,K,K',h,g=>by
  simp only [kK] at g ⊢;split at g
  ·split at g
   ·split at g
    ·obtain ⟨n,c,g⟩:=g;exact ⟨n,c,jo (fun cs a=>h _ a) g⟩
    ·exact g.elim
   ·exact g.elim
  ·split at g
   ·obtain ⟨v,b,d⟩:=wK.split _ g;rename_i e;rw [e] at *;exact d _ (jo (fun cs a=>h _ a) b)
   ·exact jo (fun cs a=>h _ a) g
variable {p:Nat->Option SV} {q:Nat->Option aP}
theorem jq {mv:Option (Nat×Nat)}{β:Nat->Nat}{V:View}{W:List Nat}:∀{L:List Nat} {st:St} {k k':St->Prop},(∀s∈L,q s=none/\s∈W) ->
  (∀st',(∀t,st'.ax t=st.ax t)->(∀s,s∉W->st'.boxes s=st.boxes s)->k (ov p q st')->k' st')->dn T mv β V L (ov p q st) k->dn T mv β V L st k'
 | [],st,k,k',_,h,g=>h st (fun _=>rfl) (fun _ _=>rfl) g
 | s::r,st,k,k',hq,h,g=>by
  obtain ⟨MB,OR⟩:=hq s (by simp);have o:∀s∈r,q s=none/\s∈W:=fun s u=>hq s (by simp [u])
  have j:∀b:aP,∀l:St->Prop,(∀st',l st'=k st')->dn T mv β V r ((ov p q st).box s b) l->dn T mv β V r (st.box s b) k':=by
   intro b l m g;rw [jC MB] at g;refine jq o (fun st' a c f=>h st' a (fun v d=>?_) (by rw [←m];exact f)) g;rw [c v d,ao,if_neg (fun e=>d (by rw [e];exact OR))]
  simp only [dn] at g ⊢;rw [bQ MB] at g;split at g
  ·rename_i cs ty z;split at g
   ·rename_i i A;exact jo (fun w f=>⟨f.1,j _ _ (fun _=>rfl) f.2⟩) g
   ·exact g
  ·obtain ⟨n,a,c⟩:=g;exact ⟨n,a,j _ _ (fun _=>rfl) c⟩
  ·obtain ⟨x,n,y,a,c⟩:=g;exact ⟨x,n,y,a,j _ _ (fun _=>rfl) c⟩
  ·exact g
theorem tG (V:View)(l:List Nat):V.Le (V.ay l):=fun _ _ h=>h
theorem Ff (V:View):V.Le V.shut:=fun _ _ h=>h
theorem Ie {V V' dQ:View}{P:Prop}{b:Nat}(h:V.Le dQ)(h':V.Le V')(hb:P->V'.w.heap.size<=b\/V'.H b):V.Le (dQ.shut.cp P b):=by
 intro x o c;obtain ⟨f,g⟩:=h x o c;obtain ⟨i,j⟩:=h' x o c;refine ⟨fun a=>?_,g⟩;rcases a with a|⟨k,e,-⟩
 ·exact f a
 ·subst e;rcases hb k with d|d
  ·have:=aA j;omega
  ·exact i d
theorem Iv {m:Option Nat}{d:Nat}:dZ m d=d\/dZ m d=d+200000:=by
 cases m with
 | none=>exact .inl rfl
 | some m=>
  simp only [dZ,mP]
  cases Nat.blt m 100000 with
  | true=>exact .inl rfl
  | false=>exact .inr rfl
theorem kQ {give:Bool}{sh:Sh}{L:List Nat}{mm:Option Nat}{d:Nat}{ety:TypeId}{β:Nat->Nat}{st:St}{V V' dQ:View}{K K':St->View->Prop}{W D:List Nat}{r':Value}
  (hL:∀s∈L,q s=none/\s∈W)(hm:∀k,mm=some k->k∈L)(hp:p d=none/\d∈D)(hq:q (dZ mm d)=none/\dZ mm d∈W)(hV:V.Le V')(hV2:V.Le dQ)
  (hlv:∀s∈L,∃b,st.boxes s=some b/\(b.live->V'.H (β s)))(hK:∀s2 V2,Good p q W D st V K s2 V2->K' s2 V2)
  (h:bK T give sh L mm d ety β (ov p q st) V' K r' dQ):bK T give sh L mm d ety β st V' K' r' dQ:=by
 unfold bK at h ⊢;obtain ⟨c,a,v,y,z⟩:=h
 have j:a≠[]->V'.w.heap.size<=c\/wF mm st β c:=by
  intro f;refine (y f).imp id fun h=>?_;unfold wF at h ⊢
  cases mm with
  | none=>exact h
  | some k=>
   dsimp only at h ⊢;rw [bQ (hL k (hm k rfl)).1] at h;exact h
 have A:a≠[]->V'.w.heap.size<=c\/V'.H c:=by
  intro f;refine (j f).imp id fun h=>?_;unfold wF at h
  cases mm with
  | none=>exact h.elim
  | some k=>
   dsimp only at h;obtain ⟨B,o,g⟩:=hlv k (hm k rfl);rw [o] at h;obtain ⟨cs,ty⟩:=B
   cases cs with
   | lit cs=>have h:c=β k:=h;rw [h];exact g cq
   | row cs=>have h:c=β k:=h;rw [h];exact g bY
   | aH vs=>have h:vs≠[]/\c=β k:=h;rw [h.2];exact g (dI h.1)
 refine ⟨c,a,v,j,Sh.mono z fun x u=>⟨u.1,?_⟩⟩
 have C:(oT mm ety (ov p q st)).box (dZ mm d) ⟨.aH a,ety⟩=ov p q ((oT mm ety st).box (dZ mm d) ⟨.aH a,ety⟩):=by
  cases mm with
  | none=>exact jC hq.1
  | some k=>
   simp only [oT];rw [jC (hL k (hm k rfl)).1,jC hq.1]
 have l:=u.2;rw [C] at l
 have m:∀s∈B8 mm L,q s=none/\s∈W:=by
  intro s i
  cases mm with
  | none=>exact hL s i
  | some k=>exact hL s (vi.1 i).1
 refine jq m (fun r E F n=>?_) l;rw [jD (fun k n=>by cases n;exact hp.1)] at n;refine hK _ _ ⟨Ie hV2 hV A,?_,?_,n⟩
 ·intro t G;rw [cK,if_neg (fun e=>G (by rw [e];exact hp.2)),E];cases mm<;>rfl
 ·intro s i;show r.boxes s=_;rw [F s i,ao,if_neg (fun e=>i (by rw [e];exact hq.2))]
  cases mm with
  | none=>rfl
  | some k=>simp only [oT];rw [ao,if_neg (fun e=>i (by rw [e];exact (hL k (hm k rfl)).2))]
theorem Ip {bx:Nat->Option aP}{L:List Nat}(hcl:fZ bx L=true):∀k,k∈oY bx L->k∈L:=by
 intro k a;unfold oY at a;obtain ⟨s,b,a⟩:=Qw6.1 (bI.1 a);split at a
 ·rename_i cs ty d;refine eQ hcl b d k ?_
  have:∀cs:List C,k∈nP cs->k∈cs.flatMap C.ids:=by
   intro cs
   induction cs with
   | nil=>exact fun h=>nomatch h
   | cons c r ih=>
    intro h;rw [Qw5,Qw2]
    cases c<;>simp only [nP,Qq6] at h<;>first
     | exact .inr (ih h)
     | (rcases h with h|h
        ·left;simp [C.ids,h]
        ·exact .inr (ih h))
  exact this cs a
 ·cases a
theorem uI {xs:List SV}:∀k,k∈kN xs->k∈xs.flatMap SV.ids:=by
 intro k
 induction xs with
 | nil=>exact fun h=>nomatch h
 | cons x r ih=>
  intro h;rw [Qw5,Qw2];unfold kN at h;split at h
  ·rename_i heq;cases heq
  ·rename_i s n c a heq;cases heq;exact .inl h
  ·rename_i s n c a heq;cases heq;exact .inl h
  ·rename_i heq;cases heq;exact .inr (ih h)
theorem rO {bx bx':Nat->Option aP}{L:List Nat}(h:∀s∈L,bx' s=bx s):oY bx' L=oY bx L:=by
 unfold oY;congr 1
 induction L with
 | nil=>rfl
 | cons s r ih=>simp only [Qw5];rw [h s (by simp),ih fun s a=>h s (by simp [a])]
theorem fy {st:St}{mm:Option Nat}{d:Nat}(h:q (dZ mm d)=none):iL (ov p q st) mm d=iL st mm d:=by
 unfold iL;rw [bQ h]
theorem rM {bx bx':Nat->Option aP}{β:Nat->Nat}{N:Nat}{L:List Nat}(h:∀s∈L,bx' s=bx s):L.map (cJ bx' β N)=L.map (cJ bx β N):=
 Qj8 fun s a=>by unfold cJ;rw [h s a]
theorem Dj:∀{L:List Nat} {st:St},(∀s∈L,q s=none)->cW (ov p q st) L 0=ov p q (cW st L 0)
 | [],_,_=>rfl
 | s::r,st,h=>by
  show cW ((ov p q st).box s ⟨.aH [],0⟩) r 0=ov p q (cW (st.box s ⟨.aH [],0⟩) r 0);rw [jC (h s (by simp))];exact Dj fun s hs=>h s (by simp [hs])
theorem zm {bx bx':Nat->Option aP}{β:Nat->Nat}{V:View}:∀{L:List Nat} {k k':Prop},(∀s∈L,bx' s=bx s)->(k->k')->pg bx β V L k->pg bx' β V L k'
 | [],_,_,_,h,g=>h g
 | s::r,k,k',hb,h,g=>by
  simp only [pg] at g ⊢;rw [hb s (by simp)];split at g
  ·exact fun h1=>zm (fun t ht=>hb t (Qq8 _ ht)) h (g h1)
  ·exact g.elim
theorem h_ {f:FuncId}{xs:List SV}{ty:TypeId}{dst:Option Nat}{st:St}{V:View}{K:St->View->Prop}{W D:List Nat}
  (hm:m=.none\/((m=.ay\/m=.give)/\(∀s∈reach (ov p q st).boxes 3 (dedup (xs.flatMap SV.ids)),q s=none/\s∈W)/\∀k,dst=some k->∀mm,q (dZ mm k)=none/\dZ mm k∈W))(hd:∀k,dst=some k->p k=none/\k∈D)
  {K':St->View->Prop}(hK:∀s2 V2,Good p q W D st V K s2 V2->K' s2 V2)(hv:eE P T m f xs ty dst (ov p q st) V K):eE P T m f xs ty dst st V K':=by
 have B:∀(n:St)(x:SV),(∀t,n.ax t=st.ax t)->∀t,t∉D->(n.put dst x).ax t=st.ax t:=by
  intro n x h t i
  cases dst with
  | none=>exact h t
  | some d=>rw [cK,if_neg (fun e=>i (by rw [e];exact (hd d rfl).2))];exact h t
 have H:∀(n:St)(x:SV),(n.put dst x).boxes=n.boxes:=by intro n x;cases dst<;>rfl
 unfold eE at hv ⊢;split at hv
 ·exact hv.elim
 ·rename_i R a0
  have F:∀L,reach (ov p q st).boxes 3 (dedup (xs.flatMap SV.ids))=L->(∀s∈L,q s=none)->reach st.boxes 3 (dedup (xs.flatMap SV.ids))=L:=by
   intro L Z Xi;rw [←Z];exact lY 3 _ fun s v=>(bQ (Xi s (by rw [←Z];exact v))).symm
  have Lo:∀s∈xs.flatMap SV.ids,s∈reach (ov p q st).boxes 3 (dedup (xs.flatMap SV.ids)):=fun s v=>dK 3 _ s (bI.2 v);generalize hr:reach (ov p q st).boxes 3 (dedup (xs.flatMap SV.ids))=L at hv hm Lo
  cases L with
  | nil=>
   rw [F _ hr (fun s v=>nomatch v)]
   have plain:(∀c:View,V.Le c->aa P f (aN (fun _=>0) xs) c fun r z=>R.ex fun x=>r=x.den (fun _=>0)/\K ((ov p q st).put dst x) z) ->
     ∀c:View,V.Le c->aa P f (aN (fun _=>0) xs) c fun r z=>R.ex fun x=>r=x.den (fun _=>0)/\K' (st.put dst x) z:=by
    intro hv c b;refine (hv c b).mono fun r z hle l=>Sh.mono l fun x I=>⟨I.1,?_⟩;have A:=I.2;rw [jD (fun k l=>(hd k l).1)] at A;exact hK _ _ ⟨b.trans hle,B st x fun _=>rfl,fun s _=>by rw [H],A⟩
   rcases hm with rfl|⟨rfl|rfl,-,g⟩
   ·exact plain hv
   ·exact plain hv
   ·dsimp only at hv ⊢;split at hv
    ·rename_i d o a1;rw [fy (g d rfl Option.none).1] at hv;split at hv
     ·exact hv.elim
     ·rename_i u;intro c b;refine (hv c b).mono fun r z hle l=>?_;exact kQ (W:=W) (D:=D) (fun s v=>absurd v (by simp)) (fun k l=>by cases l) (hd d rfl) (g d rfl Option.none) b (b.trans hle) (fun s v=>absurd v (by simp)) hK l
    ·exact hv.elim
  | cons s r=>
   dsimp only at hv;split at hv
   ·exact hv.elim
   ·rename_i J
    have ay:m=.ay\/m=.give->(∀t∈s::r,q t=none/\t∈W)->(∀k,dst=some k->∀mm,q (dZ mm k)=none/\dZ mm k∈W) ->
      ∀{give:Bool} {mm:Option Nat} {d:Nat} {o:TypeId},dst=some d->(∀k,mm=some k->k∈s::r) ->
      (∀c:View,V.Le c->kt (s::r) (fun _=>0) fun β=>gR (ov p q st).boxes β c (s::r) (aa P f (aN β xs) (c.ay ((s::r).map (cJ (ov p q st).boxes β c.w.heap.size))) (bK T give R (s::r) mm d o β (ov p q st) c K))) ->
      ∀c:View,V.Le c->kt (s::r) (fun _=>0) fun β=>gR st.boxes β c (s::r) (aa P f (aN β xs) (c.ay ((s::r).map (cJ st.boxes β c.w.heap.size))) (bK T give R (s::r) mm d o β st c K')):=by
     intro _ a g give mm d o C RM hv c b;have E:∀t∈s::r,st.boxes t=(ov p q st).boxes t:=fun t i=>(bQ (a t i).1).symm;refine eP (fun β M=>?_) (hv c b);rw [rM (bx:=(ov p q st).boxes) E];refine iJ (bx:=(ov p q st).boxes) E (fun hH y=>?_) M;refine y.mono fun r' z hle l=>?_;have N:V.Le z:=(b.trans (tG c _)).trans hle;exact kQ a RM (hd d C) (g d C mm) b N (fun t i=>by rw [E t i];exact hH t i) hK l
    have base:m=.ay\/m=.give->(∀t∈s::r,q t=none/\t∈W)/\(∀k,dst=some k->∀mm,q (dZ mm k)=none/\dZ mm k∈W):=by
     intro h;rcases hm with rfl|⟨-,O,A⟩
     ·rcases h with h|h<;>cases h
     ·exact ⟨O,A⟩
    have Ur:(∀t∈s::r,q t=none/\t∈W)->fZ st.boxes (s::r)=true:=fun a=>by
     rw [xm (bx:=(ov p q st).boxes) (fun t i=>(bQ (a t i).1).symm)];exact J
    split at hv
    ·exact hv.elim
    ·exact hv.elim
    ·
     obtain ⟨a,g⟩:=base (.inr rfl);rw [F _ hr (fun t i=>(a t i).1)];dsimp only;rw [Ur a];dsimp only;have G:=rO (bx:=(ov p q st).boxes) (bx':=st.boxes) (L:=s::r) (fun t i=>(bQ (a t i).1).symm);rw [G];split at hv
     ·rename_i d o O A h3;rw [fy (g d rfl _).1] at hv;split at hv
      ·exact hv.elim
      ·rename_i u;exact ay (.inr rfl) a g rfl (fun k l=>by cases l) hv
     ·rename_i d o k O A h3;have Q:k∈s::r:=Lo k (uI k (by rw [A];simp));have U:AB (ov p q st).boxes k o=AB st.boxes k o:=by unfold AB;rw [bQ (a k Q).1]
      rw [U] at hv;split at hv
      ·rw [fy (g d rfl _).1] at hv;split at hv
       ·exact hv.elim
       ·rename_i u;exact ay (.inr rfl) a g rfl (fun j X=>by cases X;exact Q) hv
      ·rw [Dj (fun t i=>(a t i).1),fy (g d rfl _).1] at hv;split at hv
       ·exact hv.elim
       ·rename_i u;split at hv
        ·exact hv.elim
        ·intro c b;refine eP (fun β M=>?_) (hv c b);refine zm (bx:=(ov p q st).boxes) (fun t i=>(bQ (a t i).1).symm) (fun y=>?_) M;refine y.mono fun r' z hle l=>?_;exact kQ (W:=W) (D:=D) (st:=cW st (s::r) 0) (fun s v=>absurd v (by simp)) (fun k l=>by cases l) (hd d rfl) (g d rfl Option.none) b (b.trans hle) (fun s v=>absurd v (by simp)) (fun s2 V2 S=>hK s2 V2 ⟨S.1,fun t i=>(S.2.1 t i).trans (by rw [jw]),fun t i=>(S.2.2.1 t i).trans (by rw [a_,if_neg fun h=>i (a t h).2]),S.2.2.2⟩) l
     ·exact hv.elim
    ·
     obtain ⟨a,g⟩:=base (.inl rfl);rw [F _ hr (fun t i=>(a t i).1)];dsimp only;rw [Ur a];dsimp only;have E:∀t∈s::r,st.boxes t=(ov p q st).boxes t:=fun t i=>(bQ (a t i).1).symm;have G:=rO (bx:=(ov p q st).boxes) (bx':=st.boxes) (L:=s::r) E;rw [G];split at hv
     ·intro c b;refine eP (fun β M=>?_) (hv c b);rw [rM (bx:=(ov p q st).boxes) E];refine iJ (bx:=(ov p q st).boxes) E (fun _ y=>?_) M;refine y.mono fun r' z hle l=>Sh.mono l fun x I=>⟨I.1,?_⟩;refine jq a (fun n O A l=>?_) I.2;rw [jD (fun k l=>(hd k l).1)] at l;exact hK _ _ ⟨((b.trans (tG c _)).trans hle).trans (Ff _),B n x O,fun t i=>by rw [H];exact A t i,l⟩
     ·rename_i k l;have Mx:k∈s::r:=Ip J k (by rw [l];simp);have Y:jT st.boxes k=jT (ov p q st).boxes k:=by unfold jT;rw [E k Mx]
      rw [Y];split at hv
      ·rename_i d o a2;rw [fy (g d rfl _).1] at hv;split at hv
       ·exact hv.elim
       ·rename_i u;exact ay (.inl rfl) a g rfl (fun j X=>by cases X;exact Mx) hv
      ·exact hv.elim
     ·exact hv.elim
    ·rcases hm with h|h
     ·cases h
     ·rcases h.1 with h|h<;>cases h
theorem Cw {bx:Nat->Option aP}:∀(n:Nat) {l l':List Nat},(∀x∈l,x∈l')->∀x∈reach bx n l,x∈reach bx n l'
 | 0,_,_,h,x,hx=>h x hx
 | n+1,l,l',h,x,hx=>by
  simp only [reach] at hx ⊢;refine Cw n (fun y hy=>?_) x hx;rw [bI,Qw2] at hy ⊢;rcases hy with hy|hy
  ·exact .inl (h y hy)
  ·obtain ⟨z,hz,hy⟩:=Qw6.1 hy;exact .inr (Qw6.2 ⟨z,h z hz,hy⟩)
theorem se {f:FuncId}{xs:List SV}{ty:TypeId}{dst:Option Nat}{st:St}{V:View}{K:St->View->Prop}{W D:List Nat}
  (hm:m=.none\/((m=.ay\/m=.give)/\(∀s∈reach (ov p q st).boxes 3 (dedup (xs.flatMap SV.ids)),q s=none/\s∈W)/\∀k,dst=some k->∀mm,q (dZ mm k)=none/\dZ mm k∈W))(hd:∀k,dst=some k->p k=none/\k∈D)
  {K':St->View->Prop}(hK:∀s2 V2,Good p q W D st V K s2 V2->K' s2 V2)(hv:jI P T m f xs ty dst (ov p q st) V K):jI P T m f xs ty dst st V K':=by
 have a:=hm
 cases m with
 | ay=>
  obtain ⟨b,d⟩:(∀s∈reach (ov p q st).boxes 3 (dedup (xs.flatMap SV.ids)),q s=none/\s∈W)/\∀k,dst=some k->∀mm,q (dZ mm k)=none/\dZ mm k∈W:=by
   rcases hm with h|⟨-,b,d⟩
   ·cases h
   ·exact ⟨b,d⟩
  unfold jI at hv ⊢;dsimp only at hv ⊢;rw [pD (bx:=st.boxes) (bx':=(ov p q st).boxes) (fun s g=>bQ (b s (dK 3 _ s (bI.2 g))).1)] at hv;split at hv
  ·rename_i l c i e;exact ⟨fun he=>⟨(hv.1 he).1,h_ (.inr ⟨.inl rfl,fun s g=>b s (Cw 3 (fun x j=>bI.2 (vI e x (bI.1 j))) s g),d⟩) hd hK (hv.1 he).2⟩,fun he=>h_ a hd hK (hv.2 he)⟩
  ·exact h_ a hd hK hv
 | _=>exact h_ a hd hK hv
theorem Ar {p2:Nat->Option SV}{q2:Nat->Option aP}{st:St}(hp:∀t,p t=none\/p2 t=none)(hq:∀t,q t=none\/q2 t=none):ov p q (ov p2 q2 st)=ov p2 q2 (ov p q st):=by
 unfold ov;congr 1
 ·funext t;dsimp only;rcases hp t with h|h<;>rw [h]
 ·funext t;dsimp only;rcases hq t with h|h<;>rw [h]
def zD:Q->Option Nat
 | .app old _ _ _ _ _ _ _ _=>old
 | .qI s _ _ _ _ _ _ _=>some s
 | _=>none
def Fo (T:cG)(bx:Nat->Option aP)(l:Option (List SV))(ts:List TypeId):Q:=
 match l,ts with
 | some [b,x],[t,t']=>match aB T t,aB T t' with
  | some i,some i'=>match i.k,i'.k with
   | .slice e,.slice _=>match aB T e with
    | some ei=>bV bx e ei b x
    | none=>.fail
   | _,_=>.fail
  | _,_=>.fail
 | _,_=>.fail
def zE (bx:Nat->Option aP)(sz:Nat)(x:SV):Option (OA×Nat ⊕ List Value):=
 match x with
 | .c (.v (.slice a k _))=>some (.inl (a,k))
 | .c (.gH s o k _)=>match bx s with
  | some ⟨.row ws,_⟩=>some (.inr (bq ws o (k*sz)))
  | _=>match dz bx s with
   | some ws=>if Nat.ble (o+k*sz) ws.length then some (.inr ((ws.drop o).take (k*sz))) else none
   | none=>none
 | .c (.eU s k c)=>match bx s with
  | some ⟨.aH ws,_⟩=>some (.inr (mb ws k c sz))
  | _=>none
 | _=>none
def EW (bx:Nat->Option aP)(e:TypeId)(ei:TI)(b:SV)(src:OA×Nat ⊕ List Value):Q:=
 match b with
 | .c (.v (.slice a n c))=>.app none a [] n c src ei.size ei.bytes e
 | .c (.gH s 0 n c)=>match dz bx s,jT bx s with
  | some vs,some ty=>if Nat.beq ty e then .app (some s) none vs n c src ei.size ei.bytes e else .fail
  | _,_=>.fail
 | .c (.eU s n c)=>match bx s with
  | some ⟨.aH vs,ty⟩=>if Nat.beq ty e then .qI s vs n c src ei.size ei.bytes e else .fail
  | _=>.fail
 | _=>.fail
theorem vu {bx:Nat->Option aP}{e:TypeId}{ei:TI}{b x:SV}:bV bx e ei b x=match jv ei.zero with
  | none=>.fail
  | some zs=>if Nat.beq ei.bytes 0||Nat.beq ei.size 0||!(Nat.beq ei.size zs.length) then .fail else match zE bx ei.size x with
   | none=>.fail
   | some src=>EW bx e ei b src:=rfl
theorem FW {bx bx':Nat->Option aP}{sz:Nat}{x:SV}:(∀s∈x.ids,bx' s=bx s)->zE bx sz x=zE bx' sz x:=by
 unfold zE;split
 ·exact fun _=>rfl
 ·intro h;unfold dz;rw [h _ (by simp [SV.ids,C.ids])]
 ·intro h;rw [h _ (by simp [SV.ids,C.ids])]
 ·exact fun _=>rfl
theorem Hj {bx bx':Nat->Option aP}{e:TypeId}{ei:TI}{b:SV}{src:OA×Nat ⊕ List Value}:(∀s∈b.ids,bx' s=bx s)->EW bx e ei b src=EW bx' e ei b src:=by
 unfold EW;split
 ·exact fun _=>rfl
 ·intro h;unfold dz jT;rw [h _ (by simp [SV.ids,C.ids])]
 ·intro h;rw [h _ (by simp [SV.ids,C.ids])]
 ·exact fun _=>rfl
theorem Ec {bx bx':Nat->Option aP}{e:TypeId}{ei:TI}{b x:SV}(h:∀s∈b.ids++x.ids,bx' s=bx s):bV bx e ei b x=bV bx' e ei b x:=by
 rw [vu,vu,FW fun s a=>h s (Qn4 _ a)];have:=fun src=>Hj (bx:=bx) (bx':=bx') (e:=e) (ei:=ei) (b:=b) (src:=src) fun s a=>h s (Qj2 _ a);simp only [this]
theorem Cp {bx:Nat->Option aP}{e:TypeId}{ei:TI}{b x:SV}:∀s,zD (bV bx e ei b x)=some s->s∈b.ids:=by
 intro s h;unfold bV at h;split at h
 ·cases h
 ·split at h
  ·cases h
  ·dsimp only at h;split at h
   ·cases h
   ·split at h
    ·cases h
    ·split at h
     ·split at h
      ·cases h;simp [SV.ids,C.ids]
      ·cases h
     ·cases h
    ·split at h
     ·split at h
      ·cases h;simp [SV.ids,C.ids]
      ·cases h
     ·cases h
    ·cases h
theorem KH {bx bx':Nat->Option aP}{ys:List SV}{ts:List TypeId}{R:List Nat}(h:∀s∈ys.flatMap SV.ids,bx' s=bx s)(hR:∀s∈ys.flatMap SV.ids,s∈R) :
  Fo T bx (some ys) ts=Fo T bx' (some ys) ts/\∀s,zD (Fo T bx (some ys) ts)=some s->s∈R:=by
 unfold Fo;split
 ·rename_i b x t d c;cases c;split
  ·split
   ·split
    ·exact ⟨Ec fun s a=>h s (by simpa using a),fun s a=>hR s (by simp [Cp s a])⟩
    ·exact ⟨rfl,fun s a=>nomatch a⟩
   ·exact ⟨rfl,fun s a=>nomatch a⟩
  ·exact ⟨rfl,fun s a=>nomatch a⟩
 ·exact ⟨rfl,fun s a=>nomatch a⟩
theorem GC {bx:Nat->Option aP}{e:TypeId}{ei:TI}{b x:SV}:cI (bV bx e ei b x)=6\/bV bx e ei b x=.fail:=by
 unfold bV;split
 ·exact .inr rfl
 ·split
  ·exact .inr rfl
  ·dsimp only;split
   ·exact .inr rfl
   ·split<;>(try split)<;>(try split)<;>first|exact .inl rfl|exact .inr rfl
theorem I1 {ρ:Operand->Option SV}{bx:Nat->Option aP}{args:Array Operand}{ts:Array TypeId}:cI (aK T ρ bx (.call ⟨.builtin .append,args,ts⟩))=6\/aK T ρ bx (.call ⟨.builtin .append,args,ts⟩)=.fail:=by
 simp only [aK];split
 ·split
  ·split
   ·split
    ·exact GC
    ·exact .inr rfl
   ·exact .inr rfl
  ·exact .inr rfl
 ·exact .inr rfl
theorem AL {Q0:Q}{dst:Option Nat}{st:St}{V:View}{K K':St->View->Prop}{W D:List Nat}(ht:cI Q0=6\/Q0=.fail)
  (ho:∀s,zD Q0=some s->q s=none/\s∈W)(hd:∀k,dst=some k->(p k=none/\k∈D)/\∀s,q (mP s k)=none/\mP s k∈W)(hd0:∀k,dst=some k->q k=none/\k∈W)
  (hK:∀s2 V2,Good p q W D st V K s2 V2->K' s2 V2)(h:sO Q0 dst (ov p q st) V K):sO Q0 dst st V K':=by
 cases Q0 with
 | qI s vs n c x size bytes ty=>
  simp only [sO] at h ⊢
  cases dst with
  | none=>exact h.elim
  | some d=>
   dsimp only at h ⊢;obtain ⟨⟨u,v⟩,l⟩:=hd d rfl;obtain ⟨A,B⟩:=ho s rfl
   have core:∀k xs,rN s vs n c size bytes ty d (ov p q st) V K k xs->rN s vs n c size bytes ty d st V K' k xs:=by
    rintro k xs ⟨a,f,g,m,j,i⟩;refine ⟨a,f,g,m,j,?_⟩;rw [bQ (l s).1] at i;split at i
    ·exact i.elim
    ·intro spare w y z;have:=i spare w y z;rw [jC A,jC (l s).1,jD (fun k o=>by cases o;exact u)] at this;refine hK _ _ ⟨View.Le.refl V,?_,?_,this⟩
     ·intro t ht;rw [cK,if_neg (fun e=>ht (by rw [e];exact v))];rfl
     ·intro t ht;show ((st.box s _).box _ _).boxes t=_;rw [ao,if_neg (fun e=>ht (by rw [e];exact (l s).2)),ao,if_neg (fun e=>ht (by rw [e];exact B))]
   cases x with
   | inr xs=>exact core _ _ h
   | inl ak=>obtain ⟨xs,a,f,g⟩:=h;exact ⟨xs,a,f,core _ _ g⟩
 | app old ba vs n c x size bytes ty=>
  simp only [sO] at h ⊢
  cases dst with
  | none=>exact h.elim
  | some d=>
   dsimp only at h ⊢;obtain ⟨⟨u,v⟩,l⟩:=hd d rfl
   cases old with
   | some s=>
    dsimp only at h ⊢;obtain ⟨A,B⟩:=ho s rfl
    have core:∀k xs,Bk s vs n c size bytes ty d (ov p q st) V K k xs->Bk s vs n c size bytes ty d st V K' k xs:=by
     rintro k xs ⟨a,f,g,m,j,i⟩;refine ⟨a,f,g,m,j,?_⟩;rw [bQ (l s).1] at i;split at i
     ·exact i.elim
     ·intro b J spare w y z;have:=i b J spare w y z;rw [jC A,jC (l s).1,jD (fun k o=>by cases o;exact u)] at this;refine hK _ _ ⟨View.Le.refl V,?_,?_,this⟩
      ·intro t ht;rw [cK,if_neg (fun e=>ht (by rw [e];exact v))];rfl
      ·intro t ht;show ((st.box s _).box _ _).boxes t=_;rw [ao,if_neg (fun e=>ht (by rw [e];exact (l s).2)),ao,if_neg (fun e=>ht (by rw [e];exact B))]
    cases x with
    | inr xs=>exact core _ _ h
    | inl ak=>obtain ⟨xs,a,f,g⟩:=h;exact ⟨xs,a,f,core _ _ g⟩
   | none=>
    dsimp only at h ⊢;obtain ⟨C,E⟩:=hd0 d rfl;obtain ⟨r,y,z,F,G,h⟩:=h
    have core:∀k xs,Bl r n c size bytes ty d (ov p q st) V K k xs->Bl r n c size bytes ty d st V K' k xs:=by
     rintro k xs ⟨a,f,g,m,j⟩;refine ⟨a,f,g,m,?_⟩;rw [bQ C] at j;split at j
     ·exact j.elim
     ·intro spare w H I;have:=j spare w H I;rw [jC C,jD (fun k o=>by cases o;exact u)] at this;refine hK _ _ ⟨View.Le.refl V,?_,?_,this⟩
      ·intro t ht;rw [cK,if_neg (fun e=>ht (by rw [e];exact v))];rfl
      ·intro t ht;show (st.box d _).boxes t=_;rw [ao,if_neg (fun e=>ht (by rw [e];exact E))]
    refine ⟨r,y,z,F,G,?_⟩
    cases x with
    | inr xs=>exact core _ _ h
    | inl ak=>
     obtain ⟨xs,a,f,g,m⟩:=h;refine ⟨xs,a,f,fun e=>?_,fun e=>core _ _ (m e)⟩;have:=g e;rw [jD (fun k o=>by cases o;exact u)] at this;refine hK _ _ ⟨View.Le.refl V,?_,fun t ht=>rfl,this⟩;intro t ht;rw [cK,if_neg (fun e=>ht (by rw [e];exact v))]
 | fail=>exact h.elim
 | _=>rcases ht with ht|ht<;>cases ht
theorem p_ {h:Hint}{o:Oper}{st:St}{V:View}{K:St->View->Prop}{R W:List Nat}
  (hm:lV (aZ LF RF o.op)=true\/(aZ LF RF o.op=.call/\m=.none)\/((aZ LF RF o.op=.ka/\m=.ay)\/(aZ LF RF o.op=.give/\m=.give)\/aZ LF RF o.op=.app))
  (hrw:pv (aZ LF RF o.op) h (dm o)=some (R,W))(hp:∀t,t∈gG o.op\/t∈dm o->p t=none)(hq:∀s∈R,q s=none)
  (US:∀s∈W,q s=none){K':St->View->Prop}(hK:∀s2 V2,Good p q W (dm o) st V K s2 V2->K' s2 V2)(hv:cw P T m h o (ov p q st) V K):cw P T m h o st V K':=by
 have D3:∀t∈gG o.op,st.ax t=(ov p q st).ax t:=fun t ht=>by simp [ov,hp t (.inl ht)]
 rcases hm with hm|hm
 ·obtain ⟨p2,q2,U⟩:=mI hm hrw hv;refine U.again st V _ (View.Le.refl V) D3 (fun s n=>(bQ (hq s n)).symm) ?_;refine hK _ _ ⟨View.Le.refl V,fun t ht=>by simp [ov,U.pd t ht],fun s n=>by simp [ov,U.qd s n],?_⟩;rw [Ar]
  ·exact U.next
  ·intro t;by_cases h:t∈dm o
   ·exact .inl (hp t (.inr h))
   ·exact .inr (U.pd t h)
  ·intro s;by_cases h:s∈W
   ·exact .inl (US s h)
   ·exact .inr (U.qd s h)
 ·
  have i:∀(x:Operand),x∈o.op.operands.toList->(ov p q st).aY x=st.aY x:=fun x I=>KE fun t e=>hp t (.inl (vh I e))
  have w:∀k,o.dst=some k->p k=none/\k∈dm o:=fun k D=>by
   have:k∈dm o:=by simp [dm,D]
   exact ⟨hp k (.inr this),this⟩
  have body:(¬aZ LF RF o.op=.app)->∀(hh:∀xs f ss J args z,o.op=.call ⟨.value J,args,z⟩->bO (ov p q st).aY args.toList=some xs->(ov p q st).aY J=some (.c (.jY f ss)) ->
    m=.none\/((m=.ay\/m=.give)/\(∀s∈reach (ov p q st).boxes 3 (dedup ((xs++uw ss).flatMap SV.ids)),q s=none/\s∈W)/\∀k,o.dst=some k->∀E,q (dZ E k)=none/\dZ E k∈W)),
    cF P T m o (ov p q st) V K->cF P T m o st V K':=by
   intro a hh hv;unfold cF at hv ⊢;split at hv
   ·rename_i J args z g;have e1:bO (ov p q st).aY args.toList=bO st.aY args.toList:=dp _ fun x I=>i x (by rw [g];simp [Op.operands,Call.operands];exact .inr (by simpa using I));have e2:(ov p q st).aY J=st.aY J:=i J (by rw [g];simp [Op.operands,Call.operands]);split at hv
    ·rename_i xs j;split at hv
     ·rename_i f ss F;have L:=hh _ _ _ _ _ _ g j F;rw [e1] at j;rw [e2] at F;simp only [j,F];exact se L w hK hv
     ·exact hv.elim
    ·exact hv.elim
   ·rename_i recv name args z g
    have a2:m=.none:=by
     rw [g] at hm;rcases hm with ⟨-,h⟩|⟨h,-⟩|⟨h,-⟩|h
     ·exact h
     ·cases h
     ·cases h
     ·cases h
    have e1:bO (ov p q st).aY args.toList=bO st.aY args.toList:=dp _ fun x I=>i x (by rw [g];simp [Op.operands,Call.operands];exact .inr (by simpa using I));have e2:(ov p q st).aY recv=st.aY recv:=i recv (by rw [g];simp [Op.operands,Call.operands]);split at hv
    ·rename_i xs j;split at hv
     ·rename_i t v F;split at hv
      ·rename_i f H0;rw [e1] at j;rw [e2] at F;simp only [j,F,H0];exact se (.inl a2) w hK hv
      ·exact hv.elim
     ·exact hv.elim
    ·exact hv.elim
   ·rename_i a0 OM;exfalso
    have M:aZ LF RF o.op=.call\/aZ LF RF o.op=.ka\/aZ LF RF o.op=.give:=by
     rcases hm with ⟨h,-⟩|⟨h,-⟩|⟨h,-⟩|h
     ·exact .inl h
     ·exact .inr (.inl h)
     ·exact .inr (.inr h)
     ·exact absurd h a
    clear hm a hh;generalize g:o.op=op at M a0 OM
    cases op with
    | call c=>
     obtain ⟨E1,args,z⟩:=c
     cases E1 with
     | builtin b=>cases b<;>rcases M with h|h|h<;>cases h
     | value f=>exact a0 f args z rfl
     | invoke r nm=>exact OM r nm args z rfl
    | _=>rcases M with h|h|h<;>cases h
  have Sv:∀l:List Nat,W=l++dm o++(dm o).map (·+ 200000)->∀k,o.dst=some k->∀E,q (dZ E k)=none/\dZ E k∈W:=by
   intro l X k D E
   have:dZ E k∈W:=by
    rw [X];have a3:=(w k D).2;rcases Iv (m:=E) (d:=k) with h|h<;>rw [h]<;>simp [a3]
   exact ⟨US _ this,this⟩
  have own:∀l:List Nat,h=.own l->R=l->W=l++dm o++(dm o).map (·+ 200000)->(aZ LF RF o.op=.ka\/aZ LF RF o.op=.give\/aZ LF RF o.op=.app)->(¬aZ LF RF o.op=.app->m=.ay\/m=.give)->cw P T m h o st V K':=by
   intro l hh hR X a4 L;subst hh hR;unfold cw at hv ⊢;dsimp only at hv ⊢;split at hv
   ·rename_i Y u;split at hv
    ·rename_i G;have e0:bO (ov p q st).aY (gF o.op)=bO st.aY (gF o.op):=dp _ fun x I=>i x (vg I);rw [←e0,u];dsimp only;have B:∀s∈dH (ov p q st).boxes o.op (Y.flatMap SV.ids),s∈R:=vJ.1 G
     have e3:dH st.boxes o.op (Y.flatMap SV.ids)=dH (ov p q st).boxes o.op (Y.flatMap SV.ids):=by
      revert B;unfold dH;split
      ·intro B;exact lY 3 _ fun s n=>(bQ (hq s (B s n))).symm
      ·exact fun _=>rfl
     rw [e3,G];dsimp only;have UN:∀s∈R,s∈W:=fun s n=>by rw [X];simp [n]
     by_cases a:aZ LF RF o.op=.app
     ·
      have g:∃args z,o.op=.call ⟨.builtin .append,args,z⟩:=by
       generalize o.op=op at a
       cases op with
       | call c=>
        obtain ⟨E1,args,z⟩:=c
        cases E1 with
        | builtin b=>cases b<;>first|exact ⟨args,z,rfl⟩|cases a
        | value f=>cases f with
         | func f=>simp only [aZ] at a;split at a<;>(try split at a)<;>(try split at a)<;>(try split at a)<;>cases a
         | _=>cases a
        | _=>cases a
       | _=>cases a
      obtain ⟨args,z,g⟩:=g
      have e4:aK T st.aY st.boxes o.op=aK T (ov p q st).aY (ov p q st).boxes o.op/\∀s,zD (aK T st.aY st.boxes o.op)=some s->s∈R:=by
       have e5:bO (ov p q st).aY args.toList=bO st.aY args.toList:=by rw [g] at e0;exact e0
       have Sa:bO st.aY args.toList=some Y:=by rw [g] at u;rw [←e5];exact u
       have H:∀s∈Y.flatMap SV.ids,s∈R:=by
        intro s n;refine B s ?_;rw [g];simp only [dH];exact dK 3 _ s (bI.2 n)
       rw [g];simp only [aK];rw [e5,Sa];exact KH (fun s n=>by rw [bQ (hq s (H s n))]) H
      have N:sO (aK T (ov p q st).aY (ov p q st).boxes o.op) o.dst (ov p q st) V K:=by
       unfold cF at hv;rw [g] at hv ⊢;exact hv
      have O:sO (aK T st.aY st.boxes o.op) o.dst st V K'->cF P T m o st V K':=by
       intro h;unfold cF;rw [g] at h ⊢;exact h
      rw [←e4.1] at N;refine O ?_
      have a1:∀Z,aK T st.aY st.boxes o.op=Z->cI Z=6\/Z=.fail:=by
       intro Z hQ;rw [←hQ,g];exact I1
      generalize W3:aK T st.aY st.boxes o.op=Z at N e4
      exact AL (a1 Z W3) (fun s n=>⟨hq s (e4.2 s n),UN s (e4.2 s n)⟩) (fun k D=>⟨w k D,fun s=>by
       have:=Sv R X k D (some s);exact this⟩) (fun k D=>Sv R X k D Option.none) hK N
     ·have Q:=L a;refine body a (fun xs f ss J args z g j F=>.inr ⟨Q,fun s n=>?_,Sv R X⟩) hv
      have:s∈R:=by
       apply B;rw [g] at u ⊢;simp only [dH]
       have hy:Y.flatMap SV.ids=(xs++uw ss).flatMap SV.ids:=by
        have:∀(l:List Operand)(xs:List SV)(x:Operand)(v:SV),bO (ov p q st).aY l=some xs->(ov p q st).aY x=some v->bO (ov p q st).aY (l++[x])=some (xs++[v]):=by
         intro l
         induction l with
         | nil=>intro xs x v S h2;simp only [bO,Qq4] at S;subst S;simp [bO,h2]
         | cons o r ih=>
          intro xs x v S h2;simp only [bO] at S;split at S
          ·rename_i y l' h3 h4;cases S;simp only [Qf1,bO,h3,ih _ x v h4 h2]
          ·cases S
        simp only [gF] at u;rw [this _ _ _ _ j F] at u;cases u;simp only [Qc6];congr 1;simp [uw,SV.ids,C.ids,List.flatMap_map]
       rw [hy];exact n
      exact ⟨hq s this,UN s this⟩
    ·exact hv.elim
   ·exact hv.elim
  rcases hm with ⟨A,hm⟩|⟨A,hm⟩|⟨A,hm⟩|A
  ·rw [A] at hrw
   cases h with
   | own l=>cases hrw
   | free=>exact body (by rw [A];exact fun h=>by cases h) (fun _ _ _ _ _ _ _ _ _=>.inl hm) hv
  ·rw [A] at hrw
   cases h with
   | free=>cases hrw
   | own l=>
    simp only [pv,Qq4,Qn1] at hrw;exact own l rfl hrw.1.symm hrw.2.symm (.inl A) (fun _=>.inl hm)
  ·rw [A] at hrw
   cases h with
   | free=>cases hrw
   | own l=>
    simp only [pv,Qq4,Qn1] at hrw;exact own l rfl hrw.1.symm hrw.2.symm (.inr (.inl A)) (fun _=>.inr hm)
  ·rw [A] at hrw
   cases h with
   | free=>cases hrw
   | own l=>
    simp only [pv,Qq4,Qn1] at hrw;exact own l rfl hrw.1.symm hrw.2.symm (.inr (.inr A)) (fun h=>absurd A h)
end Go.Eng
namespace Go.Eng
variable {P:Program} {T:cG} {LF RF:List Nat}
def wO (ops:Array Oper)(o:Oper)(st:St)(k:St->Bool->Prop):Prop:=
 match o.guard with
 | none=>k st true
 | some (j,b)=>match (ops[j]?).bind (·.dst) with
  | none=>False
  | some g=>match st.ax g with
   | some (.c .tt)=>k st b
   | some (.c .ff)=>k st (!b)
   | some (.c (.v (.bool c)))=>(c=true->k (st.put (some g) (.c .tt)) b)/\(c=false->k (st.put (some g) (.c .ff)) (!b))
   | some (.oC _)=>k st false
   | _=>False
def ld (P:Program)(T:cG)(m:CM)(h:Hint)(o:Oper)(V:View)(K:St->View->Prop)(st:St)(w:Bool):Prop:=
 match w with
 | true=>cw P T m h o st V K
 | false=>K (st.put o.dst iT) V
theorem AK {m:CM}{h:Hint}{ops:Array Oper}{o:Oper}{st:St}{V:View}{K:St->View->Prop} :
  pJ P T m h ops o st V K↔wO ops o st (ld P T m h o V K):=by
 unfold pJ wO
 cases hg:o.guard with
 | none=>rfl
 | some jb=>
  obtain ⟨j,b⟩:=jb;dsimp only
  cases hd:(ops[j]?).bind (·.dst) with
  | none=>rfl
  | some g=>
   dsimp only;split<;>simp_all<;>cases b<;>rfl
def iM:Nat->Option aP:=fun _=>none
structure QP (ops:Array Oper) (o:Oper) (st:St) (k:St->Bool->Prop) (p:Nat->Option SV) (w:Bool):Prop where
 pd:∀t,t∉cZ ops o->p t=none
 next:k (ov p iM st) w
 again:∀(st2:St)(k2:St->Bool->Prop),(∀t∈cZ ops o,st2.ax t=st.ax t)->k2 (ov p iM st2) w->wO ops o st2 k2
theorem eS {ops:Array Oper}{o:Oper}{st:St}{k:St->Bool->Prop}(h:wO ops o st k):∃p w,QP ops o st k p w:=by
 unfold wO at h;split at h
 ·rename_i l;exact ⟨fun _=>none,true,fun _ _=>rfl,h,fun d q _ f=>by unfold wO;rw [l];exact f⟩
 ·rename_i j b l;split at h
  ·exact h.elim
  ·rename_i g n;have a:cZ ops o=[g]:=by simp only [cZ,l,n]
   split at h
   ·rename_i m;exact ⟨fun _=>none,b,fun _ _=>rfl,h,fun d q i f=>by unfold wO;simp only [l,n,i g (by simp [a]),m];exact f⟩
   ·rename_i m;exact ⟨fun _=>none,!b,fun _ _=>rfl,h,fun d q i f=>by unfold wO;simp only [l,n,i g (by simp [a]),m];exact f⟩
   ·rename_i c m
    cases c with
    | true=>
     refine ⟨one (some g) (.c .tt),b,fun t r=>cV (by intro e;apply r;rw [a];simpa using e.symm),?_,fun d q i f=>?_⟩
     ·have:=h.1 rfl;rw [dT] at this;exact this
     ·unfold wO;simp only [l,n,i g (by simp [a]),m];exact ⟨fun _=>by rw [dT];exact f,fun e=>by cases e⟩
    | false=>
     refine ⟨one (some g) (.c .ff),!b,fun t r=>cV (by intro e;apply r;rw [a];simpa using e.symm),?_,fun d q i f=>?_⟩
     ·have:=h.2 rfl;rw [dT] at this;exact this
     ·unfold wO;simp only [l,n,i g (by simp [a]),m];exact ⟨fun e=>(by cases e),fun _=>by rw [dT];exact f⟩
   ·rename_i xs m;exact ⟨fun _=>none,false,fun _ _=>rfl,h,fun d q i f=>by unfold wO;simp only [l,n,i g (by simp [a]),m];exact f⟩
   ·exact h.elim
theorem mj {ops:Array Oper}{o:Oper}{st:St}{k k':St->Bool->Prop}(hk:∀s w,k s w->k' s w)(h:wO ops o st k):wO ops o st k':=by
 obtain ⟨p,w,a⟩:=eS h;exact a.again st k' (fun _ _=>rfl) (hk _ _ a.next)
theorem put_comm {st:St}{d d':Option Nat}{x y:SV}(h:∀k,d=some k->d'≠some k):(st.put d x).put d' y=(st.put d' y).put d x:=by
 cases d with
 | none=>rfl
 | some d=>
  cases d' with
  | none=>rfl
  | some d'=>
   have a:d≠d':=fun e=>h d rfl (by rw [e]);simp only [St.put];congr 1;funext t;by_cases e:t=d
   ·subst e;simp [Qk4,cN a]
   ·simp [cN e]
theorem DT {ops:Array Oper}{o1 o2:Oper}{st:St}{F:St->Bool->Bool->Prop}(h:wO ops o1 st fun s w1=>wO ops o2 s fun s' w2=>F s' w1 w2) :
  wO ops o2 st fun s w2=>wO ops o1 s fun s' w1=>F s' w1 w2:=by
 by_cases k:∃g,cZ ops o1=[g]/\cZ ops o2=[g]
 ·obtain ⟨g,a,b⟩:=k;unfold cZ at a b;split at a
  ·cases a
  ·rename_i A B q;split at a
   ·rename_i y r;cases a;split at b
    ·cases b
    ·rename_i C D u;split at b
     ·rename_i z v;cases b;unfold wO at h ⊢;simp only [q,u,r,v] at h ⊢;split at h
      ·rename_i w;exact h
      ·rename_i w;exact h
      ·rename_i c w;simp only [cK,if_true] at h ⊢;exact h
      ·rename_i xs w;exact h
      ·exact h.elim
     ·cases b
   ·cases a
 ·obtain ⟨l,w1,m⟩:=eS h;obtain ⟨n,w2,p⟩:=eS m.next
  have x:∀o:Oper,cZ ops o=[]\/∃g,cZ ops o=[g]:=by
   intro o;unfold cZ;split
   ·exact .inl rfl
   ·split
    ·exact .inr ⟨_,rfl⟩
    ·exact .inl rfl
  have i:∀t,t∈cZ ops o1->t∉cZ ops o2:=by
   intro t d f;rcases x o1 with a|⟨y,a⟩
   ·rw [a] at d;cases d
   ·rcases x o2 with b|⟨z,b⟩
    ·rw [b] at f;cases f
    ·rw [a] at d;rw [b] at f;simp at d f;exact k ⟨t,by rw [a,d],by rw [b,f]⟩
  refine p.again st _ (fun t j=>?_) (m.again _ _ (fun t j=>?_) ?_)
  ·show st.ax t=(ov l iM st).ax t;simp [ov,m.pd t (fun h=>i t h j)]
  ·show (ov n iM st).ax t=st.ax t;simp [ov,p.pd t (i t j)]
  ·have e:ov l iM (ov n iM st)=ov n iM (ov l iM st):=Ar (fun t=>by
    by_cases j:t∈cZ ops o1
    ·exact .inr (p.pd t (i t j))
    ·exact .inl (m.pd t j)) (fun _=>.inl rfl)
   show F (ov l iM (ov n iM st)) w1 w2;rw [e];exact p.next
theorem g_ {o:Oper}{k:Nat}(h:o.dst=some k):k∈dm o:=by simp [dm,h]
theorem Kx {ops:Array Oper}{m1 m2:CM}{h1 h2:Hint}{o1 o2:Oper}{st:St}{V:View}{K:St->View->Prop}
  (hi:indep LF RF ops h1 h2 o1 o2=true)
  (hm:lV (aZ LF RF o2.op)=true\/(aZ LF RF o2.op=.call/\m2=.none)\/((aZ LF RF o2.op=.ka/\m2=.ay)\/(aZ LF RF o2.op=.give/\m2=.give)\/aZ LF RF o2.op=.app))
  (hv:pJ P T m1 h1 ops o1 st V fun st1 V1=>pJ P T m2 h2 ops o2 st1 V1 K) :
  pJ P T m2 h2 ops o2 st V fun st2 V2=>pJ P T m1 h1 ops o1 st2 V2 K:=by
 unfold indep at hi;simp only [Qx5] at hi;obtain ⟨⟨⟨⟨⟨v,c⟩,g⟩,w⟩,y⟩,l⟩:=hi;split at l
 ·rename_i U W X Y z n;simp only [Qx5] at l;obtain ⟨⟨G,H⟩,I⟩:=l;rw [BM] at c g w y G H I;have M:∀k,o2.dst=some k->o1.dst≠some k:=fun k o C=>c k (g_ C) (by simp [g_ o]);simp only [AK] at hv ⊢
  have N:wO ops o1 st fun s m=>wO ops o2 s fun A j=>ld P T m1 h1 o1 V (fun r D=>ld P T m2 h2 o2 D K r j) A m:=by
   refine mj (fun s m f=>?_) hv
   cases m with
   | true=>
    obtain ⟨p,q,i⟩:=mI v z f;obtain ⟨B,j,b⟩:=eS i.next;refine b.again s _ (fun t a=>?_) ?_
    ·show s.ax t=(ov p q s).ax t;simp [ov,i.pd t (fun h=>c t h (by simp [a]))]
    ·refine i.again _ V _ (View.Le.refl V) (fun t a=>?_) (fun _ _=>rfl) ?_
     ·show (ov B iM s).ax t=s.ax t;simp [ov,b.pd t (fun h=>y t h a)]
     ·rw [Ar (q2:=iM) _ (fun _=>.inr rfl)]
      ·exact b.next
      ·intro t;by_cases a:t∈cZ ops o2
       ·exact .inl (i.pd t (fun h=>c t h (by simp [a])))
       ·exact .inr (b.pd t a)
   | false=>
    simp only [ld] at f;obtain ⟨B,j,b⟩:=eS f;have O:∀k,o1.dst=some k->B k=none:=fun k o=>b.pd k (fun h=>c k (g_ o) (by simp [h]));refine b.again s _ (fun t a=>?_) ?_
    ·rw [dT];simp [ov,cV (d:=o1.dst) (x:=iT) (t:=t) (fun h=>c t (g_ h) (by simp [a]))]
    ·show ld P T m2 h2 o2 V K ((ov B iM s).put o1.dst iT) j;rw [jD O];exact b.next
  have Q:=DT N
  have R:wO ops o2 st fun s j=>wO ops o1 s fun A m=>ld P T m2 h2 o2 V (fun r D=>ld P T m1 h1 o1 D K r m) A j:=by
   refine mj (fun s j f=>mj (fun A m f=>?_) f) Q
   cases m with
   | true=>
    obtain ⟨p,q,i⟩:=mI v z f
    cases j with
    | true=>
     refine p_ hm n (fun t a=>i.pd t (fun h=>c t h (by rcases a with a|a<;>simp [a]))) (fun s u=>i.qd s (fun h=>G s h u)) (fun s u=>i.qd s (fun h=>I s h u)) (fun s2 V2 b=>?_) i.next;obtain ⟨J,E,L,F⟩:=b;exact i.again s2 V2 K J (fun t a=>E t (fun h=>g t h (by simp [a]))) (fun s u=>L s (fun h=>H s h u)) F
    | false=>
     refine i.again _ V K (View.Le.refl V) (fun t a=>?_) (fun s _=>by cases o2.dst<;>rfl) ?_
     ·rw [dT];simp [ov,cV (d:=o2.dst) (x:=iT) (t:=t) (fun h=>g t (g_ h) (by simp [a]))]
     ·have:=i.next;simp only [ld] at this;rw [jD (fun k o=>i.pd k (fun h=>c k h (by simp [g_ o])))] at this;exact this
   | false=>
    cases j with
    | true=>
     simp only [ld] at f ⊢;rw [dT] at f;refine p_ hm n (fun t a=>cV (fun e=>c t (g_ e) (by rcases a with a|a<;>simp [a]))) (fun s u=>rfl) (fun s u=>rfl) (fun s2 V2 b=>?_) f;have:=b.2.2.2;rw [←dT] at this;exact this
    | false=>
     simp only [ld] at f ⊢;rw [put_comm M];exact f
  refine mj (fun s j f=>?_) R
  cases j with
  | true=>
   simp only [ld] at f ⊢;obtain ⟨p,m,b⟩:=eS f;refine p_ hm n (fun t a=>b.pd t (fun h=>?_)) (fun _ _=>rfl) (fun _ _=>rfl) (fun s2 V2 S=>?_) b.next
   ·rcases a with a|a
    ·exact w t h a
    ·exact g t a (by simp [h])
   ·obtain ⟨J,E,L,F⟩:=S;exact b.again s2 _ (fun t a=>E t (fun h=>g t h (by simp [a]))) F
  | false=>
   simp only [ld] at f ⊢;obtain ⟨p,m,b⟩:=eS f;refine b.again _ _ (fun t a=>?_) ?_
   ·rw [dT];simp [ov,cV (d:=o2.dst) (x:=iT) (t:=t) (fun h=>g t (g_ h) (by simp [a]))]
   ·have:=b.next;rw [jD (fun k o=>b.pd k (fun h=>g k (g_ o) (by simp [h])))] at this;exact this
 ·cases l
end Go.Eng
namespace Go.Eng
variable {P:Program} {T:cG} {LF RF:List Nat} {n:Nat} {V0:View} {bu:Dn} {β0:Nat->Nat}
def zz (P:Program)(T:cG)(m:Nat->CM)(hint:Nat->Hint)(ops:Array Oper):Nat->Array Bool->St->View->(St->View->Prop)->Prop
 | 0,listed,st,V,K=>Region.ready .any ops listed=[]/\K st V
 | fuel+1,listed,st,V,K=>(Region.ready .any ops listed=[]->K st V) /\
  ∀i∈Region.ready .any ops listed,∀o,ops[i]?=some o->pJ P T (m i) (hint i) ops o st V fun st' V'=>zz P T m hint ops fuel (listed.setIfInBounds i true) st' V' K
theorem rZ (hT:cG.ok P T){m:Nat->CM}{hint:Nat->Hint}{ops:Array Oper}(hd:∀(i:Nat)(o:Oper),ops[i]?=some o->∀d,o.dst=some d->d<n){Q:Exit->Act->World->Prop}{K:St->View->Prop}
  (hK:∀st' β' a' w' V',Mod n V0 bu β0 st' β' a' w' V'->K st' V'->Q .normal a' w') :
  ∀(fuel:Nat)(listed:Array Bool)(st:St)(β:Nat->Nat)(a:Act)(w:World)(V:View),Mod n V0 bu β0 st β a w V->zz P T m hint ops fuel listed st V K->wpAny P .any ops Q fuel listed a w
 | 0,_,_,_,_,_,_,hM,hv=>⟨hv.1,hK _ _ _ _ _ hM hv.2⟩
 | fuel+1,listed,st,β,a,w,V,hM,hv=>by
  refine ⟨fun h=>hK _ _ _ _ _ hM (hv.1 h),fun i hi=>?_⟩;obtain ⟨-,o,ho,-⟩:=mem_ready.1 hi;have:=Ci (Q:=Q) (next:=wpAny P .any ops Q fuel (listed.setIfInBounds i true)) hT hM (hd i o ho) (hv.2 i hi o ho) (fun st' β' a' w' V' b c=>rZ hT hd hK fuel _ st' β' a' w' V' b c);unfold wpOp;rw [ho];dsimp only;split at this
  ·rename_i hw;rw [if_pos hw];exact .inl this
  ·rename_i hw;rw [if_neg hw];exact this
theorem pX {sc:List Prop}{k k':Prop}(h:k->k')(g:zC sc k):zC sc k':=by
 obtain ⟨a,b⟩:=(cS sc _).1 g;exact (cS sc _).2 ⟨a,h b⟩
theorem yp {s:Nat}{vs:List Value}{k c size bytes:Nat}{ty:TypeId}{d:Nat}{st:St}{V:View}{K K':St->View->Prop}{j:Nat}{xs:List Value}(hk:∀s V',V.Le V'->K s V'->K' s V')
  (h:Bk s vs k c size bytes ty d st V K j xs):Bk s vs k c size bytes ty d st V K' j xs:=by
 unfold Bk at h ⊢;obtain ⟨e,f,g,i,l,a⟩:=h;refine ⟨e,f,g,i,l,?_⟩;split at a
 ·exact a.elim
 ·exact fun b J spare m n o=>hk _ _ (View.Le.refl V) (a b J spare m n o)
theorem va {s:Nat}{vs:List Value}{k c size bytes:Nat}{ty:TypeId}{d:Nat}{st:St}{V:View}{K K':St->View->Prop}{j:Nat}{xs:List Value}(hk:∀s V',V.Le V'->K s V'->K' s V')
  (h:rN s vs k c size bytes ty d st V K j xs):rN s vs k c size bytes ty d st V K' j xs:=by
 unfold rN at h ⊢;obtain ⟨b,e,f,g,i,a⟩:=h;refine ⟨b,e,f,g,i,?_⟩;split at a
 ·exact a.elim
 ·exact fun spare l m n=>hk _ _ (View.Le.refl V) (a spare l m n)
theorem yq {vs:List Value}{k c size bytes:Nat}{ty:TypeId}{d:Nat}{st:St}{V:View}{K K':St->View->Prop}{j:Nat}{xs:List Value}(hk:∀s V',V.Le V'->K s V'->K' s V')
  (h:Bl vs k c size bytes ty d st V K j xs):Bl vs k c size bytes ty d st V K' j xs:=by
 unfold Bl at h ⊢;obtain ⟨b,e,f,g,a⟩:=h;refine ⟨b,e,f,g,?_⟩;split at a
 ·exact a.elim
 ·exact fun spare i l m=>hk _ _ (View.Le.refl V) (a spare i l m)
theorem Jt {Q0:Q}{dst:Option Nat}{st:St}{V:View}{K K':St->View->Prop}(hk:∀s V',V.Le V'->K s V'->K' s V')(h:sO Q0 dst st V K):sO Q0 dst st V K':=by
 cases Q0 with
 | fail=>exact h
 | ret sc x=>exact pX (hk _ _ (View.Le.refl V)) h
 | new sc b x=>
  simp only [sO] at h ⊢;split at h
  ·split at h
   ·rename_i o;exact pX (hk _ _ (View.Le.refl V)) h
   ·exact h.elim
  ·exact h.elim
 | sN sc s b=>
  simp only [sO] at h ⊢;split at h
  ·exact pX (hk _ _ (View.Le.refl V)) h
  ·exact h.elim
 | rd a sh=>
  obtain ⟨x,d,f⟩:=sh.split h;exact f _ (oZ.2 ⟨(oZ.1 d).1,hk _ _ (View.Le.refl V) (oZ.1 d).2⟩)
 | nh i of size sh=>
  obtain ⟨x,d,f⟩:=sh.split h;exact f _ ⟨d.1,hk _ _ (View.Le.refl V) d.2⟩
 | qI s i a c src size bytes ty=>
  simp only [sO] at h ⊢;split at h
  ·exact h.elim
  ·cases src with
   | inr xs=>exact va hk h
   | inl ak=>
    obtain ⟨xs,d,f,g⟩:=h;exact ⟨xs,d,f,va hk g⟩
 | app old ba i a c src size bytes ty=>
  simp only [sO] at h ⊢;split at h
  ·exact h.elim
  ·cases old with
   | some s=>
    dsimp only at h ⊢
    cases src with
    | inr xs=>exact yp hk h
    | inl ak=>
     obtain ⟨xs,d,f,g⟩:=h;exact ⟨xs,d,f,yp hk g⟩
   | none=>
    obtain ⟨i,j,k,l,m,h⟩:=h;refine ⟨i,j,k,l,m,?_⟩
    cases src with
    | inr xs=>exact yq hk h
    | inl ak=>
     obtain ⟨xs,d,f,g,n⟩:=h;exact ⟨xs,d,f,fun e=>hk _ _ (View.Le.refl V) (g e),fun e=>yq hk (n e)⟩
theorem qO {bx:Nat->Option aP}{β:Nat->Nat}{V:View}:∀{L:List Nat} {k k':Prop},(k->k')->pg bx β V L k->pg bx β V L k'
 | [],_,_,h,g=>h g
 | s::r,k,k',h,g=>by
  simp only [pg] at g ⊢;split at g
  ·exact fun h1=>qO h (g h1)
  ·exact g.elim
theorem nO {give:Bool}{sh:Sh}{L:List Nat}{mm:Option Nat}{d:Nat}{ety:TypeId}{β:Nat->Nat}{st:St}{V V' dQ:View}{K K':St->View->Prop}{r':Value}
  (hm:∀k,mm=some k->k∈L)(hV:V.Le V')(hV2:V.Le dQ)(hlv:∀s∈L,∃b,st.boxes s=some b/\(b.live->V'.H (β s)))(hk:∀s V',V.Le V'->K s V'->K' s V')
  (h:bK T give sh L mm d ety β st V' K r' dQ):bK T give sh L mm d ety β st V' K' r' dQ:=by
 refine kQ (p:=fun _=>none) (q:=iM) (W:=dZ mm d::L) (D:=[d]) (fun s c=>⟨rfl,Qq8 _ c⟩) hm ⟨rfl,by simp⟩ ⟨rfl,by simp⟩ hV hV2 hlv (fun s2 e a=>?_) h;exact hk _ _ a.1 a.2.2.2
theorem hZ {m:CM}{f:FuncId}{xs:List SV}{ty:TypeId}{dst:Option Nat}{st:St}{V:View}{K K':St->View->Prop}(hk:∀s V',V.Le V'->K s V'->K' s V')
  (h:eE P T m f xs ty dst st V K):eE P T m f xs ty dst st V K':=by
 unfold eE at h ⊢;split at h
 ·exact h.elim
 ·split at h
  ·split at h
   ·split at h
    ·split at h
     ·exact h.elim
     ·exact fun V' a=>(h V' a).mono fun _ C hle g=>nO (fun k hk=>by cases hk) a (a.trans hle) (fun s r=>absurd r (by simp)) hk g
    ·exact h.elim
   ·split at h
    ·split at h
     ·exact h.elim
     ·split at h
      ·split at h
       ·split at h
        ·refine fun V' a=>(h V' a).mono fun _ C hle g=>?_;obtain ⟨b,i⟩:=g;obtain ⟨cs,⟨D,E,F,G⟩,H⟩:=mB _ i;refine ⟨b,H _ ⟨D,E,F,hk _ _ ?_ G⟩⟩;intro x o c;obtain ⟨I,M⟩:=(a.trans hle) x o c;obtain ⟨U,N⟩:=a x o c;have:=aA N;exact ⟨fun h=>h.elim I fun h=>by have:=h.1;omega,M⟩
        ·exact h.elim
       ·exact h.elim
      ·exact h.elim
    ·exact h.elim
   ·exact fun V' a=>(h V' a).mono fun _ _ hle g=>Sh.mono g fun x c=>⟨c.1,hk _ _ (a.trans hle) c.2⟩
  ·split at h
   ·exact h.elim
   ·rename_i u;rename_i X Y Z O _
    have v:∀{e:Bool} {y:Sh} {t:Option Nat} {d:Nat} {l:TypeId} {L:List Nat},(∀k,t=some k->k∈L) ->
      (∀V':View,V.Le V'->kt L (fun _=>0) fun β=>gR st.boxes β V' L (aa P f (aN β xs) (V'.ay (L.map (cJ st.boxes β V'.w.heap.size))) (bK T e y L t d l β st V' K))) ->
      ∀V':View,V.Le V'->kt L (fun _=>0) fun β=>gR st.boxes β V' L (aa P f (aN β xs) (V'.ay (L.map (cJ st.boxes β V'.w.heap.size))) (bK T e y L t d l β st V' K')):=by
     intro e y t d l L hm h V' a;exact eP (fun β i=>iJ (fun _ _=>rfl) (fun Q n=>n.mono fun _ _ hle g=>nO hm a ((a.trans (tG V' _)).trans hle) Q hk g) i) (h V' a)
    split at h
    ·exact h.elim
    ·exact h.elim
    ·split at h
     ·split at h
      ·exact h.elim
      ·exact v (fun k hk=>by cases hk) h
     ·rename_i d l k h1 R B;split at h
      ·split at h
       ·exact h.elim
       ·refine v (fun j z=>?_) h;cases z;rw [←O];exact dK 3 _ k (bI.2 (uI k (by rw [R];simp)))
      ·split at h
       ·exact h.elim
       ·split at h
        ·exact h.elim
        ·exact fun V' a=>eP (fun β i=>qO (fun n=>n.mono fun _ _ hle g=>nO (fun k hk=>by cases hk) a (a.trans hle) (fun s r=>absurd r (by simp)) hk g) i) (h V' a)
     ·exact h.elim
    ·split at h
     ·exact fun V' a=>eP (fun β i=>iJ (fun _ _=>rfl) (fun _ n=>n.mono fun _ _ hle g=>Sh.mono g fun x c=>⟨c.1,jq (p:=fun _=>none) (q:=iM) (W:=_) (fun s r=>⟨rfl,r⟩) (fun S _ _ B=>hk _ _ (((a.trans (tG V' _)).trans hle).trans (Ff _)) B) c.2⟩) i) (h V' a)
     ·rename_i k A;split at h
      ·split at h
       ·exact h.elim
       ·refine v (fun j z=>?_) h;cases z;exact Ip u k (by rw [A];simp)
      ·exact h.elim
     ·exact h.elim
    ·split at h
     ·exact h.elim
     ·exact fun V' a=>eP (fun β i=>qO (fun n=>n.mono fun _ _ hle g=>Sh.mono g fun x c=>⟨c.1,fun J=>hk _ _ (a.trans hle) (c.2 J)⟩) i) (h V' a)
theorem r_ {m:CM}{f:FuncId}{xs:List SV}{ty:TypeId}{dst:Option Nat}{st:St}{V:View}{K K':St->View->Prop}(hk:∀s V',V.Le V'->K s V'->K' s V')
  (h:jI P T m f xs ty dst st V K):jI P T m f xs ty dst st V K':=by
 unfold jI at h ⊢;split at h
 ·split at h
  ·exact ⟨fun e=>⟨(h.1 e).1,hZ hk (h.1 e).2⟩,fun e=>hZ hk (h.2 e)⟩
  ·exact hZ hk h
 ·exact hZ hk h
theorem pI {m:CM}{o:Oper}{st:St}{V:View}{K K':St->View->Prop}(hk:∀s V',V.Le V'->K s V'->K' s V')(h:cF P T m o st V K):cF P T m o st V K':=by
 unfold cF at h ⊢;split at h
 ·split at h
  ·split at h
   ·exact r_ hk h
   ·exact h.elim
  ·exact h.elim
 ·split at h
  ·split at h
   ·split at h
    ·exact r_ hk h
    ·exact h.elim
   ·exact h.elim
  ·exact h.elim
 ·exact Jt hk h
theorem CL {m:CM}{hi:Hint}{o:Oper}{st:St}{V:View}{K K':St->View->Prop}(hk:∀s V',V.Le V'->K s V'->K' s V')(h:cw P T m hi o st V K):cw P T m hi o st V K':=by
 unfold cw at h ⊢;split at h
 ·exact pI hk h
 ·split at h
  ·split at h
   ·exact pI hk h
   ·exact h.elim
  ·exact h.elim
theorem kk {m:CM}{hi:Hint}{ops:Array Oper}{o:Oper}{st:St}{V:View}{K K':St->View->Prop}(hk:∀s V',V.Le V'->K s V'->K' s V')(h:pJ P T m hi ops o st V K):pJ P T m hi ops o st V K':=by
 rw [AK] at h ⊢;refine mj (fun s w a=>?_) h
 cases w with
 | true=>exact CL hk a
 | false=>exact hk _ _ (View.Le.refl V) a
def Il (LF RF:List Nat)(m:CM)(o:Oper):Prop:=
 lV (aZ LF RF o.op)=true\/(aZ LF RF o.op=.call/\m=.none)\/((aZ LF RF o.op=.ka/\m=.ay)\/(aZ LF RF o.op=.give/\m=.give)\/aZ LF RF o.op=.app)
theorem IG {m:CM}{h:Hint}{ops:Array Oper}{o:Oper}{st:St}{V:View}{R W:List Nat}(hq:lV (aZ LF RF o.op)=true)(hrw:pv (aZ LF RF o.op) h (dm o)=some (R,W))
  (hv:pJ P T m h ops o st V fun _ _=>False):False:=by
 rw [AK] at hv;obtain ⟨p,w,a⟩:=eS hv;have:=a.next
 cases w with
 | true=>obtain ⟨p,q,b⟩:=mI hq hrw this;exact b.next
 | false=>exact this
theorem rL {ops:Array Oper}{h1 h2:Hint}{o1 o2:Oper}(hi:indep LF RF ops h1 h2 o1 o2=true) :
  lV (aZ LF RF o1.op)=true/\(∃R W,pv (aZ LF RF o1.op) h1 (dm o1)=some (R,W))/\∃R W,pv (aZ LF RF o2.op) h2 (dm o2)=some (R,W):=by
 unfold indep at hi;simp only [Qx5] at hi;obtain ⟨⟨⟨⟨⟨b,-⟩,-⟩,-⟩,-⟩,a⟩:=hi;split at a
 ·rename_i e f g h c d;exact ⟨b,⟨_,_,c⟩,_,_,d⟩
 ·cases a
theorem Gx {ops:Array Oper}{i:Nat}{o:Oper}(ho:ops[i]?=some o){h:Hint}{R W:List Nat}(hrw:pv (aZ LF RF o.op) h (dm o)=some (R,W)):Il LF RF (jB LF RF ops i) o:=by
 unfold Il jB;rw [ho];dsimp only;generalize aZ LF RF o.op=c at hrw
 cases c with
 | odd=>cases h<;>cases hrw
 | gO=>cases h<;>cases hrw
 | call=>exact .inr (.inl ⟨rfl,rfl⟩)
 | ka=>exact .inr (.inr (.inl ⟨rfl,rfl⟩))
 | give=>exact .inr (.inr (.inr (.inl ⟨rfl,rfl⟩)))
 | app=>exact .inr (.inr (.inr (.inr rfl)))
 | _=>exact .inl rfl
section
variable {ops:Array Oper} {hint:Nat->Hint} {anc:Nat->Nat->Prop} {K:St->View->Prop}
theorem CK (hA:∀j o,ops[j]?=some o->∀i,anc j i->∃e∈o.after,Region.binds .any e=true/\(e.on=i\/anc e.on i)){i:Nat}{oi:Oper}(hi:ops[i]?=some oi) :
  ∀(fuel:Nat)(listed:Array Bool)(st:St)(V:View),(∀j,listed.getD j false=true->∀k,anc j k->listed.getD k false=true) ->
   (∀j oj,ops[j]?=some oj->j≠i->listed.getD j true=false->¬anc j i->indep LF RF ops (hint i) (hint j) oi oj=true)->i∈Region.ready .any ops listed ->
   (pJ P T (jB LF RF ops i) (hint i) ops oi st V fun st' V'=>zz P T (jB LF RF ops) hint ops fuel (listed.setIfInBounds i true) st' V' K) ->
   zz P T (jB LF RF ops) hint ops (fuel+1) listed st V K:=by
 have A:∀(listed:Array Bool)(j:Nat),(∀j,listed.getD j false=true->∀k,anc j k->listed.getD k false=true)->i∈Region.ready .any ops listed->j∈Region.ready .any ops listed->¬anc j i:=by
  intro listed j d p f F;obtain ⟨g,-⟩:=mem_ready.1 p
  have q:listed.getD i false=true->False:=by
   intro h;rcases Qy9 i listed.size with t|t
   ·simp [t] at g h;rw [g] at h;cases h
   ·simp [t] at h
  obtain ⟨-,o,u,m⟩:=mem_ready.1 f;obtain ⟨e,he,y,h⟩:=hA j o u i F;have r:=m e he y;rcases h with h|h
  ·rw [h] at r;exact q r
  ·exact q (d _ r i h)
 intro fuel
 induction fuel with
 | zero=>
  intro listed st V d a p H;refine ⟨fun h=>(by rw [h] at p;cases p),fun j f o u=>?_⟩;by_cases b:j=i
  ·subst b;rw [hi] at u;cases u;exact H
  ·exfalso;have w:=a j o u b (mem_ready.1 f).1 (A listed j d p f);obtain ⟨B,⟨R,W,C⟩,-⟩:=rL w;refine IG B C (kk (fun s V' _ h=>?_) H);have:=ready_mono f b;rw [h.1] at this;cases this
 | succ fuel ih=>
  intro listed st V d a p H;refine ⟨fun h=>(by rw [h] at p;cases p),fun j f oj c=>?_⟩;by_cases b:j=i
  ·subst b;rw [hi] at c;cases c;exact H
  ·have v:=A listed j d p f;have w:=a j oj c b (mem_ready.1 f).1 v;obtain ⟨B,⟨R,W,C⟩,M,N,G⟩:=rL w;have r:=kk (fun s V' _ h=>h.2 j (ready_mono f b) oj c) H;have I:=Kx w (Gx c G) r;refine kk (fun s V' _ h=>?_) I;obtain ⟨-,J,D,m⟩:=mem_ready.1 f;rw [c] at D;cases D
   have L:j<ops.size:=by
    rcases Qy9 j ops.size with t|t
    ·exact t
    ·rw [Qn8 t] at c;cases c
   refine ih (listed.setIfInBounds j true) s V' ?_ ?_ (ready_mono p (Wx7 b)) ?_
   ·intro k x l E;by_cases n:j=k
    ·subst n;obtain ⟨e,he,y,h⟩:=hA j oj c l E;have r:=m e he y;rcases h with h|h
     ·rw [←h];exact getD_set_true r
     ·exact getD_set_true (d _ r l h)
    ·rw [getD_set_ne false n] at x;exact getD_set_true (d k x l E)
   ·intro k ok x z g q;refine a k ok x z ?_ q;by_cases n:j=k
    ·subst n;exact (mem_ready.1 f).1
    ·rw [getD_set_ne true n] at g;exact g
   ·rw [Array.setIfInBounds_comm _ _ b];exact h
theorem FK (hA:∀j o,ops[j]?=some o->∀i,anc j i->∃e∈o.after,Region.binds .any e=true/\(e.on=i\/anc e.on i)) :
  ∀(l done:List Nat)(listed:Array Bool)(st:St)(V:View),listed.size=ops.size->(∀j,listed.getD j false=dS j done)->(∀j,j<ops.size->j∈done\/j∈l) ->
   (∀j,listed.getD j false=true->∀k,anc j k->listed.getD k false=true)->o_ ops done l=true ->
   (∀i r1 r2,l=r1++i::r2->∀j∈r2,anc j i\/∃a b,ops[i]?=some a/\ops[j]?=some b/\indep LF RF ops (hint i) (hint j) a b=true) ->
   Js P T (jB LF RF ops) hint ops l st V K->zz P T (jB LF RF ops) hint ops l.length listed st V K
 | [],done,listed,st,V,hs,hrel,Kb,_,_,_,hv=>by
  refine ⟨?_,hv⟩
  cases hr:Region.ready .any ops listed with
  | nil=>rfl
  | cons x xs=>
   exfalso;have hx:x∈Region.ready .any ops listed:=by rw [hr];simp
   obtain ⟨v,o,I,-⟩:=mem_ready.1 hx
   have w:x<ops.size:=by
    rcases Qy9 x ops.size with f|f
    ·exact f
    ·rw [Qn8 f] at I;cases I
   rcases Kb x w with h|h
   ·have m:=hrel x;rw [bZ.2 h] at m;simp [hs,w] at v m;rw [v] at m;cases m
   ·cases h
 | i::r,done,listed,st,V,hs,hrel,Kb,hcl,n,Lm,hv=>by
  simp only [o_,Qx5] at n;obtain ⟨y,n⟩:=n;unfold Ej at y;split at y
  ·rename_i E c;simp only [Qx5,Qy7,Qz4,Qd1] at y;obtain ⟨N,O⟩:=y
   have z:i<ops.size:=by
    rcases Qy9 i ops.size with f|f
    ·exact f
    ·rw [Qn8 f] at c;cases c
   have d:∀e∈E.after,Region.binds .any e=true->listed.getD e.on false=true:=by
    intro e he t;rw [hrel];rcases O e (by simpa using he) with h|h
    ·rw [t] at h;cases h
    ·exact h
   have Q:i∈Region.ready .any ops listed:=by
    refine mem_ready.2 ⟨?_,E,c,d⟩;have:=hrel i;rw [N] at this;simp [hs,z] at this ⊢;exact this
   have A:∀j,(listed.setIfInBounds i true).getD j false=true->∀k,anc j k->(listed.setIfInBounds i true).getD k false=true:=by
    intro k J l L;by_cases B:i=k
    ·subst B;obtain ⟨e,he,t,h⟩:=hA i E c l L;have v:=d e he t;rcases h with h|h
     ·rw [←h];exact getD_set_true v
     ·exact getD_set_true (hcl _ v l h)
    ·rw [getD_set_ne false B] at J;exact getD_set_true (hcl k J l L)
   refine CK hA c r.length listed st V hcl (fun j S p g C F=>?_) Q ?_
   ·have D:j<ops.size:=by
     rcases Qy9 j ops.size with f|f
     ·exact f
     ·rw [Qn8 f] at p;cases p
    have G:j∈r:=by
     rcases Kb j D with h|h
     ·exfalso;have m:=hrel j;rw [bZ.2 h] at m;simp [hs,D] at C m;rw [C] at m;cases m
     ·rcases Qq6.1 h with h|h
      ·exact absurd h g
      ·exact h
    rcases Lm i [] r rfl j G with h|⟨a,b,M,t,h⟩
    ·exact absurd h F
    ·rw [c] at M;rw [p] at t;cases M;cases t;exact h
   ·simp only [Js,c] at hv
    have q:∀s u,Js P T (jB LF RF ops) hint ops r s u K->zz P T (jB LF RF ops) hint ops r.length (listed.setIfInBounds i true) s u K:=by
     intro s u R;refine FK hA r (i::done) (listed.setIfInBounds i true) s u (by simp [hs]) ?_ ?_ A n (fun k r1 r2 e j H=>Lm k (i::r1) r2 (by rw [e];rfl) j H) R
     ·intro j;by_cases g:i=j
      ·subst g;simp [dS,Qk4,hs,z]
      ·rw [getD_set_ne false g,hrel j];simp [dS,cN (Wx7 g)]
     ·intro j H;rcases Kb j H with h|h
      ·exact .inl (by simp [h])
      ·rcases Qq6.1 h with h|h
       ·exact .inl (by simp [h])
       ·exact .inr h
    exact kk (fun s u _ h=>q s u h) hv
  ·cases y
end
theorem Hn {m i:Nat}:Mf m i=true↔m.testBit i=true:=by
 unfold Mf;rw [beq_eq,Qf8,decide_eq_true_iff];show Nat.land (m >>> i) 1=1↔_;rw [show Nat.land (m >>> i) 1=(m >>> i) &&& 1 from rfl,Nat.and_one_is_mod,Nat.shiftRight_eq_div_pow]
def Hi (acc:List Nat)(o:Oper):Nat:=o.after.toList.foldl (fun s e=>cond (Region.binds .any e) (Nat.lor (Nat.lor (Nat.shiftLeft 1 e.on) (acc.getD e.on 0)) s) s) 0
theorem Bj {acc:List Nat}{i:Nat}:∀(es:List Edge)(s:Nat),(es.foldl (fun s e=>cond (Region.binds .any e) (Nat.lor (Nat.lor (Nat.shiftLeft 1 e.on) (acc.getD e.on 0)) s) s) s).testBit i=true ->
  s.testBit i=true\/∃e∈es,Region.binds .any e=true/\(e.on=i\/(acc.getD e.on 0).testBit i=true)
 | [],s,h=>.inl h
 | e::r,s,h=>by
  simp only [Qm8] at h;rcases Bj r _ h with h1|⟨e',h1,h2,h3⟩
  ·cases hb:Region.binds .any e with
   | false=>rw [hb] at h1;exact .inl h1
   | true=>
    rw [hb] at h1;simp only [cond_true] at h1;have h1:(((1 <<< e.on) ||| (acc.getD e.on 0)) ||| s).testBit i=true:=h1;rw [Wz0,Wz0,Qd1,Qd1] at h1;rcases h1 with (h1|h1)|h1
    ·rw [Wx3,Qm3,Nat.testBit_two_pow] at h1;exact .inr ⟨e,by simp,hb,.inl (by simpa using h1)⟩
    ·exact .inr ⟨e,by simp,hb,.inr h1⟩
    ·exact .inl h1
  ·exact .inr ⟨e',by simp [h1],h2,h3⟩
theorem yo:∀(l:List Oper)(acc:List Nat),∃ext,l.foldl (fun acc o=>acc++[Hi acc o]) acc=acc++ext/\∀k o,l[k]?=some o->∃pre QL,ext=pre++QL/\ext.getD k 0=Hi (acc++pre) o
 | [],acc=>⟨[],by simp,fun k o h=>by simp at h⟩
 | o::r,acc=>by
  obtain ⟨ext,h1,h2⟩:=yo r (acc++[Hi acc o]);refine ⟨Hi acc o::ext,by simp [h1],fun k a h=>?_⟩
  cases k with
  | zero=>
   simp at h;subst h;exact ⟨[],_,rfl,by simp⟩
  | succ k=>
   simp at h;obtain ⟨pre,QL,b,c⟩:=h2 k a h;exact ⟨Hi acc o::pre,QL,by simp [b],by simpa using c⟩
theorem Du {ops:List Oper}(j:Nat)(o:Oper)(ho:ops[j]?=some o):∀i,((FV ops).getD j 0).testBit i=true->∃e∈o.after,Region.binds .any e=true/\(e.on=i\/((FV ops).getD e.on 0).testBit i=true):=by
 intro i c;obtain ⟨ext,d,f⟩:=yo ops [];have he:FV ops=ext:=(show FV ops=[]++ext from d).trans (Qn3 _);obtain ⟨pre,n,g,k⟩:=f j o ho;rw [he,k] at c;rcases Bj _ _ c with h|⟨e,l,m,a⟩
 ·simp at h
 ·refine ⟨e,by simpa using l,m,?_⟩;rcases a with a|a
  ·exact .inl a
  ·right;simp only [Qn3] at a;rw [he,g];rcases Qy9 e.on pre.length with b|b
   ·simpa [Qw8 b] using a
   ·simp [b] at a
theorem vr {ops:Array Oper}{hs:List Hint}{an:List Nat}:∀{l:List Nat},tH LF RF ops hs an l=true->∀i r1 r2,l=r1++i::r2->∀j∈r2,(an.getD j 0).testBit i=true\/∃a b,ops[i]?=some a/\ops[j]?=some b/\indep LF RF ops (hs.getD i .free) (hs.getD j .free) a b=true
 | [],_,i,r1,r2,e,_,_=>by simp at e
 | x::l,h,i,r1,r2,e,j,hj=>by
  simp only [tH,Qx5,Qz4] at h
  cases r1 with
  | nil=>
   simp at e;obtain ⟨rfl,rfl⟩:=e;have:=h.1 j hj;rw [Qd1] at this;rcases this with c|c
   ·exact .inl (Hn.1 c)
   ·split at c
    ·rename_i a b d f;exact .inr ⟨a,b,d,f,c⟩
    ·cases c
  | cons y r1=>
   simp at e;exact vr h.2 i r1 r2 e.2 j hj
theorem Ev {m:Nat->CM}{hint:Nat->Hint}{ops:Array Oper}:∀{l:List Nat} {st:St} {V:View} {K K':St->View->Prop},(∀s V',V.Le V'->K s V'->K' s V')->Js P T m hint ops l st V K->Js P T m hint ops l st V K'
 | [],_,V,_,_,hk,h=>hk _ _ (View.Le.refl V) h
 | i::r,st,V,K,K',hk,h=>by
  simp only [Js] at h ⊢;split at h
  ·exact kk (fun s V' hle h=>Ev (fun s dQ hle' h=>hk s dQ (hle.trans hle') h) h) h
  ·exact h.elim
theorem pf {st:St}{β:Nat->Nat}{a:Act}{w:World}{V:View}(hT:cG.ok P T)(hmx:P.follows .mixedOrders=true)(hM:Mod n V0 bu β0 st β a w V){id:Nat}{ops:Array Oper}{draw:Bool}
  (hd:∀(i:Nat)(o:Oper),ops[i]?=some o->∀d,o.dst=some d->d<n){Q:Exit->Act->World->Prop}{K:Exit->St->View->Prop}
  (hv:CN P T LF RF ops draw st V (K .normal))(hK:∀st' β' a' w' V',Mod n V0 bu β0 st' β' a' w' V'->V.Le V'->K .normal st' V'->Q .normal a' w'):(Code.region id ops draw).wp P Q a w:=by
 cases draw with
 | false=>
  simp only [CN] at hv;exact wp_region (zh (K:=fun s V'=>V.Le V'/\K .normal s V') hT hd (fun st' β' a' w' V' b h=>hK st' β' a' w' V' b h.1 h.2) _ st β a w V hM (Ev (fun s V' hle h=>⟨hle,h⟩) hv))
 | true=>
  simp only [CN] at hv;split at hv
  ·rename_i e;simp only [Fk,Qx5,Qz4,List.mem_range] at e;obtain ⟨⟨⟨f,g⟩,k⟩,l⟩:=e;refine wp_region_any hmx ?_
   have:=FK (P:=P) (T:=T) (LF:=LF) (RF:=RF) (ops:=ops) (hint:=fun i=>(ops.toList.map (HZ LF RF st ops.toList)).getD i .free) (anc:=fun j i=>((FV ops.toList).getD j 0).testBit i=true) (K:=fun s V'=>V.Le V'/\K .normal s V')
    (fun j o e=>Du j o (by simpa using e)) (nS LF RF ops) [] (Array.replicate ops.size false) st V (by simp) (fun j=>by
     simp only [dS,Array.getD];split<;>simp) (fun j c=>.inr (bZ.1 (g j c))) (fun j c=>by
     exfalso;simp only [Array.getD] at c;split at c<;>simp at c) k (vr l) (Ev (fun s V' hle h=>⟨hle,h⟩) hv)
   rw [beq_eq.1 f] at this;exact rZ hT hd (fun st' β' a' w' V' b h=>hK st' β' a' w' V' b h.1 h.2) _ _ _ β _ _ _ hM.drew this
  ·exact hv.elim
end Go.Eng
