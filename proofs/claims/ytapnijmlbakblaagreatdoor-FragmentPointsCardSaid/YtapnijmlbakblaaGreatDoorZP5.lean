import Derived.Test.YtapnijmlbakblaaGreatDoorZP4
import Derived.Orders
set_option linter.unusedVariables false
open Go.IntKind (i64 u64 u32)
namespace Go.Eng
variable {P:Program} {T:cI} {LF RF:List Nat} {m:CM}
def Good (p:Nat->Option SV)(q:Nat->Option aP)(W D:List Nat)(st:St)(V:View)(K:St->View->Prop):St->View->Prop:=
 fun st2 V2=>V.Le V2/\(∀t,t∉D->st2.ay t=st.ay t)/\(∀s,s∉W->st2.boxes s=st.boxes s)/\K (ov p q st2) V2
theorem oM {bx bx':Nat->Option aP}:∀{l:List Nat},(∀s∈l,bx' s=bx s)->l.flatMap (kE bx')=l.flatMap (kE bx)
 | [],_=>rfl
 | s::r,h=>by
  simp only [Qw8];rw [oM fun s hs=>h s (by simp [hs])];simp only [kE];rw [h s (by simp)]
theorem mc {bx bx':Nat->Option aP}:∀(n:Nat)(l:List Nat),(∀s∈reach bx n l,bx' s=bx s)->reach bx' n l=reach bx n l
 | 0,_,_=>rfl
 | n+1,l,h=>by
  have hl:∀s∈l,bx' s=bx s:=fun s a=>h s (dR (n+1) l s a);simp only [reach] at h ⊢;rw [oM hl];exact mc n _ h
theorem xy {bx bx':Nat->Option aP}{l:List Nat}(h:∀s∈l,bx' s=bx s):gi bx' l=gi bx l:=by
 unfold gi;rw [Qx6,Qz0,Qz0];constructor
 ·intro g s a;have:=g s a;simp only [kE] at this ⊢;rw [h s a] at this;exact this
 ·intro g s a;have:=g s a;simp only [kE] at this ⊢;rw [h s a];exact this
theorem eS:∀{L:List Nat} {β:Nat->Nat} {k k':(Nat->Nat)->Prop},(∀β,k β->k' β)->kC L β k->kC L β k'
 | [],_,_,_,h,g=>h _ g
 | _::_,_,_,_,h,g=>fun b=>eS h (g b)
theorem vw {bx bx':Nat->Option aP}{b:aP}{β:Nat->Nat}{s:Nat}:∀{r:List Nat} {k k':Prop},(∀t∈r,bx' t=bx t)->(k->k')->LY bx b β s r k->LY bx' b β s r k'
 | [],_,_,_,h,g=>h g
 | t::r,k,k',hb,h,g=>by
  have hr:=fun t a=>hb t (Qq8 _ a);simp only [LY] at g ⊢;rw [hb t (by simp)]
  cases hbq:Nat.beq s t with
  | true=>rw [hbq] at g;exact vw hr h g
  | false=>
   rw [hbq] at g;simp only [cond_false] at g ⊢;split at g
   ·exact fun c=>vw hr h (g c)
   ·exact g
theorem iM {bx bx':Nat->Option aP}{β:Nat->Nat}{V:View}:∀{L:List Nat} {k k':Prop},(∀s∈L,bx' s=bx s)->((∀s∈L,∃b,bx s=some b/\(b.live->V.H (β s)))->k->k')->hU bx β V L k->hU bx' β V L k'
 | [],_,_,_,h,g=>h (fun s hs=>absurd hs (by simp)) g
 | s::r,k,k',hb,h,g=>by
  have hr:=fun t a=>hb t (Qq8 _ a);simp only [hU] at g ⊢;rw [hb s (by simp)];split at g
  ·rename_i b c;refine fun e d=>iM hr (fun f=>vw hr (fun i=>h (fun t a=>?_) i)) (g e d);rcases Qq4.1 a with rfl|a
   ·exact ⟨b,c,eL.1 d⟩
   ·exact f t a
  ·exact g
theorem jt {mv:Option (Nat×Nat)}:∀{cs zs:List C} {K K':List C->Prop},(∀c,K c->K' c)->kN mv cs zs K->kN mv cs zs K'
 | [],_,_,_,h,g=>h _ g
 | _::_,[],_,_,_,g=>g.elim
 | c::r,z::zr,K,K',h,g=>by
  simp only [kN] at g ⊢;split at g
  ·split at g
   ·split at g
    ·obtain ⟨n,c,g⟩:=g;exact ⟨n,c,jt (fun cs a=>h _ a) g⟩
    ·exact g.elim
   ·exact g.elim
  ·split at g
   ·obtain ⟨v,b,d⟩:=wS.split _ g;rename_i e;rw [e] at *;exact d _ (jt (fun cs a=>h _ a) b)
   ·exact jt (fun cs a=>h _ a) g
variable {p:Nat->Option SV} {q:Nat->Option aP}
theorem ju {mv:Option (Nat×Nat)}{β:Nat->Nat}{V:View}{W:List Nat}:∀{L:List Nat} {st:St} {k k':St->Prop},(∀s∈L,q s=none/\s∈W) ->
  (∀st',(∀t,st'.ay t=st.ay t)->(∀s,s∉W->st'.boxes s=st.boxes s)->k (ov p q st')->k' st')->dz T mv β V L (ov p q st) k->dz T mv β V L st k'
 | [],st,k,k',_,h,g=>h st (fun _=>rfl) (fun _ _=>rfl) g
 | s::r,st,k,k',hq,h,g=>by
  obtain ⟨MG,OP⟩:=hq s (by simp);have o:∀s∈r,q s=none/\s∈W:=fun s u=>hq s (by simp [u])
  have j:∀b:aP,∀l:St->Prop,(∀st',l st'=k st')->dz T mv β V r ((ov p q st).box s b) l->dz T mv β V r (st.box s b) k':=by
   intro b l m g;rw [jI MG] at g;refine ju o (fun st' a c f=>h st' a (fun v d=>?_) (by rw [←m];exact f)) g;rw [c v d,ao,if_neg (fun e=>d (by rw [e];exact OP))]
  simp only [dz] at g ⊢;rw [bU MG] at g;split at g
  ·rename_i cs ty z;split at g
   ·rename_i i A;exact jt (fun w f=>⟨f.1,j _ _ (fun _=>rfl) f.2⟩) g
   ·exact g
  ·obtain ⟨n,a,c⟩:=g;exact ⟨n,a,j _ _ (fun _=>rfl) c⟩
  ·obtain ⟨x,n,y,a,c⟩:=g;exact ⟨x,n,y,a,j _ _ (fun _=>rfl) c⟩
  ·exact g
theorem tW (V:View)(l:List Nat):V.Le (V.ax l):=fun _ _ h=>h
theorem Fq (V:View):V.Le V.shut:=fun _ _ h=>h
theorem IA {V V' dX:View}{P:Prop}{b:Nat}(h:V.Le dX)(h':V.Le V')(hb:P->V'.w.heap.size<=b\/V'.H b):V.Le (dX.shut.cu P b):=by
 intro x o c;obtain ⟨f,g⟩:=h x o c;obtain ⟨i,j⟩:=h' x o c;refine ⟨fun a=>?_,g⟩;rcases a with a|⟨k,e,-⟩
 ·exact f a
 ·subst e;rcases hb k with d|d
  ·have:=aB j;omega
  ·exact i d
theorem IQ {m:Option Nat}{d:Nat}:eA m d=d\/eA m d=d+200000:=by
 cases m with
 | none=>exact .inl rfl
 | some m=>
  simp only [eA,mT]
  cases Nat.blt m 100000 with
  | true=>exact .inl rfl
  | false=>exact .inr rfl
theorem kU {give:Bool}{sh:Sh}{L:List Nat}{mm:Option Nat}{d:Nat}{ety:TypeId}{β:Nat->Nat}{st:St}{V V' dX:View}{K K':St->View->Prop}{W D:List Nat}{r':Value}
  (hL:∀s∈L,q s=none/\s∈W)(hm:∀k,mm=some k->k∈L)(hp:p d=none/\d∈D)(hq:q (eA mm d)=none/\eA mm d∈W)(hV:V.Le V')(hV2:V.Le dX)
  (hlv:∀s∈L,∃b,st.boxes s=some b/\(b.live->V'.H (β s)))(hK:∀s2 V2,Good p q W D st V K s2 V2->K' s2 V2)
  (h:bM T give sh L mm d ety β (ov p q st) V' K r' dX):bM T give sh L mm d ety β st V' K' r' dX:=by
 unfold bM at h ⊢;obtain ⟨c,a,v,y,z⟩:=h
 have j:a≠[]->V'.w.heap.size<=c\/wL mm st β c:=by
  intro f;refine (y f).imp id fun h=>?_;unfold wL at h ⊢
  cases mm with
  | none=>exact h
  | some k=>
   dsimp only at h ⊢;rw [bU (hL k (hm k rfl)).1] at h;exact h
 have A:a≠[]->V'.w.heap.size<=c\/V'.H c:=by
  intro f;refine (j f).imp id fun h=>?_;unfold wL at h
  cases mm with
  | none=>exact h.elim
  | some k=>
   dsimp only at h;obtain ⟨B,o,g⟩:=hlv k (hm k rfl);rw [o] at h;obtain ⟨cs,ty⟩:=B
   cases cs with
   | lit cs=>have h:c=β k:=h;rw [h];exact g cw
   | row cs=>have h:c=β k:=h;rw [h];exact g cf
   | aN vs=>have h:vs≠[]/\c=β k:=h;rw [h.2];exact g (dQ h.1)
 refine ⟨c,a,v,j,Sh.mono z fun x u=>⟨u.1,?_⟩⟩
 have C:(pf mm ety (ov p q st)).box (eA mm d) ⟨.aN a,ety⟩=ov p q ((pf mm ety st).box (eA mm d) ⟨.aN a,ety⟩):=by
  cases mm with
  | none=>exact jI hq.1
  | some k=>
   simp only [pf];rw [jI (hL k (hm k rfl)).1,jI hq.1]
 have l:=u.2;rw [C] at l
 have m:∀s∈Cc mm L,q s=none/\s∈W:=by
  intro s i
  cases mm with
  | none=>exact hL s i
  | some k=>exact hL s (vu.1 i).1
 refine ju m (fun r E F n=>?_) l;rw [jJ (fun k n=>by cases n;exact hp.1)] at n;refine hK _ _ ⟨IA hV2 hV A,?_,?_,n⟩
 ·intro t G;rw [cP,if_neg (fun e=>G (by rw [e];exact hp.2)),E];cases mm<;>rfl
 ·intro s i;show r.boxes s=_;rw [F s i,ao,if_neg (fun e=>i (by rw [e];exact hq.2))]
  cases mm with
  | none=>rfl
  | some k=>simp only [pf];rw [ao,if_neg (fun e=>i (by rw [e];exact (hL k (hm k rfl)).2))]
theorem II {bx:Nat->Option aP}{L:List Nat}(hcl:gi bx L=true):∀k,k∈pG bx L->k∈L:=by
 intro k a;unfold pG at a;obtain ⟨s,b,a⟩:=Qw5.1 (bJ.1 a);split at a
 ·rename_i cs ty d;refine eU hcl b d k ?_
  have:∀cs:List C,k∈nX cs->k∈cs.flatMap C.ids:=by
   intro cs
   induction cs with
   | nil=>exact fun h=>nomatch h
   | cons c r ih=>
    intro h;rw [Qw8,Qw1]
    cases c<;>simp only [nX,Qq4] at h<;>first
     | exact .inr (ih h)
     | (rcases h with h|h
        ·left;simp [C.ids,h]
        ·exact .inr (ih h))
  exact this cs a
 ·cases a
theorem uT {xs:List SV}:∀k,k∈kQ xs->k∈xs.flatMap SV.ids:=by
 intro k
 induction xs with
 | nil=>exact fun h=>nomatch h
 | cons x r ih=>
  intro h;rw [Qw8,Qw1];unfold kQ at h;split at h
  ·rename_i heq;cases heq
  ·rename_i s n c a heq;cases heq;exact .inl h
  ·rename_i s n c a heq;cases heq;exact .inl h
  ·rename_i heq;cases heq;exact .inr (ih h)
theorem sj {bx bx':Nat->Option aP}{L:List Nat}(h:∀s∈L,bx' s=bx s):pG bx' L=pG bx L:=by
 unfold pG;congr 1
 induction L with
 | nil=>rfl
 | cons s r ih=>simp only [Qw8];rw [h s (by simp),ih fun s a=>h s (by simp [a])]
theorem fx {st:St}{mm:Option Nat}{d:Nat}(h:q (eA mm d)=none):iO (ov p q st) mm d=iO st mm d:=by
 unfold iO;rw [bU h]
theorem se {bx bx':Nat->Option aP}{β:Nat->Nat}{N:Nat}{L:List Nat}(h:∀s∈L,bx' s=bx s):L.map (cO bx' β N)=L.map (cO bx β N):=
 Qj0 fun s a=>by unfold cO;rw [h s a]
theorem Dk:∀{L:List Nat} {st:St},(∀s∈L,q s=none)->dg (ov p q st) L 0=ov p q (dg st L 0)
 | [],_,_=>rfl
 | s::r,st,h=>by
  show dg ((ov p q st).box s ⟨.aN [],0⟩) r 0=ov p q (dg (st.box s ⟨.aN [],0⟩) r 0);rw [jI (h s (by simp))];exact Dk fun s hs=>h s (by simp [hs])
theorem zo {bx bx':Nat->Option aP}{β:Nat->Nat}{V:View}:∀{L:List Nat} {k k':Prop},(∀s∈L,bx' s=bx s)->(k->k')->pM bx β V L k->pM bx' β V L k'
 | [],_,_,_,h,g=>h g
 | s::r,k,k',hb,h,g=>by
  simp only [pM] at g ⊢;rw [hb s (by simp)];split at g
  ·exact fun h1=>zo (fun t ht=>hb t (Qq8 _ ht)) h (g h1)
  ·exact g.elim
theorem il {f:FuncId}{xs:List SV}{ty:TypeId}{dst:Option Nat}{st:St}{V:View}{K:St->View->Prop}{W D:List Nat}
  (hm:m=.none\/((m=.ax\/m=.give)/\(∀s∈reach (ov p q st).boxes 3 (dedup (xs.flatMap SV.ids)),q s=none/\s∈W)/\∀k,dst=some k->∀mm,q (eA mm k)=none/\eA mm k∈W))(hd:∀k,dst=some k->p k=none/\k∈D)
  {K':St->View->Prop}(hK:∀s2 V2,Good p q W D st V K s2 V2->K' s2 V2)(hv:eM P T m f xs ty dst (ov p q st) V K):eM P T m f xs ty dst st V K':=by
 have B:∀(n:St)(x:SV),(∀t,n.ay t=st.ay t)->∀t,t∉D->(n.put dst x).ay t=st.ay t:=by
  intro n x h t i
  cases dst with
  | none=>exact h t
  | some d=>rw [cP,if_neg (fun e=>i (by rw [e];exact (hd d rfl).2))];exact h t
 have H:∀(n:St)(x:SV),(n.put dst x).boxes=n.boxes:=by intro n x;cases dst<;>rfl
 unfold eM at hv ⊢;split at hv
 ·exact hv.elim
 ·rename_i R a0
  have F:∀L,reach (ov p q st).boxes 3 (dedup (xs.flatMap SV.ids))=L->(∀s∈L,q s=none)->reach st.boxes 3 (dedup (xs.flatMap SV.ids))=L:=by
   intro L Z XP;rw [←Z];exact mc 3 _ fun s v=>(bU (XP s (by rw [←Z];exact v))).symm
  have LG:∀s∈xs.flatMap SV.ids,s∈reach (ov p q st).boxes 3 (dedup (xs.flatMap SV.ids)):=fun s v=>dR 3 _ s (bJ.2 v);generalize hr:reach (ov p q st).boxes 3 (dedup (xs.flatMap SV.ids))=L at hv hm LG
  cases L with
  | nil=>
   rw [F _ hr (fun s v=>nomatch v)]
   have plain:(∀c:View,V.Le c->aa P f (aO (fun _=>0) xs) c fun r z=>R.ex fun x=>r=x.den (fun _=>0)/\K ((ov p q st).put dst x) z) ->
     ∀c:View,V.Le c->aa P f (aO (fun _=>0) xs) c fun r z=>R.ex fun x=>r=x.den (fun _=>0)/\K' (st.put dst x) z:=by
    intro hv c b;refine (hv c b).mono fun r z hle l=>Sh.mono l fun x I=>⟨I.1,?_⟩;have A:=I.2;rw [jJ (fun k l=>(hd k l).1)] at A;exact hK _ _ ⟨b.trans hle,B st x fun _=>rfl,fun s _=>by rw [H],A⟩
   rcases hm with rfl|⟨rfl|rfl,-,g⟩
   ·exact plain hv
   ·exact plain hv
   ·dsimp only at hv ⊢;split at hv
    ·rename_i d o a1;rw [fx (g d rfl Option.none).1] at hv;split at hv
     ·exact hv.elim
     ·rename_i u;intro c b;refine (hv c b).mono fun r z hle l=>?_;exact kU (W:=W) (D:=D) (fun s v=>absurd v (by simp)) (fun k l=>by cases l) (hd d rfl) (g d rfl Option.none) b (b.trans hle) (fun s v=>absurd v (by simp)) hK l
    ·exact hv.elim
  | cons s r=>
   dsimp only at hv;split at hv
   ·exact hv.elim
   ·rename_i J
    have ax:m=.ax\/m=.give->(∀t∈s::r,q t=none/\t∈W)->(∀k,dst=some k->∀mm,q (eA mm k)=none/\eA mm k∈W) ->
      ∀{give:Bool} {mm:Option Nat} {d:Nat} {o:TypeId},dst=some d->(∀k,mm=some k->k∈s::r) ->
      (∀c:View,V.Le c->kC (s::r) (fun _=>0) fun β=>hU (ov p q st).boxes β c (s::r) (aa P f (aO β xs) (c.ax ((s::r).map (cO (ov p q st).boxes β c.w.heap.size))) (bM T give R (s::r) mm d o β (ov p q st) c K))) ->
      ∀c:View,V.Le c->kC (s::r) (fun _=>0) fun β=>hU st.boxes β c (s::r) (aa P f (aO β xs) (c.ax ((s::r).map (cO st.boxes β c.w.heap.size))) (bM T give R (s::r) mm d o β st c K')):=by
     intro _ a g give mm d o C R9 hv c b;have E:∀t∈s::r,st.boxes t=(ov p q st).boxes t:=fun t i=>(bU (a t i).1).symm;refine eS (fun β M=>?_) (hv c b);rw [se (bx:=(ov p q st).boxes) E];refine iM (bx:=(ov p q st).boxes) E (fun hH y=>?_) M;refine y.mono fun r' z hle l=>?_;have N:V.Le z:=(b.trans (tW c _)).trans hle;exact kU a R9 (hd d C) (g d C mm) b N (fun t i=>by rw [E t i];exact hH t i) hK l
    have base:m=.ax\/m=.give->(∀t∈s::r,q t=none/\t∈W)/\(∀k,dst=some k->∀mm,q (eA mm k)=none/\eA mm k∈W):=by
     intro h;rcases hm with rfl|⟨-,O,A⟩
     ·rcases h with h|h<;>cases h
     ·exact ⟨O,A⟩
    have Va:(∀t∈s::r,q t=none/\t∈W)->gi st.boxes (s::r)=true:=fun a=>by
     rw [xy (bx:=(ov p q st).boxes) (fun t i=>(bU (a t i).1).symm)];exact J
    split at hv
    ·exact hv.elim
    ·exact hv.elim
    ·
     obtain ⟨a,g⟩:=base (.inr rfl);rw [F _ hr (fun t i=>(a t i).1)];dsimp only;rw [Va a];dsimp only;have G:=sj (bx:=(ov p q st).boxes) (bx':=st.boxes) (L:=s::r) (fun t i=>(bU (a t i).1).symm);rw [G];split at hv
     ·rename_i d o O A h3;rw [fx (g d rfl _).1] at hv;split at hv
      ·exact hv.elim
      ·rename_i u;exact ax (.inr rfl) a g rfl (fun k l=>by cases l) hv
     ·rename_i d o k O A h3;have Q:k∈s::r:=LG k (uT k (by rw [A];simp));have U:AA (ov p q st).boxes k o=AA st.boxes k o:=by unfold AA;rw [bU (a k Q).1]
      rw [U] at hv;split at hv
      ·rw [fx (g d rfl _).1] at hv;split at hv
       ·exact hv.elim
       ·rename_i u;exact ax (.inr rfl) a g rfl (fun j X=>by cases X;exact Q) hv
      ·rw [Dk (fun t i=>(a t i).1),fx (g d rfl _).1] at hv;split at hv
       ·exact hv.elim
       ·rename_i u;split at hv
        ·exact hv.elim
        ·intro c b;refine eS (fun β M=>?_) (hv c b);refine zo (bx:=(ov p q st).boxes) (fun t i=>(bU (a t i).1).symm) (fun y=>?_) M;refine y.mono fun r' z hle l=>?_;exact kU (W:=W) (D:=D) (st:=dg st (s::r) 0) (fun s v=>absurd v (by simp)) (fun k l=>by cases l) (hd d rfl) (g d rfl Option.none) b (b.trans hle) (fun s v=>absurd v (by simp)) (fun s2 V2 S=>hK s2 V2 ⟨S.1,fun t i=>(S.2.1 t i).trans (by rw [jB]),fun t i=>(S.2.2.1 t i).trans (by rw [bg,if_neg fun h=>i (a t h).2]),S.2.2.2⟩) l
     ·exact hv.elim
    ·
     obtain ⟨a,g⟩:=base (.inl rfl);rw [F _ hr (fun t i=>(a t i).1)];dsimp only;rw [Va a];dsimp only;have E:∀t∈s::r,st.boxes t=(ov p q st).boxes t:=fun t i=>(bU (a t i).1).symm;have G:=sj (bx:=(ov p q st).boxes) (bx':=st.boxes) (L:=s::r) E;rw [G];split at hv
     ·intro c b;refine eS (fun β M=>?_) (hv c b);rw [se (bx:=(ov p q st).boxes) E];refine iM (bx:=(ov p q st).boxes) E (fun _ y=>?_) M;refine y.mono fun r' z hle l=>Sh.mono l fun x I=>⟨I.1,?_⟩;refine ju a (fun n O A l=>?_) I.2;rw [jJ (fun k l=>(hd k l).1)] at l;exact hK _ _ ⟨((b.trans (tW c _)).trans hle).trans (Fq _),B n x O,fun t i=>by rw [H];exact A t i,l⟩
     ·rename_i k l;have MD:k∈s::r:=II J k (by rw [l];simp);have Y:jZ st.boxes k=jZ (ov p q st).boxes k:=by unfold jZ;rw [E k MD]
      rw [Y];split at hv
      ·rename_i d o a2;rw [fx (g d rfl _).1] at hv;split at hv
       ·exact hv.elim
       ·rename_i u;exact ax (.inl rfl) a g rfl (fun j X=>by cases X;exact MD) hv
      ·exact hv.elim
     ·exact hv.elim
    ·rcases hm with h|h
     ·cases h
     ·rcases h.1 with h|h<;>cases h
theorem Cy {bx:Nat->Option aP}:∀(n:Nat) {l l':List Nat},(∀x∈l,x∈l')->∀x∈reach bx n l,x∈reach bx n l'
 | 0,_,_,h,x,hx=>h x hx
 | n+1,l,l',h,x,hx=>by
  simp only [reach] at hx ⊢;refine Cy n (fun y hy=>?_) x hx;rw [bJ,Qw1] at hy ⊢;rcases hy with hy|hy
  ·exact .inl (h y hy)
  ·obtain ⟨z,hz,hy⟩:=Qw5.1 hy;exact .inr (Qw5.2 ⟨z,h z hz,hy⟩)
theorem sK {f:FuncId}{xs:List SV}{ty:TypeId}{dst:Option Nat}{st:St}{V:View}{K:St->View->Prop}{W D:List Nat}
  (hm:m=.none\/((m=.ax\/m=.give)/\(∀s∈reach (ov p q st).boxes 3 (dedup (xs.flatMap SV.ids)),q s=none/\s∈W)/\∀k,dst=some k->∀mm,q (eA mm k)=none/\eA mm k∈W))(hd:∀k,dst=some k->p k=none/\k∈D)
  {K':St->View->Prop}(hK:∀s2 V2,Good p q W D st V K s2 V2->K' s2 V2)(hv:jP P T m f xs ty dst (ov p q st) V K):jP P T m f xs ty dst st V K':=by
 have a:=hm
 cases m with
 | ax=>
  obtain ⟨b,d⟩:(∀s∈reach (ov p q st).boxes 3 (dedup (xs.flatMap SV.ids)),q s=none/\s∈W)/\∀k,dst=some k->∀mm,q (eA mm k)=none/\eA mm k∈W:=by
   rcases hm with h|⟨-,b,d⟩
   ·cases h
   ·exact ⟨b,d⟩
  unfold jP at hv ⊢;dsimp only at hv ⊢;rw [pT (bx:=st.boxes) (bx':=(ov p q st).boxes) (fun s g=>bU (b s (dR 3 _ s (bJ.2 g))).1)] at hv;split at hv
  ·rename_i l c i e;exact ⟨fun he=>⟨(hv.1 he).1,il (.inr ⟨.inl rfl,fun s g=>b s (Cy 3 (fun x j=>bJ.2 (vP e x (bJ.1 j))) s g),d⟩) hd hK (hv.1 he).2⟩,fun he=>il a hd hK (hv.2 he)⟩
  ·exact il a hd hK hv
 | _=>exact il a hd hK hv
theorem Ao {p2:Nat->Option SV}{q2:Nat->Option aP}{st:St}(hp:∀t,p t=none\/p2 t=none)(hq:∀t,q t=none\/q2 t=none):ov p q (ov p2 q2 st)=ov p2 q2 (ov p q st):=by
 unfold ov;congr 1
 ·funext t;dsimp only;rcases hp t with h|h<;>rw [h]
 ·funext t;dsimp only;rcases hq t with h|h<;>rw [h]
def zD:Q->Option Nat
 | .app old _ _ _ _ _ _ _ _=>old
 | .qZ s _ _ _ _ _ _ _=>some s
 | _=>none
def Fy (T:cI)(bx:Nat->Option aP)(l:Option (List SV))(ts:List TypeId):Q:=
 match l,ts with
 | some [b,x],[t,t']=>match aC T t,aC T t' with
  | some i,some i'=>match i.k,i'.k with
   | .slice e,.slice _=>match aC T e with
    | some ei=>bX bx e ei b x
    | none=>.fail
   | _,_=>.fail
  | _,_=>.fail
 | _,_=>.fail
def zE (bx:Nat->Option aP)(sz:Nat)(x:SV):Option (OA×Nat ⊕ List Value):=
 match x with
 | .c (.v (.slice a k _))=>some (.inl (a,k))
 | .c (.gU s o k _)=>match bx s with
  | some ⟨.row ws,_⟩=>some (.inr (ig ws o (k*sz)))
  | _=>match dJ bx s with
   | some ws=>if Nat.ble (o+k*sz) ws.length then some (.inr ((ws.drop o).take (k*sz))) else none
   | none=>none
 | .c (.gF s k c)=>match bx s with
  | some ⟨.aN ws,_⟩=>some (.inr (mh ws k c sz))
  | _=>none
 | _=>none
def E7 (bx:Nat->Option aP)(e:TypeId)(ei:TI)(b:SV)(src:OA×Nat ⊕ List Value):Q:=
 match b with
 | .c (.v (.slice a n c))=>.app none a [] n c src ei.size ei.bytes e
 | .c (.gU s 0 n c)=>match dJ bx s,jZ bx s with
  | some vs,some ty=>if Nat.beq ty e then .app (some s) none vs n c src ei.size ei.bytes e else .fail
  | _,_=>.fail
 | .c (.gF s n c)=>match bx s with
  | some ⟨.aN vs,ty⟩=>if Nat.beq ty e then .qZ s vs n c src ei.size ei.bytes e else .fail
  | _=>.fail
 | _=>.fail
theorem vE {bx:Nat->Option aP}{e:TypeId}{ei:TI}{b x:SV}:bX bx e ei b x=match jA ei.zero with
  | none=>.fail
  | some zs=>if Nat.beq ei.bytes 0||Nat.beq ei.size 0||!(Nat.beq ei.size zs.length) then .fail else match zE bx ei.size x with
   | none=>.fail
   | some src=>E7 bx e ei b src:=rfl
theorem F0 {bx bx':Nat->Option aP}{sz:Nat}{x:SV}:(∀s∈x.ids,bx' s=bx s)->zE bx sz x=zE bx' sz x:=by
 unfold zE;split
 ·exact fun _=>rfl
 ·intro h;unfold dJ;rw [h _ (by simp [SV.ids,C.ids])]
 ·intro h;rw [h _ (by simp [SV.ids,C.ids])]
 ·exact fun _=>rfl
theorem HB {bx bx':Nat->Option aP}{e:TypeId}{ei:TI}{b:SV}{src:OA×Nat ⊕ List Value}:(∀s∈b.ids,bx' s=bx s)->E7 bx e ei b src=E7 bx' e ei b src:=by
 unfold E7;split
 ·exact fun _=>rfl
 ·intro h;unfold dJ jZ;rw [h _ (by simp [SV.ids,C.ids])]
 ·intro h;rw [h _ (by simp [SV.ids,C.ids])]
 ·exact fun _=>rfl
theorem En {bx bx':Nat->Option aP}{e:TypeId}{ei:TI}{b x:SV}(h:∀s∈b.ids++x.ids,bx' s=bx s):bX bx e ei b x=bX bx' e ei b x:=by
 rw [vE,vE,F0 fun s a=>h s (Qb7 _ a)];have:=fun src=>HB (bx:=bx) (bx':=bx') (e:=e) (ei:=ei) (b:=b) (src:=src) fun s a=>h s (Qk3 _ a);simp only [this]
theorem Cr {bx:Nat->Option aP}{e:TypeId}{ei:TI}{b x:SV}:∀s,zD (bX bx e ei b x)=some s->s∈b.ids:=by
 intro s h;unfold bX at h;split at h
 ·cases h
 ·split at h
  ·cases h
  ·dsimp only at h;split at h
   ·cases h
   ·split at h
    ·cases h
    ·split at h
     ·split at h
      ·cases h;simp [SV.ids,C.ids]
      ·cases h
     ·cases h
    ·split at h
     ·split at h
      ·cases h;simp [SV.ids,C.ids]
      ·cases h
     ·cases h
    ·cases h
theorem K3 {bx bx':Nat->Option aP}{ys:List SV}{ts:List TypeId}{R:List Nat}(h:∀s∈ys.flatMap SV.ids,bx' s=bx s)(hR:∀s∈ys.flatMap SV.ids,s∈R) :
  Fy T bx (some ys) ts=Fy T bx' (some ys) ts/\∀s,zD (Fy T bx (some ys) ts)=some s->s∈R:=by
 unfold Fy;split
 ·rename_i b x t d c;cases c;split
  ·split
   ·split
    ·exact ⟨En fun s a=>h s (by simpa using a),fun s a=>hR s (by simp [Cr s a])⟩
    ·exact ⟨rfl,fun s a=>nomatch a⟩
   ·exact ⟨rfl,fun s a=>nomatch a⟩
  ·exact ⟨rfl,fun s a=>nomatch a⟩
 ·exact ⟨rfl,fun s a=>nomatch a⟩
theorem GQ {bx:Nat->Option aP}{e:TypeId}{ei:TI}{b x:SV}:cL (bX bx e ei b x)=6\/bX bx e ei b x=.fail:=by
 unfold bX;split
 ·exact .inr rfl
 ·split
  ·exact .inr rfl
  ·dsimp only;split
   ·exact .inr rfl
   ·split<;>(try split)<;>(try split)<;>first|exact .inl rfl|exact .inr rfl
theorem Jk {ρ:Operand->Option SV}{bx:Nat->Option aP}{args:Array Operand}{ts:Array TypeId}:cL (aK T ρ bx (.call ⟨.builtin .append,args,ts⟩))=6\/aK T ρ bx (.call ⟨.builtin .append,args,ts⟩)=.fail:=by
 simp only [aK];split
 ·split
  ·split
   ·split
    ·exact GQ
    ·exact .inr rfl
   ·exact .inr rfl
  ·exact .inr rfl
 ·exact .inr rfl
theorem AJ {Q0:Q}{dst:Option Nat}{st:St}{V:View}{K K':St->View->Prop}{W D:List Nat}(ht:cL Q0=6\/Q0=.fail)
  (ho:∀s,zD Q0=some s->q s=none/\s∈W)(hd:∀k,dst=some k->(p k=none/\k∈D)/\∀s,q (mT s k)=none/\mT s k∈W)(hd0:∀k,dst=some k->q k=none/\k∈W)
  (hK:∀s2 V2,Good p q W D st V K s2 V2->K' s2 V2)(h:tv Q0 dst (ov p q st) V K):tv Q0 dst st V K':=by
 cases Q0 with
 | qZ s vs n c x size bytes ty=>
  simp only [tv] at h ⊢
  cases dst with
  | none=>exact h.elim
  | some d=>
   dsimp only at h ⊢;obtain ⟨⟨u,v⟩,l⟩:=hd d rfl;obtain ⟨A,B⟩:=ho s rfl
   have core:∀k xs,si s vs n c size bytes ty d (ov p q st) V K k xs->si s vs n c size bytes ty d st V K' k xs:=by
    rintro k xs ⟨a,f,g,m,j,i⟩;refine ⟨a,f,g,m,j,?_⟩;rw [bU (l s).1] at i;split at i
    ·exact i.elim
    ·intro spare w y z;have:=i spare w y z;rw [jI A,jI (l s).1,jJ (fun k o=>by cases o;exact u)] at this;refine hK _ _ ⟨View.Le.refl V,?_,?_,this⟩
     ·intro t ht;rw [cP,if_neg (fun e=>ht (by rw [e];exact v))];rfl
     ·intro t ht;show ((st.box s _).box _ _).boxes t=_;rw [ao,if_neg (fun e=>ht (by rw [e];exact (l s).2)),ao,if_neg (fun e=>ht (by rw [e];exact B))]
   cases x with
   | inr xs=>exact core _ _ h
   | inl ak=>obtain ⟨xs,a,f,g⟩:=h;exact ⟨xs,a,f,core _ _ g⟩
 | app old ba vs n c x size bytes ty=>
  simp only [tv] at h ⊢
  cases dst with
  | none=>exact h.elim
  | some d=>
   dsimp only at h ⊢;obtain ⟨⟨u,v⟩,l⟩:=hd d rfl
   cases old with
   | some s=>
    dsimp only at h ⊢;obtain ⟨A,B⟩:=ho s rfl
    have core:∀k xs,Bk s vs n c size bytes ty d (ov p q st) V K k xs->Bk s vs n c size bytes ty d st V K' k xs:=by
     rintro k xs ⟨a,f,g,m,j,i⟩;refine ⟨a,f,g,m,j,?_⟩;rw [bU (l s).1] at i;split at i
     ·exact i.elim
     ·intro b J spare w y z;have:=i b J spare w y z;rw [jI A,jI (l s).1,jJ (fun k o=>by cases o;exact u)] at this;refine hK _ _ ⟨View.Le.refl V,?_,?_,this⟩
      ·intro t ht;rw [cP,if_neg (fun e=>ht (by rw [e];exact v))];rfl
      ·intro t ht;show ((st.box s _).box _ _).boxes t=_;rw [ao,if_neg (fun e=>ht (by rw [e];exact (l s).2)),ao,if_neg (fun e=>ht (by rw [e];exact B))]
    cases x with
    | inr xs=>exact core _ _ h
    | inl ak=>obtain ⟨xs,a,f,g⟩:=h;exact ⟨xs,a,f,core _ _ g⟩
   | none=>
    dsimp only at h ⊢;obtain ⟨C,E⟩:=hd0 d rfl;obtain ⟨r,y,z,F,G,h⟩:=h
    have core:∀k xs,Bl r n c size bytes ty d (ov p q st) V K k xs->Bl r n c size bytes ty d st V K' k xs:=by
     rintro k xs ⟨a,f,g,m,j⟩;refine ⟨a,f,g,m,?_⟩;rw [bU C] at j;split at j
     ·exact j.elim
     ·intro spare w H I;have:=j spare w H I;rw [jI C,jJ (fun k o=>by cases o;exact u)] at this;refine hK _ _ ⟨View.Le.refl V,?_,?_,this⟩
      ·intro t ht;rw [cP,if_neg (fun e=>ht (by rw [e];exact v))];rfl
      ·intro t ht;show (st.box d _).boxes t=_;rw [ao,if_neg (fun e=>ht (by rw [e];exact E))]
    refine ⟨r,y,z,F,G,?_⟩
    cases x with
    | inr xs=>exact core _ _ h
    | inl ak=>
     obtain ⟨xs,a,f,g,m⟩:=h;refine ⟨xs,a,f,fun e=>?_,fun e=>core _ _ (m e)⟩;have:=g e;rw [jJ (fun k o=>by cases o;exact u)] at this;refine hK _ _ ⟨View.Le.refl V,?_,fun t ht=>rfl,this⟩;intro t ht;rw [cP,if_neg (fun e=>ht (by rw [e];exact v))]
 | fail=>exact h.elim
 | _=>rcases ht with ht|ht<;>cases ht
theorem qB {h:Hint}{o:Oper}{st:St}{V:View}{K:St->View->Prop}{R W:List Nat}
  (hm:mb (a_ LF RF o.op)=true\/(a_ LF RF o.op=.call/\m=.none)\/((a_ LF RF o.op=.kg/\m=.ax)\/(a_ LF RF o.op=.give/\m=.give)\/a_ LF RF o.op=.app))
  (hrw:pP (a_ LF RF o.op) h (dt o)=some (R,W))(hp:∀t,t∈gS o.op\/t∈dt o->p t=none)(hq:∀s∈R,q s=none)
  (VA:∀s∈W,q s=none){K':St->View->Prop}(hK:∀s2 V2,Good p q W (dt o) st V K s2 V2->K' s2 V2)(hv:cz P T m h o (ov p q st) V K):cz P T m h o st V K':=by
 have Eb:∀t∈gS o.op,st.ay t=(ov p q st).ay t:=fun t ht=>by simp [ov,hp t (.inl ht)]
 rcases hm with hm|hm
 ·obtain ⟨p2,q2,U⟩:=mO hm hrw hv;refine U.again st V _ (View.Le.refl V) Eb (fun s n=>(bU (hq s n)).symm) ?_;refine hK _ _ ⟨View.Le.refl V,fun t ht=>by simp [ov,U.pd t ht],fun s n=>by simp [ov,U.qd s n],?_⟩;rw [Ao]
  ·exact U.next
  ·intro t;by_cases h:t∈dt o
   ·exact .inl (hp t (.inr h))
   ·exact .inr (U.pd t h)
  ·intro s;by_cases h:s∈W
   ·exact .inl (VA s h)
   ·exact .inr (U.qd s h)
 ·
  have i:∀(x:Operand),x∈o.op.operands.toList->(ov p q st).aY x=st.aY x:=fun x I=>K0 fun t e=>hp t (.inl (vt I e))
  have w:∀k,o.dst=some k->p k=none/\k∈dt o:=fun k D=>by
   have:k∈dt o:=by simp [dt,D]
   exact ⟨hp k (.inr this),this⟩
  have body:(¬a_ LF RF o.op=.app)->∀(hh:∀xs f ss J args z,o.op=.call ⟨.value J,args,z⟩->bR (ov p q st).aY args.toList=some xs->(ov p q st).aY J=some (.c (.kd f ss)) ->
    m=.none\/((m=.ax\/m=.give)/\(∀s∈reach (ov p q st).boxes 3 (dedup ((xs++uJ ss).flatMap SV.ids)),q s=none/\s∈W)/\∀k,o.dst=some k->∀E,q (eA E k)=none/\eA E k∈W)),
    cF P T m o (ov p q st) V K->cF P T m o st V K':=by
   intro a hh hv;unfold cF at hv ⊢;split at hv
   ·rename_i J args z g;have e1:bR (ov p q st).aY args.toList=bR st.aY args.toList:=dD _ fun x I=>i x (by rw [g];simp [Op.operands,Call.operands];exact .inr (by simpa using I));have e2:(ov p q st).aY J=st.aY J:=i J (by rw [g];simp [Op.operands,Call.operands]);split at hv
    ·rename_i xs j;split at hv
     ·rename_i f ss F;have L:=hh _ _ _ _ _ _ g j F;rw [e1] at j;rw [e2] at F;simp only [j,F];exact sK L w hK hv
     ·exact hv.elim
    ·exact hv.elim
   ·rename_i recv name args z g
    have a2:m=.none:=by
     rw [g] at hm;rcases hm with ⟨-,h⟩|⟨h,-⟩|⟨h,-⟩|h
     ·exact h
     ·cases h
     ·cases h
     ·cases h
    have e1:bR (ov p q st).aY args.toList=bR st.aY args.toList:=dD _ fun x I=>i x (by rw [g];simp [Op.operands,Call.operands];exact .inr (by simpa using I));have e2:(ov p q st).aY recv=st.aY recv:=i recv (by rw [g];simp [Op.operands,Call.operands]);split at hv
    ·rename_i xs j;split at hv
     ·rename_i t v F;split at hv
      ·rename_i f Ii;rw [e1] at j;rw [e2] at F;simp only [j,F,Ii];exact sK (.inl a2) w hK hv
      ·exact hv.elim
     ·exact hv.elim
    ·exact hv.elim
   ·rename_i a0 OK;exfalso
    have M:a_ LF RF o.op=.call\/a_ LF RF o.op=.kg\/a_ LF RF o.op=.give:=by
     rcases hm with ⟨h,-⟩|⟨h,-⟩|⟨h,-⟩|h
     ·exact .inl h
     ·exact .inr (.inl h)
     ·exact .inr (.inr h)
     ·exact absurd h a
    clear hm a hh;generalize g:o.op=op at M a0 OK
    cases op with
    | call c=>
     obtain ⟨Fe,args,z⟩:=c
     cases Fe with
     | builtin b=>cases b<;>rcases M with h|h|h<;>cases h
     | value f=>exact a0 f args z rfl
     | invoke r nm=>exact OK r nm args z rfl
    | _=>rcases M with h|h|h<;>cases h
  have SK:∀l:List Nat,W=l++dt o++(dt o).map (·+ 200000)->∀k,o.dst=some k->∀E,q (eA E k)=none/\eA E k∈W:=by
   intro l X k D E
   have:eA E k∈W:=by
    rw [X];have a3:=(w k D).2;rcases IQ (m:=E) (d:=k) with h|h<;>rw [h]<;>simp [a3]
   exact ⟨VA _ this,this⟩
  have own:∀l:List Nat,h=.own l->R=l->W=l++dt o++(dt o).map (·+ 200000)->(a_ LF RF o.op=.kg\/a_ LF RF o.op=.give\/a_ LF RF o.op=.app)->(¬a_ LF RF o.op=.app->m=.ax\/m=.give)->cz P T m h o st V K':=by
   intro l hh hR X a4 L;subst hh hR;unfold cz at hv ⊢;dsimp only at hv ⊢;split at hv
   ·rename_i Y u;split at hv
    ·rename_i G;have e0:bR (ov p q st).aY (gR o.op)=bR st.aY (gR o.op):=dD _ fun x I=>i x (vr I);rw [←e0,u];dsimp only;have B:∀s∈dO (ov p q st).boxes o.op (Y.flatMap SV.ids),s∈R:=vR.1 G
     have e3:dO st.boxes o.op (Y.flatMap SV.ids)=dO (ov p q st).boxes o.op (Y.flatMap SV.ids):=by
      revert B;unfold dO;split
      ·intro B;exact mc 3 _ fun s n=>(bU (hq s (B s n))).symm
      ·exact fun _=>rfl
     rw [e3,G];dsimp only;have Vw:∀s∈R,s∈W:=fun s n=>by rw [X];simp [n]
     by_cases a:a_ LF RF o.op=.app
     ·
      have g:∃args z,o.op=.call ⟨.builtin .append,args,z⟩:=by
       generalize o.op=op at a
       cases op with
       | call c=>
        obtain ⟨Fe,args,z⟩:=c
        cases Fe with
        | builtin b=>cases b<;>first|exact ⟨args,z,rfl⟩|cases a
        | value f=>cases f with
         | func f=>simp only [a_] at a;split at a<;>(try split at a)<;>(try split at a)<;>(try split at a)<;>cases a
         | _=>cases a
        | _=>cases a
       | _=>cases a
      obtain ⟨args,z,g⟩:=g
      have e4:aK T st.aY st.boxes o.op=aK T (ov p q st).aY (ov p q st).boxes o.op/\∀s,zD (aK T st.aY st.boxes o.op)=some s->s∈R:=by
       have e5:bR (ov p q st).aY args.toList=bR st.aY args.toList:=by rw [g] at e0;exact e0
       have Ss:bR st.aY args.toList=some Y:=by rw [g] at u;rw [←e5];exact u
       have H:∀s∈Y.flatMap SV.ids,s∈R:=by
        intro s n;refine B s ?_;rw [g];simp only [dO];exact dR 3 _ s (bJ.2 n)
       rw [g];simp only [aK];rw [e5,Ss];exact K3 (fun s n=>by rw [bU (hq s (H s n))]) H
      have N:tv (aK T (ov p q st).aY (ov p q st).boxes o.op) o.dst (ov p q st) V K:=by
       unfold cF at hv;rw [g] at hv ⊢;exact hv
      have O:tv (aK T st.aY st.boxes o.op) o.dst st V K'->cF P T m o st V K':=by
       intro h;unfold cF;rw [g] at h ⊢;exact h
      rw [←e4.1] at N;refine O ?_
      have a1:∀Z,aK T st.aY st.boxes o.op=Z->cL Z=6\/Z=.fail:=by
       intro Z hQ;rw [←hQ,g];exact Jk
      generalize Xz:aK T st.aY st.boxes o.op=Z at N e4
      exact AJ (a1 Z Xz) (fun s n=>⟨hq s (e4.2 s n),Vw s (e4.2 s n)⟩) (fun k D=>⟨w k D,fun s=>by
       have:=SK R X k D (some s);exact this⟩) (fun k D=>SK R X k D Option.none) hK N
     ·have Q:=L a;refine body a (fun xs f ss J args z g j F=>.inr ⟨Q,fun s n=>?_,SK R X⟩) hv
      have:s∈R:=by
       apply B;rw [g] at u ⊢;simp only [dO]
       have hy:Y.flatMap SV.ids=(xs++uJ ss).flatMap SV.ids:=by
        have:∀(l:List Operand)(xs:List SV)(x:Operand)(v:SV),bR (ov p q st).aY l=some xs->(ov p q st).aY x=some v->bR (ov p q st).aY (l++[x])=some (xs++[v]):=by
         intro l
         induction l with
         | nil=>intro xs x v S h2;simp only [bR,Qq2] at S;subst S;simp [bR,h2]
         | cons o r ih=>
          intro xs x v S h2;simp only [bR] at S;split at S
          ·rename_i y l' h3 h4;cases S;simp only [Qd6,bR,h3,ih _ x v h4 h2]
          ·cases S
        simp only [gR] at u;rw [this _ _ _ _ j F] at u;cases u;simp only [Qd0];congr 1;simp [uJ,SV.ids,C.ids,List.flatMap_map]
       rw [hy];exact n
      exact ⟨hq s this,Vw s this⟩
    ·exact hv.elim
   ·exact hv.elim
  rcases hm with ⟨A,hm⟩|⟨A,hm⟩|⟨A,hm⟩|A
  ·rw [A] at hrw
   cases h with
   | own l=>cases hrw
   | free=>exact body (by rw [A];exact fun h=>by cases h) (fun _ _ _ _ _ _ _ _ _=>.inl hm) hv
  ·rw [A] at hrw
   cases h with
   | free=>cases hrw
   | own l=>
    simp only [pP,Qq2,Qb5] at hrw;exact own l rfl hrw.1.symm hrw.2.symm (.inl A) (fun _=>.inl hm)
  ·rw [A] at hrw
   cases h with
   | free=>cases hrw
   | own l=>
    simp only [pP,Qq2,Qb5] at hrw;exact own l rfl hrw.1.symm hrw.2.symm (.inr (.inl A)) (fun _=>.inr hm)
  ·rw [A] at hrw
   cases h with
   | free=>cases hrw
   | own l=>
    simp only [pP,Qq2,Qb5] at hrw;exact own l rfl hrw.1.symm hrw.2.symm (.inr (.inr A)) (fun h=>absurd A h)
end Go.Eng
namespace Go.Eng
variable {P:Program} {T:cI} {LF RF:List Nat}
def wW (ops:Array Oper)(o:Oper)(st:St)(k:St->Bool->Prop):Prop:=
 match o.guard with
 | none=>k st true
 | some (j,b)=>match (ops[j]?).bind (·.dst) with
  | none=>False
  | some g=>match st.ay g with
   | some (.c .tt)=>k st b
   | some (.c .ff)=>k st (!b)
   | some (.c (.v (.bool c)))=>(c=true->k (st.put (some g) (.c .tt)) b)/\(c=false->k (st.put (some g) (.c .ff)) (!b))
   | some (.oI _)=>k st false
   | _=>False
def lr (P:Program)(T:cI)(m:CM)(h:Hint)(o:Oper)(V:View)(K:St->View->Prop)(st:St)(w:Bool):Prop:=
 match w with
 | true=>cz P T m h o st V K
 | false=>K (st.put o.dst iV) V
theorem AH {m:CM}{h:Hint}{ops:Array Oper}{o:Oper}{st:St}{V:View}{K:St->View->Prop} :
  pZ P T m h ops o st V K↔wW ops o st (lr P T m h o V K):=by
 unfold pZ wW
 cases hg:o.guard with
 | none=>rfl
 | some jb=>
  obtain ⟨j,b⟩:=jb;dsimp only
  cases hd:(ops[j]?).bind (·.dst) with
  | none=>rfl
  | some g=>
   dsimp only;split<;>simp_all<;>cases b<;>rfl
def iP:Nat->Option aP:=fun _=>none
structure QQ (ops:Array Oper) (o:Oper) (st:St) (k:St->Bool->Prop) (p:Nat->Option SV) (w:Bool):Prop where
 pd:∀t,t∉di ops o->p t=none
 next:k (ov p iP st) w
 again:∀(st2:St)(k2:St->Bool->Prop),(∀t∈di ops o,st2.ay t=st.ay t)->k2 (ov p iP st2) w->wW ops o st2 k2
theorem eW {ops:Array Oper}{o:Oper}{st:St}{k:St->Bool->Prop}(h:wW ops o st k):∃p w,QQ ops o st k p w:=by
 unfold wW at h;split at h
 ·rename_i l;exact ⟨fun _=>none,true,fun _ _=>rfl,h,fun d q _ f=>by unfold wW;rw [l];exact f⟩
 ·rename_i j b l;split at h
  ·exact h.elim
  ·rename_i g n;have a:di ops o=[g]:=by simp only [di,l,n]
   split at h
   ·rename_i m;exact ⟨fun _=>none,b,fun _ _=>rfl,h,fun d q i f=>by unfold wW;simp only [l,n,i g (by simp [a]),m];exact f⟩
   ·rename_i m;exact ⟨fun _=>none,!b,fun _ _=>rfl,h,fun d q i f=>by unfold wW;simp only [l,n,i g (by simp [a]),m];exact f⟩
   ·rename_i c m
    cases c with
    | true=>
     refine ⟨one (some g) (.c .tt),b,fun t r=>df (by intro e;apply r;rw [a];simpa using e.symm),?_,fun d q i f=>?_⟩
     ·have:=h.1 rfl;rw [d_] at this;exact this
     ·unfold wW;simp only [l,n,i g (by simp [a]),m];exact ⟨fun _=>by rw [d_];exact f,fun e=>by cases e⟩
    | false=>
     refine ⟨one (some g) (.c .ff),!b,fun t r=>df (by intro e;apply r;rw [a];simpa using e.symm),?_,fun d q i f=>?_⟩
     ·have:=h.2 rfl;rw [d_] at this;exact this
     ·unfold wW;simp only [l,n,i g (by simp [a]),m];exact ⟨fun e=>(by cases e),fun _=>by rw [d_];exact f⟩
   ·rename_i xs m;exact ⟨fun _=>none,false,fun _ _=>rfl,h,fun d q i f=>by unfold wW;simp only [l,n,i g (by simp [a]),m];exact f⟩
   ·exact h.elim
theorem mr {ops:Array Oper}{o:Oper}{st:St}{k k':St->Bool->Prop}(hk:∀s w,k s w->k' s w)(h:wW ops o st k):wW ops o st k':=by
 obtain ⟨p,w,a⟩:=eW h;exact a.again st k' (fun _ _=>rfl) (hk _ _ a.next)
theorem put_comm {st:St}{d d':Option Nat}{x y:SV}(h:∀k,d=some k->d'≠some k):(st.put d x).put d' y=(st.put d' y).put d x:=by
 cases d with
 | none=>rfl
 | some d=>
  cases d' with
  | none=>rfl
  | some d'=>
   have a:d≠d':=fun e=>h d rfl (by rw [e]);simp only [St.put];congr 1;funext t;by_cases e:t=d
   ·subst e;simp [Qz8,cR a]
   ·simp [cR e]
theorem D3 {ops:Array Oper}{o1 o2:Oper}{st:St}{F:St->Bool->Bool->Prop}(h:wW ops o1 st fun s w1=>wW ops o2 s fun s' w2=>F s' w1 w2) :
  wW ops o2 st fun s w2=>wW ops o1 s fun s' w1=>F s' w1 w2:=by
 by_cases k:∃g,di ops o1=[g]/\di ops o2=[g]
 ·obtain ⟨g,a,b⟩:=k;unfold di at a b;split at a
  ·cases a
  ·rename_i A B q;split at a
   ·rename_i y r;cases a;split at b
    ·cases b
    ·rename_i C D u;split at b
     ·rename_i z v;cases b;unfold wW at h ⊢;simp only [q,u,r,v] at h ⊢;split at h
      ·rename_i w;exact h
      ·rename_i w;exact h
      ·rename_i c w;simp only [cP,if_true] at h ⊢;exact h
      ·rename_i xs w;exact h
      ·exact h.elim
     ·cases b
   ·cases a
 ·obtain ⟨l,w1,m⟩:=eW h;obtain ⟨n,w2,p⟩:=eW m.next
  have x:∀o:Oper,di ops o=[]\/∃g,di ops o=[g]:=by
   intro o;unfold di;split
   ·exact .inl rfl
   ·split
    ·exact .inr ⟨_,rfl⟩
    ·exact .inl rfl
  have i:∀t,t∈di ops o1->t∉di ops o2:=by
   intro t d f;rcases x o1 with a|⟨y,a⟩
   ·rw [a] at d;cases d
   ·rcases x o2 with b|⟨z,b⟩
    ·rw [b] at f;cases f
    ·rw [a] at d;rw [b] at f;simp at d f;exact k ⟨t,by rw [a,d],by rw [b,f]⟩
  refine p.again st _ (fun t j=>?_) (m.again _ _ (fun t j=>?_) ?_)
  ·show st.ay t=(ov l iP st).ay t;simp [ov,m.pd t (fun h=>i t h j)]
  ·show (ov n iP st).ay t=st.ay t;simp [ov,p.pd t (i t j)]
  ·have e:ov l iP (ov n iP st)=ov n iP (ov l iP st):=Ao (fun t=>by
    by_cases j:t∈di ops o1
    ·exact .inr (p.pd t (i t j))
    ·exact .inl (m.pd t j)) (fun _=>.inl rfl)
   show F (ov l iP (ov n iP st)) w1 w2;rw [e];exact p.next
theorem ie {o:Oper}{k:Nat}(h:o.dst=some k):k∈dt o:=by simp [dt,h]
theorem KS {ops:Array Oper}{m1 m2:CM}{h1 h2:Hint}{o1 o2:Oper}{st:St}{V:View}{K:St->View->Prop}
  (hi:indep LF RF ops h1 h2 o1 o2=true)
  (hm:mb (a_ LF RF o2.op)=true\/(a_ LF RF o2.op=.call/\m2=.none)\/((a_ LF RF o2.op=.kg/\m2=.ax)\/(a_ LF RF o2.op=.give/\m2=.give)\/a_ LF RF o2.op=.app))
  (hv:pZ P T m1 h1 ops o1 st V fun st1 V1=>pZ P T m2 h2 ops o2 st1 V1 K) :
  pZ P T m2 h2 ops o2 st V fun st2 V2=>pZ P T m1 h1 ops o1 st2 V2 K:=by
 unfold indep at hi;simp only [Qx1] at hi;obtain ⟨⟨⟨⟨⟨v,c⟩,g⟩,w⟩,y⟩,l⟩:=hi;split at l
 ·rename_i U W X Y z n;simp only [Qx1] at l;obtain ⟨⟨G,H⟩,I⟩:=l;rw [BN] at c g w y G H I;have M:∀k,o2.dst=some k->o1.dst≠some k:=fun k o C=>c k (ie C) (by simp [ie o]);simp only [AH] at hv ⊢
  have N:wW ops o1 st fun s m=>wW ops o2 s fun A j=>lr P T m1 h1 o1 V (fun r D=>lr P T m2 h2 o2 D K r j) A m:=by
   refine mr (fun s m f=>?_) hv
   cases m with
   | true=>
    obtain ⟨p,q,i⟩:=mO v z f;obtain ⟨B,j,b⟩:=eW i.next;refine b.again s _ (fun t a=>?_) ?_
    ·show s.ay t=(ov p q s).ay t;simp [ov,i.pd t (fun h=>c t h (by simp [a]))]
    ·refine i.again _ V _ (View.Le.refl V) (fun t a=>?_) (fun _ _=>rfl) ?_
     ·show (ov B iP s).ay t=s.ay t;simp [ov,b.pd t (fun h=>y t h a)]
     ·rw [Ao (q2:=iP) _ (fun _=>.inr rfl)]
      ·exact b.next
      ·intro t;by_cases a:t∈di ops o2
       ·exact .inl (i.pd t (fun h=>c t h (by simp [a])))
       ·exact .inr (b.pd t a)
   | false=>
    simp only [lr] at f;obtain ⟨B,j,b⟩:=eW f;have O:∀k,o1.dst=some k->B k=none:=fun k o=>b.pd k (fun h=>c k (ie o) (by simp [h]));refine b.again s _ (fun t a=>?_) ?_
    ·rw [d_];simp [ov,df (d:=o1.dst) (x:=iV) (t:=t) (fun h=>c t (ie h) (by simp [a]))]
    ·show lr P T m2 h2 o2 V K ((ov B iP s).put o1.dst iV) j;rw [jJ O];exact b.next
  have Q:=D3 N
  have R:wW ops o2 st fun s j=>wW ops o1 s fun A m=>lr P T m2 h2 o2 V (fun r D=>lr P T m1 h1 o1 D K r m) A j:=by
   refine mr (fun s j f=>mr (fun A m f=>?_) f) Q
   cases m with
   | true=>
    obtain ⟨p,q,i⟩:=mO v z f
    cases j with
    | true=>
     refine qB hm n (fun t a=>i.pd t (fun h=>c t h (by rcases a with a|a<;>simp [a]))) (fun s u=>i.qd s (fun h=>G s h u)) (fun s u=>i.qd s (fun h=>I s h u)) (fun s2 V2 b=>?_) i.next;obtain ⟨J,E,L,F⟩:=b;exact i.again s2 V2 K J (fun t a=>E t (fun h=>g t h (by simp [a]))) (fun s u=>L s (fun h=>H s h u)) F
    | false=>
     refine i.again _ V K (View.Le.refl V) (fun t a=>?_) (fun s _=>by cases o2.dst<;>rfl) ?_
     ·rw [d_];simp [ov,df (d:=o2.dst) (x:=iV) (t:=t) (fun h=>g t (ie h) (by simp [a]))]
     ·have:=i.next;simp only [lr] at this;rw [jJ (fun k o=>i.pd k (fun h=>c k h (by simp [ie o])))] at this;exact this
   | false=>
    cases j with
    | true=>
     simp only [lr] at f ⊢;rw [d_] at f;refine qB hm n (fun t a=>df (fun e=>c t (ie e) (by rcases a with a|a<;>simp [a]))) (fun s u=>rfl) (fun s u=>rfl) (fun s2 V2 b=>?_) f;have:=b.2.2.2;rw [←d_] at this;exact this
    | false=>
     simp only [lr] at f ⊢;rw [put_comm M];exact f
  refine mr (fun s j f=>?_) R
  cases j with
  | true=>
   simp only [lr] at f ⊢;obtain ⟨p,m,b⟩:=eW f;refine qB hm n (fun t a=>b.pd t (fun h=>?_)) (fun _ _=>rfl) (fun _ _=>rfl) (fun s2 V2 S=>?_) b.next
   ·rcases a with a|a
    ·exact w t h a
    ·exact g t a (by simp [h])
   ·obtain ⟨J,E,L,F⟩:=S;exact b.again s2 _ (fun t a=>E t (fun h=>g t h (by simp [a]))) F
  | false=>
   simp only [lr] at f ⊢;obtain ⟨p,m,b⟩:=eW f;refine b.again _ _ (fun t a=>?_) ?_
   ·rw [d_];simp [ov,df (d:=o2.dst) (x:=iV) (t:=t) (fun h=>g t (ie h) (by simp [a]))]
   ·have:=b.next;rw [jJ (fun k o=>b.pd k (fun h=>g k (ie o) (by simp [h])))] at this;exact this
 ·cases l
end Go.Eng
namespace Go.Eng
variable {P:Program} {T:cI} {LF RF:List Nat} {n:Nat} {V0:View} {bw:Ds} {β0:Nat->Nat}
def zy (P:Program)(T:cI)(m:Nat->CM)(hint:Nat->Hint)(ops:Array Oper):Nat->Array Bool->St->View->(St->View->Prop)->Prop
 | 0,listed,st,V,K=>Region.ready .any ops listed=[]/\K st V
 | fuel+1,listed,st,V,K=>(Region.ready .any ops listed=[]->K st V) /\
  ∀i∈Region.ready .any ops listed,∀o,ops[i]?=some o->pZ P T (m i) (hint i) ops o st V fun st' V'=>zy P T m hint ops fuel (listed.setIfInBounds i true) st' V' K
theorem sI (hT:cI.ok P T){m:Nat->CM}{hint:Nat->Hint}{ops:Array Oper}(hd:∀(i:Nat)(o:Oper),ops[i]?=some o->∀d,o.dst=some d->d<n){Q:Exit->Act->World->Prop}{K:St->View->Prop}
  (hK:∀st' β' a' w' V',Mod n V0 bw β0 st' β' a' w' V'->K st' V'->Q .normal a' w') :
  ∀(fuel:Nat)(listed:Array Bool)(st:St)(β:Nat->Nat)(a:Act)(w:World)(V:View),Mod n V0 bw β0 st β a w V->zy P T m hint ops fuel listed st V K->wpAny P .any ops Q fuel listed a w
 | 0,_,_,_,_,_,_,hM,hv=>⟨hv.1,hK _ _ _ _ _ hM hv.2⟩
 | fuel+1,listed,st,β,a,w,V,hM,hv=>by
  refine ⟨fun h=>hK _ _ _ _ _ hM (hv.1 h),fun i hi=>?_⟩;obtain ⟨-,o,ho,-⟩:=mem_ready.1 hi;have:=Cl (Q:=Q) (next:=wpAny P .any ops Q fuel (listed.setIfInBounds i true)) hT hM (hd i o ho) (hv.2 i hi o ho) (fun st' β' a' w' V' b c=>sI hT hd hK fuel _ st' β' a' w' V' b c);unfold wpOp;rw [ho];dsimp only;split at this
  ·rename_i hw;rw [if_pos hw];exact .inl this
  ·rename_i hw;rw [if_neg hw];exact this
theorem qw {sc:List Prop}{k k':Prop}(h:k->k')(g:zC sc k):zC sc k':=by
 obtain ⟨a,b⟩:=(cW sc _).1 g;exact (cW sc _).2 ⟨a,h b⟩
theorem yy {s:Nat}{vs:List Value}{k c size bytes:Nat}{ty:TypeId}{d:Nat}{st:St}{V:View}{K K':St->View->Prop}{j:Nat}{xs:List Value}(hk:∀s V',V.Le V'->K s V'->K' s V')
  (h:Bk s vs k c size bytes ty d st V K j xs):Bk s vs k c size bytes ty d st V K' j xs:=by
 unfold Bk at h ⊢;obtain ⟨e,f,g,i,l,a⟩:=h;refine ⟨e,f,g,i,l,?_⟩;split at a
 ·exact a.elim
 ·exact fun b J spare m n o=>hk _ _ (View.Le.refl V) (a b J spare m n o)
theorem vo {s:Nat}{vs:List Value}{k c size bytes:Nat}{ty:TypeId}{d:Nat}{st:St}{V:View}{K K':St->View->Prop}{j:Nat}{xs:List Value}(hk:∀s V',V.Le V'->K s V'->K' s V')
  (h:si s vs k c size bytes ty d st V K j xs):si s vs k c size bytes ty d st V K' j xs:=by
 unfold si at h ⊢;obtain ⟨b,e,f,g,i,a⟩:=h;refine ⟨b,e,f,g,i,?_⟩;split at a
 ·exact a.elim
 ·exact fun spare l m n=>hk _ _ (View.Le.refl V) (a spare l m n)
theorem yz {vs:List Value}{k c size bytes:Nat}{ty:TypeId}{d:Nat}{st:St}{V:View}{K K':St->View->Prop}{j:Nat}{xs:List Value}(hk:∀s V',V.Le V'->K s V'->K' s V')
  (h:Bl vs k c size bytes ty d st V K j xs):Bl vs k c size bytes ty d st V K' j xs:=by
 unfold Bl at h ⊢;obtain ⟨b,e,f,g,a⟩:=h;refine ⟨b,e,f,g,?_⟩;split at a
 ·exact a.elim
 ·exact fun spare i l m=>hk _ _ (View.Le.refl V) (a spare i l m)
theorem JP {Q0:Q}{dst:Option Nat}{st:St}{V:View}{K K':St->View->Prop}(hk:∀s V',V.Le V'->K s V'->K' s V')(h:tv Q0 dst st V K):tv Q0 dst st V K':=by
 cases Q0 with
 | fail=>exact h
 | ret sc x=>exact qw (hk _ _ (View.Le.refl V)) h
 | new sc b x=>
  simp only [tv] at h ⊢;split at h
  ·split at h
   ·rename_i o;exact qw (hk _ _ (View.Le.refl V)) h
   ·exact h.elim
  ·exact h.elim
 | tu sc s b=>
  simp only [tv] at h ⊢;split at h
  ·exact qw (hk _ _ (View.Le.refl V)) h
  ·exact h.elim
 | rd a sh=>
  obtain ⟨x,d,f⟩:=sh.split h;exact f _ (pI.2 ⟨(pI.1 d).1,hk _ _ (View.Le.refl V) (pI.1 d).2⟩)
 | nk i of size sh=>
  obtain ⟨x,d,f⟩:=sh.split h;exact f _ ⟨d.1,hk _ _ (View.Le.refl V) d.2⟩
 | qZ s i a c src size bytes ty=>
  simp only [tv] at h ⊢;split at h
  ·exact h.elim
  ·cases src with
   | inr xs=>exact vo hk h
   | inl ak=>
    obtain ⟨xs,d,f,g⟩:=h;exact ⟨xs,d,f,vo hk g⟩
 | app old ba i a c src size bytes ty=>
  simp only [tv] at h ⊢;split at h
  ·exact h.elim
  ·cases old with
   | some s=>
    dsimp only at h ⊢
    cases src with
    | inr xs=>exact yy hk h
    | inl ak=>
     obtain ⟨xs,d,f,g⟩:=h;exact ⟨xs,d,f,yy hk g⟩
   | none=>
    obtain ⟨i,j,k,l,m,h⟩:=h;refine ⟨i,j,k,l,m,?_⟩
    cases src with
    | inr xs=>exact yz hk h
    | inl ak=>
     obtain ⟨xs,d,f,g,n⟩:=h;exact ⟨xs,d,f,fun e=>hk _ _ (View.Le.refl V) (g e),fun e=>yz hk (n e)⟩
theorem rm {bx:Nat->Option aP}{β:Nat->Nat}{V:View}:∀{L:List Nat} {k k':Prop},(k->k')->pM bx β V L k->pM bx β V L k'
 | [],_,_,h,g=>h g
 | s::r,k,k',h,g=>by
  simp only [pM] at g ⊢;split at g
  ·exact fun h1=>rm h (g h1)
  ·exact g.elim
theorem nW {give:Bool}{sh:Sh}{L:List Nat}{mm:Option Nat}{d:Nat}{ety:TypeId}{β:Nat->Nat}{st:St}{V V' dX:View}{K K':St->View->Prop}{r':Value}
  (hm:∀k,mm=some k->k∈L)(hV:V.Le V')(hV2:V.Le dX)(hlv:∀s∈L,∃b,st.boxes s=some b/\(b.live->V'.H (β s)))(hk:∀s V',V.Le V'->K s V'->K' s V')
  (h:bM T give sh L mm d ety β st V' K r' dX):bM T give sh L mm d ety β st V' K' r' dX:=by
 refine kU (p:=fun _=>none) (q:=iP) (W:=eA mm d::L) (D:=[d]) (fun s c=>⟨rfl,Qq8 _ c⟩) hm ⟨rfl,by simp⟩ ⟨rfl,by simp⟩ hV hV2 hlv (fun s2 e a=>?_) h;exact hk _ _ a.1 a.2.2.2
theorem ik {m:CM}{f:FuncId}{xs:List SV}{ty:TypeId}{dst:Option Nat}{st:St}{V:View}{K K':St->View->Prop}(hk:∀s V',V.Le V'->K s V'->K' s V')
  (h:eM P T m f xs ty dst st V K):eM P T m f xs ty dst st V K':=by
 unfold eM at h ⊢;split at h
 ·exact h.elim
 ·split at h
  ·split at h
   ·split at h
    ·split at h
     ·exact h.elim
     ·exact fun V' a=>(h V' a).mono fun _ C hle g=>nW (fun k hk=>by cases hk) a (a.trans hle) (fun s r=>absurd r (by simp)) hk g
    ·exact h.elim
   ·split at h
    ·split at h
     ·exact h.elim
     ·split at h
      ·split at h
       ·split at h
        ·refine fun V' a=>(h V' a).mono fun _ C hle g=>?_;obtain ⟨b,i⟩:=g;obtain ⟨cs,⟨D,E,F,G⟩,H⟩:=mG _ i;refine ⟨b,H _ ⟨D,E,F,hk _ _ ?_ G⟩⟩;intro x o c;obtain ⟨I,M⟩:=(a.trans hle) x o c;obtain ⟨U,N⟩:=a x o c;have:=aB N;exact ⟨fun h=>h.elim I fun h=>by have:=h.1;omega,M⟩
        ·exact h.elim
       ·exact h.elim
      ·exact h.elim
    ·exact h.elim
   ·exact fun V' a=>(h V' a).mono fun _ _ hle g=>Sh.mono g fun x c=>⟨c.1,hk _ _ (a.trans hle) c.2⟩
  ·split at h
   ·exact h.elim
   ·rename_i u;rename_i X Y Z O _
    have v:∀{e:Bool} {y:Sh} {t:Option Nat} {d:Nat} {l:TypeId} {L:List Nat},(∀k,t=some k->k∈L) ->
      (∀V':View,V.Le V'->kC L (fun _=>0) fun β=>hU st.boxes β V' L (aa P f (aO β xs) (V'.ax (L.map (cO st.boxes β V'.w.heap.size))) (bM T e y L t d l β st V' K))) ->
      ∀V':View,V.Le V'->kC L (fun _=>0) fun β=>hU st.boxes β V' L (aa P f (aO β xs) (V'.ax (L.map (cO st.boxes β V'.w.heap.size))) (bM T e y L t d l β st V' K')):=by
     intro e y t d l L hm h V' a;exact eS (fun β i=>iM (fun _ _=>rfl) (fun Q n=>n.mono fun _ _ hle g=>nW hm a ((a.trans (tW V' _)).trans hle) Q hk g) i) (h V' a)
    split at h
    ·exact h.elim
    ·exact h.elim
    ·split at h
     ·split at h
      ·exact h.elim
      ·exact v (fun k hk=>by cases hk) h
     ·rename_i d l k h1 R B;split at h
      ·split at h
       ·exact h.elim
       ·refine v (fun j z=>?_) h;cases z;rw [←O];exact dR 3 _ k (bJ.2 (uT k (by rw [R];simp)))
      ·split at h
       ·exact h.elim
       ·split at h
        ·exact h.elim
        ·exact fun V' a=>eS (fun β i=>rm (fun n=>n.mono fun _ _ hle g=>nW (fun k hk=>by cases hk) a (a.trans hle) (fun s r=>absurd r (by simp)) hk g) i) (h V' a)
     ·exact h.elim
    ·split at h
     ·exact fun V' a=>eS (fun β i=>iM (fun _ _=>rfl) (fun _ n=>n.mono fun _ _ hle g=>Sh.mono g fun x c=>⟨c.1,ju (p:=fun _=>none) (q:=iP) (W:=_) (fun s r=>⟨rfl,r⟩) (fun S _ _ B=>hk _ _ (((a.trans (tW V' _)).trans hle).trans (Fq _)) B) c.2⟩) i) (h V' a)
     ·rename_i k A;split at h
      ·split at h
       ·exact h.elim
       ·refine v (fun j z=>?_) h;cases z;exact II u k (by rw [A];simp)
      ·exact h.elim
     ·exact h.elim
    ·split at h
     ·exact h.elim
     ·exact fun V' a=>eS (fun β i=>rm (fun n=>n.mono fun _ _ hle g=>Sh.mono g fun x c=>⟨c.1,fun J=>hk _ _ (a.trans hle) (c.2 J)⟩) i) (h V' a)
theorem sJ {m:CM}{f:FuncId}{xs:List SV}{ty:TypeId}{dst:Option Nat}{st:St}{V:View}{K K':St->View->Prop}(hk:∀s V',V.Le V'->K s V'->K' s V')
  (h:jP P T m f xs ty dst st V K):jP P T m f xs ty dst st V K':=by
 unfold jP at h ⊢;split at h
 ·split at h
  ·exact ⟨fun e=>⟨(h.1 e).1,ik hk (h.1 e).2⟩,fun e=>ik hk (h.2 e)⟩
  ·exact ik hk h
 ·exact ik hk h
theorem pY {m:CM}{o:Oper}{st:St}{V:View}{K K':St->View->Prop}(hk:∀s V',V.Le V'->K s V'->K' s V')(h:cF P T m o st V K):cF P T m o st V K':=by
 unfold cF at h ⊢;split at h
 ·split at h
  ·split at h
   ·exact sJ hk h
   ·exact h.elim
  ·exact h.elim
 ·split at h
  ·split at h
   ·split at h
    ·exact sJ hk h
    ·exact h.elim
   ·exact h.elim
  ·exact h.elim
 ·exact JP hk h
theorem CL {m:CM}{hi:Hint}{o:Oper}{st:St}{V:View}{K K':St->View->Prop}(hk:∀s V',V.Le V'->K s V'->K' s V')(h:cz P T m hi o st V K):cz P T m hi o st V K':=by
 unfold cz at h ⊢;split at h
 ·exact pY hk h
 ·split at h
  ·split at h
   ·exact pY hk h
   ·exact h.elim
  ·exact h.elim
theorem kx {m:CM}{hi:Hint}{ops:Array Oper}{o:Oper}{st:St}{V:View}{K K':St->View->Prop}(hk:∀s V',V.Le V'->K s V'->K' s V')(h:pZ P T m hi ops o st V K):pZ P T m hi ops o st V K':=by
 rw [AH] at h ⊢;refine mr (fun s w a=>?_) h
 cases w with
 | true=>exact CL hk a
 | false=>exact hk _ _ (View.Le.refl V) a
def IF (LF RF:List Nat)(m:CM)(o:Oper):Prop:=
 mb (a_ LF RF o.op)=true\/(a_ LF RF o.op=.call/\m=.none)\/((a_ LF RF o.op=.kg/\m=.ax)\/(a_ LF RF o.op=.give/\m=.give)\/a_ LF RF o.op=.app)
theorem I5 {m:CM}{h:Hint}{ops:Array Oper}{o:Oper}{st:St}{V:View}{R W:List Nat}(hq:mb (a_ LF RF o.op)=true)(hrw:pP (a_ LF RF o.op) h (dt o)=some (R,W))
  (hv:pZ P T m h ops o st V fun _ _=>False):False:=by
 rw [AH] at hv;obtain ⟨p,w,a⟩:=eW hv;have:=a.next
 cases w with
 | true=>obtain ⟨p,q,b⟩:=mO hq hrw this;exact b.next
 | false=>exact this
theorem r_ {ops:Array Oper}{h1 h2:Hint}{o1 o2:Oper}(hi:indep LF RF ops h1 h2 o1 o2=true) :
  mb (a_ LF RF o1.op)=true/\(∃R W,pP (a_ LF RF o1.op) h1 (dt o1)=some (R,W))/\∃R W,pP (a_ LF RF o2.op) h2 (dt o2)=some (R,W):=by
 unfold indep at hi;simp only [Qx1] at hi;obtain ⟨⟨⟨⟨⟨b,-⟩,-⟩,-⟩,-⟩,a⟩:=hi;split at a
 ·rename_i e f g h c d;exact ⟨b,⟨_,_,c⟩,_,_,d⟩
 ·cases a
theorem GO {ops:Array Oper}{i:Nat}{o:Oper}(ho:ops[i]?=some o){h:Hint}{R W:List Nat}(hrw:pP (a_ LF RF o.op) h (dt o)=some (R,W)):IF LF RF (jH LF RF ops i) o:=by
 unfold IF jH;rw [ho];dsimp only;generalize a_ LF RF o.op=c at hrw
 cases c with
 | odd=>cases h<;>cases hrw
 | g_=>cases h<;>cases hrw
 | call=>exact .inr (.inl ⟨rfl,rfl⟩)
 | kg=>exact .inr (.inr (.inl ⟨rfl,rfl⟩))
 | give=>exact .inr (.inr (.inr (.inl ⟨rfl,rfl⟩)))
 | app=>exact .inr (.inr (.inr (.inr rfl)))
 | _=>exact .inl rfl
section
variable {ops:Array Oper} {hint:Nat->Hint} {anc:Nat->Nat->Prop} {K:St->View->Prop}
theorem CK (hA:∀j o,ops[j]?=some o->∀i,anc j i->∃e∈o.after,Region.binds .any e=true/\(e.on=i\/anc e.on i)){i:Nat}{oi:Oper}(hi:ops[i]?=some oi) :
  ∀(fuel:Nat)(listed:Array Bool)(st:St)(V:View),(∀j,listed.getD j false=true->∀k,anc j k->listed.getD k false=true) ->
   (∀j oj,ops[j]?=some oj->j≠i->listed.getD j true=false->¬anc j i->indep LF RF ops (hint i) (hint j) oi oj=true)->i∈Region.ready .any ops listed ->
   (pZ P T (jH LF RF ops i) (hint i) ops oi st V fun st' V'=>zy P T (jH LF RF ops) hint ops fuel (listed.setIfInBounds i true) st' V' K) ->
   zy P T (jH LF RF ops) hint ops (fuel+1) listed st V K:=by
 have A:∀(listed:Array Bool)(j:Nat),(∀j,listed.getD j false=true->∀k,anc j k->listed.getD k false=true)->i∈Region.ready .any ops listed->j∈Region.ready .any ops listed->¬anc j i:=by
  intro listed j d p f F;obtain ⟨g,-⟩:=mem_ready.1 p
  have q:listed.getD i false=true->False:=by
   intro h;rcases Qy8 i listed.size with t|t
   ·simp [t] at g h;rw [g] at h;cases h
   ·simp [t] at h
  obtain ⟨-,o,u,m⟩:=mem_ready.1 f;obtain ⟨e,he,y,h⟩:=hA j o u i F;have r:=m e he y;rcases h with h|h
  ·rw [h] at r;exact q r
  ·exact q (d _ r i h)
 intro fuel
 induction fuel with
 | zero=>
  intro listed st V d a p H;refine ⟨fun h=>(by rw [h] at p;cases p),fun j f o u=>?_⟩;by_cases b:j=i
  ·subst b;rw [hi] at u;cases u;exact H
  ·exfalso;have w:=a j o u b (mem_ready.1 f).1 (A listed j d p f);obtain ⟨B,⟨R,W,C⟩,-⟩:=r_ w;refine I5 B C (kx (fun s V' _ h=>?_) H);have:=ready_mono f b;rw [h.1] at this;cases this
 | succ fuel ih=>
  intro listed st V d a p H;refine ⟨fun h=>(by rw [h] at p;cases p),fun j f oj c=>?_⟩;by_cases b:j=i
  ·subst b;rw [hi] at c;cases c;exact H
  ·have v:=A listed j d p f;have w:=a j oj c b (mem_ready.1 f).1 v;obtain ⟨B,⟨R,W,C⟩,M,N,G⟩:=r_ w;have r:=kx (fun s V' _ h=>h.2 j (ready_mono f b) oj c) H;have I:=KS w (GO c G) r;refine kx (fun s V' _ h=>?_) I;obtain ⟨-,J,D,m⟩:=mem_ready.1 f;rw [c] at D;cases D
   have L:j<ops.size:=by
    rcases Qy8 j ops.size with t|t
    ·exact t
    ·rw [Qn2 t] at c;cases c
   refine ih (listed.setIfInBounds j true) s V' ?_ ?_ (ready_mono p (Wx0 b)) ?_
   ·intro k x l E;by_cases n:j=k
    ·subst n;obtain ⟨e,he,y,h⟩:=hA j oj c l E;have r:=m e he y;rcases h with h|h
     ·rw [←h];exact getD_set_true r
     ·exact getD_set_true (d _ r l h)
    ·rw [getD_set_ne false n] at x;exact getD_set_true (d k x l E)
   ·intro k ok x z g q;refine a k ok x z ?_ q;by_cases n:j=k
    ·subst n;exact (mem_ready.1 f).1
    ·rw [getD_set_ne true n] at g;exact g
   ·rw [Array.setIfInBounds_comm _ _ b];exact h
theorem FR (hA:∀j o,ops[j]?=some o->∀i,anc j i->∃e∈o.after,Region.binds .any e=true/\(e.on=i\/anc e.on i)) :
  ∀(l done:List Nat)(listed:Array Bool)(st:St)(V:View),listed.size=ops.size->(∀j,listed.getD j false=dZ j done)->(∀j,j<ops.size->j∈done\/j∈l) ->
   (∀j,listed.getD j false=true->∀k,anc j k->listed.getD k false=true)->pJ ops done l=true ->
   (∀i r1 r2,l=r1++i::r2->∀j∈r2,anc j i\/∃a b,ops[i]?=some a/\ops[j]?=some b/\indep LF RF ops (hint i) (hint j) a b=true) ->
   JO P T (jH LF RF ops) hint ops l st V K->zy P T (jH LF RF ops) hint ops l.length listed st V K
 | [],done,listed,st,V,hs,hrel,Kx,_,_,_,hv=>by
  refine ⟨?_,hv⟩
  cases hr:Region.ready .any ops listed with
  | nil=>rfl
  | cons x xs=>
   exfalso;have hx:x∈Region.ready .any ops listed:=by rw [hr];simp
   obtain ⟨v,o,I,-⟩:=mem_ready.1 hx
   have w:x<ops.size:=by
    rcases Qy8 x ops.size with f|f
    ·exact f
    ·rw [Qn2 f] at I;cases I
   rcases Kx x w with h|h
   ·have m:=hrel x;rw [cj.2 h] at m;simp [hs,w] at v m;rw [v] at m;cases m
   ·cases h
 | i::r,done,listed,st,V,hs,hrel,Kx,hcl,n,LC,hv=>by
  simp only [pJ,Qx1] at n;obtain ⟨y,n⟩:=n;unfold Ev at y;split at y
  ·rename_i E c;simp only [Qx1,Qw7,Qz0,Qm4] at y;obtain ⟨N,O⟩:=y
   have z:i<ops.size:=by
    rcases Qy8 i ops.size with f|f
    ·exact f
    ·rw [Qn2 f] at c;cases c
   have d:∀e∈E.after,Region.binds .any e=true->listed.getD e.on false=true:=by
    intro e he t;rw [hrel];rcases O e (by simpa using he) with h|h
    ·rw [t] at h;cases h
    ·exact h
   have Q:i∈Region.ready .any ops listed:=by
    refine mem_ready.2 ⟨?_,E,c,d⟩;have:=hrel i;rw [N] at this;simp [hs,z] at this ⊢;exact this
   have A:∀j,(listed.setIfInBounds i true).getD j false=true->∀k,anc j k->(listed.setIfInBounds i true).getD k false=true:=by
    intro k J l L;by_cases B:i=k
    ·subst B;obtain ⟨e,he,t,h⟩:=hA i E c l L;have v:=d e he t;rcases h with h|h
     ·rw [←h];exact getD_set_true v
     ·exact getD_set_true (hcl _ v l h)
    ·rw [getD_set_ne false B] at J;exact getD_set_true (hcl k J l L)
   refine CK hA c r.length listed st V hcl (fun j S p g C F=>?_) Q ?_
   ·have D:j<ops.size:=by
     rcases Qy8 j ops.size with f|f
     ·exact f
     ·rw [Qn2 f] at p;cases p
    have G:j∈r:=by
     rcases Kx j D with h|h
     ·exfalso;have m:=hrel j;rw [cj.2 h] at m;simp [hs,D] at C m;rw [C] at m;cases m
     ·rcases Qq4.1 h with h|h
      ·exact absurd h g
      ·exact h
    rcases LC i [] r rfl j G with h|⟨a,b,M,t,h⟩
    ·exact absurd h F
    ·rw [c] at M;rw [p] at t;cases M;cases t;exact h
   ·simp only [JO,c] at hv
    have q:∀s u,JO P T (jH LF RF ops) hint ops r s u K->zy P T (jH LF RF ops) hint ops r.length (listed.setIfInBounds i true) s u K:=by
     intro s u R;refine FR hA r (i::done) (listed.setIfInBounds i true) s u (by simp [hs]) ?_ ?_ A n (fun k r1 r2 e j H=>LC k (i::r1) r2 (by rw [e];rfl) j H) R
     ·intro j;by_cases g:i=j
      ·subst g;simp [dZ,Qz8,hs,z]
      ·rw [getD_set_ne false g,hrel j];simp [dZ,cR (Wx0 g)]
     ·intro j H;rcases Kx j H with h|h
      ·exact .inl (by simp [h])
      ·rcases Qq4.1 h with h|h
       ·exact .inl (by simp [h])
       ·exact .inr h
    exact kx (fun s u _ h=>q s u h) hv
  ·cases y
end
theorem HF {m i:Nat}:Mp m i=true↔m.testBit i=true:=by
 unfold Mp;rw [beq_eq,Qf4,decide_eq_true_iff];show Nat.land (m >>> i) 1=1↔_;rw [show Nat.land (m >>> i) 1=(m >>> i) &&& 1 from rfl,Nat.and_one_is_mod,Nat.shiftRight_eq_div_pow]
def HA (acc:List Nat)(o:Oper):Nat:=o.after.toList.foldl (fun s e=>cond (Region.binds .any e) (Nat.lor (Nat.lor (Nat.shiftLeft 1 e.on) (acc.getD e.on 0)) s) s) 0
theorem Bj {acc:List Nat}{i:Nat}:∀(es:List Edge)(s:Nat),(es.foldl (fun s e=>cond (Region.binds .any e) (Nat.lor (Nat.lor (Nat.shiftLeft 1 e.on) (acc.getD e.on 0)) s) s) s).testBit i=true ->
  s.testBit i=true\/∃e∈es,Region.binds .any e=true/\(e.on=i\/(acc.getD e.on 0).testBit i=true)
 | [],s,h=>.inl h
 | e::r,s,h=>by
  simp only [Qc4] at h;rcases Bj r _ h with h1|⟨e',h1,h2,h3⟩
  ·cases hb:Region.binds .any e with
   | false=>rw [hb] at h1;exact .inl h1
   | true=>
    rw [hb] at h1;simp only [cond_true] at h1;have h1:(((1 <<< e.on) ||| (acc.getD e.on 0)) ||| s).testBit i=true:=h1;rw [Wy1,Wy1,Qm4,Qm4] at h1;rcases h1 with (h1|h1)|h1
    ·rw [Ww6,Qd2,Nat.testBit_two_pow] at h1;exact .inr ⟨e,by simp,hb,.inl (by simpa using h1)⟩
    ·exact .inr ⟨e,by simp,hb,.inr h1⟩
    ·exact .inl h1
  ·exact .inr ⟨e',by simp [h1],h2,h3⟩
theorem yx:∀(l:List Oper)(acc:List Nat),∃ext,l.foldl (fun acc o=>acc++[HA acc o]) acc=acc++ext/\∀k o,l[k]?=some o->∃pre QM,ext=pre++QM/\ext.getD k 0=HA (acc++pre) o
 | [],acc=>⟨[],by simp,fun k o h=>by simp at h⟩
 | o::r,acc=>by
  obtain ⟨ext,h1,h2⟩:=yx r (acc++[HA acc o]);refine ⟨HA acc o::ext,by simp [h1],fun k a h=>?_⟩
  cases k with
  | zero=>
   simp at h;subst h;exact ⟨[],_,rfl,by simp⟩
  | succ k=>
   simp at h;obtain ⟨pre,QM,b,c⟩:=h2 k a h;exact ⟨HA acc o::pre,QM,by simp [b],by simpa using c⟩
theorem Dy {ops:List Oper}(j:Nat)(o:Oper)(ho:ops[j]?=some o):∀i,((FZ ops).getD j 0).testBit i=true->∃e∈o.after,Region.binds .any e=true/\(e.on=i\/((FZ ops).getD e.on 0).testBit i=true):=by
 intro i c;obtain ⟨ext,d,f⟩:=yx ops [];have he:FZ ops=ext:=(show FZ ops=[]++ext from d).trans (Qm3 _);obtain ⟨pre,n,g,k⟩:=f j o ho;rw [he,k] at c;rcases Bj _ _ c with h|⟨e,l,m,a⟩
 ·simp at h
 ·refine ⟨e,by simpa using l,m,?_⟩;rcases a with a|a
  ·exact .inl a
  ·right;simp only [Qm3] at a;rw [he,g];rcases Qy8 e.on pre.length with b|b
   ·simpa [Qx4 b] using a
   ·simp [b] at a
theorem vB {ops:Array Oper}{hs:List Hint}{an:List Nat}:∀{l:List Nat},tX LF RF ops hs an l=true->∀i r1 r2,l=r1++i::r2->∀j∈r2,(an.getD j 0).testBit i=true\/∃a b,ops[i]?=some a/\ops[j]?=some b/\indep LF RF ops (hs.getD i .free) (hs.getD j .free) a b=true
 | [],_,i,r1,r2,e,_,_=>by simp at e
 | x::l,h,i,r1,r2,e,j,hj=>by
  simp only [tX,Qx1,Qz0] at h
  cases r1 with
  | nil=>
   simp at e;obtain ⟨rfl,rfl⟩:=e;have:=h.1 j hj;rw [Qm4] at this;rcases this with c|c
   ·exact .inl (HF.1 c)
   ·split at c
    ·rename_i a b d f;exact .inr ⟨a,b,d,f,c⟩
    ·cases c
  | cons y r1=>
   simp at e;exact vB h.2 i r1 r2 e.2 j hj
theorem EG {m:Nat->CM}{hint:Nat->Hint}{ops:Array Oper}:∀{l:List Nat} {st:St} {V:View} {K K':St->View->Prop},(∀s V',V.Le V'->K s V'->K' s V')->JO P T m hint ops l st V K->JO P T m hint ops l st V K'
 | [],_,V,_,_,hk,h=>hk _ _ (View.Le.refl V) h
 | i::r,st,V,K,K',hk,h=>by
  simp only [JO] at h ⊢;split at h
  ·exact kx (fun s V' hle h=>EG (fun s dX hle' h=>hk s dX (hle.trans hle') h) h) h
  ·exact h.elim
theorem pL {st:St}{β:Nat->Nat}{a:Act}{w:World}{V:View}(hT:cI.ok P T)(hmx:P.follows .mixedOrders=true)(hM:Mod n V0 bw β0 st β a w V){id:Nat}{ops:Array Oper}{draw:Bool}
  (hd:∀(i:Nat)(o:Oper),ops[i]?=some o->∀d,o.dst=some d->d<n){Q:Exit->Act->World->Prop}{K:Exit->St->View->Prop}
  (hv:CN P T LF RF ops draw st V (K .normal))(hK:∀st' β' a' w' V',Mod n V0 bw β0 st' β' a' w' V'->V.Le V'->K .normal st' V'->Q .normal a' w'):(Code.region id ops draw).wp P Q a w:=by
 cases draw with
 | false=>
  simp only [CN] at hv;exact wp_region (zj (K:=fun s V'=>V.Le V'/\K .normal s V') hT hd (fun st' β' a' w' V' b h=>hK st' β' a' w' V' b h.1 h.2) _ st β a w V hM (EG (fun s V' hle h=>⟨hle,h⟩) hv))
 | true=>
  simp only [CN] at hv;split at hv
  ·rename_i e;simp only [Fv,Qx1,Qz0,List.mem_range] at e;obtain ⟨⟨⟨f,g⟩,k⟩,l⟩:=e;refine wp_region_any hmx ?_
   have:=FR (P:=P) (T:=T) (LF:=LF) (RF:=RF) (ops:=ops) (hint:=fun i=>(ops.toList.map (Ih LF RF st ops.toList)).getD i .free) (anc:=fun j i=>((FZ ops.toList).getD j 0).testBit i=true) (K:=fun s V'=>V.Le V'/\K .normal s V')
    (fun j o e=>Dy j o (by simpa using e)) (n_ LF RF ops) [] (Array.replicate ops.size false) st V (by simp) (fun j=>by
     simp only [dZ,Array.getD];split<;>simp) (fun j c=>.inr (cj.1 (g j c))) (fun j c=>by
     exfalso;simp only [Array.getD] at c;split at c<;>simp at c) k (vB l) (EG (fun s V' hle h=>⟨hle,h⟩) hv)
   rw [beq_eq.1 f] at this;exact sI hT hd (fun st' β' a' w' V' b h=>hK st' β' a' w' V' b h.1 h.2) _ _ _ β _ _ _ hM.drew this
  ·exact hv.elim
end Go.Eng
