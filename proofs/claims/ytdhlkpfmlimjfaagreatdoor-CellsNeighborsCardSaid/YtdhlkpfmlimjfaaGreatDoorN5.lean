import Derived.Test.YtdhlkpfmlimjfaaGreatDoorN4
import Derived.Orders
import Derived.Scope
set_option linter.unusedVariables false
open Go.IntKind (i64 u64 u32)
namespace Go.Eng
variable {P:Program} {T:cI} {LF RF:List Nat} {m:CM}
def Good (p:Nat->Option SV)(q:Nat->Option aF)(W D:List Nat)(st:St)(V:View)(K:St->View->Prop):St->View->Prop:=
 fun st2 V2=>V.Le V2/\(∀t,t∉D->st2.ao t=st.ao t)/\(∀s,s∉W->st2.boxes s=st.boxes s)/\K (ov p q st2) V2
theorem oF {bx bx':Nat->Option aF}:∀{l:List Nat},(∀s∈l,bx' s=bx s)->l.flatMap (kv bx')=l.flatMap (kv bx)
 | [],_=>rfl
 | s::r,h=>by
  simp only [List.flatMap_cons];rw [oF fun s hs=>h s (by simp [hs])];simp only [kv];rw [h s (by simp)]
theorem mb {bx bx':Nat->Option aF}:∀(n:Nat)(l:List Nat),(∀s∈reach bx n l,bx' s=bx s)->reach bx' n l=reach bx n l
 | 0,_,_=>rfl
 | n+1,l,h=>by
  have hl:∀s∈l,bx' s=bx s:=fun s a=>h s (d_ (n+1) l s a);simp only [reach] at h ⊢;rw [oF hl];exact mb n _ h
theorem wW {bx bx':Nat->Option aF}{l:List Nat}(h:∀s∈l,bx' s=bx s):gx bx' l=gx bx l:=by
 unfold gx;rw [Bool.eq_iff_iff,List.all_eq_true,List.all_eq_true];constructor
 ·intro g s a;have:=g s a;simp only [kv] at this ⊢;rw [h s a] at this;exact this
 ·intro g s a;have:=g s a;simp only [kv] at this ⊢;rw [h s a];exact this
theorem fo:∀{L:List Nat} {β:Nat->Nat} {k k':(Nat->Nat)->Prop},(∀β,k β->k' β)->kr L β k->kr L β k'
 | [],_,_,_,h,g=>h _ g
 | _::_,_,_,_,h,g=>fun b=>fo h (g b)
theorem u_ {bx bx':Nat->Option aF}{b:aF}{β:Nat->Nat}{s:Nat}:∀{r:List Nat} {k k':Prop},(∀t∈r,bx' t=bx t)->(k->k')->Mh bx b β s r k->Mh bx' b β s r k'
 | [],_,_,_,h,g=>h g
 | t::r,k,k',hb,h,g=>by
  have hr:=fun t a=>hb t (List.mem_cons_of_mem _ a);simp only [Mh] at g ⊢;rw [hb t (by simp)]
  cases hbq:Nat.beq s t with
  | true=>rw [hbq] at g;exact u_ hr h g
  | false=>
   rw [hbq] at g;simp only [cond_false] at g ⊢;split at g
   ·exact fun c=>u_ hr h (g c)
   ·exact g
theorem iQ {bx bx':Nat->Option aF}{β:Nat->Nat}{V:View}:∀{L:List Nat} {k k':Prop},(∀s∈L,bx' s=bx s)->((∀s∈L,∃b,bx s=some b/\(b.live->V.H (β s)))->k->k')->hJ bx β V L k->hJ bx' β V L k'
 | [],_,_,_,h,g=>h (fun s hs=>absurd hs (by simp)) g
 | s::r,k,k',hb,h,g=>by
  have hr:=fun t a=>hb t (List.mem_cons_of_mem _ a);simp only [hJ] at g ⊢;rw [hb s (by simp)];split at g
  ·rename_i b c;refine fun e d=>iQ hr (fun f=>u_ hr (fun i=>h (fun t a=>?_) i)) (g e d);rcases List.mem_cons.1 a with rfl|a
   ·exact ⟨b,c,e_.1 d⟩
   ·exact f t a
  ·exact g
theorem jr {mv:Option (Nat×Nat)}:∀{cs zs:List C} {K K':List C->Prop},(∀c,K c->K' c)->kO mv cs zs K->kO mv cs zs K'
 | [],_,_,_,h,g=>h _ g
 | _::_,[],_,_,_,g=>g.elim
 | c::r,z::zr,K,K',h,g=>by
  simp only [kO] at g ⊢;split at g
  ·split at g
   ·split at g
    ·obtain ⟨n,c,g⟩:=g;exact ⟨n,c,jr (fun cs a=>h _ a) g⟩
    ·exact g.elim
   ·exact g.elim
  ·split at g
   ·obtain ⟨v,b,d⟩:=wD.split _ g;rename_i e;rw [e] at *;exact d _ (jr (fun cs a=>h _ a) b)
   ·exact jr (fun cs a=>h _ a) g
variable {p:Nat->Option SV} {q:Nat->Option aF}
theorem js {mv:Option (Nat×Nat)}{β:Nat->Nat}{V:View}{W:List Nat}:∀{L:List Nat} {st:St} {k k':St->Prop},(∀s∈L,q s=none/\s∈W) ->
  (∀st',(∀t,st'.ao t=st.ao t)->(∀s,s∉W->st'.boxes s=st.boxes s)->k (ov p q st')->k' st')->dK T mv β V L (ov p q st) k->dK T mv β V L st k'
 | [],st,k,k',_,h,g=>h st (fun _=>rfl) (fun _ _=>rfl) g
 | s::r,st,k,k',hq,h,g=>by
  obtain ⟨Ni,Po⟩:=hq s (by simp);have o:∀s∈r,q s=none/\s∈W:=fun s u=>hq s (by simp [u])
  have j:∀b:aF,∀l:St->Prop,(∀st',l st'=k st')->dK T mv β V r ((ov p q st).box s b) l->dK T mv β V r (st.box s b) k':=by
   intro b l m g;rw [jD Ni] at g;refine js o (fun st' a c f=>h st' a (fun v d=>?_) (by rw [←m];exact f)) g;rw [c v d,ah,if_neg (fun e=>d (by rw [e];exact Po))]
  simp only [dK] at g ⊢;rw [bS Ni] at g;split at g
  ·rename_i cs ty z;split at g
   ·rename_i i A;exact jr (fun w f=>⟨f.1,j _ _ (fun _=>rfl) f.2⟩) g
   ·exact g
  ·obtain ⟨n,a,c⟩:=g;exact ⟨n,a,j _ _ (fun _=>rfl) c⟩
  ·obtain ⟨x,n,y,a,c⟩:=g;exact ⟨x,n,y,a,j _ _ (fun _=>rfl) c⟩
  ·exact g
theorem tz (V:View)(l:List Nat):V.Le (V.lend l):=fun _ _ h=>h
theorem FA (V:View):V.Le V.shut:=fun _ _ h=>h
theorem Ck {V V' eF:View}{P:Prop}{b:Nat}(h:V.Le eF)(h':V.Le V')(hb:P->V'.w.heap.size<=b\/V'.H b):V.Le (eF.shut.hideG P b):=by
 intro x o c;obtain ⟨f,g⟩:=h x o c;obtain ⟨i,j⟩:=h' x o c;refine ⟨fun a=>?_,g⟩;rcases a with a|⟨k,e,-⟩
 ·exact f a
 ·subst e;rcases hb k with d|d
  ·have:=ar j;omega
  ·exact i d
theorem I6 {m:Option Nat}{d:Nat}:eO m d=d\/eO m d=d+200000:=by
 cases m with
 | none=>exact .inl rfl
 | some m=>
  simp only [eO,mW]
  cases Nat.blt m 100000 with
  | true=>exact .inl rfl
  | false=>exact .inr rfl
theorem kS {give:Bool}{sh:Sh}{L:List Nat}{mm:Option Nat}{d:Nat}{ety:TypeId}{β:Nat->Nat}{st:St}{V V' eF:View}{K K':St->View->Prop}{W D:List Nat}{r':Value}
  (hL:∀s∈L,q s=none/\s∈W)(hm:∀k,mm=some k->k∈L)(hp:p d=none/\d∈D)(hq:q (eO mm d)=none/\eO mm d∈W)(hV:V.Le V')(hV2:V.Le eF)
  (hlv:∀s∈L,∃b,st.boxes s=some b/\(b.live->V'.H (β s)))(hK:∀s2 V2,Good p q W D st V K s2 V2->K' s2 V2)
  (h:bH T give sh L mm d ety β (ov p q st) V' K r' eF):bH T give sh L mm d ety β st V' K' r' eF:=by
 unfold bH at h ⊢;obtain ⟨c,a,v,y,z⟩:=h
 have j:a≠[]->V'.w.heap.size<=c\/wq mm st β c:=by
  intro f;refine (y f).imp id fun h=>?_;unfold wq at h ⊢
  cases mm with
  | none=>exact h
  | some k=>
   dsimp only at h ⊢;rw [bS (hL k (hm k rfl)).1] at h;exact h
 have A:a≠[]->V'.w.heap.size<=c\/V'.H c:=by
  intro f;refine (j f).imp id fun h=>?_;unfold wq at h
  cases mm with
  | none=>exact h.elim
  | some k=>
   dsimp only at h;obtain ⟨B,o,g⟩:=hlv k (hm k rfl);rw [o] at h;obtain ⟨cs,ty⟩:=B
   cases cs with
   | lit cs=>have h:c=β k:=h;rw [h];exact g cB
   | row cs=>have h:c=β k:=h;rw [h];exact g cd
   | aJ vs=>have h:vs≠[]/\c=β k:=h;rw [h.2];exact g (dZ h.1)
 refine ⟨c,a,v,j,Sh.mono z fun x u=>⟨u.1,?_⟩⟩
 have C:(oT mm ety (ov p q st)).box (eO mm d) ⟨.aJ a,ety⟩=ov p q ((oT mm ety st).box (eO mm d) ⟨.aJ a,ety⟩):=by
  cases mm with
  | none=>exact jD hq.1
  | some k=>
   simp only [oT];rw [jD (hL k (hm k rfl)).1,jD hq.1]
 have l:=u.2;rw [C] at l
 have m:∀s∈Cl mm L,q s=none/\s∈W:=by
  intro s i
  cases mm with
  | none=>exact hL s i
  | some k=>exact hL s (uY.1 i).1
 refine js m (fun r E F n=>?_) l;rw [jE (fun k n=>by cases n;exact hp.1)] at n;refine hK _ _ ⟨Ck hV2 hV A,?_,?_,n⟩
 ·intro t G;rw [cS,if_neg (fun e=>G (by rw [e];exact hp.2)),E];cases mm<;>rfl
 ·intro s i;show r.boxes s=_;rw [F s i,ah,if_neg (fun e=>i (by rw [e];exact hq.2))]
  cases mm with
  | none=>rfl
  | some k=>simp only [oT];rw [ah,if_neg (fun e=>i (by rw [e];exact (hL k (hm k rfl)).2))]
theorem I0 {bx:Nat->Option aF}{L:List Nat}(hcl:gx bx L=true):∀k,k∈pg bx L->k∈L:=by
 intro k a;unfold pg at a;obtain ⟨s,b,a⟩:=List.mem_flatMap.1 (bC.1 a);split at a
 ·rename_i cs ty d;refine fq hcl b d k ?_
  have:∀cs:List C,k∈nL cs->k∈cs.flatMap C.ids:=by
   intro cs
   induction cs with
   | nil=>exact fun h=>nomatch h
   | cons c r ih=>
    intro h;rw [List.flatMap_cons,List.mem_append]
    cases c<;>simp only [nL,List.mem_cons] at h<;>first
     | exact .inr (ih h)
     | (rcases h with h|h
        ·left;simp [C.ids,h]
        ·exact .inr (ih h))
  exact this cs a
 ·cases a
theorem uD {xs:List SV}:∀k,k∈kQ xs->k∈xs.flatMap SV.ids:=by
 intro k
 induction xs with
 | nil=>exact fun h=>nomatch h
 | cons x r ih=>
  intro h;rw [List.flatMap_cons,List.mem_append];unfold kQ at h;split at h
  ·rename_i heq;cases heq
  ·rename_i s n c a heq;cases heq;exact .inl h
  ·rename_i s n c a heq;cases heq;exact .inl h
  ·rename_i heq;cases heq;exact .inr (ih h)
theorem rN {bx bx':Nat->Option aF}{L:List Nat}(h:∀s∈L,bx' s=bx s):pg bx' L=pg bx L:=by
 unfold pg;congr 1
 induction L with
 | nil=>rfl
 | cons s r ih=>simp only [List.flatMap_cons];rw [h s (by simp),ih fun s a=>h s (by simp [a])]
theorem fT {st:St}{mm:Option Nat}{d:Nat}(h:q (eO mm d)=none):iT (ov p q st) mm d=iT st mm d:=by
 unfold iT;rw [bS h]
theorem rL {bx bx':Nat->Option aF}{β:Nat->Nat}{N:Nat}{L:List Nat}(h:∀s∈L,bx' s=bx s):L.map (cR bx' β N)=L.map (cR bx β N):=
 List.map_congr_left fun s a=>by unfold cR;rw [h s a]
theorem DB:∀{L:List Nat} {st:St},(∀s∈L,q s=none)->di (ov p q st) L 0=ov p q (di st L 0)
 | [],_,_=>rfl
 | s::r,st,h=>by
  show di ((ov p q st).box s ⟨.aJ [],0⟩) r 0=ov p q (di (st.box s ⟨.aJ [],0⟩) r 0);rw [jD (h s (by simp))];exact DB fun s hs=>h s (by simp [hs])
theorem zd {bx bx':Nat->Option aF}{β:Nat->Nat}{V:View}:∀{L:List Nat} {k k':Prop},(∀s∈L,bx' s=bx s)->(k->k')->pA bx β V L k->pA bx' β V L k'
 | [],_,_,_,h,g=>h g
 | s::r,k,k',hb,h,g=>by
  simp only [pA] at g ⊢;rw [hb s (by simp)];split at g
  ·exact fun h1=>zd (fun t ht=>hb t (List.mem_cons_of_mem _ ht)) h (g h1)
  ·exact g.elim
theorem iq {f:FuncId}{xs:List SV}{ty:TypeId}{dst:Option Nat}{st:St}{V:View}{K:St->View->Prop}{W D:List Nat}
  (hm:m=.none\/((m=.lend\/m=.give)/\(∀s∈reach (ov p q st).boxes 3 (dedup (xs.flatMap SV.ids)),q s=none/\s∈W)/\∀k,dst=some k->∀mm,q (eO mm k)=none/\eO mm k∈W))(hd:∀k,dst=some k->p k=none/\k∈D)
  {K':St->View->Prop}(hK:∀s2 V2,Good p q W D st V K s2 V2->K' s2 V2)(hv:fg P T m f xs ty dst (ov p q st) V K):fg P T m f xs ty dst st V K':=by
 have B:∀(n:St)(x:SV),(∀t,n.ao t=st.ao t)->∀t,t∉D->(n.put dst x).ao t=st.ao t:=by
  intro n x h t i
  cases dst with
  | none=>exact h t
  | some d=>rw [cS,if_neg (fun e=>i (by rw [e];exact (hd d rfl).2))];exact h t
 have H:∀(n:St)(x:SV),(n.put dst x).boxes=n.boxes:=by intro n x;cases dst<;>rfl
 unfold fg at hv ⊢;split at hv
 ·exact hv.elim
 ·rename_i R a0
  have F:∀L,reach (ov p q st).boxes 3 (dedup (xs.flatMap SV.ids))=L->(∀s∈L,q s=none)->reach st.boxes 3 (dedup (xs.flatMap SV.ids))=L:=by
   intro L Z YF;rw [←Z];exact mb 3 _ fun s v=>(bS (YF s (by rw [←Z];exact v))).symm
  have LY:∀s∈xs.flatMap SV.ids,s∈reach (ov p q st).boxes 3 (dedup (xs.flatMap SV.ids)):=fun s v=>d_ 3 _ s (bC.2 v);generalize hr:reach (ov p q st).boxes 3 (dedup (xs.flatMap SV.ids))=L at hv hm LY
  cases L with
  | nil=>
   rw [F _ hr (fun s v=>nomatch v)]
   have plain:(∀c:View,V.Le c->Acts P f (aE (fun _=>0) xs) c fun r z=>R.ex fun x=>r=x.den (fun _=>0)/\K ((ov p q st).put dst x) z) ->
     ∀c:View,V.Le c->Acts P f (aE (fun _=>0) xs) c fun r z=>R.ex fun x=>r=x.den (fun _=>0)/\K' (st.put dst x) z:=by
    intro hv c b;refine (hv c b).mono fun r z hle l=>Sh.mono l fun x I=>⟨I.1,?_⟩;have A:=I.2;rw [jE (fun k l=>(hd k l).1)] at A;exact hK _ _ ⟨b.trans hle,B st x fun _=>rfl,fun s _=>by rw [H],A⟩
   rcases hm with rfl|⟨rfl|rfl,-,g⟩
   ·exact plain hv
   ·exact plain hv
   ·dsimp only at hv ⊢;split at hv
    ·rename_i d o a1;rw [fT (g d rfl Option.none).1] at hv;split at hv
     ·exact hv.elim
     ·rename_i u;intro c b;refine (hv c b).mono fun r z hle l=>?_;exact kS (W:=W) (D:=D) (fun s v=>absurd v (by simp)) (fun k l=>by cases l) (hd d rfl) (g d rfl Option.none) b (b.trans hle) (fun s v=>absurd v (by simp)) hK l
    ·exact hv.elim
  | cons s r=>
   dsimp only at hv;split at hv
   ·exact hv.elim
   ·rename_i J
    have lend:m=.lend\/m=.give->(∀t∈s::r,q t=none/\t∈W)->(∀k,dst=some k->∀mm,q (eO mm k)=none/\eO mm k∈W) ->
      ∀{give:Bool} {mm:Option Nat} {d:Nat} {o:TypeId},dst=some d->(∀k,mm=some k->k∈s::r) ->
      (∀c:View,V.Le c->kr (s::r) (fun _=>0) fun β=>hJ (ov p q st).boxes β c (s::r) (Acts P f (aE β xs) (c.lend ((s::r).map (cR (ov p q st).boxes β c.w.heap.size))) (bH T give R (s::r) mm d o β (ov p q st) c K))) ->
      ∀c:View,V.Le c->kr (s::r) (fun _=>0) fun β=>hJ st.boxes β c (s::r) (Acts P f (aE β xs) (c.lend ((s::r).map (cR st.boxes β c.w.heap.size))) (bH T give R (s::r) mm d o β st c K')):=by
     intro _ a g give mm d o C SU hv c b;have E:∀t∈s::r,st.boxes t=(ov p q st).boxes t:=fun t i=>(bS (a t i).1).symm;refine fo (fun β M=>?_) (hv c b);rw [rL (bx:=(ov p q st).boxes) E];refine iQ (bx:=(ov p q st).boxes) E (fun hH y=>?_) M;refine y.mono fun r' z hle l=>?_;have N:V.Le z:=(b.trans (tz c _)).trans hle;exact kS a SU (hd d C) (g d C mm) b N (fun t i=>by rw [E t i];exact hH t i) hK l
    have base:m=.lend\/m=.give->(∀t∈s::r,q t=none/\t∈W)/\(∀k,dst=some k->∀mm,q (eO mm k)=none/\eO mm k∈W):=by
     intro h;rcases hm with rfl|⟨-,O,A⟩
     ·rcases h with h|h<;>cases h
     ·exact ⟨O,A⟩
    have Vg:(∀t∈s::r,q t=none/\t∈W)->gx st.boxes (s::r)=true:=fun a=>by
     rw [wW (bx:=(ov p q st).boxes) (fun t i=>(bS (a t i).1).symm)];exact J
    split at hv
    ·exact hv.elim
    ·exact hv.elim
    ·
     obtain ⟨a,g⟩:=base (.inr rfl);rw [F _ hr (fun t i=>(a t i).1)];dsimp only;rw [Vg a];dsimp only;have G:=rN (bx:=(ov p q st).boxes) (bx':=st.boxes) (L:=s::r) (fun t i=>(bS (a t i).1).symm);rw [G];split at hv
     ·rename_i d o O A h3;rw [fT (g d rfl _).1] at hv;split at hv
      ·exact hv.elim
      ·rename_i u;exact lend (.inr rfl) a g rfl (fun k l=>by cases l) hv
     ·rename_i d o k O A h3;have Q:k∈s::r:=LY k (uD k (by rw [A];simp));have U:AE (ov p q st).boxes k o=AE st.boxes k o:=by unfold AE;rw [bS (a k Q).1]
      rw [U] at hv;split at hv
      ·rw [fT (g d rfl _).1] at hv;split at hv
       ·exact hv.elim
       ·rename_i u;exact lend (.inr rfl) a g rfl (fun j X=>by cases X;exact Q) hv
      ·rw [DB (fun t i=>(a t i).1),fT (g d rfl _).1] at hv;split at hv
       ·exact hv.elim
       ·rename_i u;split at hv
        ·exact hv.elim
        ·intro c b;refine fo (fun β M=>?_) (hv c b);refine zd (bx:=(ov p q st).boxes) (fun t i=>(bS (a t i).1).symm) (fun y=>?_) M;refine y.mono fun r' z hle l=>?_;exact kS (W:=W) (D:=D) (st:=di st (s::r) 0) (fun s v=>absurd v (by simp)) (fun k l=>by cases l) (hd d rfl) (g d rfl Option.none) b (b.trans hle) (fun s v=>absurd v (by simp)) (fun s2 V2 S=>hK s2 V2 ⟨S.1,fun t i=>(S.2.1 t i).trans (by rw [jx]),fun t i=>(S.2.2.1 t i).trans (by rw [aU,if_neg fun h=>i (a t h).2]),S.2.2.2⟩) l
     ·exact hv.elim
    ·
     obtain ⟨a,g⟩:=base (.inl rfl);rw [F _ hr (fun t i=>(a t i).1)];dsimp only;rw [Vg a];dsimp only;have E:∀t∈s::r,st.boxes t=(ov p q st).boxes t:=fun t i=>(bS (a t i).1).symm;have G:=rN (bx:=(ov p q st).boxes) (bx':=st.boxes) (L:=s::r) E;rw [G];split at hv
     ·intro c b;refine fo (fun β M=>?_) (hv c b);rw [rL (bx:=(ov p q st).boxes) E];refine iQ (bx:=(ov p q st).boxes) E (fun _ y=>?_) M;refine y.mono fun r' z hle l=>Sh.mono l fun x I=>⟨I.1,?_⟩;refine js a (fun n O A l=>?_) I.2;rw [jE (fun k l=>(hd k l).1)] at l;exact hK _ _ ⟨((b.trans (tz c _)).trans hle).trans (FA _),B n x O,fun t i=>by rw [H];exact A t i,l⟩
     ·rename_i k l;have Nb:k∈s::r:=I0 J k (by rw [l];simp);have Y:jP st.boxes k=jP (ov p q st).boxes k:=by unfold jP;rw [E k Nb]
      rw [Y];split at hv
      ·rename_i d o a2;rw [fT (g d rfl _).1] at hv;split at hv
       ·exact hv.elim
       ·rename_i u;exact lend (.inl rfl) a g rfl (fun j X=>by cases X;exact Nb) hv
      ·exact hv.elim
     ·exact hv.elim
    ·rcases hm with h|h
     ·cases h
     ·rcases h.1 with h|h<;>cases h
theorem CK {bx:Nat->Option aF}:∀(n:Nat) {l l':List Nat},(∀x∈l,x∈l')->∀x∈reach bx n l,x∈reach bx n l'
 | 0,_,_,h,x,hx=>h x hx
 | n+1,l,l',h,x,hx=>by
  simp only [reach] at hx ⊢;refine CK n (fun y hy=>?_) x hx;rw [bC,List.mem_append] at hy ⊢;rcases hy with hy|hy
  ·exact .inl (h y hy)
  ·obtain ⟨z,hz,hy⟩:=List.mem_flatMap.1 hy;exact .inr (List.mem_flatMap.2 ⟨z,h z hz,hy⟩)
theorem rX {f:FuncId}{xs:List SV}{ty:TypeId}{dst:Option Nat}{st:St}{V:View}{K:St->View->Prop}{W D:List Nat}
  (hm:m=.none\/((m=.lend\/m=.give)/\(∀s∈reach (ov p q st).boxes 3 (dedup (xs.flatMap SV.ids)),q s=none/\s∈W)/\∀k,dst=some k->∀mm,q (eO mm k)=none/\eO mm k∈W))(hd:∀k,dst=some k->p k=none/\k∈D)
  {K':St->View->Prop}(hK:∀s2 V2,Good p q W D st V K s2 V2->K' s2 V2)(hv:jI P T m f xs ty dst (ov p q st) V K):jI P T m f xs ty dst st V K':=by
 have a:=hm
 cases m with
 | lend=>
  obtain ⟨b,d⟩:(∀s∈reach (ov p q st).boxes 3 (dedup (xs.flatMap SV.ids)),q s=none/\s∈W)/\∀k,dst=some k->∀mm,q (eO mm k)=none/\eO mm k∈W:=by
   rcases hm with h|⟨-,b,d⟩
   ·cases h
   ·exact ⟨b,d⟩
  unfold jI at hv ⊢;dsimp only at hv ⊢;rw [pK (bx:=st.boxes) (bx':=(ov p q st).boxes) (fun s g=>bS (b s (d_ 3 _ s (bC.2 g))).1)] at hv;split at hv
  ·rename_i l c i e;exact ⟨fun he=>⟨(hv.1 he).1,iq (.inr ⟨.inl rfl,fun s g=>b s (CK 3 (fun x j=>bC.2 (vF e x (bC.1 j))) s g),d⟩) hd hK (hv.1 he).2⟩,fun he=>iq a hd hK (hv.2 he)⟩
  ·exact iq a hd hK hv
 | _=>exact iq a hd hK hv
theorem Ao {p2:Nat->Option SV}{q2:Nat->Option aF}{st:St}(hp:∀t,p t=none\/p2 t=none)(hq:∀t,q t=none\/q2 t=none):ov p q (ov p2 q2 st)=ov p2 q2 (ov p q st):=by
 unfold ov;congr 1
 ·funext t;dsimp only;rcases hp t with h|h<;>rw [h]
 ·funext t;dsimp only;rcases hq t with h|h<;>rw [h]
def zB:Q->Option Nat
 | .app old _ _ _ _ _ _ _ _=>old
 | .qK s _ _ _ _ _ _ _=>some s
 | _=>none
def FK (T:cI)(bx:Nat->Option aF)(l:Option (List SV))(ts:List TypeId):Q:=
 match l,ts with
 | some [b,x],[t,t']=>match au T t,au T t' with
  | some i,some i'=>match i.k,i'.k with
   | .slice e,.slice _=>match au T e with
    | some ei=>bV bx e ei b x
    | none=>.fail
   | _,_=>.fail
  | _,_=>.fail
 | _,_=>.fail
def zC (bx:Nat->Option aF)(sz:Nat)(x:SV):Option (OA×Nat ⊕ List Value):=
 match x with
 | .c (.v (.slice a k _))=>some (.inl (a,k))
 | .c (.lu s o k _)=>match bx s with
  | some ⟨.row ws,_⟩=>some (.inr (rowTake ws o (k*sz)))
  | _=>match dU bx s with
   | some ws=>if Nat.ble (o+k*sz) ws.length then some (.inr ((ws.drop o).take (k*sz))) else none
   | none=>none
 | .c (.gD s k c)=>match bx s with
  | some ⟨.aJ ws,_⟩=>some (.inr (rowTakeM ws k c sz))
  | _=>none
 | _=>none
def E6 (bx:Nat->Option aF)(e:TypeId)(ei:TI)(b:SV)(src:OA×Nat ⊕ List Value):Q:=
 match b with
 | .c (.v (.slice a n c))=>.app none a [] n c src ei.size ei.bytes e
 | .c (.lu s 0 n c)=>match dU bx s,jP bx s with
  | some vs,some ty=>if Nat.beq ty e then .app (some s) none vs n c src ei.size ei.bytes e else .fail
  | _,_=>.fail
 | .c (.gD s n c)=>match bx s with
  | some ⟨.aJ vs,ty⟩=>if Nat.beq ty e then .qK s vs n c src ei.size ei.bytes e else .fail
  | _=>.fail
 | _=>.fail
theorem vj {bx:Nat->Option aF}{e:TypeId}{ei:TI}{b x:SV}:bV bx e ei b x=match kh ei.zero with
  | none=>.fail
  | some zs=>if Nat.beq ei.bytes 0||Nat.beq ei.size 0||!(Nat.beq ei.size zs.length) then .fail else match zC bx ei.size x with
   | none=>.fail
   | some src=>E6 bx e ei b src:=rfl
theorem Gb {bx bx':Nat->Option aF}{sz:Nat}{x:SV}:(∀s∈x.ids,bx' s=bx s)->zC bx sz x=zC bx' sz x:=by
 unfold zC;split
 ·exact fun _=>rfl
 ·intro h;unfold dU;rw [h _ (by simp [SV.ids,C.ids])]
 ·intro h;rw [h _ (by simp [SV.ids,C.ids])]
 ·exact fun _=>rfl
theorem HF {bx bx':Nat->Option aF}{e:TypeId}{ei:TI}{b:SV}{src:OA×Nat ⊕ List Value}:(∀s∈b.ids,bx' s=bx s)->E6 bx e ei b src=E6 bx' e ei b src:=by
 unfold E6;split
 ·exact fun _=>rfl
 ·intro h;unfold dU jP;rw [h _ (by simp [SV.ids,C.ids])]
 ·intro h;rw [h _ (by simp [SV.ids,C.ids])]
 ·exact fun _=>rfl
theorem Ek {bx bx':Nat->Option aF}{e:TypeId}{ei:TI}{b x:SV}(h:∀s∈b.ids++x.ids,bx' s=bx s):bV bx e ei b x=bV bx' e ei b x:=by
 rw [vj,vj,Gb fun s a=>h s (List.mem_append_right _ a)];have:=fun src=>HF (bx:=bx) (bx':=bx') (e:=e) (ei:=ei) (b:=b) (src:=src) fun s a=>h s (List.mem_append_left _ a);simp only [this]
theorem CD {bx:Nat->Option aF}{e:TypeId}{ei:TI}{b x:SV}:∀s,zB (bV bx e ei b x)=some s->s∈b.ids:=by
 intro s h;unfold bV at h;split at h
 ·cases h
 ·split at h
  ·cases h
  ·dsimp only at h;split at h
   ·cases h
   ·split at h
    ·cases h
    ·split at h
     ·split at h
      ·cases h;simp [SV.ids,C.ids]
      ·cases h
     ·cases h
    ·split at h
     ·split at h
      ·cases h;simp [SV.ids,C.ids]
      ·cases h
     ·cases h
    ·cases h
theorem Lk {bx bx':Nat->Option aF}{ys:List SV}{ts:List TypeId}{R:List Nat}(h:∀s∈ys.flatMap SV.ids,bx' s=bx s)(hR:∀s∈ys.flatMap SV.ids,s∈R) :
  FK T bx (some ys) ts=FK T bx' (some ys) ts/\∀s,zB (FK T bx (some ys) ts)=some s->s∈R:=by
 unfold FK;split
 ·rename_i b x t d c;cases c;split
  ·split
   ·split
    ·exact ⟨Ek fun s a=>h s (by simpa using a),fun s a=>hR s (by simp [CD s a])⟩
    ·exact ⟨rfl,fun s a=>nomatch a⟩
   ·exact ⟨rfl,fun s a=>nomatch a⟩
  ·exact ⟨rfl,fun s a=>nomatch a⟩
 ·exact ⟨rfl,fun s a=>nomatch a⟩
theorem G5 {bx:Nat->Option aF}{e:TypeId}{ei:TI}{b x:SV}:cO (bV bx e ei b x)=6\/bV bx e ei b x=.fail:=by
 unfold bV;split
 ·exact .inr rfl
 ·split
  ·exact .inr rfl
  ·dsimp only;split
   ·exact .inr rfl
   ·split<;>(try split)<;>(try split)<;>first|exact .inl rfl|exact .inr rfl
theorem Jv {ρ:Operand->Option SV}{bx:Nat->Option aF}{args:Array Operand}{ts:Array TypeId}:cO (aC T ρ bx (.call ⟨.builtin .append,args,ts⟩))=6\/aC T ρ bx (.call ⟨.builtin .append,args,ts⟩)=.fail:=by
 simp only [aC];split
 ·split
  ·split
   ·split
    ·exact G5
    ·exact .inr rfl
   ·exact .inr rfl
  ·exact .inr rfl
 ·exact .inr rfl
theorem AO {Q0:Q}{dst:Option Nat}{st:St}{V:View}{K K':St->View->Prop}{W D:List Nat}(ht:cO Q0=6\/Q0=.fail)
  (ho:∀s,zB Q0=some s->q s=none/\s∈W)(hd:∀k,dst=some k->(p k=none/\k∈D)/\∀s,q (mW s k)=none/\mW s k∈W)(hd0:∀k,dst=some k->q k=none/\k∈W)
  (hK:∀s2 V2,Good p q W D st V K s2 V2->K' s2 V2)(h:sH Q0 dst (ov p q st) V K):sH Q0 dst st V K':=by
 cases Q0 with
 | qK s vs n c x size bytes ty=>
  simp only [sH] at h ⊢
  cases dst with
  | none=>exact h.elim
  | some d=>
   dsimp only at h ⊢;obtain ⟨⟨u,v⟩,l⟩:=hd d rfl;obtain ⟨A,B⟩:=ho s rfl
   have core:∀k xs,rM s vs n c size bytes ty d (ov p q st) V K k xs->rM s vs n c size bytes ty d st V K' k xs:=by
    rintro k xs ⟨a,f,g,m,j,i⟩;refine ⟨a,f,g,m,j,?_⟩;rw [bS (l s).1] at i;split at i
    ·exact i.elim
    ·intro spare w y z;have:=i spare w y z;rw [jD A,jD (l s).1,jE (fun k o=>by cases o;exact u)] at this;refine hK _ _ ⟨View.Le.refl V,?_,?_,this⟩
     ·intro t ht;rw [cS,if_neg (fun e=>ht (by rw [e];exact v))];rfl
     ·intro t ht;show ((st.box s _).box _ _).boxes t=_;rw [ah,if_neg (fun e=>ht (by rw [e];exact (l s).2)),ah,if_neg (fun e=>ht (by rw [e];exact B))]
   cases x with
   | inr xs=>exact core _ _ h
   | inl ak=>obtain ⟨xs,a,f,g⟩:=h;exact ⟨xs,a,f,core _ _ g⟩
 | app old ba vs n c x size bytes ty=>
  simp only [sH] at h ⊢
  cases dst with
  | none=>exact h.elim
  | some d=>
   dsimp only at h ⊢;obtain ⟨⟨u,v⟩,l⟩:=hd d rfl
   cases old with
   | some s=>
    dsimp only at h ⊢;obtain ⟨A,B⟩:=ho s rfl
    have core:∀k xs,Bn s vs n c size bytes ty d (ov p q st) V K k xs->Bn s vs n c size bytes ty d st V K' k xs:=by
     rintro k xs ⟨a,f,g,m,j,i⟩;refine ⟨a,f,g,m,j,?_⟩;rw [bS (l s).1] at i;split at i
     ·exact i.elim
     ·intro b J spare w y z;have:=i b J spare w y z;rw [jD A,jD (l s).1,jE (fun k o=>by cases o;exact u)] at this;refine hK _ _ ⟨View.Le.refl V,?_,?_,this⟩
      ·intro t ht;rw [cS,if_neg (fun e=>ht (by rw [e];exact v))];rfl
      ·intro t ht;show ((st.box s _).box _ _).boxes t=_;rw [ah,if_neg (fun e=>ht (by rw [e];exact (l s).2)),ah,if_neg (fun e=>ht (by rw [e];exact B))]
    cases x with
    | inr xs=>exact core _ _ h
    | inl ak=>obtain ⟨xs,a,f,g⟩:=h;exact ⟨xs,a,f,core _ _ g⟩
   | none=>
    dsimp only at h ⊢;obtain ⟨C,E⟩:=hd0 d rfl;obtain ⟨r,y,z,F,G,h⟩:=h
    have core:∀k xs,Bo r n c size bytes ty d (ov p q st) V K k xs->Bo r n c size bytes ty d st V K' k xs:=by
     rintro k xs ⟨a,f,g,m,j⟩;refine ⟨a,f,g,m,?_⟩;rw [bS C] at j;split at j
     ·exact j.elim
     ·intro spare w H I;have:=j spare w H I;rw [jD C,jE (fun k o=>by cases o;exact u)] at this;refine hK _ _ ⟨View.Le.refl V,?_,?_,this⟩
      ·intro t ht;rw [cS,if_neg (fun e=>ht (by rw [e];exact v))];rfl
      ·intro t ht;show (st.box d _).boxes t=_;rw [ah,if_neg (fun e=>ht (by rw [e];exact E))]
    refine ⟨r,y,z,F,G,?_⟩
    cases x with
    | inr xs=>exact core _ _ h
    | inl ak=>
     obtain ⟨xs,a,f,g,m⟩:=h;refine ⟨xs,a,f,fun e=>?_,fun e=>core _ _ (m e)⟩;have:=g e;rw [jE (fun k o=>by cases o;exact u)] at this;refine hK _ _ ⟨View.Le.refl V,?_,fun t ht=>rfl,this⟩;intro t ht;rw [cS,if_neg (fun e=>ht (by rw [e];exact v))]
 | fail=>exact h.elim
 | _=>rcases ht with ht|ht<;>cases ht
theorem qg {h:Hint}{o:Oper}{st:St}{V:View}{K:St->View->Prop}{R W:List Nat}
  (hm:ma (aT LF RF o.op)=true\/(aT LF RF o.op=.call/\m=.none)\/((aT LF RF o.op=.jY/\m=.lend)\/(aT LF RF o.op=.give/\m=.give)\/aT LF RF o.op=.app))
  (hrw:pD (aT LF RF o.op) h (dJ o)=some (R,W))(hp:∀t,t∈gX o.op\/t∈dJ o->p t=none)(hq:∀s∈R,q s=none)
  (Wc:∀s∈W,q s=none){K':St->View->Prop}(hK:∀s2 V2,Good p q W (dJ o) st V K s2 V2->K' s2 V2)(hv:cx P T m h o (ov p q st) V K):cx P T m h o st V K':=by
 have Eb:∀t∈gX o.op,st.ao t=(ov p q st).ao t:=fun t ht=>by simp [ov,hp t (.inl ht)]
 rcases hm with hm|hm
 ·obtain ⟨p2,q2,U⟩:=mO hm hrw hv;refine U.again st V _ (View.Le.refl V) Eb (fun s n=>(bS (hq s n)).symm) ?_;refine hK _ _ ⟨View.Le.refl V,fun t ht=>by simp [ov,U.pd t ht],fun s n=>by simp [ov,U.qd s n],?_⟩;rw [Ao]
  ·exact U.next
  ·intro t;by_cases h:t∈dJ o
   ·exact .inl (hp t (.inr h))
   ·exact .inr (U.pd t h)
  ·intro s;by_cases h:s∈W
   ·exact .inl (Wc s h)
   ·exact .inr (U.qd s h)
 ·
  have i:∀(x:Operand),x∈o.op.operands.toList->(ov p q st).aQ x=st.aQ x:=fun x I=>Ld fun t e=>hp t (.inl (uX I e))
  have w:∀k,o.dst=some k->p k=none/\k∈dJ o:=fun k D=>by
   have:k∈dJ o:=by simp [dJ,D]
   exact ⟨hp k (.inr this),this⟩
  have body:(¬aT LF RF o.op=.app)->∀(hh:∀xs f ss J args z,o.op=.call ⟨.value J,args,z⟩->bL (ov p q st).aQ args.toList=some xs->(ov p q st).aQ J=some (.c (.zR f ss)) ->
    m=.none\/((m=.lend\/m=.give)/\(∀s∈reach (ov p q st).boxes 3 (dedup ((xs++uj ss).flatMap SV.ids)),q s=none/\s∈W)/\∀k,o.dst=some k->∀E,q (eO E k)=none/\eO E k∈W)),
    cE P T m o (ov p q st) V K->cE P T m o st V K':=by
   intro a hh hv;unfold cE at hv ⊢;split at hv
   ·rename_i J args z g;have e1:bL (ov p q st).aQ args.toList=bL st.aQ args.toList:=dL _ fun x I=>i x (by rw [g];simp [Op.operands,Call.operands];exact .inr (by simpa using I));have e2:(ov p q st).aQ J=st.aQ J:=i J (by rw [g];simp [Op.operands,Call.operands]);split at hv
    ·rename_i xs j;split at hv
     ·rename_i f ss F;have L:=hh _ _ _ _ _ _ g j F;rw [e1] at j;rw [e2] at F;simp only [j,F];exact rX L w hK hv
     ·exact hv.elim
    ·exact hv.elim
   ·rename_i recv name args z g
    have a2:m=.none:=by
     rw [g] at hm;rcases hm with ⟨-,h⟩|⟨h,-⟩|⟨h,-⟩|h
     ·exact h
     ·cases h
     ·cases h
     ·cases h
    have e1:bL (ov p q st).aQ args.toList=bL st.aQ args.toList:=dL _ fun x I=>i x (by rw [g];simp [Op.operands,Call.operands];exact .inr (by simpa using I));have e2:(ov p q st).aQ recv=st.aQ recv:=i recv (by rw [g];simp [Op.operands,Call.operands]);split at hv
    ·rename_i xs j;split at hv
     ·rename_i t v F;split at hv
      ·rename_i f Iy;rw [e1] at j;rw [e2] at F;simp only [j,F,Iy];exact rX (.inl a2) w hK hv
      ·exact hv.elim
     ·exact hv.elim
    ·exact hv.elim
   ·rename_i a0 Pj;exfalso
    have M:aT LF RF o.op=.call\/aT LF RF o.op=.jY\/aT LF RF o.op=.give:=by
     rcases hm with ⟨h,-⟩|⟨h,-⟩|⟨h,-⟩|h
     ·exact .inl h
     ·exact .inr (.inl h)
     ·exact .inr (.inr h)
     ·exact absurd h a
    clear hm a hh;generalize g:o.op=op at M a0 Pj
    cases op with
    | call c=>
     obtain ⟨Fc,args,z⟩:=c
     cases Fc with
     | builtin b=>cases b<;>rcases M with h|h|h<;>cases h
     | value f=>exact a0 f args z rfl
     | invoke r nm=>exact Pj r nm args z rfl
    | _=>rcases M with h|h|h<;>cases h
  have Tw:∀l:List Nat,W=l++dJ o++(dJ o).map (·+ 200000)->∀k,o.dst=some k->∀E,q (eO E k)=none/\eO E k∈W:=by
   intro l X k D E
   have:eO E k∈W:=by
    rw [X];have a3:=(w k D).2;rcases I6 (m:=E) (d:=k) with h|h<;>rw [h]<;>simp [a3]
   exact ⟨Wc _ this,this⟩
  have own:∀l:List Nat,h=.own l->R=l->W=l++dJ o++(dJ o).map (·+ 200000)->(aT LF RF o.op=.jY\/aT LF RF o.op=.give\/aT LF RF o.op=.app)->(¬aT LF RF o.op=.app->m=.lend\/m=.give)->cx P T m h o st V K':=by
   intro l hh hR X a4 L;subst hh hR;unfold cx at hv ⊢;dsimp only at hv ⊢;split at hv
   ·rename_i Y u;split at hv
    ·rename_i G;have e0:bL (ov p q st).aQ (gW o.op)=bL st.aQ (gW o.op):=dL _ fun x I=>i x (uW I);rw [←e0,u];dsimp only;have B:∀s∈dX (ov p q st).boxes o.op (Y.flatMap SV.ids),s∈R:=vH.1 G
     have e3:dX st.boxes o.op (Y.flatMap SV.ids)=dX (ov p q st).boxes o.op (Y.flatMap SV.ids):=by
      revert B;unfold dX;split
      ·intro B;exact mb 3 _ fun s n=>(bS (hq s (B s n))).symm
      ·exact fun _=>rfl
     rw [e3,G];dsimp only;have VV:∀s∈R,s∈W:=fun s n=>by rw [X];simp [n]
     by_cases a:aT LF RF o.op=.app
     ·
      have g:∃args z,o.op=.call ⟨.builtin .append,args,z⟩:=by
       generalize o.op=op at a
       cases op with
       | call c=>
        obtain ⟨Fc,args,z⟩:=c
        cases Fc with
        | builtin b=>cases b<;>first|exact ⟨args,z,rfl⟩|cases a
        | value f=>cases f with
         | func f=>simp only [aT] at a;split at a<;>(try split at a)<;>(try split at a)<;>(try split at a)<;>cases a
         | _=>cases a
        | _=>cases a
       | _=>cases a
      obtain ⟨args,z,g⟩:=g
      have e4:aC T st.aQ st.boxes o.op=aC T (ov p q st).aQ (ov p q st).boxes o.op/\∀s,zB (aC T st.aQ st.boxes o.op)=some s->s∈R:=by
       have e5:bL (ov p q st).aQ args.toList=bL st.aQ args.toList:=by rw [g] at e0;exact e0
       have S9:bL st.aQ args.toList=some Y:=by rw [g] at u;rw [←e5];exact u
       have H:∀s∈Y.flatMap SV.ids,s∈R:=by
        intro s n;refine B s ?_;rw [g];simp only [dX];exact d_ 3 _ s (bC.2 n)
       rw [g];simp only [aC];rw [e5,S9];exact Lk (fun s n=>by rw [bS (hq s (H s n))]) H
      have N:sH (aC T (ov p q st).aQ (ov p q st).boxes o.op) o.dst (ov p q st) V K:=by
       unfold cE at hv;rw [g] at hv ⊢;exact hv
      have O:sH (aC T st.aQ st.boxes o.op) o.dst st V K'->cE P T m o st V K':=by
       intro h;unfold cE;rw [g] at h ⊢;exact h
      rw [←e4.1] at N;refine O ?_
      have a1:∀Z,aC T st.aQ st.boxes o.op=Z->cO Z=6\/Z=.fail:=by
       intro Z hQ;rw [←hQ,g];exact Jv
      generalize Yl:aC T st.aQ st.boxes o.op=Z at N e4
      exact AO (a1 Z Yl) (fun s n=>⟨hq s (e4.2 s n),VV s (e4.2 s n)⟩) (fun k D=>⟨w k D,fun s=>by
       have:=Tw R X k D (some s);exact this⟩) (fun k D=>Tw R X k D Option.none) hK N
     ·have Q:=L a;refine body a (fun xs f ss J args z g j F=>.inr ⟨Q,fun s n=>?_,Tw R X⟩) hv
      have:s∈R:=by
       apply B;rw [g] at u ⊢;simp only [dX]
       have hy:Y.flatMap SV.ids=(xs++uj ss).flatMap SV.ids:=by
        have:∀(l:List Operand)(xs:List SV)(x:Operand)(v:SV),bL (ov p q st).aQ l=some xs->(ov p q st).aQ x=some v->bL (ov p q st).aQ (l++[x])=some (xs++[v]):=by
         intro l
         induction l with
         | nil=>intro xs x v S h2;simp only [bL,Option.some.injEq] at S;subst S;simp [bL,h2]
         | cons o r ih=>
          intro xs x v S h2;simp only [bL] at S;split at S
          ·rename_i y l' h3 h4;cases S;simp only [List.cons_append,bL,h3,ih _ x v h4 h2]
          ·cases S
        simp only [gW] at u;rw [this _ _ _ _ j F] at u;cases u;simp only [List.flatMap_append];congr 1;simp [uj,SV.ids,C.ids,List.flatMap_map]
       rw [hy];exact n
      exact ⟨hq s this,VV s this⟩
    ·exact hv.elim
   ·exact hv.elim
  rcases hm with ⟨A,hm⟩|⟨A,hm⟩|⟨A,hm⟩|A
  ·rw [A] at hrw
   cases h with
   | own l=>cases hrw
   | free=>exact body (by rw [A];exact fun h=>by cases h) (fun _ _ _ _ _ _ _ _ _=>.inl hm) hv
  ·rw [A] at hrw
   cases h with
   | free=>cases hrw
   | own l=>
    simp only [pD,Option.some.injEq,Prod.mk.injEq] at hrw;exact own l rfl hrw.1.symm hrw.2.symm (.inl A) (fun _=>.inl hm)
  ·rw [A] at hrw
   cases h with
   | free=>cases hrw
   | own l=>
    simp only [pD,Option.some.injEq,Prod.mk.injEq] at hrw;exact own l rfl hrw.1.symm hrw.2.symm (.inr (.inl A)) (fun _=>.inr hm)
  ·rw [A] at hrw
   cases h with
   | free=>cases hrw
   | own l=>
    simp only [pD,Option.some.injEq,Prod.mk.injEq] at hrw;exact own l rfl hrw.1.symm hrw.2.symm (.inr (.inr A)) (fun h=>absurd A h)
end Go.Eng
namespace Go.Eng
variable {P:Program} {T:cI} {LF RF:List Nat}
def wE (ops:Array Oper)(o:Oper)(st:St)(k:St->Bool->Prop):Prop:=
 match o.guard with
 | none=>k st true
 | some (j,b)=>match (ops[j]?).bind (·.dst) with
  | none=>False
  | some g=>match st.ao g with
   | some (.c .tt)=>k st b
   | some (.c .ff)=>k st (!b)
   | some (.c (.v (.bool c)))=>(c=true->k (st.put (some g) (.c .tt)) b)/\(c=false->k (st.put (some g) (.c .ff)) (!b))
   | some (.oB _)=>k st false
   | _=>False
def lg (P:Program)(T:cI)(m:CM)(h:Hint)(o:Oper)(V:View)(K:St->View->Prop)(st:St)(w:Bool):Prop:=
 match w with
 | true=>cx P T m h o st V K
 | false=>K (st.put o.dst iZ) V
theorem AM {m:CM}{h:Hint}{ops:Array Oper}{o:Oper}{st:St}{V:View}{K:St->View->Prop} :
  pR P T m h ops o st V K↔wE ops o st (lg P T m h o V K):=by
 unfold pR wE
 cases hg:o.guard with
 | none=>rfl
 | some jb=>
  obtain ⟨j,b⟩:=jb;dsimp only
  cases hd:(ops[j]?).bind (·.dst) with
  | none=>rfl
  | some g=>
   dsimp only;split<;>simp_all<;>cases b<;>rfl
def iU:Nat->Option aF:=fun _=>none
structure Rp (ops:Array Oper) (o:Oper) (st:St) (k:St->Bool->Prop) (p:Nat->Option SV) (w:Bool):Prop where
 pd:∀t,t∉dv ops o->p t=none
 next:k (ov p iU st) w
 again:∀(st2:St)(k2:St->Bool->Prop),(∀t∈dv ops o,st2.ao t=st.ao t)->k2 (ov p iU st2) w->wE ops o st2 k2
theorem fy {ops:Array Oper}{o:Oper}{st:St}{k:St->Bool->Prop}(h:wE ops o st k):∃p w,Rp ops o st k p w:=by
 unfold wE at h;split at h
 ·rename_i l;exact ⟨fun _=>none,true,fun _ _=>rfl,h,fun d q _ f=>by unfold wE;rw [l];exact f⟩
 ·rename_i j b l;split at h
  ·exact h.elim
  ·rename_i g n;have a:dv ops o=[g]:=by simp only [dv,l,n]
   split at h
   ·rename_i m;exact ⟨fun _=>none,b,fun _ _=>rfl,h,fun d q i f=>by unfold wE;simp only [l,n,i g (by simp [a]),m];exact f⟩
   ·rename_i m;exact ⟨fun _=>none,!b,fun _ _=>rfl,h,fun d q i f=>by unfold wE;simp only [l,n,i g (by simp [a]),m];exact f⟩
   ·rename_i c m
    cases c with
    | true=>
     refine ⟨one (some g) (.c .tt),b,fun t r=>dg (by intro e;apply r;rw [a];simpa using e.symm),?_,fun d q i f=>?_⟩
     ·have:=h.1 rfl;rw [eJ] at this;exact this
     ·unfold wE;simp only [l,n,i g (by simp [a]),m];exact ⟨fun _=>by rw [eJ];exact f,fun e=>by cases e⟩
    | false=>
     refine ⟨one (some g) (.c .ff),!b,fun t r=>dg (by intro e;apply r;rw [a];simpa using e.symm),?_,fun d q i f=>?_⟩
     ·have:=h.2 rfl;rw [eJ] at this;exact this
     ·unfold wE;simp only [l,n,i g (by simp [a]),m];exact ⟨fun e=>(by cases e),fun _=>by rw [eJ];exact f⟩
   ·rename_i xs m;exact ⟨fun _=>none,false,fun _ _=>rfl,h,fun d q i f=>by unfold wE;simp only [l,n,i g (by simp [a]),m];exact f⟩
   ·exact h.elim
theorem mr {ops:Array Oper}{o:Oper}{st:St}{k k':St->Bool->Prop}(hk:∀s w,k s w->k' s w)(h:wE ops o st k):wE ops o st k':=by
 obtain ⟨p,w,a⟩:=fy h;exact a.again st k' (fun _ _=>rfl) (hk _ _ a.next)
theorem put_comm {st:St}{d d':Option Nat}{x y:SV}(h:∀k,d=some k->d'≠some k):(st.put d x).put d' y=(st.put d' y).put d x:=by
 cases d with
 | none=>rfl
 | some d=>
  cases d' with
  | none=>rfl
  | some d'=>
   have a:d≠d':=fun e=>h d rfl (by rw [e]);simp only [St.put];congr 1;funext t;by_cases e:t=d
   ·subst e;simp [Nat.beq_refl,cU a]
   ·simp [cU e]
theorem D3 {ops:Array Oper}{o1 o2:Oper}{st:St}{F:St->Bool->Bool->Prop}(h:wE ops o1 st fun s w1=>wE ops o2 s fun s' w2=>F s' w1 w2) :
  wE ops o2 st fun s w2=>wE ops o1 s fun s' w1=>F s' w1 w2:=by
 by_cases k:∃g,dv ops o1=[g]/\dv ops o2=[g]
 ·obtain ⟨g,a,b⟩:=k;unfold dv at a b;split at a
  ·cases a
  ·rename_i A B q;split at a
   ·rename_i y r;cases a;split at b
    ·cases b
    ·rename_i C D u;split at b
     ·rename_i z v;cases b;unfold wE at h ⊢;simp only [q,u,r,v] at h ⊢;split at h
      ·rename_i w;exact h
      ·rename_i w;exact h
      ·rename_i c w;simp only [cS,if_true] at h ⊢;exact h
      ·rename_i xs w;exact h
      ·exact h.elim
     ·cases b
   ·cases a
 ·obtain ⟨l,w1,m⟩:=fy h;obtain ⟨n,w2,p⟩:=fy m.next
  have x:∀o:Oper,dv ops o=[]\/∃g,dv ops o=[g]:=by
   intro o;unfold dv;split
   ·exact .inl rfl
   ·split
    ·exact .inr ⟨_,rfl⟩
    ·exact .inl rfl
  have i:∀t,t∈dv ops o1->t∉dv ops o2:=by
   intro t d f;rcases x o1 with a|⟨y,a⟩
   ·rw [a] at d;cases d
   ·rcases x o2 with b|⟨z,b⟩
    ·rw [b] at f;cases f
    ·rw [a] at d;rw [b] at f;simp at d f;exact k ⟨t,by rw [a,d],by rw [b,f]⟩
  refine p.again st _ (fun t j=>?_) (m.again _ _ (fun t j=>?_) ?_)
  ·show st.ao t=(ov l iU st).ao t;simp [ov,m.pd t (fun h=>i t h j)]
  ·show (ov n iU st).ao t=st.ao t;simp [ov,p.pd t (i t j)]
  ·have e:ov l iU (ov n iU st)=ov n iU (ov l iU st):=Ao (fun t=>by
    by_cases j:t∈dv ops o1
    ·exact .inr (p.pd t (i t j))
    ·exact .inl (m.pd t j)) (fun _=>.inl rfl)
   show F (ov l iU (ov n iU st)) w1 w2;rw [e];exact p.next
theorem ie {o:Oper}{k:Nat}(h:o.dst=some k):k∈dJ o:=by simp [dJ,h]
theorem Lb {ops:Array Oper}{m1 m2:CM}{h1 h2:Hint}{o1 o2:Oper}{st:St}{V:View}{K:St->View->Prop}
  (hi:indep LF RF ops h1 h2 o1 o2=true)
  (hm:ma (aT LF RF o2.op)=true\/(aT LF RF o2.op=.call/\m2=.none)\/((aT LF RF o2.op=.jY/\m2=.lend)\/(aT LF RF o2.op=.give/\m2=.give)\/aT LF RF o2.op=.app))
  (hv:pR P T m1 h1 ops o1 st V fun st1 V1=>pR P T m2 h2 ops o2 st1 V1 K) :
  pR P T m2 h2 ops o2 st V fun st2 V2=>pR P T m1 h1 ops o1 st2 V2 K:=by
 unfold indep at hi;simp only [Bool.and_eq_true] at hi;obtain ⟨⟨⟨⟨⟨v,c⟩,g⟩,w⟩,y⟩,l⟩:=hi;split at l
 ·rename_i U W X Y z n;simp only [Bool.and_eq_true] at l;obtain ⟨⟨G,H⟩,I⟩:=l;rw [BQ] at c g w y G H I;have M:∀k,o2.dst=some k->o1.dst≠some k:=fun k o C=>c k (ie C) (by simp [ie o]);simp only [AM] at hv ⊢
  have N:wE ops o1 st fun s m=>wE ops o2 s fun A j=>lg P T m1 h1 o1 V (fun r D=>lg P T m2 h2 o2 D K r j) A m:=by
   refine mr (fun s m f=>?_) hv
   cases m with
   | true=>
    obtain ⟨p,q,i⟩:=mO v z f;obtain ⟨B,j,b⟩:=fy i.next;refine b.again s _ (fun t a=>?_) ?_
    ·show s.ao t=(ov p q s).ao t;simp [ov,i.pd t (fun h=>c t h (by simp [a]))]
    ·refine i.again _ V _ (View.Le.refl V) (fun t a=>?_) (fun _ _=>rfl) ?_
     ·show (ov B iU s).ao t=s.ao t;simp [ov,b.pd t (fun h=>y t h a)]
     ·rw [Ao (q2:=iU) _ (fun _=>.inr rfl)]
      ·exact b.next
      ·intro t;by_cases a:t∈dv ops o2
       ·exact .inl (i.pd t (fun h=>c t h (by simp [a])))
       ·exact .inr (b.pd t a)
   | false=>
    simp only [lg] at f;obtain ⟨B,j,b⟩:=fy f;have O:∀k,o1.dst=some k->B k=none:=fun k o=>b.pd k (fun h=>c k (ie o) (by simp [h]));refine b.again s _ (fun t a=>?_) ?_
    ·rw [eJ];simp [ov,dg (d:=o1.dst) (x:=iZ) (t:=t) (fun h=>c t (ie h) (by simp [a]))]
    ·show lg P T m2 h2 o2 V K ((ov B iU s).put o1.dst iZ) j;rw [jE O];exact b.next
  have Q:=D3 N
  have R:wE ops o2 st fun s j=>wE ops o1 s fun A m=>lg P T m2 h2 o2 V (fun r D=>lg P T m1 h1 o1 D K r m) A j:=by
   refine mr (fun s j f=>mr (fun A m f=>?_) f) Q
   cases m with
   | true=>
    obtain ⟨p,q,i⟩:=mO v z f
    cases j with
    | true=>
     refine qg hm n (fun t a=>i.pd t (fun h=>c t h (by rcases a with a|a<;>simp [a]))) (fun s u=>i.qd s (fun h=>G s h u)) (fun s u=>i.qd s (fun h=>I s h u)) (fun s2 V2 b=>?_) i.next;obtain ⟨J,E,L,F⟩:=b;exact i.again s2 V2 K J (fun t a=>E t (fun h=>g t h (by simp [a]))) (fun s u=>L s (fun h=>H s h u)) F
    | false=>
     refine i.again _ V K (View.Le.refl V) (fun t a=>?_) (fun s _=>by cases o2.dst<;>rfl) ?_
     ·rw [eJ];simp [ov,dg (d:=o2.dst) (x:=iZ) (t:=t) (fun h=>g t (ie h) (by simp [a]))]
     ·have:=i.next;simp only [lg] at this;rw [jE (fun k o=>i.pd k (fun h=>c k h (by simp [ie o])))] at this;exact this
   | false=>
    cases j with
    | true=>
     simp only [lg] at f ⊢;rw [eJ] at f;refine qg hm n (fun t a=>dg (fun e=>c t (ie e) (by rcases a with a|a<;>simp [a]))) (fun s u=>rfl) (fun s u=>rfl) (fun s2 V2 b=>?_) f;have:=b.2.2.2;rw [←eJ] at this;exact this
    | false=>
     simp only [lg] at f ⊢;rw [put_comm M];exact f
  refine mr (fun s j f=>?_) R
  cases j with
  | true=>
   simp only [lg] at f ⊢;obtain ⟨p,m,b⟩:=fy f;refine qg hm n (fun t a=>b.pd t (fun h=>?_)) (fun _ _=>rfl) (fun _ _=>rfl) (fun s2 V2 S=>?_) b.next
   ·rcases a with a|a
    ·exact w t h a
    ·exact g t a (by simp [h])
   ·obtain ⟨J,E,L,F⟩:=S;exact b.again s2 _ (fun t a=>E t (fun h=>g t h (by simp [a]))) F
  | false=>
   simp only [lg] at f ⊢;obtain ⟨p,m,b⟩:=fy f;refine b.again _ _ (fun t a=>?_) ?_
   ·rw [eJ];simp [ov,dg (d:=o2.dst) (x:=iZ) (t:=t) (fun h=>g t (ie h) (by simp [a]))]
   ·have:=b.next;rw [jE (fun k o=>b.pd k (fun h=>g k (ie o) (by simp [h])))] at this;exact this
 ·cases l
end Go.Eng
namespace Go.Eng
variable {P:Program} {T:cI} {LF RF:List Nat} {n:Nat} {V0:View} {bh:DF} {β0:Nat->Nat}
def zv (P:Program)(T:cI)(m:Nat->CM)(hint:Nat->Hint)(ops:Array Oper):Nat->Array Bool->St->View->(St->View->Prop)->Prop
 | 0,listed,st,V,K=>Region.ready .any ops listed=[]/\K st V
 | fuel+1,listed,st,V,K=>(Region.ready .any ops listed=[]->K st V) /\
  ∀i∈Region.ready .any ops listed,∀o,ops[i]?=some o->pR P T (m i) (hint i) ops o st V fun st' V'=>zv P T m hint ops fuel (listed.setIfInBounds i true) st' V' K
theorem rV (hT:cI.ok P T){m:Nat->CM}{hint:Nat->Hint}{ops:Array Oper}(hd:∀(i:Nat)(o:Oper),ops[i]?=some o->∀d,o.dst=some d->d<n){Q:Exit->Act->World->Prop}{K:St->View->Prop}
  (hK:∀st' β' a' w' V',Mod n V0 bh β0 st' β' a' w' V'->K st' V'->Q .normal a' w') :
  ∀(fuel:Nat)(listed:Array Bool)(st:St)(β:Nat->Nat)(a:Act)(w:World)(V:View),Mod n V0 bh β0 st β a w V->zv P T m hint ops fuel listed st V K->wpAny P .any ops Q fuel listed a w
 | 0,_,_,_,_,_,_,hM,hv=>⟨hv.1,hK _ _ _ _ _ hM hv.2⟩
 | fuel+1,listed,st,β,a,w,V,hM,hv=>by
  refine ⟨fun h=>hK _ _ _ _ _ hM (hv.1 h),fun i hi=>?_⟩;obtain ⟨-,o,ho,-⟩:=mem_ready.1 hi;have:=Cy (Q:=Q) (next:=wpAny P .any ops Q fuel (listed.setIfInBounds i true)) hT hM (hd i o ho) (hv.2 i hi o ho) (fun st' β' a' w' V' b c=>rV hT hd hK fuel _ st' β' a' w' V' b c);unfold wpOp;rw [ho];dsimp only;split at this
  ·rename_i hw;rw [if_pos hw];exact .inl this
  ·rename_i hw;rw [if_neg hw];exact this
theorem qc {sc:List Prop}{k k':Prop}(h:k->k')(g:zx sc k):zx sc k':=by
 obtain ⟨a,b⟩:=(df sc _).1 g;exact (df sc _).2 ⟨a,h b⟩
theorem yh {s:Nat}{vs:List Value}{k c size bytes:Nat}{ty:TypeId}{d:Nat}{st:St}{V:View}{K K':St->View->Prop}{j:Nat}{xs:List Value}(hk:∀s V',V.Le V'->K s V'->K' s V')
  (h:Bn s vs k c size bytes ty d st V K j xs):Bn s vs k c size bytes ty d st V K' j xs:=by
 unfold Bn at h ⊢;obtain ⟨e,f,g,i,l,a⟩:=h;refine ⟨e,f,g,i,l,?_⟩;split at a
 ·exact a.elim
 ·exact fun b J spare m n o=>hk _ _ (View.Le.refl V) (a b J spare m n o)
theorem uR {s:Nat}{vs:List Value}{k c size bytes:Nat}{ty:TypeId}{d:Nat}{st:St}{V:View}{K K':St->View->Prop}{j:Nat}{xs:List Value}(hk:∀s V',V.Le V'->K s V'->K' s V')
  (h:rM s vs k c size bytes ty d st V K j xs):rM s vs k c size bytes ty d st V K' j xs:=by
 unfold rM at h ⊢;obtain ⟨b,e,f,g,i,a⟩:=h;refine ⟨b,e,f,g,i,?_⟩;split at a
 ·exact a.elim
 ·exact fun spare l m n=>hk _ _ (View.Le.refl V) (a spare l m n)
theorem yi {vs:List Value}{k c size bytes:Nat}{ty:TypeId}{d:Nat}{st:St}{V:View}{K K':St->View->Prop}{j:Nat}{xs:List Value}(hk:∀s V',V.Le V'->K s V'->K' s V')
  (h:Bo vs k c size bytes ty d st V K j xs):Bo vs k c size bytes ty d st V K' j xs:=by
 unfold Bo at h ⊢;obtain ⟨b,e,f,g,a⟩:=h;refine ⟨b,e,f,g,?_⟩;split at a
 ·exact a.elim
 ·exact fun spare i l m=>hk _ _ (View.Le.refl V) (a spare i l m)
theorem JY {Q0:Q}{dst:Option Nat}{st:St}{V:View}{K K':St->View->Prop}(hk:∀s V',V.Le V'->K s V'->K' s V')(h:sH Q0 dst st V K):sH Q0 dst st V K':=by
 cases Q0 with
 | fail=>exact h
 | ret sc x=>exact qc (hk _ _ (View.Le.refl V)) h
 | new sc b x=>
  simp only [sH] at h ⊢;split at h
  ·split at h
   ·rename_i o;exact qc (hk _ _ (View.Le.refl V)) h
   ·exact h.elim
  ·exact h.elim
 | sG sc s b=>
  simp only [sH] at h ⊢;split at h
  ·exact qc (hk _ _ (View.Le.refl V)) h
  ·exact h.elim
 | rd a sh=>
  obtain ⟨x,d,f⟩:=sh.split h;exact f _ (pt.2 ⟨(pt.1 d).1,hk _ _ (View.Le.refl V) (pt.1 d).2⟩)
 | ni i of size sh=>
  obtain ⟨x,d,f⟩:=sh.split h;exact f _ ⟨d.1,hk _ _ (View.Le.refl V) d.2⟩
 | qK s i a c src size bytes ty=>
  simp only [sH] at h ⊢;split at h
  ·exact h.elim
  ·cases src with
   | inr xs=>exact uR hk h
   | inl ak=>
    obtain ⟨xs,d,f,g⟩:=h;exact ⟨xs,d,f,uR hk g⟩
 | app old ba i a c src size bytes ty=>
  simp only [sH] at h ⊢;split at h
  ·exact h.elim
  ·cases old with
   | some s=>
    dsimp only at h ⊢
    cases src with
    | inr xs=>exact yh hk h
    | inl ak=>
     obtain ⟨xs,d,f,g⟩:=h;exact ⟨xs,d,f,yh hk g⟩
   | none=>
    obtain ⟨i,j,k,l,m,h⟩:=h;refine ⟨i,j,k,l,m,?_⟩
    cases src with
    | inr xs=>exact yi hk h
    | inl ak=>
     obtain ⟨xs,d,f,g,n⟩:=h;exact ⟨xs,d,f,fun e=>hk _ _ (View.Le.refl V) (g e),fun e=>yi hk (n e)⟩
theorem qT {bx:Nat->Option aF}{β:Nat->Nat}{V:View}:∀{L:List Nat} {k k':Prop},(k->k')->pA bx β V L k->pA bx β V L k'
 | [],_,_,h,g=>h g
 | s::r,k,k',h,g=>by
  simp only [pA] at g ⊢;split at g
  ·exact fun h1=>qT h (g h1)
  ·exact g.elim
theorem nK {give:Bool}{sh:Sh}{L:List Nat}{mm:Option Nat}{d:Nat}{ety:TypeId}{β:Nat->Nat}{st:St}{V V' eF:View}{K K':St->View->Prop}{r':Value}
  (hm:∀k,mm=some k->k∈L)(hV:V.Le V')(hV2:V.Le eF)(hlv:∀s∈L,∃b,st.boxes s=some b/\(b.live->V'.H (β s)))(hk:∀s V',V.Le V'->K s V'->K' s V')
  (h:bH T give sh L mm d ety β st V' K r' eF):bH T give sh L mm d ety β st V' K' r' eF:=by
 refine kS (p:=fun _=>none) (q:=iU) (W:=eO mm d::L) (D:=[d]) (fun s c=>⟨rfl,List.mem_cons_of_mem _ c⟩) hm ⟨rfl,by simp⟩ ⟨rfl,by simp⟩ hV hV2 hlv (fun s2 V2 a=>?_) h;exact hk _ _ a.1 a.2.2.2
theorem im {m:CM}{f:FuncId}{xs:List SV}{ty:TypeId}{dst:Option Nat}{st:St}{V:View}{K K':St->View->Prop}(hk:∀s V',V.Le V'->K s V'->K' s V')
  (h:fg P T m f xs ty dst st V K):fg P T m f xs ty dst st V K':=by
 unfold fg at h ⊢;split at h
 ·exact h.elim
 ·split at h
  ·split at h
   ·split at h
    ·split at h
     ·exact h.elim
     ·exact fun V' a=>(h V' a).mono fun _ C hle g=>nK (fun k hk=>by cases hk) a (a.trans hle) (fun s r=>absurd r (by simp)) hk g
    ·exact h.elim
   ·split at h
    ·split at h
     ·exact h.elim
     ·split at h
      ·split at h
       ·split at h
        ·refine fun V' a=>(h V' a).mono fun _ C hle g=>?_;obtain ⟨b,i⟩:=g;obtain ⟨cs,⟨D,E,F,G⟩,H⟩:=mG _ i;refine ⟨b,H _ ⟨D,E,F,hk _ _ ?_ G⟩⟩;intro x o c;obtain ⟨I,M⟩:=(a.trans hle) x o c;obtain ⟨U,N⟩:=a x o c;have:=ar N;exact ⟨fun h=>h.elim I fun h=>by have:=h.1;omega,M⟩
        ·exact h.elim
       ·exact h.elim
      ·exact h.elim
    ·exact h.elim
   ·exact fun V' a=>(h V' a).mono fun _ _ hle g=>Sh.mono g fun x c=>⟨c.1,hk _ _ (a.trans hle) c.2⟩
  ·split at h
   ·exact h.elim
   ·rename_i u;rename_i X Y Z O _
    have v:∀{e:Bool} {y:Sh} {t:Option Nat} {d:Nat} {l:TypeId} {L:List Nat},(∀k,t=some k->k∈L) ->
      (∀V':View,V.Le V'->kr L (fun _=>0) fun β=>hJ st.boxes β V' L (Acts P f (aE β xs) (V'.lend (L.map (cR st.boxes β V'.w.heap.size))) (bH T e y L t d l β st V' K))) ->
      ∀V':View,V.Le V'->kr L (fun _=>0) fun β=>hJ st.boxes β V' L (Acts P f (aE β xs) (V'.lend (L.map (cR st.boxes β V'.w.heap.size))) (bH T e y L t d l β st V' K')):=by
     intro e y t d l L hm h V' a;exact fo (fun β i=>iQ (fun _ _=>rfl) (fun Q n=>n.mono fun _ _ hle g=>nK hm a ((a.trans (tz V' _)).trans hle) Q hk g) i) (h V' a)
    split at h
    ·exact h.elim
    ·exact h.elim
    ·split at h
     ·split at h
      ·exact h.elim
      ·exact v (fun k hk=>by cases hk) h
     ·rename_i d l k h1 R B;split at h
      ·split at h
       ·exact h.elim
       ·refine v (fun j z=>?_) h;cases z;rw [←O];exact d_ 3 _ k (bC.2 (uD k (by rw [R];simp)))
      ·split at h
       ·exact h.elim
       ·split at h
        ·exact h.elim
        ·exact fun V' a=>fo (fun β i=>qT (fun n=>n.mono fun _ _ hle g=>nK (fun k hk=>by cases hk) a (a.trans hle) (fun s r=>absurd r (by simp)) hk g) i) (h V' a)
     ·exact h.elim
    ·split at h
     ·exact fun V' a=>fo (fun β i=>iQ (fun _ _=>rfl) (fun _ n=>n.mono fun _ _ hle g=>Sh.mono g fun x c=>⟨c.1,js (p:=fun _=>none) (q:=iU) (W:=_) (fun s r=>⟨rfl,r⟩) (fun S _ _ B=>hk _ _ (((a.trans (tz V' _)).trans hle).trans (FA _)) B) c.2⟩) i) (h V' a)
     ·rename_i k A;split at h
      ·split at h
       ·exact h.elim
       ·refine v (fun j z=>?_) h;cases z;exact I0 u k (by rw [A];simp)
      ·exact h.elim
     ·exact h.elim
    ·split at h
     ·exact h.elim
     ·exact fun V' a=>fo (fun β i=>qT (fun n=>n.mono fun _ _ hle g=>Sh.mono g fun x c=>⟨c.1,fun J=>hk _ _ (a.trans hle) (c.2 J)⟩) i) (h V' a)
theorem rW {m:CM}{f:FuncId}{xs:List SV}{ty:TypeId}{dst:Option Nat}{st:St}{V:View}{K K':St->View->Prop}(hk:∀s V',V.Le V'->K s V'->K' s V')
  (h:jI P T m f xs ty dst st V K):jI P T m f xs ty dst st V K':=by
 unfold jI at h ⊢;split at h
 ·split at h
  ·exact ⟨fun e=>⟨(h.1 e).1,im hk (h.1 e).2⟩,fun e=>im hk (h.2 e)⟩
  ·exact im hk h
 ·exact im hk h
theorem pQ {m:CM}{o:Oper}{st:St}{V:View}{K K':St->View->Prop}(hk:∀s V',V.Le V'->K s V'->K' s V')(h:cE P T m o st V K):cE P T m o st V K':=by
 unfold cE at h ⊢;split at h
 ·split at h
  ·split at h
   ·exact rW hk h
   ·exact h.elim
  ·exact h.elim
 ·split at h
  ·split at h
   ·split at h
    ·exact rW hk h
    ·exact h.elim
   ·exact h.elim
  ·exact h.elim
 ·exact JY hk h
theorem C6 {m:CM}{hi:Hint}{o:Oper}{st:St}{V:View}{K K':St->View->Prop}(hk:∀s V',V.Le V'->K s V'->K' s V')(h:cx P T m hi o st V K):cx P T m hi o st V K':=by
 unfold cx at h ⊢;split at h
 ·exact pQ hk h
 ·split at h
  ·split at h
   ·exact pQ hk h
   ·exact h.elim
  ·exact h.elim
theorem ki {m:CM}{hi:Hint}{ops:Array Oper}{o:Oper}{st:St}{V:View}{K K':St->View->Prop}(hk:∀s V',V.Le V'->K s V'->K' s V')(h:pR P T m hi ops o st V K):pR P T m hi ops o st V K':=by
 rw [AM] at h ⊢;refine mr (fun s w a=>?_) h
 cases w with
 | true=>exact C6 hk a
 | false=>exact hk _ _ (View.Le.refl V) a
def IX (LF RF:List Nat)(m:CM)(o:Oper):Prop:=
 ma (aT LF RF o.op)=true\/(aT LF RF o.op=.call/\m=.none)\/((aT LF RF o.op=.jY/\m=.lend)\/(aT LF RF o.op=.give/\m=.give)\/aT LF RF o.op=.app)
theorem Jg {m:CM}{h:Hint}{ops:Array Oper}{o:Oper}{st:St}{V:View}{R W:List Nat}(hq:ma (aT LF RF o.op)=true)(hrw:pD (aT LF RF o.op) h (dJ o)=some (R,W))
  (hv:pR P T m h ops o st V fun _ _=>False):False:=by
 rw [AM] at hv;obtain ⟨p,w,a⟩:=fy hv;have:=a.next
 cases w with
 | true=>obtain ⟨p,q,b⟩:=mO hq hrw this;exact b.next
 | false=>exact this
theorem rK {ops:Array Oper}{h1 h2:Hint}{o1 o2:Oper}(hi:indep LF RF ops h1 h2 o1 o2=true) :
  ma (aT LF RF o1.op)=true/\(∃R W,pD (aT LF RF o1.op) h1 (dJ o1)=some (R,W))/\∃R W,pD (aT LF RF o2.op) h2 (dJ o2)=some (R,W):=by
 unfold indep at hi;simp only [Bool.and_eq_true] at hi;obtain ⟨⟨⟨⟨⟨b,-⟩,-⟩,-⟩,-⟩,a⟩:=hi;split at a
 ·rename_i e f g h c d;exact ⟨b,⟨_,_,c⟩,_,_,d⟩
 ·cases a
theorem GV {ops:Array Oper}{i:Nat}{o:Oper}(ho:ops[i]?=some o){h:Hint}{R W:List Nat}(hrw:pD (aT LF RF o.op) h (dJ o)=some (R,W)):IX LF RF (jC LF RF ops i) o:=by
 unfold IX jC;rw [ho];dsimp only;generalize aT LF RF o.op=c at hrw
 cases c with
 | odd=>cases h<;>cases hrw
 | gZ=>cases h<;>cases hrw
 | call=>exact .inr (.inl ⟨rfl,rfl⟩)
 | jY=>exact .inr (.inr (.inl ⟨rfl,rfl⟩))
 | give=>exact .inr (.inr (.inr (.inl ⟨rfl,rfl⟩)))
 | app=>exact .inr (.inr (.inr (.inr rfl)))
 | _=>exact .inl rfl
section
variable {ops:Array Oper} {hint:Nat->Hint} {anc:Nat->Nat->Prop} {K:St->View->Prop}
theorem C5 (hA:∀j o,ops[j]?=some o->∀i,anc j i->∃e∈o.after,Region.binds .any e=true/\(e.on=i\/anc e.on i)){i:Nat}{oi:Oper}(hi:ops[i]?=some oi) :
  ∀(fuel:Nat)(listed:Array Bool)(st:St)(V:View),(∀j,listed.getD j false=true->∀k,anc j k->listed.getD k false=true) ->
   (∀j oj,ops[j]?=some oj->j≠i->listed.getD j true=false->¬anc j i->indep LF RF ops (hint i) (hint j) oi oj=true)->i∈Region.ready .any ops listed ->
   (pR P T (jC LF RF ops i) (hint i) ops oi st V fun st' V'=>zv P T (jC LF RF ops) hint ops fuel (listed.setIfInBounds i true) st' V' K) ->
   zv P T (jC LF RF ops) hint ops (fuel+1) listed st V K:=by
 have B:∀(listed:Array Bool)(j:Nat),(∀j,listed.getD j false=true->∀k,anc j k->listed.getD k false=true)->i∈Region.ready .any ops listed->j∈Region.ready .any ops listed->¬anc j i:=by
  intro listed j d p f y;obtain ⟨g,-⟩:=mem_ready.1 p
  have q:listed.getD i false=true->False:=by
   intro h;rcases Nat.lt_or_ge i listed.size with t|t
   ·simp [t] at g h;rw [g] at h;cases h
   ·simp [t] at h
  obtain ⟨-,o,u,m⟩:=mem_ready.1 f;obtain ⟨e,he,z,h⟩:=hA j o u i y;have r:=m e he z;rcases h with h|h
  ·rw [h] at r;exact q r
  ·exact q (d _ r i h)
 intro fuel
 induction fuel with
 | zero=>
  intro listed st V d a p H;refine ⟨fun h=>(by rw [h] at p;cases p),fun j f o u=>?_⟩;by_cases b:j=i
  ·subst b;rw [hi] at u;cases u;exact H
  ·exfalso;have w:=a j o u b (mem_ready.1 f).1 (B listed j d p f);obtain ⟨C,⟨R,W,D⟩,-⟩:=rK w;refine Jg C D (ki (fun s V' _ h=>?_) H);have:=ready_mono f b;rw [h.1] at this;cases this
 | succ fuel ih=>
  intro listed st V d a p H;refine ⟨fun h=>(by rw [h] at p;cases p),fun j f oj c=>?_⟩;by_cases b:j=i
  ·subst b;rw [hi] at c;cases c;exact H
  ·have v:=B listed j d p f;have w:=a j oj c b (mem_ready.1 f).1 v;obtain ⟨C,⟨R,W,D⟩,M,N,G⟩:=rK w;have r:=ki (fun s V' _ h=>h.2 j (ready_mono f b) oj c) H;have I:=Lb w (GV c G) r;refine ki (fun s V' _ h=>?_) I;obtain ⟨-,J,E,m⟩:=mem_ready.1 f;rw [c] at E;cases E
   have L:j<ops.size:=by
    rcases Nat.lt_or_ge j ops.size with t|t
    ·exact t
    ·rw [Array.getElem?_eq_none t] at c;cases c
   refine ih (listed.setIfInBounds j true) s V' ?_ ?_ (ready_mono p (Ne.symm b)) ?_
   ·intro k x l F;by_cases n:j=k
    ·subst n;obtain ⟨e,he,z,h⟩:=hA j oj c l F;have r:=m e he z;rcases h with h|h
     ·rw [←h];exact getD_set_true r
     ·exact getD_set_true (d _ r l h)
    ·rw [getD_set_ne false n] at x;exact getD_set_true (d k x l F)
   ·intro k ok x A g q;refine a k ok x A ?_ q;by_cases n:j=k
    ·subst n;exact (mem_ready.1 f).1
    ·rw [getD_set_ne true n] at g;exact g
   ·rw [Array.setIfInBounds_comm _ _ b];exact h
theorem F5 (hA:∀j o,ops[j]?=some o->∀i,anc j i->∃e∈o.after,Region.binds .any e=true/\(e.on=i\/anc e.on i)) :
  ∀(l done:List Nat)(listed:Array Bool)(st:St)(V:View),listed.size=ops.size->(∀j,listed.getD j false=eH j done)->(∀j,j<ops.size->j∈done\/j∈l) ->
   (∀j,listed.getD j false=true->∀k,anc j k->listed.getD k false=true)->pv ops done l=true ->
   (∀i r1 r2,l=r1++i::r2->∀j∈r2,anc j i\/∃a b,ops[i]?=some a/\ops[j]?=some b/\indep LF RF ops (hint i) (hint j) a b=true) ->
   JX P T (jC LF RF ops) hint ops l st V K->zv P T (jC LF RF ops) hint ops l.length listed st V K
 | [],done,listed,st,V,hs,hrel,KR,_,_,_,hv=>by
  refine ⟨?_,hv⟩
  cases hr:Region.ready .any ops listed with
  | nil=>rfl
  | cons x xs=>
   exfalso;have hx:x∈Region.ready .any ops listed:=by rw [hr];simp
   obtain ⟨v,o,I,-⟩:=mem_ready.1 hx
   have w:x<ops.size:=by
    rcases Nat.lt_or_ge x ops.size with f|f
    ·exact f
    ·rw [Array.getElem?_eq_none f] at I;cases I
   rcases KR x w with h|h
   ·have m:=hrel x;rw [cf.2 h] at m;simp [hs,w] at v m;rw [v] at m;cases m
   ·cases h
 | i::r,done,listed,st,V,hs,hrel,KR,hcl,n,LX,hv=>by
  simp only [pv,Bool.and_eq_true] at n;obtain ⟨y,n⟩:=n;unfold Ev at y;split at y
  ·rename_i E c;simp only [Bool.and_eq_true,Bool.not_eq_true',List.all_eq_true,Bool.or_eq_true] at y;obtain ⟨N,O⟩:=y
   have z:i<ops.size:=by
    rcases Nat.lt_or_ge i ops.size with f|f
    ·exact f
    ·rw [Array.getElem?_eq_none f] at c;cases c
   have d:∀e∈E.after,Region.binds .any e=true->listed.getD e.on false=true:=by
    intro e he t;rw [hrel];rcases O e (by simpa using he) with h|h
    ·rw [t] at h;cases h
    ·exact h
   have Q:i∈Region.ready .any ops listed:=by
    refine mem_ready.2 ⟨?_,E,c,d⟩;have:=hrel i;rw [N] at this;simp [hs,z] at this ⊢;exact this
   have A:∀j,(listed.setIfInBounds i true).getD j false=true->∀k,anc j k->(listed.setIfInBounds i true).getD k false=true:=by
    intro k J l L;by_cases B:i=k
    ·subst B;obtain ⟨e,he,t,h⟩:=hA i E c l L;have v:=d e he t;rcases h with h|h
     ·rw [←h];exact getD_set_true v
     ·exact getD_set_true (hcl _ v l h)
    ·rw [getD_set_ne false B] at J;exact getD_set_true (hcl k J l L)
   refine C5 hA c r.length listed st V hcl (fun j S p g C F=>?_) Q ?_
   ·have D:j<ops.size:=by
     rcases Nat.lt_or_ge j ops.size with f|f
     ·exact f
     ·rw [Array.getElem?_eq_none f] at p;cases p
    have G:j∈r:=by
     rcases KR j D with h|h
     ·exfalso;have m:=hrel j;rw [cf.2 h] at m;simp [hs,D] at C m;rw [C] at m;cases m
     ·rcases List.mem_cons.1 h with h|h
      ·exact absurd h g
      ·exact h
    rcases LX i [] r rfl j G with h|⟨a,b,M,t,h⟩
    ·exact absurd h F
    ·rw [c] at M;rw [p] at t;cases M;cases t;exact h
   ·simp only [JX,c] at hv
    have q:∀s u,JX P T (jC LF RF ops) hint ops r s u K->zv P T (jC LF RF ops) hint ops r.length (listed.setIfInBounds i true) s u K:=by
     intro s u R;refine F5 hA r (i::done) (listed.setIfInBounds i true) s u (by simp [hs]) ?_ ?_ A n (fun k r1 r2 e j H=>LX k (i::r1) r2 (by rw [e];rfl) j H) R
     ·intro j;by_cases g:i=j
      ·subst g;simp [eH,Nat.beq_refl,hs,z]
      ·rw [getD_set_ne false g,hrel j];simp [eH,cU (Ne.symm g)]
     ·intro j H;rcases KR j H with h|h
      ·exact .inl (by simp [h])
      ·rcases List.mem_cons.1 h with h|h
       ·exact .inl (by simp [h])
       ·exact .inr h
    exact ki (fun s u _ h=>q s u h) hv
  ·cases y
end
theorem HL {m i:Nat}:MQ m i=true↔m.testBit i=true:=by
 unfold MQ;rw [beq_eq,Nat.testBit_eq_decide_div_mod_eq,decide_eq_true_iff];show Nat.land (m >>> i) 1=1↔_;rw [show Nat.land (m >>> i) 1=(m >>> i) &&& 1 from rfl,Nat.and_one_is_mod,Nat.shiftRight_eq_div_pow]
def HC (acc:List Nat)(o:Oper):Nat:=o.after.toList.foldl (fun s e=>cond (Region.binds .any e) (Nat.lor (Nat.lor (Nat.shiftLeft 1 e.on) (acc.getD e.on 0)) s) s) 0
theorem Bl {acc:List Nat}{i:Nat}:∀(es:List Edge)(s:Nat),(es.foldl (fun s e=>cond (Region.binds .any e) (Nat.lor (Nat.lor (Nat.shiftLeft 1 e.on) (acc.getD e.on 0)) s) s) s).testBit i=true ->
  s.testBit i=true\/∃e∈es,Region.binds .any e=true/\(e.on=i\/(acc.getD e.on 0).testBit i=true)
 | [],s,h=>.inl h
 | e::r,s,h=>by
  simp only [List.foldl_cons] at h;rcases Bl r _ h with h1|⟨e',h1,h2,h3⟩
  ·cases hb:Region.binds .any e with
   | false=>rw [hb] at h1;exact .inl h1
   | true=>
    rw [hb] at h1;simp only [cond_true] at h1;have h1:(((1 <<< e.on) ||| (acc.getD e.on 0)) ||| s).testBit i=true:=h1;rw [Nat.testBit_or,Nat.testBit_or,Bool.or_eq_true,Bool.or_eq_true] at h1;rcases h1 with (h1|h1)|h1
    ·rw [Nat.shiftLeft_eq,Nat.one_mul,Nat.testBit_two_pow] at h1;exact .inr ⟨e,by simp,hb,.inl (by simpa using h1)⟩
    ·exact .inr ⟨e,by simp,hb,.inr h1⟩
    ·exact .inl h1
  ·exact .inr ⟨e',by simp [h1],h2,h3⟩
theorem yg:∀(l:List Oper)(acc:List Nat),∃ext,l.foldl (fun acc o=>acc++[HC acc o]) acc=acc++ext/\∀k o,l[k]?=some o->∃pre Rd,ext=pre++Rd/\ext.getD k 0=HC (acc++pre) o
 | [],acc=>⟨[],by simp,fun k o h=>by simp at h⟩
 | o::r,acc=>by
  obtain ⟨ext,h1,h2⟩:=yg r (acc++[HC acc o]);refine ⟨HC acc o::ext,by simp [h1],fun k a h=>?_⟩
  cases k with
  | zero=>
   simp at h;subst h;exact ⟨[],_,rfl,by simp⟩
  | succ k=>
   simp at h;obtain ⟨pre,Rd,b,c⟩:=h2 k a h;exact ⟨HC acc o::pre,Rd,by simp [b],by simpa using c⟩
theorem DH {ops:List Oper}(j:Nat)(o:Oper)(ho:ops[j]?=some o):∀i,((Ga ops).getD j 0).testBit i=true->∃e∈o.after,Region.binds .any e=true/\(e.on=i\/((Ga ops).getD e.on 0).testBit i=true):=by
 intro i c;obtain ⟨ext,d,f⟩:=yg ops [];have he:Ga ops=ext:=(show Ga ops=[]++ext from d).trans (List.nil_append _);obtain ⟨pre,n,g,k⟩:=f j o ho;rw [he,k] at c;rcases Bl _ _ c with h|⟨e,l,m,a⟩
 ·simp at h
 ·refine ⟨e,by simpa using l,m,?_⟩;rcases a with a|a
  ·exact .inl a
  ·right;simp only [List.nil_append] at a;rw [he,g];rcases Nat.lt_or_ge e.on pre.length with b|b
   ·simpa [List.getElem?_append_left b] using a
   ·simp [b] at a
theorem vf {ops:Array Oper}{hs:List Hint}{an:List Nat}:∀{l:List Nat},tD LF RF ops hs an l=true->∀i r1 r2,l=r1++i::r2->∀j∈r2,(an.getD j 0).testBit i=true\/∃a b,ops[i]?=some a/\ops[j]?=some b/\indep LF RF ops (hs.getD i .free) (hs.getD j .free) a b=true
 | [],_,i,r1,r2,e,_,_=>by simp at e
 | x::l,h,i,r1,r2,e,j,hj=>by
  simp only [tD,Bool.and_eq_true,List.all_eq_true] at h
  cases r1 with
  | nil=>
   simp at e;obtain ⟨rfl,rfl⟩:=e;have:=h.1 j hj;rw [Bool.or_eq_true] at this;rcases this with c|c
   ·exact .inl (HL.1 c)
   ·split at c
    ·rename_i a b d f;exact .inr ⟨a,b,d,f,c⟩
    ·cases c
  | cons y r1=>
   simp at e;exact vf h.2 i r1 r2 e.2 j hj
theorem EI {m:Nat->CM}{hint:Nat->Hint}{ops:Array Oper}:∀{l:List Nat} {st:St} {V:View} {K K':St->View->Prop},(∀s V',V.Le V'->K s V'->K' s V')->JX P T m hint ops l st V K->JX P T m hint ops l st V K'
 | [],_,V,_,_,hk,h=>hk _ _ (View.Le.refl V) h
 | i::r,st,V,K,K',hk,h=>by
  simp only [JX] at h ⊢;split at h
  ·exact ki (fun s V' hle h=>EI (fun s eF hle' h=>hk s eF (hle.trans hle') h) h) h
  ·exact h.elim
theorem pw {st:St}{β:Nat->Nat}{a:Act}{w:World}{V:View}(hT:cI.ok P T)(hmx:P.follows .mixedOrders=true)(hM:Mod n V0 bh β0 st β a w V){id:Nat}{ops:Array Oper}{draw:Bool}
  (hd:∀(i:Nat)(o:Oper),ops[i]?=some o->∀d,o.dst=some d->d<n){Q:Exit->Act->World->Prop}{K:Exit->St->View->Prop}
  (hv:C7 P T LF RF ops draw st V (K .normal))(hK:∀st' β' a' w' V',Mod n V0 bh β0 st' β' a' w' V'->V.Le V'->K .normal st' V'->Q .normal a' w'):(Code.region id ops draw).wp P Q a w:=by
 cases draw with
 | false=>
  simp only [C7] at hv;exact wp_region (yW (K:=fun s V'=>V.Le V'/\K .normal s V') hT hd (fun st' β' a' w' V' b h=>hK st' β' a' w' V' b h.1 h.2) _ st β a w V hM (EI (fun s V' hle h=>⟨hle,h⟩) hv))
 | true=>
  simp only [C7] at hv;split at hv
  ·rename_i e;simp only [FH,Bool.and_eq_true,List.all_eq_true,List.mem_range] at e;obtain ⟨⟨⟨f,g⟩,k⟩,l⟩:=e;refine wp_region_any hmx ?_
   have:=F5 (P:=P) (T:=T) (LF:=LF) (RF:=RF) (ops:=ops) (hint:=fun i=>(ops.toList.map (Ix LF RF st ops.toList)).getD i .free) (anc:=fun j i=>((Ga ops.toList).getD j 0).testBit i=true) (K:=fun s V'=>V.Le V'/\K .normal s V')
    (fun j o e=>DH j o (by simpa using e)) (nS LF RF ops) [] (Array.replicate ops.size false) st V (by simp) (fun j=>by
     simp only [eH,Array.getD];split<;>simp) (fun j c=>.inr (cf.1 (g j c))) (fun j c=>by
     exfalso;simp only [Array.getD] at c;split at c<;>simp at c) k (vf l) (EI (fun s V' hle h=>⟨hle,h⟩) hv)
   rw [beq_eq.1 f] at this;exact rV hT hd (fun st' β' a' w' V' b h=>hK st' β' a' w' V' b h.1 h.2) _ _ _ β _ _ _ hM.drew this
  ·exact hv.elim
end Go.Eng
namespace Go.Eng
variable {P:Program} {T:cI} {LF RF:List Nat} {n:Nat} {V0:View} {bh:DF} {β0:Nat->Nat} {β:Nat->Nat}
theorem cq {c:Bool}{l:List Prop}(h:∀p∈(cond c l [False]),p):c=true/\∀p∈l,p:=by
 cases c with
 | true=>exact ⟨rfl,h⟩
 | false=>exact (h False (by simp)).elim
theorem yH {ρ:List (Nat×Nat)}{β β':Nat->Nat}:∀{ss ts:List Nat},(∀s'∈ts,∀s,nD ρ s s'=true->β' s'=β s)->yG ρ ss ts=true->ss.map β=ts.map β'
 | [],[],_,_=>rfl
 | s::r,s'::r',hβ,h=>by
  simp only [yG,Bool.and_eq_true] at h;simp only [List.map_cons];rw [hβ s' (by simp) s h.1,yH (fun u hu=>hβ u (by simp [hu])) h.2]
 | [],_::_,_,h=>by simp [yG] at h
 | _::_,[],_,h=>by simp [yG] at h
theorem Fm {ρ:List (Nat×Nat)}{β β':Nat->Nat}{a b:C}(hβ:∀s'∈b.ids,∀s,nD ρ s s'=true->β' s'=β s)(h:∀p∈QZ ρ a b,p):a.den β=b.den β':=by
 unfold QZ at h;split at h
 ·obtain ⟨d,i⟩:=cq h;have:=yQ d;have:=i _ (List.mem_singleton.2 rfl);subst_vars;rfl
 ·have:=h _ (List.mem_singleton.2 rfl);subst this;rfl
 ·have:=h _ (List.mem_singleton.2 rfl);subst this;rfl
 ·have:=h _ (List.mem_singleton.2 rfl);subst this;rfl
 ·rename_i a n c t j k;have d:=h (a=t) (by simp);have i:=h (n=j) (by simp);have l:=h (c=k) (by simp);subst d i l;rfl
 ·rename_i a n c s' j k;have d:=h (a=none) (by simp);have i:=h (n=j) (by simp);have l:=h (c=k) (by simp);have q:=h (c=0) (by simp);subst d i l q;rfl
 ·have:=h _ (List.mem_singleton.2 rfl);subst this;rfl
 ·have:=h _ (List.mem_singleton.2 rfl);subst this;rfl
 ·have:=h _ (List.mem_singleton.2 rfl);subst this;rfl
 ·have:=h _ (List.mem_singleton.2 rfl);subst this;rfl
 ·have:=h _ (List.mem_singleton.2 rfl);subst this;rfl
 ·rfl
 ·rfl
 ·rename_i s o s' r;obtain ⟨d,i⟩:=cq h;have e:=hβ s' (by simp [C.ids]) s d;have:=i (o=r) (by simp);subst_vars;simp only [C.den,e]
 ·rename_i s o n c s' r j k;obtain ⟨m,h⟩:=cq h;have e:=hβ s' (by simp [C.ids]) s m;have d:=h (o=r) (by simp);have i:=h (n=j) (by simp);have l:=h (c=k) (by simp);subst_vars;simp only [C.den,e]
 ·rename_i s o n c s' j k;obtain ⟨m,h⟩:=cq h;have e:=hβ s' (by simp [C.ids]) s m;have d:=h (o=0) (by simp);have i:=h (n=j) (by simp);have l:=h (c=k) (by simp);have q:=h (c≠0) (by simp);subst d i l;simp only [C.den,e,mA,q,if_false]
 ·rename_i s n c s' j k;obtain ⟨m,h⟩:=cq h;have e:=hβ s' (by simp [C.ids]) s m;have i:=h (n=j) (by simp);have l:=h (c=k) (by simp);subst_vars;simp only [C.den,e]
 ·rename_i f ss g ts;obtain ⟨m,h⟩:=cq h;have d:=h (f=g) (by simp);have e:ss.map β=ts.map β':=yH (β:=β) (β':=β') (ts:=ts) (fun s' u=>hβ s' u) m;subst d
  have v:(ss.map fun s=>Value.pointer (some ⟨β s,0,none⟩))=ts.map fun s=>Value.pointer (some ⟨β' s,0,none⟩):=by
   have:=congrArg (List.map fun b=>Value.pointer (some ⟨b,0,none⟩)) e;simpa [List.map_map,Function.comp_def] using this
  simp only [C.den,v]
 ·exact (h False (by simp)).elim
theorem uz {ρ:List (Nat×Nat)}{β β':Nat->Nat}:∀{l m:List C},(∀s'∈m.flatMap C.ids,∀s,nD ρ s s'=true->β' s'=β s)->(∀p∈DZ ρ l m,p)->l.map (C.den β)=m.map (C.den β')
 | [],[],_,_=>rfl
 | a::r,b::s,hβ,h=>by
  simp only [DZ,List.mem_append] at h;simp only [List.map_cons];rw [Fm (fun u hu=>hβ u (by simp [hu])) fun p hp=>h p (.inl hp),uz (fun u hu=>hβ u (by rw [List.flatMap_cons];exact List.mem_append_right _ hu)) fun p hp=>h p (.inr hp)]
 | [],_::_,_,h=>(h False (by simp [DZ])).elim
 | _::_,[],_,h=>(h False (by simp [DZ])).elim
theorem Ig {ρ:List (Nat×Nat)}{β β':Nat->Nat}{a b:SV}(hβ:∀s'∈b.ids,∀s,nD ρ s s'=true->β' s'=β s)(h:∀p∈MV ρ a b,p):a.den β=b.den β':=by
 unfold MV at h;split at h
 ·exact Fm hβ h
 ·simp only [SV.den];rw [uz hβ h]
 ·exact (h False (by simp)).elim
theorem Gu {ρ:List (Nat×Nat)}{β β':Nat->Nat}{a b:aF}(hβ:∀s'∈b.cs.ids,∀s,nD ρ s s'=true->β' s'=β s)(h:∀p∈Ie ρ a b,p):a.obj β=b.obj β'/\(b.live->a.live):=by
 unfold Ie at h;obtain ⟨ac,at'⟩:=a;obtain ⟨f,g⟩:=b;dsimp only at h;split at h
 ·obtain ⟨c,d⟩:=cq h;simp only [aF.obj,Cells.den];rw [uz hβ d,beq_eq.1 c];exact ⟨rfl,fun _=>cB⟩
 ·obtain ⟨c,d⟩:=cq h;have:=d _ (List.mem_singleton.2 rfl);subst this;simp only [aF.obj,Cells.den];rw [beq_eq.1 c];exact ⟨rfl,fun _=>cd⟩
 ·obtain ⟨c,d⟩:=cq h;have:=d _ (List.mem_singleton.2 rfl);subst this;simp only [aF.obj,Cells.den];rw [beq_eq.1 c];exact ⟨rfl,fun l=>l⟩
 ·obtain ⟨c,d⟩:=cq h;have:=d _ (List.mem_singleton.2 rfl);subst this;simp only [aF.obj,Cells.den];rw [beq_eq.1 c];exact ⟨rfl,fun _=>cd⟩
 ·split at h
  ·rename_i ws e;obtain ⟨c,d⟩:=cq h;have:=d _ (List.mem_singleton.2 rfl);subst this;simp only [aF.obj,Cells.den];rw [(fE (β:=β) e).1,beq_eq.1 c];exact ⟨rfl,fun _=>cB⟩
  ·exact (h False (by simp)).elim
 ·exact (h False (by simp)).elim
theorem bU {α:Type}:∀{l:List (Nat×α)} {t:Nat} {x:α},au l t=some x->(t,x)∈l
 | [],_,_,h=>by cases h
 | (s,y)::r,t,x,h=>by
  simp only [au] at h;by_cases e:t=s
  ·subst e;rw [Nat.beq_refl] at h;cases h;simp
  ·rw [cU e] at h;exact List.mem_cons_of_mem _ (bU h)
theorem fJ {α:Type}:∀{l:List (Nat×α)} {t:Nat},t∈l.map (·.1)->∃x,au l t=some x
 | [],_,h=>by simp at h
 | (s,y)::r,t,h=>by
  simp only [au];by_cases e:t=s
  ·subst e;rw [Nat.beq_refl];exact ⟨_,rfl⟩
  ·rw [cU e];exact fJ (by simpa [e] using h)
theorem yK {ρ:List (Nat×Nat)}{β β':Nat->Nat}{st:St}:∀{l:List (Nat×SV)},(∀t x,(t,x)∈l->∀s'∈x.ids,∀s,nD ρ s s'=true->β' s'=β s)->(∀p∈KI ρ st l,p)->∀t x,(t,x)∈l->∃y,st.ao t=some y/\y.den β=x.den β'
 | [],_,_,_,_,h=>nomatch h
 | (s,z)::r,hβ,h,t,x,hm=>by
  simp only [KI] at h;split at h
  ·rename_i y hy;simp only [List.mem_append] at h;rcases List.mem_cons.1 hm with e|hm
   ·cases e;exact ⟨y,hy,Ig (hβ _ _ List.mem_cons_self) fun p hp=>h p (.inl hp)⟩
   ·exact yK (fun t x h=>hβ t x (by simp [h])) (fun p hp=>h p (.inr hp)) t x hm
  ·exact (h False (by simp)).elim
theorem yJ {ρ:List (Nat×Nat)}{β β':Nat->Nat}{st:St}:∀{l:List (Nat×aF)},(∀t x,(t,x)∈l->∀s'∈x.cs.ids,∀s,nD ρ s s'=true->β' s'=β s)->(∀p∈Gx ρ st l,p)->∀t x,(t,x)∈l->x.live ->
  t∈mc ρ l/\∃y,st.boxes (AB ρ t)=some y/\y.obj β=x.obj β'/\y.live
 | [],_,_,_,_,h,_=>nomatch h
 | (s,z)::r,hβ,h,t,x,hm,hl=>by
  have YU:∀t x,(t,x)∈r->∀s'∈x.cs.ids,∀s,nD ρ s s'=true->β' s'=β s:=fun t x h=>hβ t x (by simp [h])
  have tail:(∀p∈Gx ρ st r,p)->(t,x)∈r->t∈mc ρ ((s,z)::r)/\∃y,st.boxes (AB ρ t)=some y/\y.obj β=x.obj β'/\y.live:=by
   intro h hm;obtain ⟨b,f⟩:=yJ YU h t x hm hl;refine ⟨?_,f⟩;unfold mc;split
   ·split
    ·exact List.mem_cons_of_mem _ b
    ·exact b
   ·exact List.mem_cons_of_mem _ b
  simp only [Gx] at h;split at h
  ·rename_i g a c;rcases List.mem_cons.1 hm with e|hm
   ·cases e;have:=h (g=[]) (by simp);subst this;exact absurd (hl [] a) (by simp)
   ·exact tail (fun p d=>h p (List.mem_cons_of_mem _ d)) hm
  ·rename_i i;split at h
   ·rename_i y j;simp only [List.mem_append] at h;rcases List.mem_cons.1 hm with e|hm
    ·cases e;obtain ⟨b,f⟩:=Gu (hβ _ _ List.mem_cons_self) fun p d=>h p (.inl d);refine ⟨?_,y,j,b,f hl⟩;unfold mc;split
     ·rename_i g a;split
      ·simp
      ·rename_i c;exact absurd c (i g a)
     ·simp
    ·exact tail (fun p d=>h p (.inr d)) hm
   ·exact (h False (by simp)).elim
theorem CN {ρ:List (Nat×Nat)}:∀{l:List (Nat×aF)} {t:Nat} {x:aF},(t,x)∈l->(∃s,au ρ t=some s)->t∈mc ρ l
 | [],_,_,h,_=>nomatch h
 | (s,z)::r,t,x,hm,ha=>by
  rcases List.mem_cons.1 hm with e|hm
  ·cases e;unfold mc;split
   ·obtain ⟨s,hs⟩:=ha;rw [hs];simp
   ·simp
  ·have:=CN hm ha;unfold mc;split
   ·split
    ·exact List.mem_cons_of_mem _ this
    ·exact this
   ·exact List.mem_cons_of_mem _ this
theorem vq {ρ:List (Nat×Nat)}:∀{l:List Nat},zf ρ l=true->(∀t∈l,(t<100000↔AB ρ t<100000)/\(100000<=t->t<200000->AB ρ t=t))/\∀t∈l,∀t'∈l,AB ρ t=AB ρ t'->t=t'
 | [],_=>⟨fun t h=>(nomatch h),fun t h=>(nomatch h)⟩
 | t::r,h=>by
  simp only [zf,Bool.and_eq_true,List.all_eq_true] at h;obtain ⟨⟨⟨h1,h2⟩,h3⟩,h4⟩:=h;obtain ⟨i1,i2⟩:=vq h4;have c:∀a b:Nat,Nat.blt a b=true↔a<b:=fun a b=>by rw [Nat.blt_eq]
  have g:t<100000↔AB ρ t<100000:=by
   rw [←c,←c,beq_iff_eq.1 h1]
  have i:100000<=t->t<200000->AB ρ t=t:=by
   intro j k;simp only [Bool.or_eq_true] at h2;rcases h2 with (h2|h2)|h2
   ·rw [c] at h2;omega
   ·have:=Nat.le_of_ble_eq_true h2;omega
   ·exact beq_eq.1 h2
  have f:∀u∈r,AB ρ t≠AB ρ u:=by
   intro u hu e;have:=h3 u hu;rw [e,Nat.beq_refl] at this;cases this
  refine ⟨fun u hu=>?_,fun u hu v d e=>?_⟩
  ·rcases List.mem_cons.1 hu with rfl|hu
   ·exact ⟨g,i⟩
   ·exact i1 u hu
  ·rcases List.mem_cons.1 hu with hu|hu<;>rcases List.mem_cons.1 d with d|d
   ·rw [hu,d]
   ·rw [hu] at e;exact absurd e (f v d)
   ·rw [d] at e;exact absurd e.symm (f u hu)
   ·exact i2 u hu v d e
theorem vJ {ss:List (Nat×SV)}{bs:List (Nat×aF)}(h:mq ss bs=true) :
  (∀t x,au ss t=some x->∀s∈x.ids,∃b,au bs s=some b)/\(∀t x,au bs t=some x->∀s∈x.cs.ids,∃b,au bs s=some b):=by
 unfold mq at h;simp only [Bool.and_eq_true,List.all_eq_true] at h;refine ⟨fun t x a s c=>fJ (cf.1 (h.1 _ (bU a) s c)),fun t x a s c=>fJ (cf.1 (h.2 _ (bU a) s c))⟩
theorem yf:∀{l:List Prop},MM l->∀p∈l,p
 | [],_,_,h=>nomatch h
 | [q],h,p,hp=>by rw [List.mem_singleton.1 hp];exact h
 | q::r::s,h,p,hp=>by
  rcases List.mem_cons.1 hp with e|e
  ·rw [e];exact h.1
  ·exact yf h.2 p e
theorem iL {st:St}{a:Act}{w:World}{V:View}(hM:Mod n V0 bh β0 st β a w V){A:MD}{x:A.τ}{k:Prop}(ht:mq (A.ao x) (A.boxes x)=true)(h:A.fits st x k):(∃β',Mod n V0 bh β0 (A.st x) β' a w V)/\k:=by
 unfold MD.fits at h;dsimp only at h;generalize JD st (A.ao x) (A.boxes x)=ρ at h;obtain ⟨r,J⟩:=h;refine ⟨?_,J⟩
 replace r:=yf r
 obtain ⟨t1,t2⟩:=vJ ht
 have K:zf ρ (mc ρ (A.boxes x))=true:=by
  have:=fun p v=>r p (List.mem_append_right _ v);unfold OZ at this
  cases hc:zf ρ (mc ρ (A.boxes x)) with
  | true=>rfl
  | false=>rw [hc] at this;exact (this False (by simp)).elim
 obtain ⟨H,L⟩:=vq K;let β':Nat->Nat:=fun t=>if t∈mc ρ (A.boxes x) then β (AB ρ t) else β t;have c:∀t,t∈mc ρ (A.boxes x)->β' t=β (AB ρ t):=fun t h=>if_pos h
 have hβ:∀d,(∃b,au (A.boxes x) d=some b)->∀s,nD ρ s d=true->β' d=β s:=by
  rintro d ⟨b,f⟩ s he;unfold nD at he;split at he
  ·rename_i u hu;have e:=beq_eq.1 he;subst e;rw [c d (CN (bU f) ⟨_,hu⟩)];simp only [AB,hu]
  ·rename_i hu;have e:=beq_eq.1 he;subst e;by_cases hm:s∈mc ρ (A.boxes x)
   ·rw [c s hm];simp only [AB,hu]
   ·exact if_neg hm
 have M:∀t y,(t,y)∈A.ao x->∀s∈y.ids,∃b,au (A.boxes x) s=some b:=by
  intro t y g s i;unfold mq at ht;simp only [Bool.and_eq_true,List.all_eq_true] at ht;exact fJ (cf.1 (ht.1 _ g s i))
 have N:∀t y,(t,y)∈A.boxes x->∀s∈y.cs.ids,∃b,au (A.boxes x) s=some b:=by
  intro t y g s i;unfold mq at ht;simp only [Bool.and_eq_true,List.all_eq_true] at ht;exact fJ (cf.1 (ht.2 _ g s i))
 have O:=yK (ρ:=ρ) (β:=β) (β':=β') (st:=st) (l:=A.ao x) (fun t y g s i=>hβ s (M t y g s i)) fun p v=>r p (List.mem_append_left _ (List.mem_append_left _ v));have B:=yJ (ρ:=ρ) (β:=β) (β':=β') (st:=st) (l:=A.boxes x) (fun t y g s i=>hβ s (N t y g s i)) fun p v=>r p (List.mem_append_left _ (List.mem_append_right _ v));refine ⟨β',hM.defers,hM.size,?_,t1,t2,?_,?_,hM.nu,?_,hM.ext,?_,?_,hM.jz,hM.small⟩
 ·intro t y g;obtain ⟨z,j,q⟩:=O t y (bU g);rw [hM.ao t z j,q]
 ·intro s b f l;obtain ⟨m,z,j,q,o⟩:=B s b (bU f) l;rw [c s m,hM.boxes _ z j o,q]
 ·intro s d b P f l D Q he;obtain ⟨m,z,j,q,o⟩:=B s b (bU f) l;obtain ⟨C,R,E,S,F⟩:=B d P (bU D) Q;rw [c s m,c d C] at he;exact L s m d C (hM.inj _ _ z R j o E F he)
 ·intro s b f l;obtain ⟨m,z,j,q,o⟩:=B s b (bU f) l;rw [c s m];exact hM.sw _ z j o
 ·intro s b f l;obtain ⟨m,z,j,q,o⟩:=B s b (bU f) l;rw [c s m];refine (hM.own _ z j o).imp id fun h=>⟨?_,h.2⟩;have:=(H s m).1;omega
 ·intro s i;obtain ⟨G,I⟩:=hM.ku s i;refine ⟨G,?_⟩;by_cases hm:s∈mc ρ (A.boxes x)
  ·rw [c s hm,(H s hm).2 G.1 G.2];exact I
  ·exact (if_neg hm:β' s=β s).trans I
theorem DX (hT:cI.ok P T)(hmx:P.follows .mixedOrders=true){L J:Bg}:∀(c:Code)(st:St)(β:Nat->Nat)(a:Act)(w:World)(V:View)(K:Exit->St->View->Prop)(Q:Exit->Act->World->Prop),
  Mod n V0 bh β0 st β a w V->gS n c=true->vc P T LF RF L J c st V K->(∀e st' β' a' w' V',Mod n V0 bh β0 st' β' a' w' V'->V.Le V'->K e st' V'->Q e a' w')->c.wp P Q a w:=by
 intro c
 induction c with
 | skip=>intro st β a w V K Q h _ g j;exact wp_skip (j _ _ _ _ _ _ h (View.Le.refl V) g)
 | region id ops draw=>
  intro st β a w V K Q h r g j
  have Z:∀(i:Nat)(o:Oper),ops[i]?=some o->∀d,o.dst=some d->d<n:=by
   intro i o ho d Z;simp only [gS,List.all_eq_true] at r;have:=r o (by rw [←Array.getElem?_toList] at ho;exact List.mem_of_getElem? ho);rw [Z] at this;simp only [Nat.blt_eq] at this;exact this
  simp only [vc] at g;split at g
  ·obtain ⟨a0,V1,F,u,G⟩:=h.release g;exact pw hT hmx F Z G (fun st' β' a' w' V' f hle k=>j _ _ _ _ _ _ f (u.trans hle) k)
  ·rename_i A hA;obtain ⟨I,g,S⟩:=g;obtain ⟨a0,V1,F,u,G⟩:=h.release g;refine pw (K:=fun _ s V'=>∃x,(A.at st).fits s x (I x V')) hT hmx F Z G (fun st' β' a' w' V' f hle k=>?_);obtain ⟨x,v⟩:=k;have hinv:I x V':=v.2;obtain ⟨H,M⟩:=S x V' (u.trans hle) hinv;obtain ⟨β2,q⟩:=(iL f H v).1;exact j _ _ _ _ _ _ q (u.trans hle) M
 | seq x y L8 ihy=>
  intro st β a w V K Q h r g j;simp only [gS,Bool.and_eq_true] at r;refine wp_seq (L8 st β a w V _ _ h r.1 g ?_);intro e st' β' a' w' V' f hle k
  cases e with
  | normal=>exact ihy st' β' a' w' V' K Q f r.2 k (fun e s b a w z H M h3=>j e s b a w z H (hle.trans M) h3)
  | _=>exact j _ _ _ _ _ _ f hle k
 | cond c x y L8 ihy=>
  intro st β a w V K Q h r g j;simp only [gS,Bool.and_eq_true] at r;simp only [vc] at g;split at g
  ·split at g
   ·rename_i B;exact wp_cond_true (h.eval B) (L8 st β a w V K Q h r.1 g j)
   ·rename_i B;exact wp_cond_false (h.eval B) (ihy st β a w V K Q h r.2 g j)
   ·rename_i t B;exact wp_cond_split (h.eval B) (fun N=>L8 st β a w V K Q h r.1 (g.1 N) j) (fun N=>ihy st β a w V K Q h r.2 (g.2 N) j)
   ·exact g.elim
  ·rename_i A hA;split at g
   ·rename_i B;exact wp_cond_true (h.eval B) (L8 st β a w V K Q h r.1 g j)
   ·rename_i B;exact wp_cond_false (h.eval B) (ihy st β a w V K Q h r.2 g j)
   ·rename_i t B;obtain ⟨I,⟨hx,hy⟩,S⟩:=g
    have join:∀e st' β' a' w' V',Mod n V0 bh β0 st' β' a' w' V'->V.Le V'->(match e with|.normal=>∃x,(A.at st).fits st' x (I x V')|e=>K e st' V')->Q e a' w':=by
     intro e st' β' a' w' V' f hle k
     cases e with
     | normal=>
      obtain ⟨x,v⟩:=k;have hinv:I x V':=v.2;obtain ⟨H,M⟩:=S x V' hle hinv;obtain ⟨β2,q⟩:=(iL f H v).1;exact j _ _ _ _ _ _ q hle M
     | _=>exact j _ _ _ _ _ _ f hle k
    exact wp_cond_split (h.eval B) (fun N=>L8 st β a w V _ Q h r.1 (hx N) join) (fun N=>ihy st β a w V _ Q h r.2 (hy N) join)
   ·exact g.elim
 | block id x ih=>
  intro st β a w V K Q h r g j;simp only [vc] at g;split at g
  ·refine wp_block (ih st β a w V _ _ h r g ?_);intro e st' β' a' w' V' f hle k
   cases e with
   | normal=>exact j _ _ _ _ _ _ f hle k
   | exit i=>
    simp only [Exit.inBlock];dsimp only at k;by_cases e:i=id
    ·subst e;rw [Nat.beq_refl] at k;simp only [if_true];exact j _ _ _ _ _ _ f hle k
    ·rw [cU e] at k;rw [if_neg e];exact j _ _ _ _ _ _ f hle k
   | _=>exact j _ _ _ _ _ _ f hle k
  ·rename_i A hA;obtain ⟨I,g,S⟩:=g;refine wp_block (ih st β a w V _ _ h r g ?_);intro e st' β' a' w' V' f hle k
   have join:(∃x,(A.at st).fits st' x (I x V'))->Q .normal a' w':=by
    rintro ⟨x,v⟩;have hinv:I x V':=v.2;obtain ⟨H,M⟩:=S x V' hle hinv;obtain ⟨β2,q⟩:=(iL f H v).1;exact j _ _ _ _ _ _ q hle M
   cases e with
   | normal=>exact join k
   | exit i=>
    simp only [Exit.inBlock];dsimp only at k;by_cases e:i=id
    ·subst e;rw [Nat.beq_refl] at k;simp only [if_true];exact join k
    ·rw [cU e] at k;rw [if_neg e];exact j _ _ _ _ _ _ f hle k
   | _=>exact j _ _ _ _ _ _ f hle k
 | loop x ih=>
  intro st β a w V K Q h r g j;simp only [vc] at g;split at g
  ·refine wp_loop_ghost (fun m a w=>∃st β V',Mod n V0 bh β0 st β a w V'/\V.Le V'/\Ui (fun st V K=>vc P T LF RF L J x st V K) m st V' K) 3 ⟨st,β,V,h,View.Le.refl V,g⟩ ?_;rintro m a w ⟨st',β',V',f,hle,hu⟩
   cases m with
   | zero=>exact hu.elim
   | succ m=>
    refine ih st' β' a w V' _ _ f r hu ?_;intro e JP UI U W z D p k
    cases e with
    | normal=>exact ⟨m,Nat.lt_succ_self m,JP,UI,z,D,hle.trans p,k⟩
    | _=>exact j _ _ _ _ _ _ D (hle.trans p) k
  ·rename_i A hA;split at g
   ·obtain ⟨I,ms,⟨E,C⟩,O⟩:=g;have X:I E V:=C.2;refine wp_loop_ghost (fun m a w=>∃x β V',Mod n V0 bh β0 ((A.at st).st x) β a w V'/\V.Le V'/\I x V'/\ms x=m) (ms E) ?_ ?_
    ·obtain ⟨β2,q⟩:=(iL h (O E V (View.Le.refl V) X).1 C).1;exact ⟨E,β2,V,q,View.Le.refl V,X,rfl⟩
    ·rintro m a w ⟨x,β,V',f,hle,hinv,rfl⟩;refine ih ((A.at st).st x) β a w V' _ _ f r (O x V' hle hinv).2 ?_;intro e JP UI U W z D p k
     cases e with
     | normal=>
      obtain ⟨y,R,v⟩:=k;have Y:I y z:=v.2;obtain ⟨β2,q⟩:=(iL D (O y z (hle.trans p) Y).1 v).1;exact ⟨ms y,R,y,β2,z,q,hle.trans p,Y,rfl⟩
     | _=>exact j _ _ _ _ _ _ D (hle.trans p) k
   ·obtain ⟨I,⟨E,k0,C⟩,O⟩:=g;have X:I E k0 V:=C.2;refine wp_loop_ghost (fun m a w=>∃x β V',Mod n V0 bh β0 ((A.at st).st x) β a w V'/\V.Le V'/\I x m V') k0 ?_ ?_
    ·obtain ⟨β2,q⟩:=(iL h (O E k0 V (View.Le.refl V) X).1 C).1;exact ⟨E,β2,V,q,View.Le.refl V,X⟩
    ·rintro m a w ⟨x,β,V',f,hle,hinv⟩;refine ih ((A.at st).st x) β a w V' _ _ f r (O x m V' hle hinv).2 ?_;intro e JP UI U W z D p k
     cases e with
     | normal=>
      obtain ⟨y,k',R,v⟩:=k;have Y:I y k' z:=v.2;obtain ⟨β2,q⟩:=(iL D (O y k' z (hle.trans p) Y).1 v).1;exact ⟨k',R,y,β2,z,q,hle.trans p,Y⟩
     | _=>exact j _ _ _ _ _ _ D (hle.trans p) k
 | exit id=>intro st β a w V K Q h _ g j;exact wp_exit (j _ _ _ _ _ _ h (View.Le.refl V) g)
 | scope x ih=>
  intro st β a w V K Q h r g j;simp only [vc] at g;refine wp_scope_straight (ih st β a w V _ _ h r g ?_);intro e st' β' a' w' V' f hle k
  cases e with
  | goto l=>exact k.elim
  | _=>exact j _ _ _ _ _ _ f hle k
 | label l=>intro st β a w V K Q h _ g j;exact wp_label (j _ _ _ _ _ _ h (View.Le.refl V) g)
 | ret=>intro st β a w V K Q h _ g j;exact wp_ret (j _ _ _ _ _ _ h (View.Le.refl V) g)
 | _=>intro st β a w V K Q h _ g j;exact g.elim
end Go.Eng
