import Derived.Test.YtapnijmlbakblaaGreatDoorS4
import Derived.Orders
set_option linter.unusedVariables false
open Go.IntKind (i64 u64 u32)
namespace Go.Eng
variable {P:Program} {T:cO} {LF RF:List Nat} {m:CM}
def Good (p:Nat->Option SV)(q:Nat->Option aO)(W D:List Nat)(st:St)(V:View)(K:St->View->Prop):St->View->Prop:=
 fun st2 V2=>V.Le V2/\(∀t,t∉D->st2.ar t=st.ar t)/\(∀s,s∉W->st2.boxes s=st.boxes s)/\K (ov p q st2) V2
theorem pB {bx bx':Nat->Option aO}:∀{l:List Nat},(∀s∈l,bx' s=bx s)->l.flatMap (kN bx')=l.flatMap (kN bx)
 | [],_=>rfl
 | s::r,h=>by
  simp only [List.flatMap_cons];rw [pB fun s hs=>h s (by simp [hs])];simp only [kN];rw [h s (by simp)]
theorem mD {bx bx':Nat->Option aO}:∀(n:Nat)(l:List Nat),(∀s∈reach bx n l,bx' s=bx s)->reach bx' n l=reach bx n l
 | 0,_,_=>rfl
 | n+1,l,h=>by
  have hl:∀s∈l,bx' s=bx s:=fun s a=>h s (ew (n+1) l s a);simp only [reach] at h ⊢;rw [pB hl];exact mD n _ h
theorem xW {bx bx':Nat->Option aO}{l:List Nat}(h:∀s∈l,bx' s=bx s):gO bx' l=gO bx l:=by
 unfold gO;rw [Bool.eq_iff_iff,List.all_eq_true,List.all_eq_true];constructor
 ·intro g s a;have:=g s a;simp only [kN] at this ⊢;rw [h s a] at this;exact this
 ·intro g s a;have:=g s a;simp only [kN] at this ⊢;rw [h s a];exact this
theorem fF:∀{L:List Nat} {β:Nat->Nat} {k k':(Nat->Nat)->Prop},(∀β,k β->k' β)->kL L β k->kL L β k'
 | [],_,_,_,h,g=>h _ g
 | _::_,_,_,_,h,g=>fun b=>fF h (g b)
theorem vU {bx bx':Nat->Option aO}{b:aO}{β:Nat->Nat}{s:Nat}:∀{r:List Nat} {k k':Prop},(∀t∈r,bx' t=bx t)->(k->k')->NV bx b β s r k->NV bx' b β s r k'
 | [],_,_,_,h,g=>h g
 | t::r,k,k',hb,h,g=>by
  have hr:=fun t a=>hb t (List.mem_cons_of_mem _ a);simp only [NV] at g ⊢;rw [hb t (by simp)]
  cases hbq:Nat.beq s t with
  | true=>rw [hbq] at g;exact vU hr h g
  | false=>
   rw [hbq] at g;simp only [cond_false] at g ⊢;split at g
   ·exact fun c=>vU hr h (g c)
   ·exact g
theorem iY {bx bx':Nat->Option aO}{β:Nat->Nat}{V:View}:∀{L:List Nat} {k k':Prop},(∀s∈L,bx' s=bx s)->((∀s∈L,∃b,bx s=some b/\(b.live->V.H (β s)))->k->k')->ij bx β V L k->ij bx' β V L k'
 | [],_,_,_,h,g=>h (fun s hs=>absurd hs (by simp)) g
 | s::r,k,k',hb,h,g=>by
  have hr:=fun t a=>hb t (List.mem_cons_of_mem _ a);simp only [ij] at g ⊢;rw [hb s (by simp)];split at g
  ·rename_i b c;refine fun e d=>iY hr (fun f=>vU hr (fun i=>h (fun t a=>?_) i)) (g e d);rcases List.mem_cons.1 a with rfl|a
   ·exact ⟨b,c,fu.1 d⟩
   ·exact f t a
  ·exact g
theorem jA {mv:Option (Nat×Nat)}:∀{cs zs:List C} {K K':List C->Prop},(∀c,K c->K' c)->kZ mv cs zs K->kZ mv cs zs K'
 | [],_,_,_,h,g=>h _ g
 | _::_,[],_,_,_,g=>g.elim
 | c::r,z::zr,K,K',h,g=>by
  simp only [kZ] at g ⊢;split at g
  ·split at g
   ·split at g
    ·obtain ⟨n,c,g⟩:=g;exact ⟨n,c,jA (fun cs a=>h _ a) g⟩
    ·exact g.elim
   ·exact g.elim
  ·split at g
   ·obtain ⟨v,b,d⟩:=xu.split _ g;rename_i e;rw [e] at *;exact d _ (jA (fun cs a=>h _ a) b)
   ·exact jA (fun cs a=>h _ a) g
variable {p:Nat->Option SV} {q:Nat->Option aO}
theorem jC {mv:Option (Nat×Nat)}{β:Nat->Nat}{V:View}{W:List Nat}:∀{L:List Nat} {st:St} {k k':St->Prop},(∀s∈L,q s=none/\s∈W) ->
  (∀st',(∀t,st'.ar t=st.ar t)->(∀s,s∉W->st'.boxes s=st.boxes s)->k (ov p q st')->k' st')->dL T mv β V L (ov p q st) k->dL T mv β V L st k'
 | [],st,k,k',_,h,g=>h st (fun _=>rfl) (fun _ _=>rfl) g
 | s::r,st,k,k',hq,h,g=>by
  obtain ⟨Pa,Rg⟩:=hq s (by simp);have o:∀s∈r,q s=none/\s∈W:=fun s u=>hq s (by simp [u])
  have j:∀b:aO,∀l:St->Prop,(∀st',l st'=k st')->dL T mv β V r ((ov p q st).box s b) l->dL T mv β V r (st.box s b) k':=by
   intro b l m g;rw [jP Pa] at g;refine jC o (fun st' a c f=>h st' a (fun v d=>?_) (by rw [←m];exact f)) g;rw [c v d,ao,if_neg (fun e=>d (by rw [e];exact Rg))]
  simp only [dL] at g ⊢;rw [bY Pa] at g;split at g
  ·rename_i cs ty z;split at g
   ·rename_i i A;exact jA (fun w f=>⟨f.1,j _ _ (fun _=>rfl) f.2⟩) g
   ·exact g
  ·obtain ⟨n,a,c⟩:=g;exact ⟨n,a,j _ _ (fun _=>rfl) c⟩
  ·obtain ⟨x,n,y,a,c⟩:=g;exact ⟨x,n,y,a,j _ _ (fun _=>rfl) c⟩
  ·exact g
theorem uv (V:View)(l:List Nat):V.Le (V.aF l):=fun _ _ h=>h
theorem Gz (V:View):V.Le V.shut:=fun _ _ h=>h
theorem JI {V V' eH:View}{P:Prop}{b:Nat}(h:V.Le eH)(h':V.Le V')(hb:P->V'.w.heap.size<=b\/V'.H b):V.Le (eH.shut.gX P b):=by
 intro x o c;obtain ⟨f,g⟩:=h x o c;obtain ⟨i,j⟩:=h' x o c;refine ⟨fun a=>?_,g⟩;rcases a with a|⟨k,e,-⟩
 ·exact f a
 ·subst e;rcases hb k with d|d
  ·have:=ax j;omega
  ·exact i d
theorem JY {m:Option Nat}{d:Nat}:eU m d=d\/eU m d=d+200000:=by
 cases m with
 | none=>exact .inl rfl
 | some m=>
  simp only [eU,nN]
  cases Nat.blt m 100000 with
  | true=>exact .inl rfl
  | false=>exact .inr rfl
theorem ll {give:Bool}{sh:Sh}{L:List Nat}{mm:Option Nat}{d:Nat}{ety:TypeId}{β:Nat->Nat}{st:St}{V V' eH:View}{K K':St->View->Prop}{W D:List Nat}{r':Value}
  (hL:∀s∈L,q s=none/\s∈W)(hm:∀k,mm=some k->k∈L)(hp:p d=none/\d∈D)(hq:q (eU mm d)=none/\eU mm d∈W)(hV:V.Le V')(hV2:V.Le eH)
  (hlv:∀s∈L,∃b,st.boxes s=some b/\(b.live->V'.H (β s)))(hK:∀s2 V2,Good p q W D st V K s2 V2->K' s2 V2)
  (h:bP T give sh L mm d ety β (ov p q st) V' K r' eH):bP T give sh L mm d ety β st V' K' r' eH:=by
 unfold bP at h ⊢;obtain ⟨c,a,v,y,z⟩:=h
 have j:a≠[]->V'.w.heap.size<=c\/xl mm st β c:=by
  intro f;refine (y f).imp id fun h=>?_;unfold xl at h ⊢
  cases mm with
  | none=>exact h
  | some k=>
   dsimp only at h ⊢;rw [bY (hL k (hm k rfl)).1] at h;exact h
 have A:a≠[]->V'.w.heap.size<=c\/V'.H c:=by
  intro f;refine (j f).imp id fun h=>?_;unfold xl at h
  cases mm with
  | none=>exact h.elim
  | some k=>
   dsimp only at h;obtain ⟨B,o,g⟩:=hlv k (hm k rfl);rw [o] at h;obtain ⟨cs,ty⟩:=B
   cases cs with
   | lit cs=>have h:c=β k:=h;rw [h];exact g cD
   | row cs=>have h:c=β k:=h;rw [h];exact g cq
   | aP vs=>have h:vs≠[]/\c=β k:=h;rw [h.2];exact g (eg h.1)
 refine ⟨c,a,v,j,Sh.mono z fun x u=>⟨u.1,?_⟩⟩
 have C:(pQ mm ety (ov p q st)).box (eU mm d) ⟨.aP a,ety⟩=ov p q ((pQ mm ety st).box (eU mm d) ⟨.aP a,ety⟩):=by
  cases mm with
  | none=>exact jP hq.1
  | some k=>
   simp only [pQ];rw [jP (hL k (hm k rfl)).1,jP hq.1]
 have l:=u.2;rw [C] at l
 have m:∀s∈C0 mm L,q s=none/\s∈W:=by
  intro s i
  cases mm with
  | none=>exact hL s i
  | some k=>exact hL s (vS.1 i).1
 refine jC m (fun r E F n=>?_) l;rw [jQ (fun k n=>by cases n;exact hp.1)] at n;refine hK _ _ ⟨JI hV2 hV A,?_,?_,n⟩
 ·intro t G;rw [cT,if_neg (fun e=>G (by rw [e];exact hp.2)),E];cases mm<;>rfl
 ·intro s i;show r.boxes s=_;rw [F s i,ao,if_neg (fun e=>i (by rw [e];exact hq.2))]
  cases mm with
  | none=>rfl
  | some k=>simp only [pQ];rw [ao,if_neg (fun e=>i (by rw [e];exact (hL k (hm k rfl)).2))]
theorem JR {bx:Nat->Option aO}{L:List Nat}(hcl:gO bx L=true):∀k,k∈pY bx L->k∈L:=by
 intro k a;unfold pY at a;obtain ⟨s,b,a⟩:=List.mem_flatMap.1 (bO.1 a);split at a
 ·rename_i cs ty d;refine fG hcl b d k ?_
  have:∀cs:List C,k∈oL cs->k∈cs.flatMap C.ids:=by
   intro cs
   induction cs with
   | nil=>exact fun h=>nomatch h
   | cons c r ih=>
    intro h;rw [List.flatMap_cons,List.mem_append]
    cases c<;>simp only [oL,List.mem_cons] at h<;>first
     | exact .inr (ih h)
     | (rcases h with h|h
        ·left;simp [C.ids,h]
        ·exact .inr (ih h))
  exact this cs a
 ·cases a
theorem vt {xs:List SV}:∀k,k∈ld xs->k∈xs.flatMap SV.ids:=by
 intro k
 induction xs with
 | nil=>exact fun h=>nomatch h
 | cons x r ih=>
  intro h;rw [List.flatMap_cons,List.mem_append];unfold ld at h;split at h
  ·rename_i heq;cases heq
  ·rename_i s n c a heq;cases heq;exact .inl h
  ·rename_i s n c a heq;cases heq;exact .inl h
  ·rename_i heq;cases heq;exact .inr (ih h)
theorem sN {bx bx':Nat->Option aO}{L:List Nat}(h:∀s∈L,bx' s=bx s):pY bx' L=pY bx L:=by
 unfold pY;congr 1
 induction L with
 | nil=>rfl
 | cons s r ih=>simp only [List.flatMap_cons];rw [h s (by simp),ih fun s a=>h s (by simp [a])]
theorem fX {st:St}{mm:Option Nat}{d:Nat}(h:q (eU mm d)=none):ja (ov p q st) mm d=ja st mm d:=by
 unfold ja;rw [bY h]
theorem sL {bx bx':Nat->Option aO}{β:Nat->Nat}{N:Nat}{L:List Nat}(h:∀s∈L,bx' s=bx s):L.map (cS bx' β N)=L.map (cS bx β N):=
 List.map_congr_left fun s a=>by unfold cS;rw [h s a]
theorem Eh:∀{L:List Nat} {st:St},(∀s∈L,q s=none)->dk (ov p q st) L 0=ov p q (dk st L 0)
 | [],_,_=>rfl
 | s::r,st,h=>by
  show dk ((ov p q st).box s ⟨.aP [],0⟩) r 0=ov p q (dk (st.box s ⟨.aP [],0⟩) r 0);rw [jP (h s (by simp))];exact Eh fun s hs=>h s (by simp [hs])
theorem Ag {bx bx':Nat->Option aO}{β:Nat->Nat}{V:View}:∀{L:List Nat} {k k':Prop},(∀s∈L,bx' s=bx s)->(k->k')->qj bx β V L k->qj bx' β V L k'
 | [],_,_,_,h,g=>h g
 | s::r,k,k',hb,h,g=>by
  simp only [qj] at g ⊢;rw [hb s (by simp)];split at g
  ·exact fun h1=>Ag (fun t ht=>hb t (List.mem_cons_of_mem _ ht)) h (g h1)
  ·exact g.elim
theorem iC {f:FuncId}{xs:List SV}{ty:TypeId}{dst:Option Nat}{st:St}{V:View}{K:St->View->Prop}{W D:List Nat}
  (hm:m=.none\/((m=.aF\/m=.give)/\(∀s∈reach (ov p q st).boxes 3 (dedup (xs.flatMap SV.ids)),q s=none/\s∈W)/\∀k,dst=some k->∀mm,q (eU mm k)=none/\eU mm k∈W))(hd:∀k,dst=some k->p k=none/\k∈D)
  {K':St->View->Prop}(hK:∀s2 V2,Good p q W D st V K s2 V2->K' s2 V2)(hv:fy P T m f xs ty dst (ov p q st) V K):fy P T m f xs ty dst st V K':=by
 have B:∀(n:St)(x:SV),(∀t,n.ar t=st.ar t)->∀t,t∉D->(n.put dst x).ar t=st.ar t:=by
  intro n x h t i
  cases dst with
  | none=>exact h t
  | some d=>rw [cT,if_neg (fun e=>i (by rw [e];exact (hd d rfl).2))];exact h t
 have H:∀(n:St)(x:SV),(n.put dst x).boxes=n.boxes:=by intro n x;cases dst<;>rfl
 unfold fy at hv ⊢;split at hv
 ·exact hv.elim
 ·rename_i R a0
  have F:∀L,reach (ov p q st).boxes 3 (dedup (xs.flatMap SV.ids))=L->(∀s∈L,q s=none)->reach st.boxes 3 (dedup (xs.flatMap SV.ids))=L:=by
   intro L hL U;rw [←hL];exact mD 3 _ fun s v=>(bY (U s (by rw [←hL];exact v))).symm
  have NC:∀s∈xs.flatMap SV.ids,s∈reach (ov p q st).boxes 3 (dedup (xs.flatMap SV.ids)):=fun s v=>ew 3 _ s (bO.2 v);generalize hr:reach (ov p q st).boxes 3 (dedup (xs.flatMap SV.ids))=L at hv hm NC
  cases L with
  | nil=>
   rw [F _ hr (fun s v=>nomatch v)]
   have plain:(∀c:View,V.Le c->ae P f (aL (fun _=>0) xs) c fun r z=>R.ex fun x=>r=x.den (fun _=>0)/\K ((ov p q st).put dst x) z) ->
     ∀c:View,V.Le c->ae P f (aL (fun _=>0) xs) c fun r z=>R.ex fun x=>r=x.den (fun _=>0)/\K' (st.put dst x) z:=by
    intro hv c b;refine (hv c b).mono fun r z hle l=>Sh.mono l fun x I=>⟨I.1,?_⟩;have A:=I.2;rw [jQ (fun k l=>(hd k l).1)] at A;exact hK _ _ ⟨b.trans hle,B st x fun _=>rfl,fun s _=>by rw [H],A⟩
   rcases hm with rfl|⟨rfl|rfl,-,g⟩
   ·exact plain hv
   ·exact plain hv
   ·dsimp only at hv ⊢;split at hv
    ·rename_i d o a1;rw [fX (g d rfl Option.none).1] at hv;split at hv
     ·exact hv.elim
     ·rename_i u;intro c b;refine (hv c b).mono fun r z hle l=>?_;exact ll (W:=W) (D:=D) (fun s v=>absurd v (by simp)) (fun k l=>by cases l) (hd d rfl) (g d rfl Option.none) b (b.trans hle) (fun s v=>absurd v (by simp)) hK l
    ·exact hv.elim
  | cons s r=>
   dsimp only at hv;split at hv
   ·exact hv.elim
   ·rename_i J
    have aF:m=.aF\/m=.give->(∀t∈s::r,q t=none/\t∈W)->(∀k,dst=some k->∀mm,q (eU mm k)=none/\eU mm k∈W) ->
      ∀{give:Bool} {mm:Option Nat} {d:Nat} {o:TypeId},dst=some d->(∀k,mm=some k->k∈s::r) ->
      (∀c:View,V.Le c->kL (s::r) (fun _=>0) fun β=>ij (ov p q st).boxes β c (s::r) (ae P f (aL β xs) (c.aF ((s::r).map (cS (ov p q st).boxes β c.w.heap.size))) (bP T give R (s::r) mm d o β (ov p q st) c K))) ->
      ∀c:View,V.Le c->kL (s::r) (fun _=>0) fun β=>ij st.boxes β c (s::r) (ae P f (aL β xs) (c.aF ((s::r).map (cS st.boxes β c.w.heap.size))) (bP T give R (s::r) mm d o β st c K')):=by
     intro _ a g give mm d o C Vo hv c b;have E:∀t∈s::r,st.boxes t=(ov p q st).boxes t:=fun t i=>(bY (a t i).1).symm;refine fF (fun β M=>?_) (hv c b);rw [sL (bx:=(ov p q st).boxes) E];refine iY (bx:=(ov p q st).boxes) E (fun hH y=>?_) M;refine y.mono fun r' z hle l=>?_;have N:V.Le z:=(b.trans (uv c _)).trans hle;exact ll a Vo (hd d C) (g d C mm) b N (fun t i=>by rw [E t i];exact hH t i) hK l
    have base:m=.aF\/m=.give->(∀t∈s::r,q t=none/\t∈W)/\(∀k,dst=some k->∀mm,q (eU mm k)=none/\eU mm k∈W):=by
     intro h;rcases hm with rfl|⟨-,O,A⟩
     ·rcases h with h|h<;>cases h
     ·exact ⟨O,A⟩
    have XM:(∀t∈s::r,q t=none/\t∈W)->gO st.boxes (s::r)=true:=fun a=>by
     rw [xW (bx:=(ov p q st).boxes) (fun t i=>(bY (a t i).1).symm)];exact J
    split at hv
    ·exact hv.elim
    ·exact hv.elim
    ·
     obtain ⟨a,g⟩:=base (.inr rfl);rw [F _ hr (fun t i=>(a t i).1)];dsimp only;rw [XM a];dsimp only;have G:=sN (bx:=(ov p q st).boxes) (bx':=st.boxes) (L:=s::r) (fun t i=>(bY (a t i).1).symm);rw [G];split at hv
     ·rename_i d o O A h3;rw [fX (g d rfl _).1] at hv;split at hv
      ·exact hv.elim
      ·rename_i u;exact aF (.inr rfl) a g rfl (fun k l=>by cases l) hv
     ·rename_i d o k O A h3;have Q:k∈s::r:=NC k (vt k (by rw [A];simp));have X:Bw (ov p q st).boxes k o=Bw st.boxes k o:=by unfold Bw;rw [bY (a k Q).1]
      rw [X] at hv;split at hv
      ·rw [fX (g d rfl _).1] at hv;split at hv
       ·exact hv.elim
       ·rename_i u;exact aF (.inr rfl) a g rfl (fun j Y=>by cases Y;exact Q) hv
      ·rw [Eh (fun t i=>(a t i).1),fX (g d rfl _).1] at hv;split at hv
       ·exact hv.elim
       ·rename_i u;split at hv
        ·exact hv.elim
        ·intro c b;refine fF (fun β M=>?_) (hv c b);refine Ag (bx:=(ov p q st).boxes) (fun t i=>(bY (a t i).1).symm) (fun y=>?_) M;refine y.mono fun r' z hle l=>?_;exact ll (W:=W) (D:=D) (st:=dk st (s::r) 0) (fun s v=>absurd v (by simp)) (fun k l=>by cases l) (hd d rfl) (g d rfl Option.none) b (b.trans hle) (fun s v=>absurd v (by simp)) (fun s2 V2 S=>hK s2 V2 ⟨S.1,fun t i=>(S.2.1 t i).trans (by rw [jH]),fun t i=>(S.2.2.1 t i).trans (by rw [bj,if_neg fun h=>i (a t h).2]),S.2.2.2⟩) l
     ·exact hv.elim
    ·
     obtain ⟨a,g⟩:=base (.inl rfl);rw [F _ hr (fun t i=>(a t i).1)];dsimp only;rw [XM a];dsimp only;have E:∀t∈s::r,st.boxes t=(ov p q st).boxes t:=fun t i=>(bY (a t i).1).symm;have G:=sN (bx:=(ov p q st).boxes) (bx':=st.boxes) (L:=s::r) E;rw [G];split at hv
     ·intro c b;refine fF (fun β M=>?_) (hv c b);rw [sL (bx:=(ov p q st).boxes) E];refine iY (bx:=(ov p q st).boxes) E (fun _ y=>?_) M;refine y.mono fun r' z hle l=>Sh.mono l fun x I=>⟨I.1,?_⟩;refine jC a (fun n O A l=>?_) I.2;rw [jQ (fun k l=>(hd k l).1)] at l;exact hK _ _ ⟨((b.trans (uv c _)).trans hle).trans (Gz _),B n x O,fun t i=>by rw [H];exact A t i,l⟩
     ·rename_i k l;have O8:k∈s::r:=JR J k (by rw [l];simp);have Z:kb st.boxes k=kb (ov p q st).boxes k:=by unfold kb;rw [E k O8]
      rw [Z];split at hv
      ·rename_i d o a2;rw [fX (g d rfl _).1] at hv;split at hv
       ·exact hv.elim
       ·rename_i u;exact aF (.inl rfl) a g rfl (fun j Y=>by cases Y;exact O8) hv
      ·exact hv.elim
     ·exact hv.elim
    ·rcases hm with h|h
     ·cases h
     ·rcases h.1 with h|h<;>cases h
theorem Dn {bx:Nat->Option aO}:∀(n:Nat) {l l':List Nat},(∀x∈l,x∈l')->∀x∈reach bx n l,x∈reach bx n l'
 | 0,_,_,h,x,hx=>h x hx
 | n+1,l,l',h,x,hx=>by
  simp only [reach] at hx ⊢;refine Dn n (fun y hy=>?_) x hx;rw [bO,List.mem_append] at hy ⊢;rcases hy with hy|hy
  ·exact .inl (h y hy)
  ·obtain ⟨z,hz,hy⟩:=List.mem_flatMap.1 hy;exact .inr (List.mem_flatMap.2 ⟨z,h z hz,hy⟩)
theorem tg {f:FuncId}{xs:List SV}{ty:TypeId}{dst:Option Nat}{st:St}{V:View}{K:St->View->Prop}{W D:List Nat}
  (hm:m=.none\/((m=.aF\/m=.give)/\(∀s∈reach (ov p q st).boxes 3 (dedup (xs.flatMap SV.ids)),q s=none/\s∈W)/\∀k,dst=some k->∀mm,q (eU mm k)=none/\eU mm k∈W))(hd:∀k,dst=some k->p k=none/\k∈D)
  {K':St->View->Prop}(hK:∀s2 V2,Good p q W D st V K s2 V2->K' s2 V2)(hv:jU P T m f xs ty dst (ov p q st) V K):jU P T m f xs ty dst st V K':=by
 have a:=hm
 cases m with
 | aF=>
  obtain ⟨b,d⟩:(∀s∈reach (ov p q st).boxes 3 (dedup (xs.flatMap SV.ids)),q s=none/\s∈W)/\∀k,dst=some k->∀mm,q (eU mm k)=none/\eU mm k∈W:=by
   rcases hm with h|⟨-,b,d⟩
   ·cases h
   ·exact ⟨b,d⟩
  unfold jU at hv ⊢;dsimp only at hv ⊢;rw [qv (bx:=st.boxes) (bx':=(ov p q st).boxes) (fun s g=>bY (b s (ew 3 _ s (bO.2 g))).1)] at hv;split at hv
  ·rename_i l c i e;exact ⟨fun he=>⟨(hv.1 he).1,iC (.inr ⟨.inl rfl,fun s g=>b s (Dn 3 (fun x j=>bO.2 (wD e x (bO.1 j))) s g),d⟩) hd hK (hv.1 he).2⟩,fun he=>iC a hd hK (hv.2 he)⟩
  ·exact iC a hd hK hv
 | _=>exact iC a hd hK hv
theorem Bj {p2:Nat->Option SV}{q2:Nat->Option aO}{st:St}(hp:∀t,p t=none\/p2 t=none)(hq:∀t,q t=none\/q2 t=none):ov p q (ov p2 q2 st)=ov p2 q2 (ov p q st):=by
 unfold ov;congr 1
 ·funext t;dsimp only;rcases hp t with h|h<;>rw [h]
 ·funext t;dsimp only;rcases hq t with h|h<;>rw [h]
def Ax:Q->Option Nat
 | .app old _ _ _ _ _ _ _ _=>old
 | .rF s _ _ _ _ _ _ _=>some s
 | _=>none
def GO (T:cO)(bx:Nat->Option aO)(l:Option (List SV))(ts:List TypeId):Q:=
 match l,ts with
 | some [b,x],[t,t']=>match ay T t,ay T t' with
  | some i,some i'=>match i.k,i'.k with
   | .slice e,.slice _=>match ay T e with
    | some ei=>cf bx e ei b x
    | none=>.fail
   | _,_=>.fail
  | _,_=>.fail
 | _,_=>.fail
def Ay (bx:Nat->Option aO)(sz:Nat)(x:SV):Option (OA×Nat ⊕ List Value):=
 match x with
 | .c (.v (.slice a k _))=>some (.inl (a,k))
 | .c (.kI s o k _)=>match bx s with
  | some ⟨.row ws,_⟩=>some (.inr (aM ws o (k*sz)))
  | _=>match dS bx s with
   | some ws=>if Nat.ble (o+k*sz) ws.length then some (.inr ((ws.drop o).take (k*sz))) else none
   | none=>none
 | .c (.gQ s k c)=>match bx s with
  | some ⟨.aP ws,_⟩=>some (.inr (mG ws k c sz))
  | _=>none
 | _=>none
def Gd (bx:Nat->Option aO)(e:TypeId)(ei:TI)(b:SV)(src:OA×Nat ⊕ List Value):Q:=
 match b with
 | .c (.v (.slice a n c))=>.app none a [] n c src ei.size ei.bytes e
 | .c (.kI s 0 n c)=>match dS bx s,kb bx s with
  | some vs,some ty=>if Nat.beq ty e then .app (some s) none vs n c src ei.size ei.bytes e else .fail
  | _,_=>.fail
 | .c (.gQ s n c)=>match bx s with
  | some ⟨.aP vs,ty⟩=>if Nat.beq ty e then .rF s vs n c src ei.size ei.bytes e else .fail
  | _=>.fail
 | _=>.fail
theorem wg {bx:Nat->Option aO}{e:TypeId}{ei:TI}{b x:SV}:cf bx e ei b x=match jG ei.zero with
  | none=>.fail
  | some zs=>if Nat.beq ei.bytes 0||Nat.beq ei.size 0||!(Nat.beq ei.size zs.length) then .fail else match Ay bx ei.size x with
   | none=>.fail
   | some src=>Gd bx e ei b src:=rfl
theorem He {bx bx':Nat->Option aO}{sz:Nat}{x:SV}:(∀s∈x.ids,bx' s=bx s)->Ay bx sz x=Ay bx' sz x:=by
 unfold Ay;split
 ·exact fun _=>rfl
 ·intro h;unfold dS;rw [h _ (by simp [SV.ids,C.ids])]
 ·intro h;rw [h _ (by simp [SV.ids,C.ids])]
 ·exact fun _=>rfl
theorem IG {bx bx':Nat->Option aO}{e:TypeId}{ei:TI}{b:SV}{src:OA×Nat ⊕ List Value}:(∀s∈b.ids,bx' s=bx s)->Gd bx e ei b src=Gd bx' e ei b src:=by
 unfold Gd;split
 ·exact fun _=>rfl
 ·intro h;unfold dS kb;rw [h _ (by simp [SV.ids,C.ids])]
 ·intro h;rw [h _ (by simp [SV.ids,C.ids])]
 ·exact fun _=>rfl
theorem Fm {bx bx':Nat->Option aO}{e:TypeId}{ei:TI}{b x:SV}(h:∀s∈b.ids++x.ids,bx' s=bx s):cf bx e ei b x=cf bx' e ei b x:=by
 rw [wg,wg,He fun s a=>h s (List.mem_append_right _ a)];have:=fun src=>IG (bx:=bx) (bx':=bx') (e:=e) (ei:=ei) (b:=b) (src:=src) fun s a=>h s (List.mem_append_left _ a);simp only [this]
theorem Dg {bx:Nat->Option aO}{e:TypeId}{ei:TI}{b x:SV}:∀s,Ax (cf bx e ei b x)=some s->s∈b.ids:=by
 intro s h;unfold cf at h;split at h
 ·cases h
 ·split at h
  ·cases h
  ·dsimp only at h;split at h
   ·cases h
   ·split at h
    ·cases h
    ·split at h
     ·split at h
      ·cases h;simp [SV.ids,C.ids]
      ·cases h
     ·cases h
    ·split at h
     ·split at h
      ·cases h;simp [SV.ids,C.ids]
      ·cases h
     ·cases h
    ·cases h
theorem Mz {bx bx':Nat->Option aO}{ys:List SV}{ts:List TypeId}{R:List Nat}(h:∀s∈ys.flatMap SV.ids,bx' s=bx s)(hR:∀s∈ys.flatMap SV.ids,s∈R) :
  GO T bx (some ys) ts=GO T bx' (some ys) ts/\∀s,Ax (GO T bx (some ys) ts)=some s->s∈R:=by
 unfold GO;split
 ·rename_i b x t d c;cases c;split
  ·split
   ·split
    ·exact ⟨Fm fun s a=>h s (by simpa using a),fun s a=>hR s (by simp [Dg s a])⟩
    ·exact ⟨rfl,fun s a=>nomatch a⟩
   ·exact ⟨rfl,fun s a=>nomatch a⟩
  ·exact ⟨rfl,fun s a=>nomatch a⟩
 ·exact ⟨rfl,fun s a=>nomatch a⟩
theorem HR {bx:Nat->Option aO}{e:TypeId}{ei:TI}{b x:SV}:cR (cf bx e ei b x)=6\/cf bx e ei b x=.fail:=by
 unfold cf;split
 ·exact .inr rfl
 ·split
  ·exact .inr rfl
  ·dsimp only;split
   ·exact .inr rfl
   ·split<;>(try split)<;>(try split)<;>first|exact .inl rfl|exact .inr rfl
theorem Ko {ρ:Operand->Option SV}{bx:Nat->Option aO}{args:Array Operand}{ts:Array TypeId}:cR (aH T ρ bx (.call ⟨.builtin .append,args,ts⟩))=6\/aH T ρ bx (.call ⟨.builtin .append,args,ts⟩)=.fail:=by
 simp only [aH];split
 ·split
  ·split
   ·split
    ·exact HR
    ·exact .inr rfl
   ·exact .inr rfl
  ·exact .inr rfl
 ·exact .inr rfl
theorem BH {Q0:Q}{dst:Option Nat}{st:St}{V:View}{K K':St->View->Prop}{W D:List Nat}(ht:cR Q0=6\/Q0=.fail)
  (ho:∀s,Ax Q0=some s->q s=none/\s∈W)(hd:∀k,dst=some k->(p k=none/\k∈D)/\∀s,q (nN s k)=none/\nN s k∈W)(hd0:∀k,dst=some k->q k=none/\k∈W)
  (hK:∀s2 V2,Good p q W D st V K s2 V2->K' s2 V2)(h:tJ Q0 dst (ov p q st) V K):tJ Q0 dst st V K':=by
 cases Q0 with
 | rF s vs n c x size bytes ty=>
  simp only [tJ] at h ⊢
  cases dst with
  | none=>exact h.elim
  | some d=>
   dsimp only at h ⊢;obtain ⟨⟨u,v⟩,l⟩:=hd d rfl;obtain ⟨A,B⟩:=ho s rfl
   have core:∀k xs,sM s vs n c size bytes ty d (ov p q st) V K k xs->sM s vs n c size bytes ty d st V K' k xs:=by
    rintro k xs ⟨a,f,g,m,j,i⟩;refine ⟨a,f,g,m,j,?_⟩;rw [bY (l s).1] at i;split at i
    ·exact i.elim
    ·intro spare w y z;have:=i spare w y z;rw [jP A,jP (l s).1,jQ (fun k o=>by cases o;exact u)] at this;refine hK _ _ ⟨View.Le.refl V,?_,?_,this⟩
     ·intro t ht;rw [cT,if_neg (fun e=>ht (by rw [e];exact v))];rfl
     ·intro t ht;show ((st.box s _).box _ _).boxes t=_;rw [ao,if_neg (fun e=>ht (by rw [e];exact (l s).2)),ao,if_neg (fun e=>ht (by rw [e];exact B))]
   cases x with
   | inr xs=>exact core _ _ h
   | inl ak=>obtain ⟨xs,a,f,g⟩:=h;exact ⟨xs,a,f,core _ _ g⟩
 | app old ba vs n c x size bytes ty=>
  simp only [tJ] at h ⊢
  cases dst with
  | none=>exact h.elim
  | some d=>
   dsimp only at h ⊢;obtain ⟨⟨u,v⟩,l⟩:=hd d rfl
   cases old with
   | some s=>
    dsimp only at h ⊢;obtain ⟨A,B⟩:=ho s rfl
    have core:∀k xs,B_ s vs n c size bytes ty d (ov p q st) V K k xs->B_ s vs n c size bytes ty d st V K' k xs:=by
     rintro k xs ⟨a,f,g,m,j,i⟩;refine ⟨a,f,g,m,j,?_⟩;rw [bY (l s).1] at i;split at i
     ·exact i.elim
     ·intro b J spare w y z;have:=i b J spare w y z;rw [jP A,jP (l s).1,jQ (fun k o=>by cases o;exact u)] at this;refine hK _ _ ⟨View.Le.refl V,?_,?_,this⟩
      ·intro t ht;rw [cT,if_neg (fun e=>ht (by rw [e];exact v))];rfl
      ·intro t ht;show ((st.box s _).box _ _).boxes t=_;rw [ao,if_neg (fun e=>ht (by rw [e];exact (l s).2)),ao,if_neg (fun e=>ht (by rw [e];exact B))]
    cases x with
    | inr xs=>exact core _ _ h
    | inl ak=>obtain ⟨xs,a,f,g⟩:=h;exact ⟨xs,a,f,core _ _ g⟩
   | none=>
    dsimp only at h ⊢;obtain ⟨C,E⟩:=hd0 d rfl;obtain ⟨r,y,z,F,G,h⟩:=h
    have core:∀k xs,Cb r n c size bytes ty d (ov p q st) V K k xs->Cb r n c size bytes ty d st V K' k xs:=by
     rintro k xs ⟨a,f,g,m,j⟩;refine ⟨a,f,g,m,?_⟩;rw [bY C] at j;split at j
     ·exact j.elim
     ·intro spare w H I;have:=j spare w H I;rw [jP C,jQ (fun k o=>by cases o;exact u)] at this;refine hK _ _ ⟨View.Le.refl V,?_,?_,this⟩
      ·intro t ht;rw [cT,if_neg (fun e=>ht (by rw [e];exact v))];rfl
      ·intro t ht;show (st.box d _).boxes t=_;rw [ao,if_neg (fun e=>ht (by rw [e];exact E))]
    refine ⟨r,y,z,F,G,?_⟩
    cases x with
    | inr xs=>exact core _ _ h
    | inl ak=>
     obtain ⟨xs,a,f,g,m⟩:=h;refine ⟨xs,a,f,fun e=>?_,fun e=>core _ _ (m e)⟩;have:=g e;rw [jQ (fun k o=>by cases o;exact u)] at this;refine hK _ _ ⟨View.Le.refl V,?_,fun t ht=>rfl,this⟩;intro t ht;rw [cT,if_neg (fun e=>ht (by rw [e];exact v))]
 | fail=>exact h.elim
 | _=>rcases ht with ht|ht<;>cases ht
theorem qT {h:Hint}{o:Oper}{st:St}{V:View}{K:St->View->Prop}{R W:List Nat}
  (hm:mC (bh LF RF o.op)=true\/(bh LF RF o.op=.call/\m=.none)\/((bh LF RF o.op=.km/\m=.aF)\/(bh LF RF o.op=.give/\m=.give)\/bh LF RF o.op=.app))
  (hrw:qn (bh LF RF o.op) h (dK o)=some (R,W))(hp:∀t,t∈h_ o.op\/t∈dK o->p t=none)(hq:∀s∈R,q s=none)
  (YC:∀s∈W,q s=none){K':St->View->Prop}(hK:∀s2 V2,Good p q W (dK o) st V K s2 V2->K' s2 V2)(hv:cG P T m h o (ov p q st) V K):cG P T m h o st V K':=by
 have E2:∀t∈h_ o.op,st.ar t=(ov p q st).ar t:=fun t ht=>by simp [ov,hp t (.inl ht)]
 rcases hm with hm|hm
 ·obtain ⟨p2,q2,U⟩:=ni hm hrw hv;refine U.again st V _ (View.Le.refl V) E2 (fun s n=>(bY (hq s n)).symm) ?_;refine hK _ _ ⟨View.Le.refl V,fun t ht=>by simp [ov,U.pd t ht],fun s n=>by simp [ov,U.qd s n],?_⟩;rw [Bj]
  ·exact U.next
  ·intro t;by_cases h:t∈dK o
   ·exact .inl (hp t (.inr h))
   ·exact .inr (U.pd t h)
  ·intro s;by_cases h:s∈W
   ·exact .inl (YC s h)
   ·exact .inr (U.qd s h)
 ·
  have i:∀(x:Operand),x∈o.op.operands.toList->(ov p q st).a_ x=st.a_ x:=fun x I=>Mt fun t e=>hp t (.inl (vQ I e))
  have w:∀k,o.dst=some k->p k=none/\k∈dK o:=fun k D=>by
   have:k∈dK o:=by simp [dK,D]
   exact ⟨hp k (.inr this),this⟩
  have body:(¬bh LF RF o.op=.app)->∀(hh:∀xs f ss J args z,o.op=.call ⟨.value J,args,z⟩->bU (ov p q st).a_ args.toList=some xs->(ov p q st).a_ J=some (.c (.tB f ss)) ->
    m=.none\/((m=.aF\/m=.give)/\(∀s∈reach (ov p q st).boxes 3 (dedup ((xs++ve ss).flatMap SV.ids)),q s=none/\s∈W)/\∀k,o.dst=some k->∀E,q (eU E k)=none/\eU E k∈W)),
    cL P T m o (ov p q st) V K->cL P T m o st V K':=by
   intro a hh hv;unfold cL at hv ⊢;split at hv
   ·rename_i J args z g;have e1:bU (ov p q st).a_ args.toList=bU st.a_ args.toList:=dM _ fun x I=>i x (by rw [g];simp [Op.operands,Call.operands];exact .inr (by simpa using I));have e2:(ov p q st).a_ J=st.a_ J:=i J (by rw [g];simp [Op.operands,Call.operands]);split at hv
    ·rename_i xs j;split at hv
     ·rename_i f ss F;have L:=hh _ _ _ _ _ _ g j F;rw [e1] at j;rw [e2] at F;simp only [j,F];exact tg L w hK hv
     ·exact hv.elim
    ·exact hv.elim
   ·rename_i recv name args z g
    have a2:m=.none:=by
     rw [g] at hm;rcases hm with ⟨-,h⟩|⟨h,-⟩|⟨h,-⟩|h
     ·exact h
     ·cases h
     ·cases h
     ·cases h
    have e1:bU (ov p q st).a_ args.toList=bU st.a_ args.toList:=dM _ fun x I=>i x (by rw [g];simp [Op.operands,Call.operands];exact .inr (by simpa using I));have e2:(ov p q st).a_ recv=st.a_ recv:=i recv (by rw [g];simp [Op.operands,Call.operands]);split at hv
    ·rename_i xs j;split at hv
     ·rename_i t v F;split at hv
      ·rename_i f Js;rw [e1] at j;rw [e2] at F;simp only [j,F,Js];exact tg (.inl a2) w hK hv
      ·exact hv.elim
     ·exact hv.elim
    ·exact hv.elim
   ·rename_i a0 Rc;exfalso
    have M:bh LF RF o.op=.call\/bh LF RF o.op=.km\/bh LF RF o.op=.give:=by
     rcases hm with ⟨h,-⟩|⟨h,-⟩|⟨h,-⟩|h
     ·exact .inl h
     ·exact .inr (.inl h)
     ·exact .inr (.inr h)
     ·exact absurd h a
    clear hm a hh;generalize g:o.op=op at M a0 Rc
    cases op with
    | call c=>
     obtain ⟨Gh,args,z⟩:=c
     cases Gh with
     | builtin b=>cases b<;>rcases M with h|h|h<;>cases h
     | value f=>exact a0 f args z rfl
     | invoke r nm=>exact Rc r nm args z rfl
    | _=>rcases M with h|h|h<;>cases h
  have VU:∀l:List Nat,W=l++dK o++(dK o).map (·+ 200000)->∀k,o.dst=some k->∀E,q (eU E k)=none/\eU E k∈W:=by
   intro l X k D E
   have:eU E k∈W:=by
    rw [X];have a3:=(w k D).2;rcases JY (m:=E) (d:=k) with h|h<;>rw [h]<;>simp [a3]
   exact ⟨YC _ this,this⟩
  have own:∀l:List Nat,h=.own l->R=l->W=l++dK o++(dK o).map (·+ 200000)->(bh LF RF o.op=.km\/bh LF RF o.op=.give\/bh LF RF o.op=.app)->(¬bh LF RF o.op=.app->m=.aF\/m=.give)->cG P T m h o st V K':=by
   intro l hh hR X a4 L;subst hh hR;unfold cG at hv ⊢;dsimp only at hv ⊢;split at hv
   ·rename_i Y u;split at hv
    ·rename_i G;have e0:bU (ov p q st).a_ (hZ o.op)=bU st.a_ (hZ o.op):=dM _ fun x I=>i x (vP I);rw [←e0,u];dsimp only;have B:∀s∈dZ (ov p q st).boxes o.op (Y.flatMap SV.ids),s∈R:=wF.1 G
     have e3:dZ st.boxes o.op (Y.flatMap SV.ids)=dZ (ov p q st).boxes o.op (Y.flatMap SV.ids):=by
      revert B;unfold dZ;split
      ·intro B;exact mD 3 _ fun s n=>(bY (hq s (B s n))).symm
      ·exact fun _=>rfl
     rw [e3,G];dsimp only;have Yw:∀s∈R,s∈W:=fun s n=>by rw [X];simp [n]
     by_cases a:bh LF RF o.op=.app
     ·
      have g:∃args z,o.op=.call ⟨.builtin .append,args,z⟩:=by
       generalize o.op=op at a
       cases op with
       | call c=>
        obtain ⟨Gh,args,z⟩:=c
        cases Gh with
        | builtin b=>cases b<;>first|exact ⟨args,z,rfl⟩|cases a
        | value f=>cases f with
         | func f=>simp only [bh] at a;split at a<;>(try split at a)<;>(try split at a)<;>(try split at a)<;>cases a
         | _=>cases a
        | _=>cases a
       | _=>cases a
      obtain ⟨args,z,g⟩:=g
      have e4:aH T st.a_ st.boxes o.op=aH T (ov p q st).a_ (ov p q st).boxes o.op/\∀s,Ax (aH T st.a_ st.boxes o.op)=some s->s∈R:=by
       have e5:bU (ov p q st).a_ args.toList=bU st.a_ args.toList:=by rw [g] at e0;exact e0
       have VB:bU st.a_ args.toList=some Y:=by rw [g] at u;rw [←e5];exact u
       have H:∀s∈Y.flatMap SV.ids,s∈R:=by
        intro s n;refine B s ?_;rw [g];simp only [dZ];exact ew 3 _ s (bO.2 n)
       rw [g];simp only [aH];rw [e5,VB];exact Mz (fun s n=>by rw [bY (hq s (H s n))]) H
      have N:tJ (aH T (ov p q st).a_ (ov p q st).boxes o.op) o.dst (ov p q st) V K:=by
       unfold cL at hv;rw [g] at hv ⊢;exact hv
      have O:tJ (aH T st.a_ st.boxes o.op) o.dst st V K'->cL P T m o st V K':=by
       intro h;unfold cL;rw [g] at h ⊢;exact h
      rw [←e4.1] at N;refine O ?_
      have a1:∀Z,aH T st.a_ st.boxes o.op=Z->cR Z=6\/Z=.fail:=by
       intro Z hQ;rw [←hQ,g];exact Ko
      generalize hQ0:aH T st.a_ st.boxes o.op=Z at N e4
      exact BH (a1 Z hQ0) (fun s n=>⟨hq s (e4.2 s n),Yw s (e4.2 s n)⟩) (fun k D=>⟨w k D,fun s=>by
       have:=VU R X k D (some s);exact this⟩) (fun k D=>VU R X k D Option.none) hK N
     ·have Q:=L a;refine body a (fun xs f ss J args z g j F=>.inr ⟨Q,fun s n=>?_,VU R X⟩) hv
      have:s∈R:=by
       apply B;rw [g] at u ⊢;simp only [dZ]
       have hy:Y.flatMap SV.ids=(xs++ve ss).flatMap SV.ids:=by
        have:∀(l:List Operand)(xs:List SV)(x:Operand)(v:SV),bU (ov p q st).a_ l=some xs->(ov p q st).a_ x=some v->bU (ov p q st).a_ (l++[x])=some (xs++[v]):=by
         intro l
         induction l with
         | nil=>intro xs x v S h2;simp only [bU,Option.some.injEq] at S;subst S;simp [bU,h2]
         | cons o r ih=>
          intro xs x v S h2;simp only [bU] at S;split at S
          ·rename_i y l' h3 h4;cases S;simp only [List.cons_append,bU,h3,ih _ x v h4 h2]
          ·cases S
        simp only [hZ] at u;rw [this _ _ _ _ j F] at u;cases u;simp only [List.flatMap_append];congr 1;simp [ve,SV.ids,C.ids,List.flatMap_map]
       rw [hy];exact n
      exact ⟨hq s this,Yw s this⟩
    ·exact hv.elim
   ·exact hv.elim
  rcases hm with ⟨A,hm⟩|⟨A,hm⟩|⟨A,hm⟩|A
  ·rw [A] at hrw
   cases h with
   | own l=>cases hrw
   | free=>exact body (by rw [A];exact fun h=>by cases h) (fun _ _ _ _ _ _ _ _ _=>.inl hm) hv
  ·rw [A] at hrw
   cases h with
   | free=>cases hrw
   | own l=>
    simp only [qn,Option.some.injEq,Prod.mk.injEq] at hrw;exact own l rfl hrw.1.symm hrw.2.symm (.inl A) (fun _=>.inl hm)
  ·rw [A] at hrw
   cases h with
   | free=>cases hrw
   | own l=>
    simp only [qn,Option.some.injEq,Prod.mk.injEq] at hrw;exact own l rfl hrw.1.symm hrw.2.symm (.inr (.inl A)) (fun _=>.inr hm)
  ·rw [A] at hrw
   cases h with
   | free=>cases hrw
   | own l=>
    simp only [qn,Option.some.injEq,Prod.mk.injEq] at hrw;exact own l rfl hrw.1.symm hrw.2.symm (.inr (.inr A)) (fun h=>absurd A h)
end Go.Eng
namespace Go.Eng
variable {P:Program} {T:cO} {LF RF:List Nat}
def xA (ops:Array Oper)(o:Oper)(st:St)(k:St->Bool->Prop):Prop:=
 match o.guard with
 | none=>k st true
 | some (j,b)=>match (ops[j]?).bind (·.dst) with
  | none=>False
  | some g=>match st.ar g with
   | some (.c .tt)=>k st b
   | some (.c .ff)=>k st (!b)
   | some (.c (.v (.bool c)))=>(c=true->k (st.put (some g) (.c .tt)) b)/\(c=false->k (st.put (some g) (.c .ff)) (!b))
   | some (.pt _)=>k st false
   | _=>False
def lI (P:Program)(T:cO)(m:CM)(h:Hint)(o:Oper)(V:View)(K:St->View->Prop)(st:St)(w:Bool):Prop:=
 match w with
 | true=>cG P T m h o st V K
 | false=>K (st.put o.dst jk) V
theorem BG {m:CM}{h:Hint}{ops:Array Oper}{o:Oper}{st:St}{V:View}{K:St->View->Prop} :
  qE P T m h ops o st V K↔xA ops o st (lI P T m h o V K):=by
 unfold qE xA
 cases hg:o.guard with
 | none=>rfl
 | some jb=>
  obtain ⟨j,b⟩:=jb;dsimp only
  cases hd:(ops[j]?).bind (·.dst) with
  | none=>rfl
  | some g=>
   dsimp only;split<;>simp_all<;>cases b<;>rfl
def jd:Nat->Option aO:=fun _=>none
structure TV (ops:Array Oper) (o:Oper) (st:St) (k:St->Bool->Prop) (p:Nat->Option SV) (w:Bool):Prop where
 pd:∀t,t∉du ops o->p t=none
 next:k (ov p jd st) w
 again:∀(st2:St)(k2:St->Bool->Prop),(∀t∈du ops o,st2.ar t=st.ar t)->k2 (ov p jd st2) w->xA ops o st2 k2
theorem fI {ops:Array Oper}{o:Oper}{st:St}{k:St->Bool->Prop}(h:xA ops o st k):∃p w,TV ops o st k p w:=by
 unfold xA at h;split at h
 ·rename_i l;exact ⟨fun _=>none,true,fun _ _=>rfl,h,fun d q _ f=>by unfold xA;rw [l];exact f⟩
 ·rename_i j b l;split at h
  ·exact h.elim
  ·rename_i g n;have a:du ops o=[g]:=by simp only [du,l,n]
   split at h
   ·rename_i m;exact ⟨fun _=>none,b,fun _ _=>rfl,h,fun d q i f=>by unfold xA;simp only [l,n,i g (by simp [a]),m];exact f⟩
   ·rename_i m;exact ⟨fun _=>none,!b,fun _ _=>rfl,h,fun d q i f=>by unfold xA;simp only [l,n,i g (by simp [a]),m];exact f⟩
   ·rename_i c m
    cases c with
    | true=>
     refine ⟨one (some g) (.c .tt),b,fun t r=>di (by intro e;apply r;rw [a];simpa using e.symm),?_,fun d q i f=>?_⟩
     ·have:=h.1 rfl;rw [eJ] at this;exact this
     ·unfold xA;simp only [l,n,i g (by simp [a]),m];exact ⟨fun _=>by rw [eJ];exact f,fun e=>by cases e⟩
    | false=>
     refine ⟨one (some g) (.c .ff),!b,fun t r=>di (by intro e;apply r;rw [a];simpa using e.symm),?_,fun d q i f=>?_⟩
     ·have:=h.2 rfl;rw [eJ] at this;exact this
     ·unfold xA;simp only [l,n,i g (by simp [a]),m];exact ⟨fun e=>(by cases e),fun _=>by rw [eJ];exact f⟩
   ·rename_i xs m;exact ⟨fun _=>none,false,fun _ _=>rfl,h,fun d q i f=>by unfold xA;simp only [l,n,i g (by simp [a]),m];exact f⟩
   ·exact h.elim
theorem mN {ops:Array Oper}{o:Oper}{st:St}{k k':St->Bool->Prop}(hk:∀s w,k s w->k' s w)(h:xA ops o st k):xA ops o st k':=by
 obtain ⟨p,w,a⟩:=fI h;exact a.again st k' (fun _ _=>rfl) (hk _ _ a.next)
theorem put_comm {st:St}{d d':Option Nat}{x y:SV}(h:∀k,d=some k->d'≠some k):(st.put d x).put d' y=(st.put d' y).put d x:=by
 cases d with
 | none=>rfl
 | some d=>
  cases d' with
  | none=>rfl
  | some d'=>
   have a:d≠d':=fun e=>h d rfl (by rw [e]);simp only [St.put];congr 1;funext t;by_cases e:t=d
   ·subst e;simp [Nat.beq_refl,cV a]
   ·simp [cV e]
theorem EU {ops:Array Oper}{o1 o2:Oper}{st:St}{F:St->Bool->Bool->Prop}(h:xA ops o1 st fun s w1=>xA ops o2 s fun s' w2=>F s' w1 w2) :
  xA ops o2 st fun s w2=>xA ops o1 s fun s' w1=>F s' w1 w2:=by
 by_cases k:∃g,du ops o1=[g]/\du ops o2=[g]
 ·obtain ⟨g,a,b⟩:=k;unfold du at a b;split at a
  ·cases a
  ·rename_i A b1 q;split at a
   ·rename_i y r;cases a;split at b
    ·cases b
    ·rename_i B b2 u;split at b
     ·rename_i z v;cases b;unfold xA at h ⊢;simp only [q,u,r,v] at h ⊢;split at h
      ·rename_i w;exact h
      ·rename_i w;exact h
      ·rename_i c w;simp only [cT,if_true] at h ⊢;exact h
      ·rename_i xs w;exact h
      ·exact h.elim
     ·cases b
   ·cases a
 ·obtain ⟨l,w1,m⟩:=fI h;obtain ⟨n,w2,p⟩:=fI m.next
  have x:∀o:Oper,du ops o=[]\/∃g,du ops o=[g]:=by
   intro o;unfold du;split
   ·exact .inl rfl
   ·split
    ·exact .inr ⟨_,rfl⟩
    ·exact .inl rfl
  have i:∀t,t∈du ops o1->t∉du ops o2:=by
   intro t d f;rcases x o1 with a|⟨y,a⟩
   ·rw [a] at d;cases d
   ·rcases x o2 with b|⟨z,b⟩
    ·rw [b] at f;cases f
    ·rw [a] at d;rw [b] at f;simp at d f;exact k ⟨t,by rw [a,d],by rw [b,f]⟩
  refine p.again st _ (fun t j=>?_) (m.again _ _ (fun t j=>?_) ?_)
  ·show st.ar t=(ov l jd st).ar t;simp [ov,m.pd t (fun h=>i t h j)]
  ·show (ov n jd st).ar t=st.ar t;simp [ov,p.pd t (i t j)]
  ·have e:ov l jd (ov n jd st)=ov n jd (ov l jd st):=Bj (fun t=>by
    by_cases j:t∈du ops o1
    ·exact .inr (p.pd t (i t j))
    ·exact .inl (m.pd t j)) (fun _=>.inl rfl)
   show F (ov l jd (ov n jd st)) w1 w2;rw [e];exact p.next
theorem iw {o:Oper}{k:Nat}(h:o.dst=some k):k∈dK o:=by simp [dK,h]
theorem Ms {ops:Array Oper}{m1 m2:CM}{h1 h2:Hint}{o1 o2:Oper}{st:St}{V:View}{K:St->View->Prop}
  (hi:indep LF RF ops h1 h2 o1 o2=true)
  (hm:mC (bh LF RF o2.op)=true\/(bh LF RF o2.op=.call/\m2=.none)\/((bh LF RF o2.op=.km/\m2=.aF)\/(bh LF RF o2.op=.give/\m2=.give)\/bh LF RF o2.op=.app))
  (hv:qE P T m1 h1 ops o1 st V fun st1 V1=>qE P T m2 h2 ops o2 st1 V1 K) :
  qE P T m2 h2 ops o2 st V fun st2 V2=>qE P T m1 h1 ops o1 st2 V2 K:=by
 unfold indep at hi;simp only [Bool.and_eq_true] at hi;obtain ⟨⟨⟨⟨⟨v,c⟩,g⟩,w⟩,y⟩,l⟩:=hi;split at l
 ·rename_i U W X Y z n;simp only [Bool.and_eq_true] at l;obtain ⟨⟨H,I⟩,J⟩:=l;rw [CC] at c g w y H I J;have N:∀k,o2.dst=some k->o1.dst≠some k:=fun k o C=>c k (iw C) (by simp [iw o]);simp only [BG] at hv ⊢
  have O:xA ops o1 st fun s m=>xA ops o2 s fun A j=>lI P T m1 h1 o1 V (fun r D=>lI P T m2 h2 o2 D K r j) A m:=by
   refine mN (fun s m f=>?_) hv
   cases m with
   | true=>
    obtain ⟨p,q,i⟩:=ni v z f;obtain ⟨B,j,b⟩:=fI i.next;refine b.again s _ (fun t a=>?_) ?_
    ·show s.ar t=(ov p q s).ar t;simp [ov,i.pd t (fun h=>c t h (by simp [a]))]
    ·refine i.again _ V _ (View.Le.refl V) (fun t a=>?_) (fun _ _=>rfl) ?_
     ·show (ov B jd s).ar t=s.ar t;simp [ov,b.pd t (fun h=>y t h a)]
     ·rw [Bj (q2:=jd) _ (fun _=>.inr rfl)]
      ·exact b.next
      ·intro t;by_cases a:t∈du ops o2
       ·exact .inl (i.pd t (fun h=>c t h (by simp [a])))
       ·exact .inr (b.pd t a)
   | false=>
    simp only [lI] at f;obtain ⟨B,j,b⟩:=fI f;have Q:∀k,o1.dst=some k->B k=none:=fun k o=>b.pd k (fun h=>c k (iw o) (by simp [h]));refine b.again s _ (fun t a=>?_) ?_
    ·rw [eJ];simp [ov,di (d:=o1.dst) (x:=jk) (t:=t) (fun h=>c t (iw h) (by simp [a]))]
    ·show lI P T m2 h2 o2 V K ((ov B jd s).put o1.dst jk) j;rw [jQ Q];exact b.next
  have R:=EU O
  have S:xA ops o2 st fun s j=>xA ops o1 s fun A m=>lI P T m2 h2 o2 V (fun r D=>lI P T m1 h1 o1 D K r m) A j:=by
   refine mN (fun s j f=>mN (fun A m f=>?_) f) R
   cases m with
   | true=>
    obtain ⟨p,q,i⟩:=ni v z f
    cases j with
    | true=>
     refine qT hm n (fun t a=>i.pd t (fun h=>c t h (by rcases a with a|a<;>simp [a]))) (fun s u=>i.qd s (fun h=>H s h u)) (fun s u=>i.qd s (fun h=>J s h u)) (fun s2 V2 b=>?_) i.next;obtain ⟨L,E,M,F⟩:=b;exact i.again s2 V2 K L (fun t a=>E t (fun h=>g t h (by simp [a]))) (fun s u=>M s (fun h=>I s h u)) F
    | false=>
     refine i.again _ V K (View.Le.refl V) (fun t a=>?_) (fun s _=>by cases o2.dst<;>rfl) ?_
     ·rw [eJ];simp [ov,di (d:=o2.dst) (x:=jk) (t:=t) (fun h=>g t (iw h) (by simp [a]))]
     ·have:=i.next;simp only [lI] at this;rw [jQ (fun k o=>i.pd k (fun h=>c k h (by simp [iw o])))] at this;exact this
   | false=>
    cases j with
    | true=>
     simp only [lI] at f ⊢;rw [eJ] at f;refine qT hm n (fun t a=>di (fun e=>c t (iw e) (by rcases a with a|a<;>simp [a]))) (fun s u=>rfl) (fun s u=>rfl) (fun s2 V2 b=>?_) f;have:=b.2.2.2;rw [←eJ] at this;exact this
    | false=>
     simp only [lI] at f ⊢;rw [put_comm N];exact f
  refine mN (fun s j f=>?_) S
  cases j with
  | true=>
   simp only [lI] at f ⊢;obtain ⟨p,m,b⟩:=fI f;refine qT hm n (fun t a=>b.pd t (fun h=>?_)) (fun _ _=>rfl) (fun _ _=>rfl) (fun s2 V2 G=>?_) b.next
   ·rcases a with a|a
    ·exact w t h a
    ·exact g t a (by simp [h])
   ·obtain ⟨L,E,M,F⟩:=G;exact b.again s2 _ (fun t a=>E t (fun h=>g t h (by simp [a]))) F
  | false=>
   simp only [lI] at f ⊢;obtain ⟨p,m,b⟩:=fI f;refine b.again _ _ (fun t a=>?_) ?_
   ·rw [eJ];simp [ov,di (d:=o2.dst) (x:=jk) (t:=t) (fun h=>g t (iw h) (by simp [a]))]
   ·have:=b.next;rw [jQ (fun k o=>b.pd k (fun h=>g k (iw o) (by simp [h])))] at this;exact this
 ·cases l
end Go.Eng
namespace Go.Eng
variable {P:Program} {T:cO} {LF RF:List Nat} {n:Nat} {V0:View} {bA:Em} {β0:Nat->Nat}
def Aq (P:Program)(T:cO)(m:Nat->CM)(hint:Nat->Hint)(ops:Array Oper):Nat->Array Bool->St->View->(St->View->Prop)->Prop
 | 0,listed,st,V,K=>Region.ready .any ops listed=[]/\K st V
 | fuel+1,listed,st,V,K=>(Region.ready .any ops listed=[]->K st V) /\
  ∀i∈Region.ready .any ops listed,∀o,ops[i]?=some o->qE P T (m i) (hint i) ops o st V fun st' V'=>Aq P T m hint ops fuel (listed.setIfInBounds i true) st' V' K
theorem s_ (hT:cO.ok P T){m:Nat->CM}{hint:Nat->Hint}{ops:Array Oper}(hd:∀(i:Nat)(o:Oper),ops[i]?=some o->∀d,o.dst=some d->d<n){Q:Exit->Act->World->Prop}{K:St->View->Prop}
  (hK:∀st' β' a' w' V',Mod n V0 bA β0 st' β' a' w' V'->K st' V'->Q .normal a' w') :
  ∀(fuel:Nat)(listed:Array Bool)(st:St)(β:Nat->Nat)(a:Act)(w:World)(V:View),Mod n V0 bA β0 st β a w V->Aq P T m hint ops fuel listed st V K->wpAny P .any ops Q fuel listed a w
 | 0,_,_,_,_,_,_,hM,hv=>⟨hv.1,hK _ _ _ _ _ hM hv.2⟩
 | fuel+1,listed,st,β,a,w,V,hM,hv=>by
  refine ⟨fun h=>hK _ _ _ _ _ hM (hv.1 h),fun i hi=>?_⟩;obtain ⟨-,o,ho,-⟩:=mem_ready.1 hi;have:=Db (Q:=Q) (next:=wpAny P .any ops Q fuel (listed.setIfInBounds i true)) hT hM (hd i o ho) (hv.2 i hi o ho) (fun st' β' a' w' V' b c=>s_ hT hd hK fuel _ st' β' a' w' V' b c);unfold wpOp;rw [ho];dsimp only;split at this
  ·rename_i hw;rw [if_pos hw];exact .inl this
  ·rename_i hw;rw [if_neg hw];exact this
theorem qP {sc:List Prop}{k k':Prop}(h:k->k')(g:Aw sc k):Aw sc k':=by
 obtain ⟨a,b⟩:=(dg sc _).1 g;exact (dg sc _).2 ⟨a,h b⟩
theorem zg {s:Nat}{vs:List Value}{k c size bytes:Nat}{ty:TypeId}{d:Nat}{st:St}{V:View}{K K':St->View->Prop}{j:Nat}{xs:List Value}(hk:∀s V',V.Le V'->K s V'->K' s V')
  (h:B_ s vs k c size bytes ty d st V K j xs):B_ s vs k c size bytes ty d st V K' j xs:=by
 unfold B_ at h ⊢;obtain ⟨e,f,g,i,l,a⟩:=h;refine ⟨e,f,g,i,l,?_⟩;split at a
 ·exact a.elim
 ·exact fun b J spare m n o=>hk _ _ (View.Le.refl V) (a b J spare m n o)
theorem vN {s:Nat}{vs:List Value}{k c size bytes:Nat}{ty:TypeId}{d:Nat}{st:St}{V:View}{K K':St->View->Prop}{j:Nat}{xs:List Value}(hk:∀s V',V.Le V'->K s V'->K' s V')
  (h:sM s vs k c size bytes ty d st V K j xs):sM s vs k c size bytes ty d st V K' j xs:=by
 unfold sM at h ⊢;obtain ⟨b,e,f,g,i,a⟩:=h;refine ⟨b,e,f,g,i,?_⟩;split at a
 ·exact a.elim
 ·exact fun spare l m n=>hk _ _ (View.Le.refl V) (a spare l m n)
theorem zh {vs:List Value}{k c size bytes:Nat}{ty:TypeId}{d:Nat}{st:St}{V:View}{K K':St->View->Prop}{j:Nat}{xs:List Value}(hk:∀s V',V.Le V'->K s V'->K' s V')
  (h:Cb vs k c size bytes ty d st V K j xs):Cb vs k c size bytes ty d st V K' j xs:=by
 unfold Cb at h ⊢;obtain ⟨b,e,f,g,a⟩:=h;refine ⟨b,e,f,g,?_⟩;split at a
 ·exact a.elim
 ·exact fun spare i l m=>hk _ _ (View.Le.refl V) (a spare i l m)
theorem KZ {Q0:Q}{dst:Option Nat}{st:St}{V:View}{K K':St->View->Prop}(hk:∀s V',V.Le V'->K s V'->K' s V')(h:tJ Q0 dst st V K):tJ Q0 dst st V K':=by
 cases Q0 with
 | fail=>exact h
 | ret sc x=>exact qP (hk _ _ (View.Le.refl V)) h
 | new sc b x=>
  simp only [tJ] at h ⊢;split at h
  ·split at h
   ·rename_i o;exact qP (hk _ _ (View.Le.refl V)) h
   ·exact h.elim
  ·exact h.elim
 | tI sc s b=>
  simp only [tJ] at h ⊢;split at h
  ·exact qP (hk _ _ (View.Le.refl V)) h
  ·exact h.elim
 | rd a sh=>
  obtain ⟨x,d,f⟩:=sh.split h;exact f _ (qg.2 ⟨(qg.1 d).1,hk _ _ (View.Le.refl V) (qg.1 d).2⟩)
 | nY i of size sh=>
  obtain ⟨x,d,f⟩:=sh.split h;exact f _ ⟨d.1,hk _ _ (View.Le.refl V) d.2⟩
 | rF s i a c src size bytes ty=>
  simp only [tJ] at h ⊢;split at h
  ·exact h.elim
  ·cases src with
   | inr xs=>exact vN hk h
   | inl ak=>
    obtain ⟨xs,d,f,g⟩:=h;exact ⟨xs,d,f,vN hk g⟩
 | app old ba i a c src size bytes ty=>
  simp only [tJ] at h ⊢;split at h
  ·exact h.elim
  ·cases old with
   | some s=>
    dsimp only at h ⊢
    cases src with
    | inr xs=>exact zg hk h
    | inl ak=>
     obtain ⟨xs,d,f,g⟩:=h;exact ⟨xs,d,f,zg hk g⟩
   | none=>
    obtain ⟨i,j,k,l,m,h⟩:=h;refine ⟨i,j,k,l,m,?_⟩
    cases src with
    | inr xs=>exact zh hk h
    | inl ak=>
     obtain ⟨xs,d,f,g,n⟩:=h;exact ⟨xs,d,f,fun e=>hk _ _ (View.Le.refl V) (g e),fun e=>zh hk (n e)⟩
theorem rM {bx:Nat->Option aO}{β:Nat->Nat}{V:View}:∀{L:List Nat} {k k':Prop},(k->k')->qj bx β V L k->qj bx β V L k'
 | [],_,_,h,g=>h g
 | s::r,k,k',h,g=>by
  simp only [qj] at g ⊢;split at g
  ·exact fun h1=>rM h (g h1)
  ·exact g.elim
theorem oK {give:Bool}{sh:Sh}{L:List Nat}{mm:Option Nat}{d:Nat}{ety:TypeId}{β:Nat->Nat}{st:St}{V V' eH:View}{K K':St->View->Prop}{r':Value}
  (hm:∀k,mm=some k->k∈L)(hV:V.Le V')(hV2:V.Le eH)(hlv:∀s∈L,∃b,st.boxes s=some b/\(b.live->V'.H (β s)))(hk:∀s V',V.Le V'->K s V'->K' s V')
  (h:bP T give sh L mm d ety β st V' K r' eH):bP T give sh L mm d ety β st V' K' r' eH:=by
 refine ll (p:=fun _=>none) (q:=jd) (W:=eU mm d::L) (D:=[d]) (fun s c=>⟨rfl,List.mem_cons_of_mem _ c⟩) hm ⟨rfl,by simp⟩ ⟨rfl,by simp⟩ hV hV2 hlv (fun s2 V2 a=>?_) h;exact hk _ _ a.1 a.2.2.2
theorem iB {m:CM}{f:FuncId}{xs:List SV}{ty:TypeId}{dst:Option Nat}{st:St}{V:View}{K K':St->View->Prop}(hk:∀s V',V.Le V'->K s V'->K' s V')
  (h:fy P T m f xs ty dst st V K):fy P T m f xs ty dst st V K':=by
 unfold fy at h ⊢;split at h
 ·exact h.elim
 ·split at h
  ·split at h
   ·split at h
    ·split at h
     ·exact h.elim
     ·exact fun V' a=>(h V' a).mono fun _ B hle g=>oK (fun k hk=>by cases hk) a (a.trans hle) (fun s r=>absurd r (by simp)) hk g
    ·exact h.elim
   ·split at h
    ·split at h
     ·exact h.elim
     ·split at h
      ·split at h
       ·split at h
        ·refine fun V' a=>(h V' a).mono fun _ B hle g=>?_;obtain ⟨b,i⟩:=g;obtain ⟨cs,⟨C,D,E,F⟩,G⟩:=mY _ i;refine ⟨b,G _ ⟨C,D,E,hk _ _ ?_ F⟩⟩;intro x o c;obtain ⟨H,I⟩:=(a.trans hle) x o c;obtain ⟨S,M⟩:=a x o c;have:=ax M;exact ⟨fun h=>h.elim H fun h=>by have:=h.1;omega,I⟩
        ·exact h.elim
       ·exact h.elim
      ·exact h.elim
    ·exact h.elim
   ·exact fun V' a=>(h V' a).mono fun _ _ hle g=>Sh.mono g fun x c=>⟨c.1,hk _ _ (a.trans hle) c.2⟩
  ·split at h
   ·exact h.elim
   ·rename_i u;rename_i U X Y N _
    have mv:∀{e:Bool} {v:Sh} {t:Option Nat} {d:Nat} {l:TypeId} {L:List Nat},(∀k,t=some k->k∈L) ->
      (∀V':View,V.Le V'->kL L (fun _=>0) fun β=>ij st.boxes β V' L (ae P f (aL β xs) (V'.aF (L.map (cS st.boxes β V'.w.heap.size))) (bP T e v L t d l β st V' K))) ->
      ∀V':View,V.Le V'->kL L (fun _=>0) fun β=>ij st.boxes β V' L (ae P f (aL β xs) (V'.aF (L.map (cS st.boxes β V'.w.heap.size))) (bP T e v L t d l β st V' K')):=by
     intro e v t d l L hm h V' a;exact fF (fun β i=>iY (fun _ _=>rfl) (fun O n=>n.mono fun _ _ hle g=>oK hm a ((a.trans (uv V' _)).trans hle) O hk g) i) (h V' a)
    split at h
    ·exact h.elim
    ·exact h.elim
    ·split at h
     ·split at h
      ·exact h.elim
      ·exact mv (fun k hk=>by cases hk) h
     ·rename_i d l k Z Q A;split at h
      ·split at h
       ·exact h.elim
       ·refine mv (fun j y=>?_) h;cases y;rw [←N];exact ew 3 _ k (bO.2 (vt k (by rw [Q];simp)))
      ·split at h
       ·exact h.elim
       ·split at h
        ·exact h.elim
        ·exact fun V' a=>fF (fun β i=>rM (fun n=>n.mono fun _ _ hle g=>oK (fun k hk=>by cases hk) a (a.trans hle) (fun s r=>absurd r (by simp)) hk g) i) (h V' a)
     ·exact h.elim
    ·split at h
     ·exact fun V' a=>fF (fun β i=>iY (fun _ _=>rfl) (fun _ n=>n.mono fun _ _ hle g=>Sh.mono g fun x c=>⟨c.1,jC (p:=fun _=>none) (q:=jd) (W:=_) (fun s r=>⟨rfl,r⟩) (fun R _ _ A=>hk _ _ (((a.trans (uv V' _)).trans hle).trans (Gz _)) A) c.2⟩) i) (h V' a)
     ·rename_i k z;split at h
      ·split at h
       ·exact h.elim
       ·refine mv (fun j y=>?_) h;cases y;exact JR u k (by rw [z];simp)
      ·exact h.elim
     ·exact h.elim
    ·split at h
     ·exact h.elim
     ·exact fun V' a=>fF (fun β i=>rM (fun n=>n.mono fun _ _ hle g=>Sh.mono g fun x c=>⟨c.1,fun J=>hk _ _ (a.trans hle) (c.2 J)⟩) i) (h V' a)
theorem te {m:CM}{f:FuncId}{xs:List SV}{ty:TypeId}{dst:Option Nat}{st:St}{V:View}{K K':St->View->Prop}(hk:∀s V',V.Le V'->K s V'->K' s V')
  (h:jU P T m f xs ty dst st V K):jU P T m f xs ty dst st V K':=by
 unfold jU at h ⊢;split at h
 ·split at h
  ·exact ⟨fun e=>⟨(h.1 e).1,iB hk (h.1 e).2⟩,fun e=>iB hk (h.2 e)⟩
  ·exact iB hk h
 ·exact iB hk h
theorem qD {m:CM}{o:Oper}{st:St}{V:View}{K K':St->View->Prop}(hk:∀s V',V.Le V'->K s V'->K' s V')(h:cL P T m o st V K):cL P T m o st V K':=by
 unfold cL at h ⊢;split at h
 ·split at h
  ·split at h
   ·exact te hk h
   ·exact h.elim
  ·exact h.elim
 ·split at h
  ·split at h
   ·split at h
    ·exact te hk h
    ·exact h.elim
   ·exact h.elim
  ·exact h.elim
 ·exact KZ hk h
theorem DJ {m:CM}{hi:Hint}{o:Oper}{st:St}{V:View}{K K':St->View->Prop}(hk:∀s V',V.Le V'->K s V'->K' s V')(h:cG P T m hi o st V K):cG P T m hi o st V K':=by
 unfold cG at h ⊢;split at h
 ·exact qD hk h
 ·split at h
  ·split at h
   ·exact qD hk h
   ·exact h.elim
  ·exact h.elim
theorem kz {m:CM}{hi:Hint}{ops:Array Oper}{o:Oper}{st:St}{V:View}{K K':St->View->Prop}(hk:∀s V',V.Le V'->K s V'->K' s V')(h:qE P T m hi ops o st V K):qE P T m hi ops o st V K':=by
 rw [BG] at h ⊢;refine mN (fun s w a=>?_) h
 cases w with
 | true=>exact DJ hk a
 | false=>exact hk _ _ (View.Le.refl V) a
def JO (LF RF:List Nat)(m:CM)(o:Oper):Prop:=
 mC (bh LF RF o.op)=true\/(bh LF RF o.op=.call/\m=.none)\/((bh LF RF o.op=.km/\m=.aF)\/(bh LF RF o.op=.give/\m=.give)\/bh LF RF o.op=.app)
theorem J9 {m:CM}{h:Hint}{ops:Array Oper}{o:Oper}{st:St}{V:View}{R W:List Nat}(hq:mC (bh LF RF o.op)=true)(hrw:qn (bh LF RF o.op) h (dK o)=some (R,W))
  (hv:qE P T m h ops o st V fun _ _=>False):False:=by
 rw [BG] at hv;obtain ⟨p,w,a⟩:=fI hv;have:=a.next
 cases w with
 | true=>obtain ⟨p,q,b⟩:=ni hq hrw this;exact b.next
 | false=>exact this
theorem sK {ops:Array Oper}{h1 h2:Hint}{o1 o2:Oper}(hi:indep LF RF ops h1 h2 o1 o2=true) :
  mC (bh LF RF o1.op)=true/\(∃R W,qn (bh LF RF o1.op) h1 (dK o1)=some (R,W))/\∃R W,qn (bh LF RF o2.op) h2 (dK o2)=some (R,W):=by
 unfold indep at hi;simp only [Bool.and_eq_true] at hi;obtain ⟨⟨⟨⟨⟨b,-⟩,-⟩,-⟩,-⟩,a⟩:=hi;split at a
 ·rename_i e f g h c d;exact ⟨b,⟨_,_,c⟩,_,_,d⟩
 ·cases a
theorem HM {ops:Array Oper}{i:Nat}{o:Oper}(ho:ops[i]?=some o){h:Hint}{R W:List Nat}(hrw:qn (bh LF RF o.op) h (dK o)=some (R,W)):JO LF RF (jN LF RF ops i) o:=by
 unfold JO jN;rw [ho];dsimp only;generalize bh LF RF o.op=c at hrw
 cases c with
 | odd=>cases h<;>cases hrw
 | ie=>cases h<;>cases hrw
 | call=>exact .inr (.inl ⟨rfl,rfl⟩)
 | km=>exact .inr (.inr (.inl ⟨rfl,rfl⟩))
 | give=>exact .inr (.inr (.inr (.inl ⟨rfl,rfl⟩)))
 | app=>exact .inr (.inr (.inr (.inr rfl)))
 | _=>exact .inl rfl
section
variable {ops:Array Oper} {hint:Nat->Hint} {anc:Nat->Nat->Prop} {K:St->View->Prop}
theorem DI (hA:∀j o,ops[j]?=some o->∀i,anc j i->∃e∈o.after,Region.binds .any e=true/\(e.on=i\/anc e.on i)){i:Nat}{oi:Oper}(hi:ops[i]?=some oi) :
  ∀(fuel:Nat)(listed:Array Bool)(st:St)(V:View),(∀j,listed.getD j false=true->∀k,anc j k->listed.getD k false=true) ->
   (∀j oj,ops[j]?=some oj->j≠i->listed.getD j true=false->¬anc j i->indep LF RF ops (hint i) (hint j) oi oj=true)->i∈Region.ready .any ops listed ->
   (qE P T (jN LF RF ops i) (hint i) ops oi st V fun st' V'=>Aq P T (jN LF RF ops) hint ops fuel (listed.setIfInBounds i true) st' V' K) ->
   Aq P T (jN LF RF ops) hint ops (fuel+1) listed st V K:=by
 have A:∀(listed:Array Bool)(j:Nat),(∀j,listed.getD j false=true->∀k,anc j k->listed.getD k false=true)->i∈Region.ready .any ops listed->j∈Region.ready .any ops listed->¬anc j i:=by
  intro listed j d p f F;obtain ⟨g,-⟩:=mem_ready.1 p
  have q:listed.getD i false=true->False:=by
   intro h;rcases Nat.lt_or_ge i listed.size with t|t
   ·simp [t] at g h;rw [g] at h;cases h
   ·simp [t] at h
  obtain ⟨-,o,u,m⟩:=mem_ready.1 f;obtain ⟨e,he,y,h⟩:=hA j o u i F;have r:=m e he y;rcases h with h|h
  ·rw [h] at r;exact q r
  ·exact q (d _ r i h)
 intro fuel
 induction fuel with
 | zero=>
  intro listed st V d a p H;refine ⟨fun h=>(by rw [h] at p;cases p),fun j f o u=>?_⟩;by_cases b:j=i
  ·subst b;rw [hi] at u;cases u;exact H
  ·exfalso;have w:=a j o u b (mem_ready.1 f).1 (A listed j d p f);obtain ⟨B,⟨R,W,C⟩,-⟩:=sK w;refine J9 B C (kz (fun s V' _ h=>?_) H);have:=ready_mono f b;rw [h.1] at this;cases this
 | succ fuel ih=>
  intro listed st V d a p H;refine ⟨fun h=>(by rw [h] at p;cases p),fun j f oj c=>?_⟩;by_cases b:j=i
  ·subst b;rw [hi] at c;cases c;exact H
  ·have v:=A listed j d p f;have w:=a j oj c b (mem_ready.1 f).1 v;obtain ⟨B,⟨R,W,C⟩,M,N,G⟩:=sK w;have r:=kz (fun s V' _ h=>h.2 j (ready_mono f b) oj c) H;have I:=Ms w (HM c G) r;refine kz (fun s V' _ h=>?_) I;obtain ⟨-,J,D,m⟩:=mem_ready.1 f;rw [c] at D;cases D
   have L:j<ops.size:=by
    rcases Nat.lt_or_ge j ops.size with t|t
    ·exact t
    ·rw [Array.getElem?_eq_none t] at c;cases c
   refine ih (listed.setIfInBounds j true) s V' ?_ ?_ (ready_mono p (Ne.symm b)) ?_
   ·intro k x l E;by_cases n:j=k
    ·subst n;obtain ⟨e,he,y,h⟩:=hA j oj c l E;have r:=m e he y;rcases h with h|h
     ·rw [←h];exact getD_set_true r
     ·exact getD_set_true (d _ r l h)
    ·rw [getD_set_ne false n] at x;exact getD_set_true (d k x l E)
   ·intro k ok x z g q;refine a k ok x z ?_ q;by_cases n:j=k
    ·subst n;exact (mem_ready.1 f).1
    ·rw [getD_set_ne true n] at g;exact g
   ·rw [Array.setIfInBounds_comm _ _ b];exact h
theorem G3 (hA:∀j o,ops[j]?=some o->∀i,anc j i->∃e∈o.after,Region.binds .any e=true/\(e.on=i\/anc e.on i)) :
  ∀(l done:List Nat)(listed:Array Bool)(st:St)(V:View),listed.size=ops.size->(∀j,listed.getD j false=eI j done)->(∀j,j<ops.size->j∈done\/j∈l) ->
   (∀j,listed.getD j false=true->∀k,anc j k->listed.getD k false=true)->qh ops done l=true ->
   (∀i r1 r2,l=r1++i::r2->∀j∈r2,anc j i\/∃a b,ops[i]?=some a/\ops[j]?=some b/\indep LF RF ops (hint i) (hint j) a b=true) ->
   KY P T (jN LF RF ops) hint ops l st V K->Aq P T (jN LF RF ops) hint ops l.length listed st V K
 | [],done,listed,st,V,hs,hrel,L_,_,_,_,hv=>by
  refine ⟨?_,hv⟩
  cases hr:Region.ready .any ops listed with
  | nil=>rfl
  | cons x xs=>
   exfalso;have hx:x∈Region.ready .any ops listed:=by rw [hr];simp
   obtain ⟨v,o,I,-⟩:=mem_ready.1 hx
   have w:x<ops.size:=by
    rcases Nat.lt_or_ge x ops.size with f|f
    ·exact f
    ·rw [Array.getElem?_eq_none f] at I;cases I
   rcases L_ x w with h|h
   ·have m:=hrel x;rw [ct.2 h] at m;simp [hs,w] at v m;rw [v] at m;cases m
   ·cases h
 | i::r,done,listed,st,V,hs,hrel,L_,hcl,n,NB,hv=>by
  simp only [qh,Bool.and_eq_true] at n;obtain ⟨y,n⟩:=n;unfold Fx at y;split at y
  ·rename_i E c;simp only [Bool.and_eq_true,Bool.not_eq_true',List.all_eq_true,Bool.or_eq_true] at y;obtain ⟨N,O⟩:=y
   have z:i<ops.size:=by
    rcases Nat.lt_or_ge i ops.size with f|f
    ·exact f
    ·rw [Array.getElem?_eq_none f] at c;cases c
   have d:∀e∈E.after,Region.binds .any e=true->listed.getD e.on false=true:=by
    intro e he t;rw [hrel];rcases O e (by simpa using he) with h|h
    ·rw [t] at h;cases h
    ·exact h
   have Q:i∈Region.ready .any ops listed:=by
    refine mem_ready.2 ⟨?_,E,c,d⟩;have:=hrel i;rw [N] at this;simp [hs,z] at this ⊢;exact this
   have A:∀j,(listed.setIfInBounds i true).getD j false=true->∀k,anc j k->(listed.setIfInBounds i true).getD k false=true:=by
    intro k J l L;by_cases B:i=k
    ·subst B;obtain ⟨e,he,t,h⟩:=hA i E c l L;have v:=d e he t;rcases h with h|h
     ·rw [←h];exact getD_set_true v
     ·exact getD_set_true (hcl _ v l h)
    ·rw [getD_set_ne false B] at J;exact getD_set_true (hcl k J l L)
   refine DI hA c r.length listed st V hcl (fun j S p g C F=>?_) Q ?_
   ·have D:j<ops.size:=by
     rcases Nat.lt_or_ge j ops.size with f|f
     ·exact f
     ·rw [Array.getElem?_eq_none f] at p;cases p
    have G:j∈r:=by
     rcases L_ j D with h|h
     ·exfalso;have m:=hrel j;rw [ct.2 h] at m;simp [hs,D] at C m;rw [C] at m;cases m
     ·rcases List.mem_cons.1 h with h|h
      ·exact absurd h g
      ·exact h
    rcases NB i [] r rfl j G with h|⟨a,b,M,t,h⟩
    ·exact absurd h F
    ·rw [c] at M;rw [p] at t;cases M;cases t;exact h
   ·simp only [KY,c] at hv
    have q:∀s u,KY P T (jN LF RF ops) hint ops r s u K->Aq P T (jN LF RF ops) hint ops r.length (listed.setIfInBounds i true) s u K:=by
     intro s u R;refine G3 hA r (i::done) (listed.setIfInBounds i true) s u (by simp [hs]) ?_ ?_ A n (fun k r1 r2 e j H=>NB k (i::r1) r2 (by rw [e];rfl) j H) R
     ·intro j;by_cases g:i=j
      ·subst g;simp [eI,Nat.beq_refl,hs,z]
      ·rw [getD_set_ne false g,hrel j];simp [eI,cV (Ne.symm g)]
     ·intro j H;rcases L_ j H with h|h
      ·exact .inl (by simp [h])
      ·rcases List.mem_cons.1 h with h|h
       ·exact .inl (by simp [h])
       ·exact .inr h
    exact kz (fun s u _ h=>q s u h) hv
  ·cases y
end
theorem IP {m i:Nat}:OJ m i=true↔m.testBit i=true:=by
 unfold OJ;rw [beq_eq,Nat.testBit_eq_decide_div_mod_eq,decide_eq_true_iff];show Nat.land (m >>> i) 1=1↔_;rw [show Nat.land (m >>> i) 1=(m >>> i) &&& 1 from rfl,Nat.and_one_is_mod,Nat.shiftRight_eq_div_pow]
def IE (acc:List Nat)(o:Oper):Nat:=o.after.toList.foldl (fun s e=>cond (Region.binds .any e) (Nat.lor (Nat.lor (Nat.shiftLeft 1 e.on) (acc.getD e.on 0)) s) s) 0
theorem B9 {acc:List Nat}{i:Nat}:∀(es:List Edge)(s:Nat),(es.foldl (fun s e=>cond (Region.binds .any e) (Nat.lor (Nat.lor (Nat.shiftLeft 1 e.on) (acc.getD e.on 0)) s) s) s).testBit i=true ->
  s.testBit i=true\/∃e∈es,Region.binds .any e=true/\(e.on=i\/(acc.getD e.on 0).testBit i=true)
 | [],s,h=>.inl h
 | e::r,s,h=>by
  simp only [List.foldl_cons] at h;rcases B9 r _ h with h1|⟨e',h1,h2,h3⟩
  ·cases hb:Region.binds .any e with
   | false=>rw [hb] at h1;exact .inl h1
   | true=>
    rw [hb] at h1;simp only [cond_true] at h1;have h1:(((1 <<< e.on) ||| (acc.getD e.on 0)) ||| s).testBit i=true:=h1;rw [Nat.testBit_or,Nat.testBit_or,Bool.or_eq_true,Bool.or_eq_true] at h1;rcases h1 with (h1|h1)|h1
    ·rw [Nat.shiftLeft_eq,Nat.one_mul,Nat.testBit_two_pow] at h1;exact .inr ⟨e,by simp,hb,.inl (by simpa using h1)⟩
    ·exact .inr ⟨e,by simp,hb,.inr h1⟩
    ·exact .inl h1
  ·exact .inr ⟨e',by simp [h1],h2,h3⟩
theorem zf:∀(l:List Oper)(acc:List Nat),∃ext,l.foldl (fun acc o=>acc++[IE acc o]) acc=acc++ext/\∀k o,l[k]?=some o->∃pre TG,ext=pre++TG/\ext.getD k 0=IE (acc++pre) o
 | [],acc=>⟨[],by simp,fun k o h=>by simp at h⟩
 | o::r,acc=>by
  obtain ⟨ext,h1,h2⟩:=zf r (acc++[IE acc o]);refine ⟨IE acc o::ext,by simp [h1],fun k a h=>?_⟩
  cases k with
  | zero=>
   simp at h;subst h;exact ⟨[],_,rfl,by simp⟩
  | succ k=>
   simp at h;obtain ⟨pre,TG,b,c⟩:=h2 k a h;exact ⟨IE acc o::pre,TG,by simp [b],by simpa using c⟩
theorem Ep {ops:List Oper}(j:Nat)(o:Oper)(ho:ops[j]?=some o):∀i,((Hd ops).getD j 0).testBit i=true->∃e∈o.after,Region.binds .any e=true/\(e.on=i\/((Hd ops).getD e.on 0).testBit i=true):=by
 intro i c;obtain ⟨ext,d,f⟩:=zf ops [];have he:Hd ops=ext:=(show Hd ops=[]++ext from d).trans (List.nil_append _);obtain ⟨pre,n,g,k⟩:=f j o ho;rw [he,k] at c;rcases B9 _ _ c with h|⟨e,l,m,a⟩
 ·simp at h
 ·refine ⟨e,by simpa using l,m,?_⟩;rcases a with a|a
  ·exact .inl a
  ·right;simp only [List.nil_append] at a;rw [he,g];rcases Nat.lt_or_ge e.on pre.length with b|b
   ·simpa [List.getElem?_append_left b] using a
   ·simp [b] at a
theorem wc {ops:Array Oper}{hs:List Hint}{an:List Nat}:∀{l:List Nat},uw LF RF ops hs an l=true->∀i r1 r2,l=r1++i::r2->∀j∈r2,(an.getD j 0).testBit i=true\/∃a b,ops[i]?=some a/\ops[j]?=some b/\indep LF RF ops (hs.getD i .free) (hs.getD j .free) a b=true
 | [],_,i,r1,r2,e,_,_=>by simp at e
 | x::l,h,i,r1,r2,e,j,hj=>by
  simp only [uw,Bool.and_eq_true,List.all_eq_true] at h
  cases r1 with
  | nil=>
   simp at e;obtain ⟨rfl,rfl⟩:=e;have:=h.1 j hj;rw [Bool.or_eq_true] at this;rcases this with c|c
   ·exact .inl (IP.1 c)
   ·split at c
    ·rename_i a b d f;exact .inr ⟨a,b,d,f,c⟩
    ·cases c
  | cons y r1=>
   simp at e;exact wc h.2 i r1 r2 e.2 j hj
theorem FK {m:Nat->CM}{hint:Nat->Hint}{ops:Array Oper}:∀{l:List Nat} {st:St} {V:View} {K K':St->View->Prop},(∀s V',V.Le V'->K s V'->K' s V')->KY P T m hint ops l st V K->KY P T m hint ops l st V K'
 | [],_,V,_,_,hk,h=>hk _ _ (View.Le.refl V) h
 | i::r,st,V,K,K',hk,h=>by
  simp only [KY] at h ⊢;split at h
  ·exact kz (fun s V' hle h=>FK (fun s eH hle' h=>hk s eH (hle.trans hle') h) h) h
  ·exact h.elim
theorem qi {st:St}{β:Nat->Nat}{a:Act}{w:World}{V:View}(hT:cO.ok P T)(hmx:P.follows .mixedOrders=true)(hM:Mod n V0 bA β0 st β a w V){id:Nat}{ops:Array Oper}{draw:Bool}
  (hd:∀(i:Nat)(o:Oper),ops[i]?=some o->∀d,o.dst=some d->d<n){Q:Exit->Act->World->Prop}{K:Exit->St->View->Prop}
  (hv:DL P T LF RF ops draw st V (K .normal))(hK:∀st' β' a' w' V',Mod n V0 bA β0 st' β' a' w' V'->V.Le V'->K .normal st' V'->Q .normal a' w'):(Code.region id ops draw).wp P Q a w:=by
 cases draw with
 | false=>
  simp only [DL] at hv;exact wp_region (Ac (K:=fun s V'=>V.Le V'/\K .normal s V') hT hd (fun st' β' a' w' V' b h=>hK st' β' a' w' V' b h.1 h.2) _ st β a w V hM (FK (fun s V' hle h=>⟨hle,h⟩) hv))
 | true=>
  simp only [DL] at hv;split at hv
  ·rename_i e;simp only [GM,Bool.and_eq_true,List.all_eq_true,List.mem_range] at e;obtain ⟨⟨⟨f,g⟩,k⟩,l⟩:=e;refine wp_region_any hmx ?_
   have:=G3 (P:=P) (T:=T) (LF:=LF) (RF:=RF) (ops:=ops) (hint:=fun i=>(ops.toList.map (Jr LF RF st ops.toList)).getD i .free) (anc:=fun j i=>((Hd ops.toList).getD j 0).testBit i=true) (K:=fun s V'=>V.Le V'/\K .normal s V')
    (fun j o e=>Ep j o (by simpa using e)) (oO LF RF ops) [] (Array.replicate ops.size false) st V (by simp) (fun j=>by
     simp only [eI,Array.getD];split<;>simp) (fun j c=>.inr (ct.1 (g j c))) (fun j c=>by
     exfalso;simp only [Array.getD] at c;split at c<;>simp at c) k (wc l) (FK (fun s V' hle h=>⟨hle,h⟩) hv)
   rw [beq_eq.1 f] at this;exact s_ hT hd (fun st' β' a' w' V' b h=>hK st' β' a' w' V' b h.1 h.2) _ _ _ β _ _ _ hM.drew this
  ·exact hv.elim
end Go.Eng
