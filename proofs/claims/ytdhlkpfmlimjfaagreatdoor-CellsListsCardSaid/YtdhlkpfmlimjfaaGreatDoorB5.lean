import Derived.Test.YtdhlkpfmlimjfaaGreatDoorB4
import Derived.Orders
import Derived.Scope
set_option linter.unusedVariables false
open Go.IntKind (i64 u64 u32)
namespace Go.Eng
variable {P:Program} {T:cD} {LF RF:List Nat} {m:CM}
def Good (p:Nat->Option SV)(q:Nat->Option aH)(W D:List Nat)(st:St)(V:View)(K:St->View->Prop):St->View->Prop:=
 fun st2 V2=>V.Le V2/\(∀t,t∉D->st2.ao t=st.ao t)/\(∀s,s∉W->st2.boxes s=st.boxes s)/\K (ov p q st2) V2
theorem nF {bx bx':Nat->Option aH}:∀{l:List Nat},(∀s∈l,bx' s=bx s)->l.flatMap (jR bx')=l.flatMap (jR bx)
 | [],_=>rfl
 | s::r,h=>by
  simp only [List.flatMap_cons]
  rw [nF fun s hs=>h s (by simp [hs])]
  simp only [jR]
  rw [h s (by simp)]
theorem kZ {bx bx':Nat->Option aH}:∀(n:Nat)(l:List Nat),(∀s∈reach bx n l,bx' s=bx s)->reach bx' n l=reach bx n l
 | 0,_,_=>rfl
 | n+1,l,h=>by
  have hl:∀s∈l,bx' s=bx s:=fun s hs=>h s (dL (n+1) l s hs)
  simp only [reach] at h ⊢
  rw [nF hl]
  exact kZ n _ h
theorem vC {bx bx':Nat->Option aH}{l:List Nat}(h:∀s∈l,bx' s=bx s):fM bx' l=fM bx l:=by
 unfold fM
 rw [Bool.eq_iff_iff,List.all_eq_true,List.all_eq_true]
 constructor
 ·intro g s hs;have:=g s hs;simp only [jR] at this ⊢;rw [h s hs] at this;exact this
 ·intro g s hs;have:=g s hs;simp only [jR] at this ⊢;rw [h s hs];exact this
theorem eJ:∀{L:List Nat} {β:Nat->Nat} {k k':(Nat->Nat)->Prop},(∀β,k β->k' β)->jP L β k->jP L β k'
 | [],_,_,_,h,g=>h _ g
 | _::_,_,_,_,h,g=>fun b=>eJ h (g b)
theorem tU {bx bx':Nat->Option aH}{b:aH}{β:Nat->Nat}{s:Nat}:∀{r:List Nat} {k k':Prop},(∀t∈r,bx' t=bx t)->(k->k')->KB bx b β s r k->KB bx' b β s r k'
 | [],_,_,_,h,g=>h g
 | t::r,k,k',hb,h,g=>by
  have hr:=fun t ht=>hb t (List.mem_cons_of_mem _ ht)
  simp only [KB] at g ⊢
  rw [hb t (by simp)]
  cases hbq:Nat.beq s t with
  | true=>rw [hbq] at g;exact tU hr h g
  | false=>
   rw [hbq] at g
   simp only [cond_false] at g ⊢
   split at g
   ·exact fun hn=>tU hr h (g hn)
   ·exact g
theorem gZ {bx bx':Nat->Option aH}{β:Nat->Nat}{V:View}:∀{L:List Nat} {k k':Prop},(∀s∈L,bx' s=bx s)->((∀s∈L,∃b,bx s=some b/\(b.live->V.H (β s)))->k->k')->gk bx β V L k->gk bx' β V L k'
 | [],_,_,_,h,g=>h (fun s hs=>absurd hs (by simp)) g
 | s::r,k,k',hb,h,g=>by
  have hr:=fun t ht=>hb t (List.mem_cons_of_mem _ ht)
  simp only [gk] at g ⊢
  rw [hb s (by simp)]
  split at g
  ·rename_i b hbs
   refine fun h1 h2=>gZ hr (fun hf=>tU hr (fun hk=>h (fun t ht=>?_) hk)) (g h1 h2)
   rcases List.mem_cons.1 ht with rfl|ht
   ·exact ⟨b,hbs,eu.1 h2⟩
   ·exact hf t ht
  ·exact g
theorem iG {mv:Option (Nat×Nat)}:∀{cs zs:List C} {K K':List C->Prop},(∀c,K c->K' c)->kd mv cs zs K->kd mv cs zs K'
 | [],_,_,_,h,g=>h _ g
 | _::_,[],_,_,_,g=>g.elim
 | c::r,z::zr,K,K',h,g=>by
  simp only [kd] at g ⊢
  split at g
  ·split at g
   ·split at g
    ·obtain ⟨n,c,g⟩:=g
     exact ⟨n,c,iG (fun cs hk=>h _ hk) g⟩
    ·exact g.elim
   ·exact g.elim
  ·split at g
   ·obtain ⟨v,h1,h2⟩:=vd.split _ g
    rename_i hc
    rw [hc] at *
    exact h2 _ (iG (fun cs hk=>h _ hk) h1)
   ·exact iG (fun cs hk=>h _ hk) g
variable {p:Nat->Option SV} {q:Nat->Option aH}
theorem iJ {mv:Option (Nat×Nat)}{β:Nat->Nat}{V:View}{W:List Nat}:∀{L:List Nat} {st:St} {k k':St->Prop},(∀s∈L,q s=none/\s∈W) ->
  (∀st',(∀t,st'.ao t=st.ao t)->(∀s,s∉W->st'.boxes s=st.boxes s)->k (ov p q st')->k' st')->dC T mv β V L (ov p q st) k->dC T mv β V L st k'
 | [],st,k,k',_,h,g=>h st (fun _=>rfl) (fun _ _=>rfl) g
 | s::r,st,k,k',hq,h,g=>by
  obtain ⟨Lu,NM⟩:=hq s (by simp)
  have hr:∀s∈r,q s=none/\s∈W:=fun s hs=>hq s (by simp [hs])
  have Lj:∀b:aH,∀k1:St->Prop,(∀st',k1 st'=k st')->dC T mv β V r ((ov p q st).box s b) k1->dC T mv β V r (st.box s b) k':=by
   intro b k1 hk1 g
   rw [iX Lu] at g
   refine iJ hr (fun st' h1 h2 hk=>h st' h1 (fun s' hs'=>?_) (by rw [←hk1];exact hk)) g
   rw [h2 s' hs',ah,if_neg (fun e=>hs' (by rw [e];exact NM))]
  simp only [dC] at g ⊢
  rw [bP Lu] at g
  split at g
  ·rename_i cs ty hb
   split at g
   ·rename_i i hi
    exact iG (fun cs' hk=>⟨hk.1,Lj _ _ (fun _=>rfl) hk.2⟩) g
   ·exact g
  ·obtain ⟨vs,h1,h2⟩:=g
   exact ⟨vs,h1,Lj _ _ (fun _=>rfl) h2⟩
  ·obtain ⟨h0,vs,h3,h1,h2⟩:=g
   exact ⟨h0,vs,h3,h1,Lj _ _ (fun _=>rfl) h2⟩
  ·exact g
theorem rN (V:View)(l:List Nat):V.Le (V.lend l):=fun _ _ h=>h
theorem D4 (V:View):V.Le V.shut:=fun _ _ h=>h
theorem AL {V V' dO:View}{P:Prop}{b:Nat}(h:V.Le dO)(h':V.Le V')(hb:P->V'.w.heap.size<=b\/V'.H b):V.Le (dO.shut.hideG P b):=by
 intro x o hx
 obtain ⟨h1,h2⟩:=h x o hx
 obtain ⟨h3,h4⟩:=h' x o hx
 refine ⟨fun hh=>?_,h2⟩
 rcases hh with hh|⟨hp,e,-⟩
 ·exact h1 hh
 ·subst e
  rcases hb hp with h5|h5
  ·have:=ar h4;omega
  ·exact h3 h5
theorem He {m:Option Nat}{d:Nat}:dY m d=d\/dY m d=d+200000:=by
 cases m with
 | none=>exact .inl rfl
 | some m=>
  simp only [dY,ma]
  cases Nat.blt m 100000 with
  | true=>exact .inl rfl
  | false=>exact .inr rfl
theorem kg {give:Bool}{sh:Sh}{L:List Nat}{mm:Option Nat}{d:Nat}{ety:TypeId}{β:Nat->Nat}{st:St}{V V' dO:View}{K K':St->View->Prop}{W D:List Nat}{r':Value}
  (hL:∀s∈L,q s=none/\s∈W)(hm:∀k,mm=some k->k∈L)(hp:p d=none/\d∈D)(hq:q (dY mm d)=none/\dY mm d∈W)(hV:V.Le V')(hV2:V.Le dO)
  (hlv:∀s∈L,∃b,st.boxes s=some b/\(b.live->V'.H (β s)))(hK:∀s2 V2,Good p q W D st V K s2 V2->K' s2 V2)
  (h:bF T give sh L mm d ety β (ov p q st) V' K r' dO):bF T give sh L mm d ety β st V' K' r' dO:=by
 unfold bF at h ⊢
 obtain ⟨b',vs',h1,h2,h3⟩:=h
 have h2':vs'≠[]->V'.w.heap.size<=b'\/u_ mm st β b':=by
  intro hne
  refine (h2 hne).imp id fun h=>?_
  unfold u_ at h ⊢
  cases mm with
  | none=>exact h
  | some k=>
   dsimp only at h ⊢
   rw [bP (hL k (hm k rfl)).1] at h
   exact h
 have pC:vs'≠[]->V'.w.heap.size<=b'\/V'.H b':=by
  intro hne
  refine (h2' hne).imp id fun h=>?_
  unfold u_ at h
  cases mm with
  | none=>exact h.elim
  | some k=>
   dsimp only at h
   obtain ⟨b0,hb0,hHk⟩:=hlv k (hm k rfl)
   rw [hb0] at h
   obtain ⟨cs,ty⟩:=b0
   cases cs with
   | lit cs=>have h:b'=β k:=h;rw [h];exact hHk ck
   | row cs=>have h:b'=β k:=h;rw [h];exact hHk bV
   | aO vs=>have h:vs≠[]/\b'=β k:=h;rw [h.2];exact hHk (dK h.1)
 refine ⟨b',vs',h1,h2',Sh.mono h3 fun x hx=>⟨hx.1,?_⟩⟩
 have e1:(nS mm ety (ov p q st)).box (dY mm d) ⟨.aO vs',ety⟩=ov p q ((nS mm ety st).box (dY mm d) ⟨.aO vs',ety⟩):=by
  cases mm with
  | none=>exact iX hq.1
  | some k=>
   simp only [nS]
   rw [iX (hL k (hm k rfl)).1,iX hq.1]
 have hx2:=hx.2
 rw [e1] at hx2
 have hsub:∀s∈AM mm L,q s=none/\s∈W:=by
  intro s hs
  cases mm with
  | none=>exact hL s hs
  | some k=>exact hL s (tS.1 hs).1
 refine iJ hsub (fun st' g1 g2 hk=>?_) hx2
 rw [iY (fun k hk=>by cases hk;exact hp.1)] at hk
 refine hK _ _ ⟨AL hV2 hV pC,?_,?_,hk⟩
 ·intro t ht
  rw [cK,if_neg (fun e=>ht (by rw [e];exact hp.2)),g1]
  cases mm<;>rfl
 ·intro s hs
  show st'.boxes s=_
  rw [g2 s hs,ah,if_neg (fun e=>hs (by rw [e];exact hq.2))]
  cases mm with
  | none=>rfl
  | some k=>simp only [nS];rw [ah,if_neg (fun e=>hs (by rw [e];exact (hL k (hm k rfl)).2))]
theorem G9 {bx:Nat->Option aH}{L:List Nat}(hcl:fM bx L=true):∀k,k∈nZ bx L->k∈L:=by
 intro k hk
 unfold nZ at hk
 obtain ⟨s,hs,hk⟩:=List.mem_flatMap.1 (bD.1 hk)
 split at hk
 ·rename_i cs ty hb
  refine eL hcl hs hb k ?_
  have:∀cs:List C,k∈mS cs->k∈cs.flatMap C.ids:=by
   intro cs
   induction cs with
   | nil=>exact fun h=>nomatch h
   | cons c r ih=>
    intro h
    rw [List.flatMap_cons,List.mem_append]
    cases c<;>simp only [mS,List.mem_cons] at h<;>first
     | exact .inr (ih h)
     | (rcases h with h|h
        ·left;simp [C.ids,h]
        ·exact .inr (ih h))
  exact this cs hk
 ·cases hk
theorem tw {xs:List SV}:∀k,k∈kf xs->k∈xs.flatMap SV.ids:=by
 intro k
 induction xs with
 | nil=>exact fun h=>nomatch h
 | cons x r ih=>
  intro h
  rw [List.flatMap_cons,List.mem_append]
  unfold kf at h
  split at h
  ·rename_i heq;cases heq
  ·rename_i s n c r' heq;cases heq;exact .inl h
  ·rename_i s n c r' heq;cases heq;exact .inl h
  ·rename_i heq;cases heq;exact .inr (ih h)
theorem qv {bx bx':Nat->Option aH}{L:List Nat}(h:∀s∈L,bx' s=bx s):nZ bx' L=nZ bx L:=by
 unfold nZ
 congr 1
 induction L with
 | nil=>rfl
 | cons s r ih=>simp only [List.flatMap_cons];rw [h s (by simp),ih fun s hs=>h s (by simp [hs])]
theorem fo {st:St}{mm:Option Nat}{d:Nat}(h:q (dY mm d)=none):hE (ov p q st) mm d=hE st mm d:=by
 unfold hE;rw [bP h]
theorem qt {bx bx':Nat->Option aH}{β:Nat->Nat}{N:Nat}{L:List Nat}(h:∀s∈L,bx' s=bx s):L.map (cI bx' β N)=L.map (cI bx β N):=
 List.map_congr_left fun s hs=>by unfold cI;rw [h s hs]
theorem B_:∀{L:List Nat} {st:St},(∀s∈L,q s=none)->cX (ov p q st) L 0=ov p q (cX st L 0)
 | [],_,_=>rfl
 | s::r,st,h=>by
  show cX ((ov p q st).box s ⟨.aO [],0⟩) r 0=ov p q (cX (st.box s ⟨.aO [],0⟩) r 0)
  rw [iX (h s (by simp))]
  exact B_ fun s hs=>h s (by simp [hs])
theorem xI {bx bx':Nat->Option aH}{β:Nat->Nat}{V:View}:∀{L:List Nat} {k k':Prop},(∀s∈L,bx' s=bx s)->(k->k')->oo bx β V L k->oo bx' β V L k'
 | [],_,_,_,h,g=>h g
 | s::r,k,k',hb,h,g=>by
  simp only [oo] at g ⊢
  rw [hb s (by simp)]
  split at g
  ·exact fun h1=>xI (fun t ht=>hb t (List.mem_cons_of_mem _ ht)) h (g h1)
  ·exact g.elim
theorem gF {f:FuncId}{xs:List SV}{ty:TypeId}{dst:Option Nat}{st:St}{V:View}{K:St->View->Prop}{W D:List Nat}
  (hm:m=.none\/((m=.lend\/m=.give)/\(∀s∈reach (ov p q st).boxes 3 (dedup (xs.flatMap SV.ids)),q s=none/\s∈W)/\∀k,dst=some k->∀mm,q (dY mm k)=none/\dY mm k∈W))(hd:∀k,dst=some k->p k=none/\k∈D)
  {K':St->View->Prop}(hK:∀s2 V2,Good p q W D st V K s2 V2->K' s2 V2)(hv:ew P T m f xs ty dst (ov p q st) V K):ew P T m f xs ty dst st V K':=by
 have hput:∀(st':St)(x:SV),(∀t,st'.ao t=st.ao t)->∀t,t∉D->(st'.put dst x).ao t=st.ao t:=by
  intro st' x h t ht
  cases dst with
  | none=>exact h t
  | some d=>rw [cK,if_neg (fun e=>ht (by rw [e];exact (hd d rfl).2))];exact h t
 have hbx:∀(st':St)(x:SV),(st'.put dst x).boxes=st'.boxes:=by intro st' x;cases dst<;>rfl
 unfold ew at hv ⊢
 split at hv
 ·exact hv.elim
 ·rename_i sh hsh
  have hre:∀L,reach (ov p q st).boxes 3 (dedup (xs.flatMap SV.ids))=L->(∀s∈L,q s=none)->reach st.boxes 3 (dedup (xs.flatMap SV.ids))=L:=by
   intro L hL WM
   rw [←hL]
   exact kZ 3 _ fun s hs=>(bP (WM s (by rw [←hL];exact hs))).symm
  have Kq:∀s∈xs.flatMap SV.ids,s∈reach (ov p q st).boxes 3 (dedup (xs.flatMap SV.ids)):=fun s hs=>dL 3 _ s (bD.2 hs)
  generalize hr:reach (ov p q st).boxes 3 (dedup (xs.flatMap SV.ids))=L at hv hm Kq
  cases L with
  | nil=>
   rw [hre _ hr (fun s hs=>nomatch hs)]
   have plain:(∀V':View,V.Le V'->Acts P f (aG (fun _=>0) xs) V' fun r dO=>sh.ex fun x=>r=x.den (fun _=>0)/\K ((ov p q st).put dst x) dO) ->
     ∀V':View,V.Le V'->Acts P f (aG (fun _=>0) xs) V' fun r dO=>sh.ex fun x=>r=x.den (fun _=>0)/\K' (st.put dst x) dO:=by
    intro hv V' hV'
    refine (hv V' hV').mono fun r dO hle hk=>Sh.mono hk fun x hx=>⟨hx.1,?_⟩
    have h2:=hx.2
    rw [iY (fun k hk=>(hd k hk).1)] at h2
    exact hK _ _ ⟨hV'.trans hle,hput st x fun _=>rfl,fun s _=>by rw [hbx],h2⟩
   rcases hm with rfl|⟨rfl|rfl,-,hnb⟩
   ·exact plain hv
   ·exact plain hv
   ·dsimp only at hv ⊢
    split at hv
    ·rename_i d ety hgt
     rw [fo (hnb d rfl Option.none).1] at hv
     split at hv
     ·exact hv.elim
     ·rename_i hfree
      intro V' hV'
      refine (hv V' hV').mono fun r dO hle hk=>?_
      exact kg (W:=W) (D:=D) (fun s hs=>absurd hs (by simp)) (fun k hk=>by cases hk) (hd d rfl) (hnb d rfl Option.none) hV' (hV'.trans hle) (fun s hs=>absurd hs (by simp)) hK hk
    ·exact hv.elim
  | cons s r=>
   dsimp only at hv
   split at hv
   ·exact hv.elim
   ·rename_i hcl
    have lend:m=.lend\/m=.give->(∀t∈s::r,q t=none/\t∈W)->(∀k,dst=some k->∀mm,q (dY mm k)=none/\dY mm k∈W) ->
      ∀{give:Bool} {mm:Option Nat} {d:Nat} {ety:TypeId},dst=some d->(∀k,mm=some k->k∈s::r) ->
      (∀V':View,V.Le V'->jP (s::r) (fun _=>0) fun β=>gk (ov p q st).boxes β V' (s::r) (Acts P f (aG β xs) (V'.lend ((s::r).map (cI (ov p q st).boxes β V'.w.heap.size))) (bF T give sh (s::r) mm d ety β (ov p q st) V' K))) ->
      ∀V':View,V.Le V'->jP (s::r) (fun _=>0) fun β=>gk st.boxes β V' (s::r) (Acts P f (aG β xs) (V'.lend ((s::r).map (cI st.boxes β V'.w.heap.size))) (bF T give sh (s::r) mm d ety β st V' K')):=by
     intro _ hmm hnb give mm d ety hdst Rc hv V' hV'
     have Ay:∀t∈s::r,st.boxes t=(ov p q st).boxes t:=fun t ht=>(bP (hmm t ht).1).symm
     refine eJ (fun β hb=>?_) (hv V' hV')
     rw [qt (bx:=(ov p q st).boxes) Ay]
     refine gZ (bx:=(ov p q st).boxes) Ay (fun hH hfn=>?_) hb
     refine hfn.mono fun r' dO hle hk=>?_
     have hle2:V.Le dO:=(hV'.trans (rN V' _)).trans hle
     exact kg hmm Rc (hd d hdst) (hnb d hdst mm) hV' hle2 (fun t ht=>by rw [Ay t ht];exact hH t ht) hK hk
    have base:m=.lend\/m=.give->(∀t∈s::r,q t=none/\t∈W)/\(∀k,dst=some k->∀mm,q (dY mm k)=none/\dY mm k∈W):=by
     intro h
     rcases hm with rfl|⟨-,h1,h2⟩
     ·rcases h with h|h<;>cases h
     ·exact ⟨h1,h2⟩
    have TB:(∀t∈s::r,q t=none/\t∈W)->fM st.boxes (s::r)=true:=fun hmm=>by
     rw [vC (bx:=(ov p q st).boxes) (fun t ht=>(bP (hmm t ht).1).symm)];exact hcl
    split at hv
    ·exact hv.elim
    ·exact hv.elim
    ·
     obtain ⟨hmm,hnb⟩:=base (.inr rfl)
     rw [hre _ hr (fun t ht=>(hmm t ht).1)]
     dsimp only
     rw [TB hmm]
     dsimp only
     have hmv:=qv (bx:=(ov p q st).boxes) (bx':=st.boxes) (L:=s::r) (fun t ht=>(bP (hmm t ht).1).symm)
     rw [hmv]
     split at hv
     ·rename_i d ety h1 h2 h3
      rw [fo (hnb d rfl _).1] at hv
      split at hv
      ·exact hv.elim
      ·rename_i hfree
       exact lend (.inr rfl) hmm hnb rfl (fun k hk=>by cases hk) hv
     ·rename_i d ety k h1 h2 h3
      have hk1:k∈s::r:=Kq k (tw k (by rw [h2];simp))
      have hst:zf (ov p q st).boxes k ety=zf st.boxes k ety:=by unfold zf;rw [bP (hmm k hk1).1]
      rw [hst] at hv
      split at hv
      ·rw [fo (hnb d rfl _).1] at hv
       split at hv
       ·exact hv.elim
       ·rename_i hfree
        exact lend (.inr rfl) hmm hnb rfl (fun j hj=>by cases hj;exact hk1) hv
      ·rw [B_ (fun t ht=>(hmm t ht).1),fo (hnb d rfl _).1] at hv
       split at hv
       ·exact hv.elim
       ·rename_i hfree
        split at hv
        ·exact hv.elim
        ·intro V' hV'
         refine eJ (fun β hb=>?_) (hv V' hV')
         refine xI (bx:=(ov p q st).boxes) (fun t ht=>(bP (hmm t ht).1).symm) (fun hfn=>?_) hb
         refine hfn.mono fun r' dO hle hk=>?_
         exact kg (W:=W) (D:=D) (st:=cX st (s::r) 0) (fun s hs=>absurd hs (by simp)) (fun k hk=>by cases hk) (hd d rfl) (hnb d rfl Option.none) hV' (hV'.trans hle) (fun s hs=>absurd hs (by simp)) (fun s2 V2 hG=>hK s2 V2 ⟨hG.1,fun t ht=>(hG.2.1 t ht).trans (by rw [iR]),fun t ht=>(hG.2.2.1 t ht).trans (by rw [aV,if_neg fun h=>ht (hmm t h).2]),hG.2.2.2⟩) hk
     ·exact hv.elim
    ·
     obtain ⟨hmm,hnb⟩:=base (.inl rfl)
     rw [hre _ hr (fun t ht=>(hmm t ht).1)]
     dsimp only
     rw [TB hmm]
     dsimp only
     have Ay:∀t∈s::r,st.boxes t=(ov p q st).boxes t:=fun t ht=>(bP (hmm t ht).1).symm
     have hmv:=qv (bx:=(ov p q st).boxes) (bx':=st.boxes) (L:=s::r) Ay
     rw [hmv]
     split at hv
     ·intro V' hV'
      refine eJ (fun β hb=>?_) (hv V' hV')
      rw [qt (bx:=(ov p q st).boxes) Ay]
      refine gZ (bx:=(ov p q st).boxes) Ay (fun _ hfn=>?_) hb
      refine hfn.mono fun r' dO hle hk=>Sh.mono hk fun x hx=>⟨hx.1,?_⟩
      refine iJ hmm (fun st' h1 h2 hk=>?_) hx.2
      rw [iY (fun k hk=>(hd k hk).1)] at hk
      exact hK _ _ ⟨((hV'.trans (rN V' _)).trans hle).trans (D4 _),hput st' x h1,fun t ht=>by rw [hbx];exact h2 t ht,hk⟩
     ·rename_i k hk
      have Lo:k∈s::r:=G9 hcl k (by rw [hk];simp)
      have hty:jq st.boxes k=jq (ov p q st).boxes k:=by unfold jq;rw [Ay k Lo]
      rw [hty]
      split at hv
      ·rename_i d ety hbt
       rw [fo (hnb d rfl _).1] at hv
       split at hv
       ·exact hv.elim
       ·rename_i hfree
        exact lend (.inl rfl) hmm hnb rfl (fun j hj=>by cases hj;exact Lo) hv
      ·exact hv.elim
     ·exact hv.elim
    ·rcases hm with h|h
     ·cases h
     ·rcases h.1 with h|h<;>cases h
theorem Bn {bx:Nat->Option aH}:∀(n:Nat) {l l':List Nat},(∀x∈l,x∈l')->∀x∈reach bx n l,x∈reach bx n l'
 | 0,_,_,h,x,hx=>h x hx
 | n+1,l,l',h,x,hx=>by
  simp only [reach] at hx ⊢
  refine Bn n (fun y hy=>?_) x hx
  rw [bD,List.mem_append] at hy ⊢
  rcases hy with hy|hy
  ·exact .inl (h y hy)
  ·obtain ⟨z,hz,hy⟩:=List.mem_flatMap.1 hy
   exact .inr (List.mem_flatMap.2 ⟨z,h z hz,hy⟩)
theorem qJ {f:FuncId}{xs:List SV}{ty:TypeId}{dst:Option Nat}{st:St}{V:View}{K:St->View->Prop}{W D:List Nat}
  (hm:m=.none\/((m=.lend\/m=.give)/\(∀s∈reach (ov p q st).boxes 3 (dedup (xs.flatMap SV.ids)),q s=none/\s∈W)/\∀k,dst=some k->∀mm,q (dY mm k)=none/\dY mm k∈W))(hd:∀k,dst=some k->p k=none/\k∈D)
  {K':St->View->Prop}(hK:∀s2 V2,Good p q W D st V K s2 V2->K' s2 V2)(hv:je P T m f xs ty dst (ov p q st) V K):je P T m f xs ty dst st V K':=by
 have hm0:=hm
 cases m with
 | lend=>
  obtain ⟨h1,h2⟩:(∀s∈reach (ov p q st).boxes 3 (dedup (xs.flatMap SV.ids)),q s=none/\s∈W)/\∀k,dst=some k->∀mm,q (dY mm k)=none/\dY mm k∈W:=by
   rcases hm with h|⟨-,h1,h2⟩
   ·cases h
   ·exact ⟨h1,h2⟩
  unfold je at hv ⊢
  dsimp only at hv ⊢
  rw [oB (bx:=st.boxes) (bx':=(ov p q st).boxes) (fun s hs=>bP (h1 s (dL 3 _ s (bD.2 hs))).1)] at hv
  split at hv
  ·rename_i vs c xs' e
   exact ⟨fun he=>⟨(hv.1 he).1,gF (.inr ⟨.inl rfl,fun s hs=>h1 s (Bn 3 (fun x hx=>bD.2 (ur e x (bD.1 hx))) s hs),h2⟩) hd hK (hv.1 he).2⟩,fun he=>gF hm0 hd hK (hv.2 he)⟩
  ·exact gF hm0 hd hK hv
 | _=>exact gF hm0 hd hK hv
theorem yR {p2:Nat->Option SV}{q2:Nat->Option aH}{st:St}(hp:∀t,p t=none\/p2 t=none)(hq:∀t,q t=none\/q2 t=none):ov p q (ov p2 q2 st)=ov p2 q2 (ov p q st):=by
 unfold ov
 congr 1
 ·funext t
  dsimp only
  rcases hp t with h|h<;>rw [h]
 ·funext t
  dsimp only
  rcases hq t with h|h<;>rw [h]
def xV:Q->Option Nat
 | .app old _ _ _ _ _ _ _ _=>old
 | .pH s _ _ _ _ _ _ _=>some s
 | _=>none
def Ed (T:cD)(bx:Nat->Option aH)(l:Option (List SV))(ts:List TypeId):Q:=
 match l,ts with
 | some [b,x],[t,t']=>match au T t,au T t' with
  | some i,some i'=>match i.k,i'.k with
   | .slice e,.slice _=>match au T e with
    | some ei=>bS bx e ei b x
    | none=>.fail
   | _,_=>.fail
  | _,_=>.fail
 | _,_=>.fail
def xW (bx:Nat->Option aH)(sz:Nat)(x:SV):Option (OA×Nat ⊕ List Value):=
 match x with
 | .c (.v (.slice a k _))=>some (.inl (a,k))
 | .c (.kD s o k _)=>match bx s with
  | some ⟨.row ws,_⟩=>some (.inr (rowTake ws o (k*sz)))
  | _=>match dG bx s with
   | some ws=>if Nat.ble (o+k*sz) ws.length then some (.inr ((ws.drop o).take (k*sz))) else none
   | none=>none
 | .c (.ir s k c)=>match bx s with
  | some ⟨.aO ws,_⟩=>some (.inr (rowTakeM ws k c sz))
  | _=>none
 | _=>none
def DM (bx:Nat->Option aH)(e:TypeId)(ei:TI)(b:SV)(src:OA×Nat ⊕ List Value):Q:=
 match b with
 | .c (.v (.slice a n c))=>.app none a [] n c src ei.size ei.bytes e
 | .c (.kD s 0 n c)=>match dG bx s,jq bx s with
  | some vs,some ty=>if Nat.beq ty e then .app (some s) none vs n c src ei.size ei.bytes e else .fail
  | _,_=>.fail
 | .c (.ir s n c)=>match bx s with
  | some ⟨.aO vs,ty⟩=>if Nat.beq ty e then .pH s vs n c src ei.size ei.bytes e else .fail
  | _=>.fail
 | _=>.fail
theorem ua {bx:Nat->Option aH}{e:TypeId}{ei:TI}{b x:SV}:bS bx e ei b x=match jK ei.zero with
  | none=>.fail
  | some zs=>if Nat.beq ei.bytes 0||Nat.beq ei.size 0||!(Nat.beq ei.size zs.length) then .fail else match xW bx ei.size x with
   | none=>.fail
   | some src=>DM bx e ei b src:=rfl
theorem ED {bx bx':Nat->Option aH}{sz:Nat}{x:SV}:(∀s∈x.ids,bx' s=bx s)->xW bx sz x=xW bx' sz x:=by
 unfold xW
 split
 ·exact fun _=>rfl
 ·intro h;unfold dG;rw [h _ (by simp [SV.ids,C.ids])]
 ·intro h;rw [h _ (by simp [SV.ids,C.ids])]
 ·exact fun _=>rfl
theorem FV {bx bx':Nat->Option aH}{e:TypeId}{ei:TI}{b:SV}{src:OA×Nat ⊕ List Value}:(∀s∈b.ids,bx' s=bx s)->DM bx e ei b src=DM bx' e ei b src:=by
 unfold DM
 split
 ·exact fun _=>rfl
 ·intro h;unfold dG jq;rw [h _ (by simp [SV.ids,C.ids])]
 ·intro h;rw [h _ (by simp [SV.ids,C.ids])]
 ·exact fun _=>rfl
theorem C6 {bx bx':Nat->Option aH}{e:TypeId}{ei:TI}{b x:SV}(h:∀s∈b.ids++x.ids,bx' s=bx s):bS bx e ei b x=bS bx' e ei b x:=by
 rw [ua,ua,ED fun s hs=>h s (List.mem_append_right _ hs)]
 have:=fun src=>FV (bx:=bx) (bx':=bx') (e:=e) (ei:=ei) (b:=b) (src:=src) fun s hs=>h s (List.mem_append_left _ hs)
 simp only [this]
theorem Bg {bx:Nat->Option aH}{e:TypeId}{ei:TI}{b x:SV}:∀s,xV (bS bx e ei b x)=some s->s∈b.ids:=by
 intro s h
 unfold bS at h
 split at h
 ·cases h
 ·split at h
  ·cases h
  ·dsimp only at h
   split at h
   ·cases h
   ·split at h
    ·cases h
    ·split at h
     ·split at h
      ·cases h;simp [SV.ids,C.ids]
      ·cases h
     ·cases h
    ·split at h
     ·split at h
      ·cases h;simp [SV.ids,C.ids]
      ·cases h
     ·cases h
    ·cases h
theorem Jr {bx bx':Nat->Option aH}{ys:List SV}{ts:List TypeId}{R:List Nat}(h:∀s∈ys.flatMap SV.ids,bx' s=bx s)(hR:∀s∈ys.flatMap SV.ids,s∈R) :
  Ed T bx (some ys) ts=Ed T bx' (some ys) ts/\∀s,xV (Ed T bx (some ys) ts)=some s->s∈R:=by
 unfold Ed
 split
 ·rename_i b x t t' hb
  cases hb
  split
  ·split
   ·split
    ·exact ⟨C6 fun s hs=>h s (by simpa using hs),fun s hs=>hR s (by simp [Bg s hs])⟩
    ·exact ⟨rfl,fun s hs=>nomatch hs⟩
   ·exact ⟨rfl,fun s hs=>nomatch hs⟩
  ·exact ⟨rfl,fun s hs=>nomatch hs⟩
 ·exact ⟨rfl,fun s hs=>nomatch hs⟩
theorem Fg {bx:Nat->Option aH}{e:TypeId}{ei:TI}{b x:SV}:cE (bS bx e ei b x)=6\/bS bx e ei b x=.fail:=by
 unfold bS
 split
 ·exact .inr rfl
 ·split
  ·exact .inr rfl
  ·dsimp only
   split
   ·exact .inr rfl
   ·split<;>(try split)<;>(try split)<;>first|exact .inl rfl|exact .inr rfl
theorem HA {ρ:Operand->Option SV}{bx:Nat->Option aH}{args:Array Operand}{ts:Array TypeId}:cE (aE T ρ bx (.call ⟨.builtin .append,args,ts⟩))=6\/aE T ρ bx (.call ⟨.builtin .append,args,ts⟩)=.fail:=by
 simp only [aE]
 split
 ·split
  ·split
   ·split
    ·exact Fg
    ·exact .inr rfl
   ·exact .inr rfl
  ·exact .inr rfl
 ·exact .inr rfl
theorem zp {Q0:Q}{dst:Option Nat}{st:St}{V:View}{K K':St->View->Prop}{W D:List Nat}(ht:cE Q0=6\/Q0=.fail)
  (ho:∀s,xV Q0=some s->q s=none/\s∈W)(hd:∀k,dst=some k->(p k=none/\k∈D)/\∀s,q (ma s k)=none/\ma s k∈W)(hd0:∀k,dst=some k->q k=none/\k∈W)
  (hK:∀s2 V2,Good p q W D st V K s2 V2->K' s2 V2)(h:qW Q0 dst (ov p q st) V K):qW Q0 dst st V K':=by
 cases Q0 with
 | pH s vs n c x size bytes ty=>
  simp only [qW] at h ⊢
  cases dst with
  | none=>exact h.elim
  | some d=>
   dsimp only at h ⊢
   obtain ⟨⟨hp,hD⟩,hn⟩:=hd d rfl
   obtain ⟨hs,NM⟩:=ho s rfl
   have core:∀k xs,qu s vs n c size bytes ty d (ov p q st) V K k xs->qu s vs n c size bytes ty d st V K' k xs:=by
    rintro k xs ⟨h1,h2,h3,h4,h5,h6⟩
    refine ⟨h1,h2,h3,h4,h5,?_⟩
    rw [bP (hn s).1] at h6
    split at h6
    ·exact h6.elim
    ·intro spare c' g1 g2
     have:=h6 spare c' g1 g2
     rw [iX hs,iX (hn s).1,iY (fun k hk=>by cases hk;exact hp)] at this
     refine hK _ _ ⟨View.Le.refl V,?_,?_,this⟩
     ·intro t ht;rw [cK,if_neg (fun e=>ht (by rw [e];exact hD))];rfl
     ·intro t ht
      show ((st.box s _).box _ _).boxes t=_
      rw [ah,if_neg (fun e=>ht (by rw [e];exact (hn s).2)),ah,if_neg (fun e=>ht (by rw [e];exact NM))]
   cases x with
   | inr xs=>exact core _ _ h
   | inl ak=>obtain ⟨xs,h1,h2,h3⟩:=h;exact ⟨xs,h1,h2,core _ _ h3⟩
 | app old ba vs n c x size bytes ty=>
  simp only [qW] at h ⊢
  cases dst with
  | none=>exact h.elim
  | some d=>
   dsimp only at h ⊢
   obtain ⟨⟨hp,hD⟩,hn⟩:=hd d rfl
   cases old with
   | some s=>
    dsimp only at h ⊢
    obtain ⟨hs,NM⟩:=ho s rfl
    have core:∀k xs,zS s vs n c size bytes ty d (ov p q st) V K k xs->zS s vs n c size bytes ty d st V K' k xs:=by
     rintro k xs ⟨h1,h2,h3,h4,h5,h6⟩
     refine ⟨h1,h2,h3,h4,h5,?_⟩
     rw [bP (hn s).1] at h6
     split at h6
     ·exact h6.elim
     ·intro b J spare c' g1 g2
      have:=h6 b J spare c' g1 g2
      rw [iX hs,iX (hn s).1,iY (fun k hk=>by cases hk;exact hp)] at this
      refine hK _ _ ⟨View.Le.refl V,?_,?_,this⟩
      ·intro t ht;rw [cK,if_neg (fun e=>ht (by rw [e];exact hD))];rfl
      ·intro t ht
       show ((st.box s _).box _ _).boxes t=_
       rw [ah,if_neg (fun e=>ht (by rw [e];exact (hn s).2)),ah,if_neg (fun e=>ht (by rw [e];exact NM))]
    cases x with
    | inr xs=>exact core _ _ h
    | inl ak=>obtain ⟨xs,h1,h2,h3⟩:=h;exact ⟨xs,h1,h2,core _ _ h3⟩
   | none=>
    dsimp only at h ⊢
    obtain ⟨q1,q2⟩:=hd0 d rfl
    obtain ⟨vs',g1,g2,g3,g4,h⟩:=h
    have core:∀k xs,zT vs' n c size bytes ty d (ov p q st) V K k xs->zT vs' n c size bytes ty d st V K' k xs:=by
     rintro k xs ⟨h1,h2,h3,h4,h5⟩
     refine ⟨h1,h2,h3,h4,?_⟩
     rw [bP q1] at h5
     split at h5
     ·exact h5.elim
     ·intro spare c' k1 k2
      have:=h5 spare c' k1 k2
      rw [iX q1,iY (fun k hk=>by cases hk;exact hp)] at this
      refine hK _ _ ⟨View.Le.refl V,?_,?_,this⟩
      ·intro t ht;rw [cK,if_neg (fun e=>ht (by rw [e];exact hD))];rfl
      ·intro t ht
       show (st.box d _).boxes t=_
       rw [ah,if_neg (fun e=>ht (by rw [e];exact q2))]
    refine ⟨vs',g1,g2,g3,g4,?_⟩
    cases x with
    | inr xs=>exact core _ _ h
    | inl ak=>
     obtain ⟨xs,h1,h2,h3,h4⟩:=h
     refine ⟨xs,h1,h2,fun e=>?_,fun e=>core _ _ (h4 e)⟩
     have:=h3 e
     rw [iY (fun k hk=>by cases hk;exact hp)] at this
     refine hK _ _ ⟨View.Le.refl V,?_,fun t ht=>rfl,this⟩
     intro t ht;rw [cK,if_neg (fun e=>ht (by rw [e];exact hD))]
 | fail=>exact h.elim
 | _=>rcases ht with ht|ht<;>cases ht
theorem oV {h:Hint}{o:Oper}{st:St}{V:View}{K:St->View->Prop}{R W:List Nat}
  (hm:kY (aU LF RF o.op)=true\/(aU LF RF o.op=.call/\m=.none)\/((aU LF RF o.op=.jB/\m=.lend)\/(aU LF RF o.op=.give/\m=.give)\/aU LF RF o.op=.app))
  (hrw:ot (aU LF RF o.op) h (dz o)=some (R,W))(hp:∀t,t∈f_ o.op\/t∈dz o->p t=none)(hq:∀s∈R,q s=none)
  (Ul:∀s∈W,q s=none){K':St->View->Prop}(hK:∀s2 V2,Good p q W (dz o) st V K s2 V2->K' s2 V2)(hv:ch P T m h o (ov p q st) V K):ch P T m h o st V K':=by
 have CQ:∀t∈f_ o.op,st.ao t=(ov p q st).ao t:=fun t ht=>by simp [ov,hp t (.inl ht)]
 rcases hm with hm|hm
 ·obtain ⟨p2,q2,hO⟩:=lT hm hrw hv
  refine hO.again st V _ (View.Le.refl V) CQ (fun s hs=>(bP (hq s hs)).symm) ?_
  refine hK _ _ ⟨View.Le.refl V,fun t ht=>by simp [ov,hO.pd t ht],fun s hs=>by simp [ov,hO.qd s hs],?_⟩
  rw [yR]
  ·exact hO.next
  ·intro t
   by_cases h:t∈dz o
   ·exact .inl (hp t (.inr h))
   ·exact .inr (hO.pd t h)
  ·intro s
   by_cases h:s∈W
   ·exact .inl (Ul s h)
   ·exact .inr (hO.qd s h)
 ·
  have hval:∀(x:Operand),x∈o.op.operands.toList->(ov p q st).aR x=st.aR x:=fun x hx=>Jm fun t e=>hp t (.inl (tQ hx e))
  have hdst:∀k,o.dst=some k->p k=none/\k∈dz o:=fun k hk=>by
   have:k∈dz o:=by simp [dz,hk]
   exact ⟨hp k (.inr this),this⟩
  have body:(¬aU LF RF o.op=.app)->∀(hh:∀xs f ss Ik args ts,o.op=.call ⟨.value Ik,args,ts⟩->bJ (ov p q st).aR args.toList=some xs->(ov p q st).aR Ik=some (.c (.yx f ss)) ->
    m=.none\/((m=.lend\/m=.give)/\(∀s∈reach (ov p q st).boxes 3 (dedup ((xs++sS ss).flatMap SV.ids)),q s=none/\s∈W)/\∀k,o.dst=some k->∀mm,q (dY mm k)=none/\dY mm k∈W)),
    cw P T m o (ov p q st) V K->cw P T m o st V K':=by
   intro happ hh hv
   unfold cw at hv ⊢
   split at hv
   ·rename_i Ik args ts hop
    have e1:bJ (ov p q st).aR args.toList=bJ st.aR args.toList:=dD _ fun x hx=>hval x (by rw [hop];simp [Op.operands,Call.operands];exact .inr (by simpa using hx))
    have e2:(ov p q st).aR Ik=st.aR Ik:=hval Ik (by rw [hop];simp [Op.operands,Call.operands])
    split at hv
    ·rename_i xs hxs
     split at hv
     ·rename_i f ss hf
      have hmm:=hh _ _ _ _ _ _ hop hxs hf
      rw [e1] at hxs
      rw [e2] at hf
      simp only [hxs,hf]
      exact qJ hmm hdst hK hv
     ·exact hv.elim
    ·exact hv.elim
   ·rename_i recv name args ts hop
    have hmn:m=.none:=by
     rw [hop] at hm
     rcases hm with ⟨-,h⟩|⟨h,-⟩|⟨h,-⟩|h
     ·exact h
     ·cases h
     ·cases h
     ·cases h
    have e1:bJ (ov p q st).aR args.toList=bJ st.aR args.toList:=dD _ fun x hx=>hval x (by rw [hop];simp [Op.operands,Call.operands];exact .inr (by simpa using hx))
    have e2:(ov p q st).aR recv=st.aR recv:=hval recv (by rw [hop];simp [Op.operands,Call.operands])
    split at hv
    ·rename_i xs hxs
     split at hv
     ·rename_i t v hf
      split at hv
      ·rename_i f GH
       rw [e1] at hxs
       rw [e2] at hf
       simp only [hxs,hf,GH]
       exact qJ (.inl hmn) hdst hK hv
      ·exact hv.elim
     ·exact hv.elim
    ·exact hv.elim
   ·rename_i hnc NI
    exfalso
    have hc4:aU LF RF o.op=.call\/aU LF RF o.op=.jB\/aU LF RF o.op=.give:=by
     rcases hm with ⟨h,-⟩|⟨h,-⟩|⟨h,-⟩|h
     ·exact .inl h
     ·exact .inr (.inl h)
     ·exact .inr (.inr h)
     ·exact absurd h happ
    clear hm happ hh
    generalize hop:o.op=op at hc4 hnc NI
    cases op with
    | call c=>
     obtain ⟨DP,args,ts⟩:=c
     cases DP with
     | builtin b=>cases b<;>rcases hc4 with h|h|h<;>cases h
     | value f=>exact hnc f args ts rfl
     | invoke r nm=>exact NI r nm args ts rfl
    | _=>rcases hc4 with h|h|h<;>cases h
  have RO:∀l:List Nat,W=l++dz o++(dz o).map (·+ 200000)->∀k,o.dst=some k->∀mm,q (dY mm k)=none/\dY mm k∈W:=by
   intro l hW k hk mm
   have:dY mm k∈W:=by
    rw [hW]
    have hkd:=(hdst k hk).2
    rcases He (m:=mm) (d:=k) with h|h<;>rw [h]<;>simp [hkd]
   exact ⟨Ul _ this,this⟩
  have own:∀l:List Nat,h=.own l->R=l->W=l++dz o++(dz o).map (·+ 200000)->(aU LF RF o.op=.jB\/aU LF RF o.op=.give\/aU LF RF o.op=.app)->(¬aU LF RF o.op=.app->m=.lend\/m=.give)->ch P T m h o st V K':=by
   intro l hh hR hW hcl hmm
   subst hh hR
   unfold ch at hv ⊢
   dsimp only at hv ⊢
   split at hv
   ·rename_i ys hys
    split at hv
    ·rename_i hsub
     have e0:bJ (ov p q st).aR (fZ o.op)=bJ st.aR (fZ o.op):=dD _ fun x hx=>hval x (tP hx)
     rw [←e0,hys]
     dsimp only
     have hin:∀s∈dJ (ov p q st).boxes o.op (ys.flatMap SV.ids),s∈R:=uu.1 hsub
     have e3:dJ st.boxes o.op (ys.flatMap SV.ids)=dJ (ov p q st).boxes o.op (ys.flatMap SV.ids):=by
      revert hin
      unfold dJ
      split
      ·intro hin
       exact kZ 3 _ fun s hs=>(bP (hq s (hin s hs))).symm
      ·exact fun _=>rfl
     rw [e3,hsub]
     dsimp only
     have Ue:∀s∈R,s∈W:=fun s hs=>by rw [hW];simp [hs]
     by_cases happ:aU LF RF o.op=.app
     ·
      have hop:∃args ts,o.op=.call ⟨.builtin .append,args,ts⟩:=by
       generalize o.op=op at happ
       cases op with
       | call c=>
        obtain ⟨DP,args,ts⟩:=c
        cases DP with
        | builtin b=>cases b<;>first|exact ⟨args,ts,rfl⟩|cases happ
        | value f=>cases f with
         | func f=>simp only [aU] at happ;split at happ<;>(try split at happ)<;>(try split at happ)<;>(try split at happ)<;>cases happ
         | _=>cases happ
        | _=>cases happ
       | _=>cases happ
      obtain ⟨args,ts,hop⟩:=hop
      have e4:aE T st.aR st.boxes o.op=aE T (ov p q st).aR (ov p q st).boxes o.op/\∀s,xV (aE T st.aR st.boxes o.op)=some s->s∈R:=by
       have e5:bJ (ov p q st).aR args.toList=bJ st.aR args.toList:=by rw [hop] at e0;exact e0
       have Ro:bJ st.aR args.toList=some ys:=by rw [hop] at hys;rw [←e5];exact hys
       have hin':∀s∈ys.flatMap SV.ids,s∈R:=by
        intro s hs
        refine hin s ?_
        rw [hop]
        simp only [dJ]
        exact dL 3 _ s (bD.2 hs)
       rw [hop]
       simp only [aE]
       rw [e5,Ro]
       exact Jr (fun s hs=>by rw [bP (hq s (hin' s hs))]) hin'
      have hvb:qW (aE T (ov p q st).aR (ov p q st).boxes o.op) o.dst (ov p q st) V K:=by
       unfold cw at hv
       rw [hop] at hv ⊢
       exact hv
      have hgoal:qW (aE T st.aR st.boxes o.op) o.dst st V K'->cw P T m o st V K':=by
       intro h
       unfold cw
       rw [hop] at h ⊢
       exact h
      rw [←e4.1] at hvb
      refine hgoal ?_
      have htag:∀Q0,aE T st.aR st.boxes o.op=Q0->cE Q0=6\/Q0=.fail:=by
       intro Q0 hQ
       rw [←hQ,hop]
       exact HA
      generalize Wt:aE T st.aR st.boxes o.op=Q0 at hvb e4
      exact zp (htag Q0 Wt) (fun s hs=>⟨hq s (e4.2 s hs),Ue s (e4.2 s hs)⟩) (fun k hk=>⟨hdst k hk,fun s=>by
       have:=RO R hW k hk (some s)
       exact this⟩) (fun k hk=>RO R hW k hk Option.none) hK hvb
     ·have hmode:=hmm happ
      refine body happ (fun xs f ss Ik args ts hop hxs hf=>.inr ⟨hmode,fun s hs=>?_,RO R hW⟩) hv
      have:s∈R:=by
       apply hin
       rw [hop] at hys ⊢
       simp only [dJ]
       have hy:ys.flatMap SV.ids=(xs++sS ss).flatMap SV.ids:=by
        have:∀(l:List Operand)(xs:List SV)(x:Operand)(v:SV),bJ (ov p q st).aR l=some xs->(ov p q st).aR x=some v->bJ (ov p q st).aR (l++[x])=some (xs++[v]):=by
         intro l
         induction l with
         | nil=>intro xs x v h1 h2;simp only [bJ,Option.some.injEq] at h1;subst h1;simp [bJ,h2]
         | cons o r ih=>
          intro xs x v h1 h2
          simp only [bJ] at h1
          split at h1
          ·rename_i y l' h3 h4
           cases h1
           simp only [List.cons_append,bJ,h3,ih _ x v h4 h2]
          ·cases h1
        simp only [fZ] at hys
        rw [this _ _ _ _ hxs hf] at hys
        cases hys
        simp only [List.flatMap_append]
        congr 1
        simp [sS,SV.ids,C.ids,List.flatMap_map]
       rw [hy]
       exact hs
      exact ⟨hq s this,Ue s this⟩
    ·exact hv.elim
   ·exact hv.elim
  rcases hm with ⟨hc,hm⟩|⟨hc,hm⟩|⟨hc,hm⟩|hc
  ·rw [hc] at hrw
   cases h with
   | own l=>cases hrw
   | free=>exact body (by rw [hc];exact fun h=>by cases h) (fun _ _ _ _ _ _ _ _ _=>.inl hm) hv
  ·rw [hc] at hrw
   cases h with
   | free=>cases hrw
   | own l=>
    simp only [ot,Option.some.injEq,Prod.mk.injEq] at hrw
    exact own l rfl hrw.1.symm hrw.2.symm (.inl hc) (fun _=>.inl hm)
  ·rw [hc] at hrw
   cases h with
   | free=>cases hrw
   | own l=>
    simp only [ot,Option.some.injEq,Prod.mk.injEq] at hrw
    exact own l rfl hrw.1.symm hrw.2.symm (.inr (.inl hc)) (fun _=>.inr hm)
  ·rw [hc] at hrw
   cases h with
   | free=>cases hrw
   | own l=>
    simp only [ot,Option.some.injEq,Prod.mk.injEq] at hrw
    exact own l rfl hrw.1.symm hrw.2.symm (.inr (.inr hc)) (fun h=>absurd hc h)
end Go.Eng
namespace Go.Eng
variable {P:Program} {T:cD} {LF RF:List Nat}
def vf (ops:Array Oper)(o:Oper)(st:St)(k:St->Bool->Prop):Prop:=
 match o.guard with
 | none=>k st true
 | some (j,b)=>match (ops[j]?).bind (·.dst) with
  | none=>False
  | some g=>match st.ao g with
   | some (.c .tt)=>k st b
   | some (.c .ff)=>k st (!b)
   | some (.c (.v (.bool c)))=>(c=true->k (st.put (some g) (.c .tt)) b)/\(c=false->k (st.put (some g) (.c .ff)) (!b))
   | some (.nC _)=>k st false
   | _=>False
def ku (P:Program)(T:cD)(m:CM)(h:Hint)(o:Oper)(V:View)(K:St->View->Prop)(st:St)(w:Bool):Prop:=
 match w with
 | true=>ch P T m h o st V K
 | false=>K (st.put o.dst ib) V
theorem zo {m:CM}{h:Hint}{ops:Array Oper}{o:Oper}{st:St}{V:View}{K:St->View->Prop} :
  oJ P T m h ops o st V K↔vf ops o st (ku P T m h o V K):=by
 unfold oJ vf
 cases hg:o.guard with
 | none=>rfl
 | some jb=>
  obtain ⟨j,b⟩:=jb
  dsimp only
  cases hd:(ops[j]?).bind (·.dst) with
  | none=>rfl
  | some g=>
   dsimp only
   split<;>simp_all<;>cases b<;>rfl
def hJ:Nat->Option aH:=fun _=>none
structure P5 (ops:Array Oper) (o:Oper) (st:St) (k:St->Bool->Prop) (p:Nat->Option SV) (w:Bool):Prop where
 pd:∀t,t∉c_ ops o->p t=none
 next:k (ov p hJ st) w
 again:∀(st2:St)(k2:St->Bool->Prop),(∀t∈c_ ops o,st2.ao t=st.ao t)->k2 (ov p hJ st2) w->vf ops o st2 k2
theorem eO {ops:Array Oper}{o:Oper}{st:St}{k:St->Bool->Prop}(h:vf ops o st k):∃p w,P5 ops o st k p w:=by
 unfold vf at h
 split at h
 ·rename_i hg
  exact ⟨fun _=>none,true,fun _ _=>rfl,h,fun st2 k2 _ hk=>by unfold vf;rw [hg];exact hk⟩
 ·rename_i j b hg
  split at h
  ·exact h.elim
  ·rename_i g hd
   have hgt:c_ ops o=[g]:=by simp only [c_,hg,hd]
   split at h
   ·rename_i hs
    exact ⟨fun _=>none,b,fun _ _=>rfl,h,fun st2 k2 ha hk=>by unfold vf;simp only [hg,hd,ha g (by simp [hgt]),hs];exact hk⟩
   ·rename_i hs
    exact ⟨fun _=>none,!b,fun _ _=>rfl,h,fun st2 k2 ha hk=>by unfold vf;simp only [hg,hd,ha g (by simp [hgt]),hs];exact hk⟩
   ·rename_i c hs
    cases c with
    | true=>
     refine ⟨one (some g) (.c .tt),b,fun t ht=>cV (by intro e;apply ht;rw [hgt];simpa using e.symm),?_,fun st2 k2 ha hk=>?_⟩
     ·have:=h.1 rfl;rw [dR] at this;exact this
     ·unfold vf;simp only [hg,hd,ha g (by simp [hgt]),hs]
      exact ⟨fun _=>by rw [dR];exact hk,fun e=>by cases e⟩
    | false=>
     refine ⟨one (some g) (.c .ff),!b,fun t ht=>cV (by intro e;apply ht;rw [hgt];simpa using e.symm),?_,fun st2 k2 ha hk=>?_⟩
     ·have:=h.2 rfl;rw [dR] at this;exact this
     ·unfold vf;simp only [hg,hd,ha g (by simp [hgt]),hs]
      exact ⟨fun e=>(by cases e),fun _=>by rw [dR];exact hk⟩
   ·rename_i xs hs
    exact ⟨fun _=>none,false,fun _ _=>rfl,h,fun st2 k2 ha hk=>by unfold vf;simp only [hg,hd,ha g (by simp [hgt]),hs];exact hk⟩
   ·exact h.elim
theorem lD {ops:Array Oper}{o:Oper}{st:St}{k k':St->Bool->Prop}(hk:∀s w,k s w->k' s w)(h:vf ops o st k):vf ops o st k':=by
 obtain ⟨p,w,hO⟩:=eO h
 exact hO.again st k' (fun _ _=>rfl) (hk _ _ hO.next)
theorem put_comm {st:St}{d d':Option Nat}{x y:SV}(h:∀k,d=some k->d'≠some k):(st.put d x).put d' y=(st.put d' y).put d x:=by
 cases d with
 | none=>rfl
 | some d=>
  cases d' with
  | none=>rfl
  | some d'=>
   have hne:d≠d':=fun e=>h d rfl (by rw [e])
   simp only [St.put]
   congr 1
   funext t
   by_cases e:t=d
   ·subst e;simp [Nat.beq_refl,cN hne]
   ·simp [cN e]
theorem CG {ops:Array Oper}{o1 o2:Oper}{st:St}{F:St->Bool->Bool->Prop}(h:vf ops o1 st fun s w1=>vf ops o2 s fun s' w2=>F s' w1 w2) :
  vf ops o2 st fun s w2=>vf ops o1 s fun s' w1=>F s' w1 w2:=by
 by_cases hsh:∃g,c_ ops o1=[g]/\c_ ops o2=[g]
 ·obtain ⟨g,e1,e2⟩:=hsh
  unfold c_ at e1 e2
  split at e1
  ·cases e1
  ·rename_i j1 b1 hg1
   split at e1
   ·rename_i g1 hd1
    cases e1
    split at e2
    ·cases e2
    ·rename_i j2 b2 hg2
     split at e2
     ·rename_i g2 hd2
      cases e2
      unfold vf at h ⊢
      simp only [hg1,hg2,hd1,hd2] at h ⊢
      split at h
      ·rename_i hs;exact h
      ·rename_i hs;exact h
      ·rename_i c hs
       simp only [cK,if_true] at h ⊢
       exact h
      ·rename_i xs hs;exact h
      ·exact h.elim
     ·cases e2
   ·cases e1
 ·obtain ⟨p1,w1,h1⟩:=eO h
  obtain ⟨p2,w2,h2⟩:=eO h1.next
  have Oq:∀o:Oper,c_ ops o=[]\/∃g,c_ ops o=[g]:=by
   intro o;unfold c_
   split
   ·exact .inl rfl
   ·split
    ·exact .inr ⟨_,rfl⟩
    ·exact .inl rfl
  have hdj:∀t,t∈c_ ops o1->t∉c_ ops o2:=by
   intro t ht1 ht2
   rcases Oq o1 with e1|⟨g1,e1⟩
   ·rw [e1] at ht1;cases ht1
   ·rcases Oq o2 with e2|⟨g2,e2⟩
    ·rw [e2] at ht2;cases ht2
    ·rw [e1] at ht1;rw [e2] at ht2
     simp at ht1 ht2
     exact hsh ⟨t,by rw [e1,ht1],by rw [e2,ht2]⟩
  refine h2.again st _ (fun t ht=>?_) (h1.again _ _ (fun t ht=>?_) ?_)
  ·show st.ao t=(ov p1 hJ st).ao t
   simp [ov,h1.pd t (fun h=>hdj t h ht)]
  ·show (ov p2 hJ st).ao t=st.ao t
   simp [ov,h2.pd t (hdj t ht)]
  ·have e:ov p1 hJ (ov p2 hJ st)=ov p2 hJ (ov p1 hJ st):=yR (fun t=>by
    by_cases ht:t∈c_ ops o1
    ·exact .inr (h2.pd t (hdj t ht))
    ·exact .inl (h1.pd t ht)) (fun _=>.inl rfl)
   show F (ov p1 hJ (ov p2 hJ st)) w1 w2
   rw [e]
   exact h2.next
theorem gA {o:Oper}{k:Nat}(h:o.dst=some k):k∈dz o:=by simp [dz,h]
theorem Jk {ops:Array Oper}{m1 m2:CM}{h1 h2:Hint}{o1 o2:Oper}{st:St}{V:View}{K:St->View->Prop}
  (hi:indep LF RF ops h1 h2 o1 o2=true)
  (hm:kY (aU LF RF o2.op)=true\/(aU LF RF o2.op=.call/\m2=.none)\/((aU LF RF o2.op=.jB/\m2=.lend)\/(aU LF RF o2.op=.give/\m2=.give)\/aU LF RF o2.op=.app))
  (hv:oJ P T m1 h1 ops o1 st V fun st1 V1=>oJ P T m2 h2 ops o2 st1 V1 K) :
  oJ P T m2 h2 ops o2 st V fun st2 V2=>oJ P T m1 h1 ops o1 st2 V2 K:=by
 unfold indep at hi
 simp only [Bool.and_eq_true] at hi
 obtain ⟨⟨⟨⟨⟨hq1,hd1⟩,hd2⟩,hg1⟩,hg2⟩,hrw⟩:=hi
 split at hrw
 ·rename_i R1 W1 R2 W2 hr1 hr2
  simp only [Bool.and_eq_true] at hrw
  obtain ⟨⟨NX,NY⟩,Uq⟩:=hrw
  rw [As] at hd1 hd2 hg1 hg2 NX NY Uq
  have Q1:∀k,o2.dst=some k->o1.dst≠some k:=fun k hk hk'=>hd1 k (gA hk') (by simp [gA hk])
  simp only [zo] at hv ⊢
  have sa:vf ops o1 st fun s w1=>vf ops o2 s fun s' w2=>ku P T m1 h1 o1 V (fun s'' dO=>ku P T m2 h2 o2 dO K s'' w2) s' w1:=by
   refine lD (fun s w1 hb=>?_) hv
   cases w1 with
   | true=>
    obtain ⟨p,q,hO⟩:=lT hq1 hr1 hb
    obtain ⟨p2,w2,hG⟩:=eO hO.next
    refine hG.again s _ (fun t ht=>?_) ?_
    ·show s.ao t=(ov p q s).ao t
     simp [ov,hO.pd t (fun h=>hd1 t h (by simp [ht]))]
    ·refine hO.again _ V _ (View.Le.refl V) (fun t ht=>?_) (fun _ _=>rfl) ?_
     ·show (ov p2 hJ s).ao t=s.ao t
      simp [ov,hG.pd t (fun h=>hg2 t h ht)]
     ·rw [yR (q2:=hJ) _ (fun _=>.inr rfl)]
      ·exact hG.next
      ·intro t
       by_cases ht:t∈c_ ops o2
       ·exact .inl (hO.pd t (fun h=>hd1 t h (by simp [ht])))
       ·exact .inr (hG.pd t ht)
   | false=>
    simp only [ku] at hb
    obtain ⟨p2,w2,hG⟩:=eO hb
    have hp:∀k,o1.dst=some k->p2 k=none:=fun k hk=>hG.pd k (fun h=>hd1 k (gA hk) (by simp [h]))
    refine hG.again s _ (fun t ht=>?_) ?_
    ·rw [dR]
     simp [ov,cV (d:=o1.dst) (x:=ib) (t:=t) (fun h=>hd1 t (gA h) (by simp [ht]))]
    ·show ku P T m2 h2 o2 V K ((ov p2 hJ s).put o1.dst ib) w2
     rw [iY hp]
     exact hG.next
  have sb:=CG sa
  have sc:vf ops o2 st fun s w2=>vf ops o1 s fun s' w1=>ku P T m2 h2 o2 V (fun s'' dO=>ku P T m1 h1 o1 dO K s'' w1) s' w2:=by
   refine lD (fun s w2 hb=>lD (fun s' w1 hb=>?_) hb) sb
   cases w1 with
   | true=>
    obtain ⟨p,q,hO⟩:=lT hq1 hr1 hb
    cases w2 with
    | true=>
     refine oV hm hr2 (fun t ht=>hO.pd t (fun h=>hd1 t h (by rcases ht with ht|ht<;>simp [ht]))) (fun s hs=>hO.qd s (fun h=>NX s h hs)) (fun s hs=>hO.qd s (fun h=>Uq s h hs)) (fun s2 V2 hG=>?_) hO.next
     obtain ⟨g1,g2,g3,g4⟩:=hG
     exact hO.again s2 V2 K g1 (fun t ht=>g2 t (fun h=>hd2 t h (by simp [ht]))) (fun s hs=>g3 s (fun h=>NY s h hs)) g4
    | false=>
     refine hO.again _ V K (View.Le.refl V) (fun t ht=>?_) (fun s _=>by cases o2.dst<;>rfl) ?_
     ·rw [dR]
      simp [ov,cV (d:=o2.dst) (x:=ib) (t:=t) (fun h=>hd2 t (gA h) (by simp [ht]))]
     ·have:=hO.next
      simp only [ku] at this
      rw [iY (fun k hk=>hO.pd k (fun h=>hd1 k h (by simp [gA hk])))] at this
      exact this
   | false=>
    cases w2 with
    | true=>
     simp only [ku] at hb ⊢
     rw [dR] at hb
     refine oV hm hr2 (fun t ht=>cV (fun e=>hd1 t (gA e) (by rcases ht with ht|ht<;>simp [ht]))) (fun s hs=>rfl) (fun s hs=>rfl) (fun s2 V2 hG=>?_) hb
     have:=hG.2.2.2
     rw [←dR] at this
     exact this
    | false=>
     simp only [ku] at hb ⊢
     rw [put_comm Q1]
     exact hb
  refine lD (fun s w2 hb=>?_) sc
  cases w2 with
  | true=>
   simp only [ku] at hb ⊢
   obtain ⟨p,w1,hG⟩:=eO hb
   refine oV hm hr2 (fun t ht=>hG.pd t (fun h=>?_)) (fun _ _=>rfl) (fun _ _=>rfl) (fun s2 V2 Wp=>?_) hG.next
   ·rcases ht with ht|ht
    ·exact hg1 t h ht
    ·exact hd2 t ht (by simp [h])
   ·obtain ⟨g1,g2,g3,g4⟩:=Wp
    exact hG.again s2 _ (fun t ht=>g2 t (fun h=>hd2 t h (by simp [ht]))) g4
  | false=>
   simp only [ku] at hb ⊢
   obtain ⟨p,w1,hG⟩:=eO hb
   refine hG.again _ _ (fun t ht=>?_) ?_
   ·rw [dR]
    simp [ov,cV (d:=o2.dst) (x:=ib) (t:=t) (fun h=>hd2 t (gA h) (by simp [ht]))]
   ·have:=hG.next
    rw [iY (fun k hk=>hG.pd k (fun h=>hd2 k (gA hk) (by simp [h])))] at this
    exact this
 ·cases hrw
end Go.Eng
namespace Go.Eng
variable {P:Program} {T:cD} {LF RF:List Nat} {n:Nat} {V0:View} {bf:Ce} {β0:Nat->Nat}
def xR (P:Program)(T:cD)(m:Nat->CM)(hint:Nat->Hint)(ops:Array Oper):Nat->Array Bool->St->View->(St->View->Prop)->Prop
 | 0,listed,st,V,K=>Region.ready .any ops listed=[]/\K st V
 | fuel+1,listed,st,V,K=>(Region.ready .any ops listed=[]->K st V) /\
  ∀i∈Region.ready .any ops listed,∀o,ops[i]?=some o->oJ P T (m i) (hint i) ops o st V fun st' V'=>xR P T m hint ops fuel (listed.setIfInBounds i true) st' V' K
theorem qH (hT:cD.ok P T){m:Nat->CM}{hint:Nat->Hint}{ops:Array Oper}(hd:∀(i:Nat)(o:Oper),ops[i]?=some o->∀d,o.dst=some d->d<n){Q:Exit->Act->World->Prop}{K:St->View->Prop}
  (hK:∀st' β' a' w' V',Mod n V0 bf β0 st' β' a' w' V'->K st' V'->Q .normal a' w') :
  ∀(fuel:Nat)(listed:Array Bool)(st:St)(β:Nat->Nat)(a:Act)(w:World)(V:View),Mod n V0 bf β0 st β a w V->xR P T m hint ops fuel listed st V K->wpAny P .any ops Q fuel listed a w
 | 0,_,_,_,_,_,_,hM,hv=>⟨hv.1,hK _ _ _ _ _ hM hv.2⟩
 | fuel+1,listed,st,β,a,w,V,hM,hv=>by
  refine ⟨fun h=>hK _ _ _ _ _ hM (hv.1 h),fun i hi=>?_⟩
  obtain ⟨-,o,ho,-⟩:=mem_ready.1 hi
  have:=A_ (Q:=Q) (next:=wpAny P .any ops Q fuel (listed.setIfInBounds i true)) hT hM (hd i o ho) (hv.2 i hi o ho) (fun st' β' a' w' V' hM' l_=>qH hT hd hK fuel _ st' β' a' w' V' hM' l_)
  unfold wpOp
  rw [ho]
  dsimp only
  split at this
  ·rename_i hw;rw [if_pos hw];exact .inl this
  ·rename_i hw;rw [if_neg hw];exact this
theorem oT {sc:List Prop}{k k':Prop}(h:k->k')(g:xT sc k):xT sc k':=by
 obtain ⟨h1,h2⟩:=(cT sc _).1 g
 exact (cT sc _).2 ⟨h1,h h2⟩
theorem wJ {s:Nat}{vs:List Value}{k c size bytes:Nat}{ty:TypeId}{d:Nat}{st:St}{V:View}{K K':St->View->Prop}{j:Nat}{xs:List Value}(hk:∀s V',V.Le V'->K s V'->K' s V')
  (h:zS s vs k c size bytes ty d st V K j xs):zS s vs k c size bytes ty d st V K' j xs:=by
 unfold zS at h ⊢
 obtain ⟨h1,h2,h3,h4,h5,h6⟩:=h
 refine ⟨h1,h2,h3,h4,h5,?_⟩
 split at h6
 ·exact h6.elim
 ·exact fun b J spare c' g1 g2=>hk _ _ (View.Le.refl V) (h6 b J spare c' g1 g2)
theorem tN {s:Nat}{vs:List Value}{k c size bytes:Nat}{ty:TypeId}{d:Nat}{st:St}{V:View}{K K':St->View->Prop}{j:Nat}{xs:List Value}(hk:∀s V',V.Le V'->K s V'->K' s V')
  (h:qu s vs k c size bytes ty d st V K j xs):qu s vs k c size bytes ty d st V K' j xs:=by
 unfold qu at h ⊢
 obtain ⟨h1,h2,h3,h4,h5,h6⟩:=h
 refine ⟨h1,h2,h3,h4,h5,?_⟩
 split at h6
 ·exact h6.elim
 ·exact fun spare c' g1 g2=>hk _ _ (View.Le.refl V) (h6 spare c' g1 g2)
theorem wK {vs:List Value}{k c size bytes:Nat}{ty:TypeId}{d:Nat}{st:St}{V:View}{K K':St->View->Prop}{j:Nat}{xs:List Value}(hk:∀s V',V.Le V'->K s V'->K' s V')
  (h:zT vs k c size bytes ty d st V K j xs):zT vs k c size bytes ty d st V K' j xs:=by
 unfold zT at h ⊢
 obtain ⟨h1,h2,h3,h4,h6⟩:=h
 refine ⟨h1,h2,h3,h4,?_⟩
 split at h6
 ·exact h6.elim
 ·exact fun spare c' g1 g2=>hk _ _ (View.Le.refl V) (h6 spare c' g1 g2)
theorem H6 {Q0:Q}{dst:Option Nat}{st:St}{V:View}{K K':St->View->Prop}(hk:∀s V',V.Le V'->K s V'->K' s V')(h:qW Q0 dst st V K):qW Q0 dst st V K':=by
 cases Q0 with
 | fail=>exact h
 | ret sc x=>exact oT (hk _ _ (View.Le.refl V)) h
 | new sc b x=>
  simp only [qW] at h ⊢
  split at h
  ·split at h
   ·rename_i hn;exact oT (hk _ _ (View.Le.refl V)) h
   ·exact h.elim
  ·exact h.elim
 | qV sc s b=>
  simp only [qW] at h ⊢
  split at h
  ·exact oT (hk _ _ (View.Le.refl V)) h
  ·exact h.elim
 | rd a sh=>
  obtain ⟨x,h1,h2⟩:=sh.split h
  exact h2 _ (oe.2 ⟨(oe.1 h1).1,hk _ _ (View.Le.refl V) (oe.1 h1).2⟩)
 | mj vs of size sh=>
  obtain ⟨x,h1,h2⟩:=sh.split h
  exact h2 _ ⟨h1.1,hk _ _ (View.Le.refl V) h1.2⟩
 | pH s vs a c src size bytes ty=>
  simp only [qW] at h ⊢
  split at h
  ·exact h.elim
  ·cases src with
   | inr xs=>exact tN hk h
   | inl ak=>
    obtain ⟨xs,h1,h2,h3⟩:=h
    exact ⟨xs,h1,h2,tN hk h3⟩
 | app old ba vs a c src size bytes ty=>
  simp only [qW] at h ⊢
  split at h
  ·exact h.elim
  ·cases old with
   | some s=>
    dsimp only at h ⊢
    cases src with
    | inr xs=>exact wJ hk h
    | inl ak=>
     obtain ⟨xs,h1,h2,h3⟩:=h
     exact ⟨xs,h1,h2,wJ hk h3⟩
   | none=>
    obtain ⟨vs,g1,g2,g3,g4,h⟩:=h
    refine ⟨vs,g1,g2,g3,g4,?_⟩
    cases src with
    | inr xs=>exact wK hk h
    | inl ak=>
     obtain ⟨xs,h1,h2,h3,h4⟩:=h
     exact ⟨xs,h1,h2,fun e=>hk _ _ (View.Le.refl V) (h3 e),fun e=>wK hk (h4 e)⟩
theorem pM {bx:Nat->Option aH}{β:Nat->Nat}{V:View}:∀{L:List Nat} {k k':Prop},(k->k')->oo bx β V L k->oo bx β V L k'
 | [],_,_,h,g=>h g
 | s::r,k,k',h,g=>by
  simp only [oo] at g ⊢
  split at g
  ·exact fun h1=>pM h (g h1)
  ·exact g.elim
theorem mR {give:Bool}{sh:Sh}{L:List Nat}{mm:Option Nat}{d:Nat}{ety:TypeId}{β:Nat->Nat}{st:St}{V V' dO:View}{K K':St->View->Prop}{r':Value}
  (hm:∀k,mm=some k->k∈L)(hV:V.Le V')(hV2:V.Le dO)(hlv:∀s∈L,∃b,st.boxes s=some b/\(b.live->V'.H (β s)))(hk:∀s V',V.Le V'->K s V'->K' s V')
  (h:bF T give sh L mm d ety β st V' K r' dO):bF T give sh L mm d ety β st V' K' r' dO:=by
 refine kg (p:=fun _=>none) (q:=hJ) (W:=dY mm d::L) (D:=[d]) (fun s hs=>⟨rfl,List.mem_cons_of_mem _ hs⟩) hm ⟨rfl,by simp⟩ ⟨rfl,by simp⟩ hV hV2 hlv (fun s2 V2 hG=>?_) h
 exact hk _ _ hG.1 hG.2.2.2
theorem gE {m:CM}{f:FuncId}{xs:List SV}{ty:TypeId}{dst:Option Nat}{st:St}{V:View}{K K':St->View->Prop}(hk:∀s V',V.Le V'->K s V'->K' s V')
  (h:ew P T m f xs ty dst st V K):ew P T m f xs ty dst st V K':=by
 unfold ew at h ⊢
 split at h
 ·exact h.elim
 ·split at h
  ·split at h
   ·split at h
    ·split at h
     ·exact h.elim
     ·exact fun V' hV=>(h V' hV).mono fun _ dO hle g=>mR (fun k hk=>by cases hk) hV (hV.trans hle) (fun s hs=>absurd hs (by simp)) hk g
    ·exact h.elim
   ·split at h
    ·split at h
     ·exact h.elim
     ·split at h
      ·split at h
       ·split at h
        ·refine fun V' hV=>(h V' hV).mono fun _ dO hle g=>?_
         obtain ⟨b,hb⟩:=g
         obtain ⟨cs,⟨g1,g2,g3,g4⟩,g5⟩:=lO _ hb
         refine ⟨b,g5 _ ⟨g1,g2,g3,hk _ _ ?_ g4⟩⟩
         intro x o hx
         obtain ⟨k1,k2⟩:=(hV.trans hle) x o hx
         obtain ⟨k3,k4⟩:=hV x o hx
         have:=ar k4
         exact ⟨fun h=>h.elim k1 fun h=>by have:=h.1;omega,k2⟩
        ·exact h.elim
       ·exact h.elim
      ·exact h.elim
    ·exact h.elim
   ·exact fun V' hV=>(h V' hV).mono fun _ _ hle g=>Sh.mono g fun x hx=>⟨hx.1,hk _ _ (hV.trans hle) hx.2⟩
  ·split at h
   ·exact h.elim
   ·rename_i hcl
    rename_i L0 s0 r0 hL _
    have mv:∀{give:Bool} {sh:Sh} {mm:Option Nat} {d:Nat} {ety:TypeId} {L:List Nat},(∀k,mm=some k->k∈L) ->
      (∀V':View,V.Le V'->jP L (fun _=>0) fun β=>gk st.boxes β V' L (Acts P f (aG β xs) (V'.lend (L.map (cI st.boxes β V'.w.heap.size))) (bF T give sh L mm d ety β st V' K))) ->
      ∀V':View,V.Le V'->jP L (fun _=>0) fun β=>gk st.boxes β V' L (Acts P f (aG β xs) (V'.lend (L.map (cI st.boxes β V'.w.heap.size))) (bF T give sh L mm d ety β st V' K')):=by
     intro give sh mm d ety L hm h V' hV
     exact eJ (fun β hb=>gZ (fun _ _=>rfl) (fun hH hf=>hf.mono fun _ _ hle g=>mR hm hV ((hV.trans (rN V' _)).trans hle) hH hk g) hb) (h V' hV)
    split at h
    ·exact h.elim
    ·exact h.elim
    ·split at h
     ·split at h
      ·exact h.elim
      ·exact mv (fun k hk=>by cases hk) h
     ·rename_i d ety k h1 h2 h3
      split at h
      ·split at h
       ·exact h.elim
       ·refine mv (fun j hj=>?_) h
        cases hj
        rw [←hL]
        exact dL 3 _ k (bD.2 (tw k (by rw [h2];simp)))
      ·split at h
       ·exact h.elim
       ·split at h
        ·exact h.elim
        ·exact fun V' hV=>eJ (fun β hb=>pM (fun hf=>hf.mono fun _ _ hle g=>mR (fun k hk=>by cases hk) hV (hV.trans hle) (fun s hs=>absurd hs (by simp)) hk g) hb) (h V' hV)
     ·exact h.elim
    ·split at h
     ·exact fun V' hV=>eJ (fun β hb=>gZ (fun _ _=>rfl) (fun _ hf=>hf.mono fun _ _ hle g=>Sh.mono g fun x hx=>⟨hx.1,iJ (p:=fun _=>none) (q:=hJ) (W:=_) (fun s hs=>⟨rfl,hs⟩) (fun st' _ _ h3=>hk _ _ (((hV.trans (rN V' _)).trans hle).trans (D4 _)) h3) hx.2⟩) hb) (h V' hV)
     ·rename_i k hmv
      split at h
      ·split at h
       ·exact h.elim
       ·refine mv (fun j hj=>?_) h
        cases hj
        exact G9 hcl k (by rw [hmv];simp)
      ·exact h.elim
     ·exact h.elim
    ·split at h
     ·exact h.elim
     ·exact fun V' hV=>eJ (fun β hb=>pM (fun hf=>hf.mono fun _ _ hle g=>Sh.mono g fun x hx=>⟨hx.1,fun J=>hk _ _ (hV.trans hle) (hx.2 J)⟩) hb) (h V' hV)
theorem qI {m:CM}{f:FuncId}{xs:List SV}{ty:TypeId}{dst:Option Nat}{st:St}{V:View}{K K':St->View->Prop}(hk:∀s V',V.Le V'->K s V'->K' s V')
  (h:je P T m f xs ty dst st V K):je P T m f xs ty dst st V K':=by
 unfold je at h ⊢
 split at h
 ·split at h
  ·exact ⟨fun e=>⟨(h.1 e).1,gE hk (h.1 e).2⟩,fun e=>gE hk (h.2 e)⟩
  ·exact gE hk h
 ·exact gE hk h
theorem oI {m:CM}{o:Oper}{st:St}{V:View}{K K':St->View->Prop}(hk:∀s V',V.Le V'->K s V'->K' s V')(h:cw P T m o st V K):cw P T m o st V K':=by
 unfold cw at h ⊢
 split at h
 ·split at h
  ·split at h
   ·exact qI hk h
   ·exact h.elim
  ·exact h.elim
 ·split at h
  ·split at h
   ·split at h
    ·exact qI hk h
    ·exact h.elim
   ·exact h.elim
  ·exact h.elim
 ·exact H6 hk h
theorem BD {m:CM}{hi:Hint}{o:Oper}{st:St}{V:View}{K K':St->View->Prop}(hk:∀s V',V.Le V'->K s V'->K' s V')(h:ch P T m hi o st V K):ch P T m hi o st V K':=by
 unfold ch at h ⊢
 split at h
 ·exact oI hk h
 ·split at h
  ·split at h
   ·exact oI hk h
   ·exact h.elim
  ·exact h.elim
theorem jL {m:CM}{hi:Hint}{ops:Array Oper}{o:Oper}{st:St}{V:View}{K K':St->View->Prop}(hk:∀s V',V.Le V'->K s V'->K' s V')(h:oJ P T m hi ops o st V K):oJ P T m hi ops o st V K':=by
 rw [zo] at h ⊢
 refine lD (fun s w hb=>?_) h
 cases w with
 | true=>exact BD hk hb
 | false=>exact hk _ _ (View.Le.refl V) hb
def G6 (LF RF:List Nat)(m:CM)(o:Oper):Prop:=
 kY (aU LF RF o.op)=true\/(aU LF RF o.op=.call/\m=.none)\/((aU LF RF o.op=.jB/\m=.lend)\/(aU LF RF o.op=.give/\m=.give)\/aU LF RF o.op=.app)
theorem Hm {m:CM}{h:Hint}{ops:Array Oper}{o:Oper}{st:St}{V:View}{R W:List Nat}(hq:kY (aU LF RF o.op)=true)(hrw:ot (aU LF RF o.op) h (dz o)=some (R,W))
  (hv:oJ P T m h ops o st V fun _ _=>False):False:=by
 rw [zo] at hv
 obtain ⟨p,w,hG⟩:=eO hv
 have:=hG.next
 cases w with
 | true=>obtain ⟨p,q,hO⟩:=lT hq hrw this;exact hO.next
 | false=>exact this
theorem qp {ops:Array Oper}{h1 h2:Hint}{o1 o2:Oper}(hi:indep LF RF ops h1 h2 o1 o2=true) :
  kY (aU LF RF o1.op)=true/\(∃R W,ot (aU LF RF o1.op) h1 (dz o1)=some (R,W))/\∃R W,ot (aU LF RF o2.op) h2 (dz o2)=some (R,W):=by
 unfold indep at hi
 simp only [Bool.and_eq_true] at hi
 obtain ⟨⟨⟨⟨⟨hq1,-⟩,-⟩,-⟩,-⟩,hrw⟩:=hi
 split at hrw
 ·rename_i R1 W1 R2 W2 hr1 hr2
  exact ⟨hq1,⟨_,_,hr1⟩,_,_,hr2⟩
 ·cases hrw
theorem Fa {ops:Array Oper}{i:Nat}{o:Oper}(ho:ops[i]?=some o){h:Hint}{R W:List Nat}(hrw:ot (aU LF RF o.op) h (dz o)=some (R,W)):G6 LF RF (iW LF RF ops i) o:=by
 unfold G6 iW
 rw [ho]
 dsimp only
 generalize aU LF RF o.op=c at hrw
 cases c with
 | odd=>cases h<;>cases hrw
 | gi=>cases h<;>cases hrw
 | call=>exact .inr (.inl ⟨rfl,rfl⟩)
 | jB=>exact .inr (.inr (.inl ⟨rfl,rfl⟩))
 | give=>exact .inr (.inr (.inr (.inl ⟨rfl,rfl⟩)))
 | app=>exact .inr (.inr (.inr (.inr rfl)))
 | _=>exact .inl rfl
section
variable {ops:Array Oper} {hint:Nat->Hint} {anc:Nat->Nat->Prop} {K:St->View->Prop}
theorem BC (hA:∀j o,ops[j]?=some o->∀i,anc j i->∃e∈o.after,Region.binds .any e=true/\(e.on=i\/anc e.on i)){i:Nat}{oi:Oper}(hi:ops[i]?=some oi) :
  ∀(fuel:Nat)(listed:Array Bool)(st:St)(V:View),(∀j,listed.getD j false=true->∀k,anc j k->listed.getD k false=true) ->
   (∀j oj,ops[j]?=some oj->j≠i->listed.getD j true=false->¬anc j i->indep LF RF ops (hint i) (hint j) oi oj=true)->i∈Region.ready .any ops listed ->
   (oJ P T (iW LF RF ops i) (hint i) ops oi st V fun st' V'=>xR P T (iW LF RF ops) hint ops fuel (listed.setIfInBounds i true) st' V' K) ->
   xR P T (iW LF RF ops) hint ops (fuel+1) listed st V K:=by
 have Hg:∀(listed:Array Bool)(j:Nat),(∀j,listed.getD j false=true->∀k,anc j k->listed.getD k false=true)->i∈Region.ready .any ops listed->j∈Region.ready .any ops listed->¬anc j i:=by
  intro listed j hcl hr hj I3
  obtain ⟨hun,-⟩:=mem_ready.1 hr
  have hno:listed.getD i false=true->False:=by
   intro h
   rcases Nat.lt_or_ge i listed.size with h'|h'
   ·simp [h'] at hun h;rw [hun] at h;cases h
   ·simp [h'] at h
  obtain ⟨-,o,ho,hall⟩:=mem_ready.1 hj
  obtain ⟨e,he,hb,h⟩:=hA j o ho i I3
  have h1:=hall e he hb
  rcases h with h|h
  ·rw [h] at h1;exact hno h1
  ·exact hno (hcl _ h1 i h)
 intro fuel
 induction fuel with
 | zero=>
  intro listed st V hcl hfree hr H
  refine ⟨fun h=>(by rw [h] at hr;cases hr),fun j hj o ho=>?_⟩
  by_cases hji:j=i
  ·subst hji;rw [hi] at ho;cases ho;exact H
  ·exfalso
   have I4:=hfree j o ho hji (mem_ready.1 hj).1 (Hg listed j hcl hr hj)
   obtain ⟨q1,⟨R,W,q2⟩,-⟩:=qp I4
   refine Hm q1 q2 (jL (fun s V' _ h=>?_) H)
   have:=ready_mono hj hji
   rw [h.1] at this
   cases this
 | succ fuel ih=>
  intro listed st V hcl hfree hr H
  refine ⟨fun h=>(by rw [h] at hr;cases hr),fun j hj oj hoj=>?_⟩
  by_cases hji:j=i
  ·subst hji;rw [hi] at hoj;cases hoj;exact H
  ·have hnot:=Hg listed j hcl hr hj
   have I4:=hfree j oj hoj hji (mem_ready.1 hj).1 hnot
   obtain ⟨q1,⟨R,W,q2⟩,R',W',q3⟩:=qp I4
   have h1:=jL (fun s V' _ h=>h.2 j (ready_mono hj hji) oj hoj) H
   have h2:=Jk I4 (Fa hoj q3) h1
   refine jL (fun s V' _ h=>?_) h2
   obtain ⟨-,oj',NK,hall⟩:=mem_ready.1 hj
   rw [hoj] at NK
   cases NK
   have hjl:j<ops.size:=by
    rcases Nat.lt_or_ge j ops.size with h'|h'
    ·exact h'
    ·rw [Array.getElem?_eq_none h'] at hoj;cases hoj
   refine ih (listed.setIfInBounds j true) s V' ?_ ?_ (ready_mono hr (Ne.symm hji)) ?_
   ·intro k hk l hl
    by_cases hjk:j=k
    ·subst hjk
     obtain ⟨e,he,hb,h⟩:=hA j oj hoj l hl
     have h1:=hall e he hb
     rcases h with h|h
     ·rw [←h];exact getD_set_true h1
     ·exact getD_set_true (hcl _ h1 l h)
    ·rw [getD_set_ne false hjk] at hk
     exact getD_set_true (hcl k hk l hl)
   ·intro k ok hk hki hun hno
    refine hfree k ok hk hki ?_ hno
    by_cases hjk:j=k
    ·subst hjk;exact (mem_ready.1 hj).1
    ·rw [getD_set_ne true hjk] at hun;exact hun
   ·rw [Array.setIfInBounds_comm _ _ hji]
    exact h
theorem Eu (hA:∀j o,ops[j]?=some o->∀i,anc j i->∃e∈o.after,Region.binds .any e=true/\(e.on=i\/anc e.on i)) :
  ∀(l done:List Nat)(listed:Array Bool)(st:St)(V:View),listed.size=ops.size->(∀j,listed.getD j false=dP j done)->(∀j,j<ops.size->j∈done\/j∈l) ->
   (∀j,listed.getD j false=true->∀k,anc j k->listed.getD k false=true)->og ops done l=true ->
   (∀i r1 r2,l=r1++i::r2->∀j∈r2,anc j i\/∃a b,ops[i]?=some a/\ops[j]?=some b/\indep LF RF ops (hint i) (hint j) a b=true) ->
   H5 P T (iW LF RF ops) hint ops l st V K->xR P T (iW LF RF ops) hint ops l.length listed st V K
 | [],done,listed,st,V,hs,hrel,I0,_,_,_,hv=>by
  refine ⟨?_,hv⟩
  cases hr:Region.ready .any ops listed with
  | nil=>rfl
  | cons x xs=>
   exfalso
   have hx:x∈Region.ready .any ops listed:=by rw [hr];simp
   obtain ⟨h1,o,ho,-⟩:=mem_ready.1 hx
   have hlt:x<ops.size:=by
    rcases Nat.lt_or_ge x ops.size with h'|h'
    ·exact h'
    ·rw [Array.getElem?_eq_none h'] at ho;cases ho
   rcases I0 x hlt with h|h
   ·have h2:=hrel x
    rw [bW.2 h] at h2
    simp [hs,hlt] at h1 h2
    rw [h1] at h2;cases h2
   ·cases h
 | i::r,done,listed,st,V,hs,hrel,I0,hcl,hra,Kp,hv=>by
  simp only [og,Bool.and_eq_true] at hra
  obtain ⟨FJ,hra⟩:=hra
  unfold Dc at FJ
  split at FJ
  ·rename_i oi hoi
   simp only [Bool.and_eq_true,Bool.not_eq_true',List.all_eq_true,Bool.or_eq_true] at FJ
   obtain ⟨Re,Rf⟩:=FJ
   have hil:i<ops.size:=by
    rcases Nat.lt_or_ge i ops.size with h'|h'
    ·exact h'
    ·rw [Array.getElem?_eq_none h'] at hoi;cases hoi
   have hafter:∀e∈oi.after,Region.binds .any e=true->listed.getD e.on false=true:=by
    intro e he hb
    rw [hrel]
    rcases Rf e (by simpa using he) with h|h
    ·rw [hb] at h;cases h
    ·exact h
   have Lw:i∈Region.ready .any ops listed:=by
    refine mem_ready.2 ⟨?_,oi,hoi,hafter⟩
    have:=hrel i
    rw [Re] at this
    simp [hs,hil] at this ⊢
    exact this
   have hcl':∀j,(listed.setIfInBounds i true).getD j false=true->∀k,anc j k->(listed.setIfInBounds i true).getD k false=true:=by
    intro k hk l hl
    by_cases hjk:i=k
    ·subst hjk
     obtain ⟨e,he,hb,h⟩:=hA i oi hoi l hl
     have h1:=hafter e he hb
     rcases h with h|h
     ·rw [←h];exact getD_set_true h1
     ·exact getD_set_true (hcl _ h1 l h)
    ·rw [getD_set_ne false hjk] at hk
     exact getD_set_true (hcl k hk l hl)
   refine BC hA hoi r.length listed st V hcl (fun j oj hoj hji hun hno=>?_) Lw ?_
   ·have hjl:j<ops.size:=by
     rcases Nat.lt_or_ge j ops.size with h'|h'
     ·exact h'
     ·rw [Array.getElem?_eq_none h'] at hoj;cases hoj
    have hjr:j∈r:=by
     rcases I0 j hjl with h|h
     ·exfalso
      have h2:=hrel j
      rw [bW.2 h] at h2
      simp [hs,hjl] at hun h2
      rw [hun] at h2;cases h2
     ·rcases List.mem_cons.1 h with h|h
      ·exact absurd h hji
      ·exact h
    rcases Kp i [] r rfl j hjr with h|⟨a,b,ha,hb,h⟩
    ·exact absurd h hno
    ·rw [hoi] at ha;rw [hoj] at hb;cases ha;cases hb;exact h
   ·simp only [H5,hoi] at hv
    have hrest:∀s V',H5 P T (iW LF RF ops) hint ops r s V' K->xR P T (iW LF RF ops) hint ops r.length (listed.setIfInBounds i true) s V' K:=by
     intro s V' l_
     refine Eu hA r (i::done) (listed.setIfInBounds i true) s V' (by simp [hs]) ?_ ?_ hcl' hra (fun k r1 r2 e j hj=>Kp k (i::r1) r2 (by rw [e];rfl) j hj) l_
     ·intro j
      by_cases hji:i=j
      ·subst hji;simp [dP,Nat.beq_refl,hs,hil]
      ·rw [getD_set_ne false hji,hrel j];simp [dP,cN (Ne.symm hji)]
     ·intro j hj
      rcases I0 j hj with h|h
      ·exact .inl (by simp [h])
      ·rcases List.mem_cons.1 h with h|h
       ·exact .inl (by simp [h])
       ·exact .inr h
    exact jL (fun s V' _ h=>hrest s V' h) hv
  ·cases FJ
end
theorem F0 {m i:Nat}:K3 m i=true↔m.testBit i=true:=by
 unfold K3
 rw [beq_eq,Nat.testBit_eq_decide_div_mod_eq,decide_eq_true_iff]
 show Nat.land (m >>> i) 1=1↔_
 rw [show Nat.land (m >>> i) 1=(m >>> i) &&& 1 from rfl,Nat.and_one_is_mod,Nat.shiftRight_eq_div_pow]
def FU (acc:List Nat)(o:Oper):Nat:=o.after.toList.foldl (fun s e=>cond (Region.binds .any e) (Nat.lor (Nat.lor (Nat.shiftLeft 1 e.on) (acc.getD e.on 0)) s) s) 0
theorem zQ {acc:List Nat}{i:Nat}:∀(es:List Edge)(s:Nat),(es.foldl (fun s e=>cond (Region.binds .any e) (Nat.lor (Nat.lor (Nat.shiftLeft 1 e.on) (acc.getD e.on 0)) s) s) s).testBit i=true ->
  s.testBit i=true\/∃e∈es,Region.binds .any e=true/\(e.on=i\/(acc.getD e.on 0).testBit i=true)
 | [],s,h=>.inl h
 | e::r,s,h=>by
  simp only [List.foldl_cons] at h
  rcases zQ r _ h with h1|⟨e',h1,h2,h3⟩
  ·cases hb:Region.binds .any e with
   | false=>rw [hb] at h1;exact .inl h1
   | true=>
    rw [hb] at h1
    simp only [cond_true] at h1
    have h1:(((1 <<< e.on) ||| (acc.getD e.on 0)) ||| s).testBit i=true:=h1
    rw [Nat.testBit_or,Nat.testBit_or,Bool.or_eq_true,Bool.or_eq_true] at h1
    rcases h1 with (h1|h1)|h1
    ·rw [Nat.shiftLeft_eq,Nat.one_mul,Nat.testBit_two_pow] at h1
     exact .inr ⟨e,by simp,hb,.inl (by simpa using h1)⟩
    ·exact .inr ⟨e,by simp,hb,.inr h1⟩
    ·exact .inl h1
  ·exact .inr ⟨e',by simp [h1],h2,h3⟩
theorem wI:∀(l:List Oper)(acc:List Nat),∃ext,l.foldl (fun acc o=>acc++[FU acc o]) acc=acc++ext/\∀k o,l[k]?=some o->∃pre PO,ext=pre++PO/\ext.getD k 0=FU (acc++pre) o
 | [],acc=>⟨[],by simp,fun k o h=>by simp at h⟩
 | o::r,acc=>by
  obtain ⟨ext,h1,h2⟩:=wI r (acc++[FU acc o])
  refine ⟨FU acc o::ext,by simp [h1],fun k o' h=>?_⟩
  cases k with
  | zero=>
   simp at h
   subst h
   exact ⟨[],_,rfl,by simp⟩
  | succ k=>
   simp at h
   obtain ⟨pre,PO,e1,e2⟩:=h2 k o' h
   exact ⟨FU acc o::pre,PO,by simp [e1],by simpa using e2⟩
theorem Cj {ops:List Oper}(j:Nat)(o:Oper)(ho:ops[j]?=some o):∀i,((EC ops).getD j 0).testBit i=true->∃e∈o.after,Region.binds .any e=true/\(e.on=i\/((EC ops).getD e.on 0).testBit i=true):=by
 intro i hi
 obtain ⟨ext,h1,h2⟩:=wI ops []
 have he:EC ops=ext:=(show EC ops=[]++ext from h1).trans (List.nil_append _)
 obtain ⟨pre,PO,e1,e2⟩:=h2 j o ho
 rw [he,e2] at hi
 rcases zQ _ _ hi with h|⟨e,g1,g2,g3⟩
 ·simp at h
 ·refine ⟨e,by simpa using g1,g2,?_⟩
  rcases g3 with g3|g3
  ·exact .inl g3
  ·right
   simp only [List.nil_append] at g3
   rw [he,e1]
   rcases Nat.lt_or_ge e.on pre.length with h'|h'
   ·simpa [List.getElem?_append_left h'] using g3
   ·simp [h'] at g3
theorem tY {ops:Array Oper}{hs:List Hint}{an:List Nat}:∀{l:List Nat},rP LF RF ops hs an l=true->∀i r1 r2,l=r1++i::r2->∀j∈r2,(an.getD j 0).testBit i=true\/∃a b,ops[i]?=some a/\ops[j]?=some b/\indep LF RF ops (hs.getD i .free) (hs.getD j .free) a b=true
 | [],_,i,r1,r2,e,_,_=>by simp at e
 | x::l,h,i,r1,r2,e,j,hj=>by
  simp only [rP,Bool.and_eq_true,List.all_eq_true] at h
  cases r1 with
  | nil=>
   simp at e
   obtain ⟨rfl,rfl⟩:=e
   have:=h.1 j hj
   rw [Bool.or_eq_true] at this
   rcases this with h1|h1
   ·exact .inl (F0.1 h1)
   ·split at h1
    ·rename_i a b ha hb;exact .inr ⟨a,b,ha,hb,h1⟩
    ·cases h1
  | cons y r1=>
   simp at e
   exact tY h.2 i r1 r2 e.2 j hj
theorem Dj {m:Nat->CM}{hint:Nat->Hint}{ops:Array Oper}:∀{l:List Nat} {st:St} {V:View} {K K':St->View->Prop},(∀s V',V.Le V'->K s V'->K' s V')->H5 P T m hint ops l st V K->H5 P T m hint ops l st V K'
 | [],_,V,_,_,hk,h=>hk _ _ (View.Le.refl V) h
 | i::r,st,V,K,K',hk,h=>by
  simp only [H5] at h ⊢
  split at h
  ·exact jL (fun s V' hle h=>Dj (fun s dO hle' h=>hk s dO (hle.trans hle') h) h) h
  ·exact h.elim
theorem oh {st:St}{β:Nat->Nat}{a:Act}{w:World}{V:View}(hT:cD.ok P T)(hmx:P.follows .mixedOrders=true)(hM:Mod n V0 bf β0 st β a w V){id:Nat}{ops:Array Oper}{draw:Bool}
  (hd:∀(i:Nat)(o:Oper),ops[i]?=some o->∀d,o.dst=some d->d<n){Q:Exit->Act->World->Prop}{K:Exit->St->View->Prop}
  (hv:BE P T LF RF ops draw st V (K .normal))(hK:∀st' β' a' w' V',Mod n V0 bf β0 st' β' a' w' V'->V.Le V'->K .normal st' V'->Q .normal a' w'):(Code.region id ops draw).wp P Q a w:=by
 cases draw with
 | false=>
  simp only [BE] at hv
  exact wp_region (xC (K:=fun s V'=>V.Le V'/\K .normal s V') hT hd (fun st' β' a' w' V' hM' h=>hK st' β' a' w' V' hM' h.1 h.2) _ st β a w V hM (Dj (fun s V' hle h=>⟨hle,h⟩) hv))
 | true=>
  simp only [BE] at hv
  split at hv
  ·rename_i ho
   simp only [Ec,Bool.and_eq_true,List.all_eq_true,List.mem_range] at ho
   obtain ⟨⟨⟨h1,h2⟩,h3⟩,h4⟩:=ho
   refine wp_region_any hmx ?_
   have:=Eu (P:=P) (T:=T) (LF:=LF) (RF:=RF) (ops:=ops) (hint:=fun i=>(ops.toList.map (GG LF RF st ops.toList)).getD i .free) (anc:=fun j i=>((EC ops.toList).getD j 0).testBit i=true) (K:=fun s V'=>V.Le V'/\K .normal s V')
    (fun j o ho=>Cj j o (by simpa using ho)) (mV LF RF ops) [] (Array.replicate ops.size false) st V (by simp) (fun j=>by
     simp only [dP,Array.getD]
     split<;>simp) (fun j hj=>.inr (bW.1 (h2 j hj))) (fun j hj=>by
     exfalso
     simp only [Array.getD] at hj
     split at hj<;>simp at hj) h3 (tY h4) (Dj (fun s V' hle h=>⟨hle,h⟩) hv)
   rw [beq_eq.1 h1] at this
   exact qH hT hd (fun st' β' a' w' V' hM' h=>hK st' β' a' w' V' hM' h.1 h.2) _ _ _ β _ _ _ hM.drew this
  ·exact hv.elim
end Go.Eng
namespace Go.Eng
variable {P:Program} {T:cD} {LF RF:List Nat} {n:Nat} {V0:View} {bf:Ce} {β0:Nat->Nat} {β:Nat->Nat}
theorem cf {c:Bool}{l:List Prop}(h:∀p∈(cond c l [False]),p):c=true/\∀p∈l,p:=by
 cases c with
 | true=>exact ⟨rfl,h⟩
 | false=>exact (h False (by simp)).elim
theorem xd {ρ:List (Nat×Nat)}{β β':Nat->Nat}:∀{ss ts:List Nat},(∀s'∈ts,∀s,mK ρ s s'=true->β' s'=β s)->w_ ρ ss ts=true->ss.map β=ts.map β'
 | [],[],_,_=>rfl
 | s::r,s'::r',hβ,h=>by
  simp only [w_,Bool.and_eq_true] at h
  simp only [List.map_cons]
  rw [hβ s' (by simp) s h.1,xd (fun u hu=>hβ u (by simp [hu])) h.2]
 | [],_::_,_,h=>by simp [w_] at h
 | _::_,[],_,h=>by simp [w_] at h
theorem DW {ρ:List (Nat×Nat)}{β β':Nat->Nat}{a b:C}(hβ:∀s'∈b.ids,∀s,mK ρ s s'=true->β' s'=β s)(h:∀p∈PC ρ a b,p):a.den β=b.den β':=by
 unfold PC at h
 split at h
 ·obtain ⟨h1,h2⟩:=cf h
  have:=xu h1
  have:=h2 _ (List.mem_singleton.2 rfl)
  subst_vars;rfl
 ·have:=h _ (List.mem_singleton.2 rfl);subst this;rfl
 ·have:=h _ (List.mem_singleton.2 rfl);subst this;rfl
 ·have:=h _ (List.mem_singleton.2 rfl);subst this;rfl
 ·rename_i a n c a' n' c'
  have h1:=h (a=a') (by simp)
  have h2:=h (n=n') (by simp)
  have h3:=h (c=c') (by simp)
  subst h1 h2 h3;rfl
 ·rename_i a n c s' n' c'
  have h1:=h (a=none) (by simp)
  have h2:=h (n=n') (by simp)
  have h3:=h (c=c') (by simp)
  have h4:=h (c=0) (by simp)
  subst h1 h2 h3 h4;rfl
 ·have:=h _ (List.mem_singleton.2 rfl);subst this;rfl
 ·have:=h _ (List.mem_singleton.2 rfl);subst this;rfl
 ·have:=h _ (List.mem_singleton.2 rfl);subst this;rfl
 ·have:=h _ (List.mem_singleton.2 rfl);subst this;rfl
 ·have:=h _ (List.mem_singleton.2 rfl);subst this;rfl
 ·rfl
 ·rfl
 ·rename_i s o s' o'
  obtain ⟨h1,h2⟩:=cf h
  have e:=hβ s' (by simp [C.ids]) s h1
  have:=h2 (o=o') (by simp)
  subst_vars;simp only [C.den,e]
 ·rename_i s o n c s' o' n' c'
  obtain ⟨h0,h⟩:=cf h
  have e:=hβ s' (by simp [C.ids]) s h0
  have h1:=h (o=o') (by simp)
  have h2:=h (n=n') (by simp)
  have h3:=h (c=c') (by simp)
  subst_vars;simp only [C.den,e]
 ·rename_i s o n c s' n' c'
  obtain ⟨h0,h⟩:=cf h
  have e:=hβ s' (by simp [C.ids]) s h0
  have h1:=h (o=0) (by simp)
  have h2:=h (n=n') (by simp)
  have h3:=h (c=c') (by simp)
  have h4:=h (c≠0) (by simp)
  subst h1 h2 h3;simp only [C.den,e,mA,h4,if_false]
 ·rename_i s n c s' n' c'
  obtain ⟨h0,h⟩:=cf h
  have e:=hβ s' (by simp [C.ids]) s h0
  have h2:=h (n=n') (by simp)
  have h3:=h (c=c') (by simp)
  subst_vars;simp only [C.den,e]
 ·rename_i f ss g ts
  obtain ⟨h0,h⟩:=cf h
  have h1:=h (f=g) (by simp)
  have e:ss.map β=ts.map β':=xd (β:=β) (β':=β') (ts:=ts) (fun s' hs=>hβ s' hs) h0
  subst h1
  have e2:(ss.map fun s=>Value.pointer (some ⟨β s,0,none⟩))=ts.map fun s=>Value.pointer (some ⟨β' s,0,none⟩):=by
   have:=congrArg (List.map fun b=>Value.pointer (some ⟨b,0,none⟩)) e
   simpa [List.map_map,Function.comp_def] using this
  simp only [C.den,e2]
 ·exact (h False (by simp)).elim
theorem tm {ρ:List (Nat×Nat)}{β β':Nat->Nat}:∀{l m:List C},(∀s'∈m.flatMap C.ids,∀s,mK ρ s s'=true->β' s'=β s)->(∀p∈CB ρ l m,p)->l.map (C.den β)=m.map (C.den β')
 | [],[],_,_=>rfl
 | a::r,b::s,hβ,h=>by
  simp only [CB,List.mem_append] at h
  simp only [List.map_cons]
  rw [DW (fun u hu=>hβ u (by simp [hu])) fun p hp=>h p (.inl hp),tm (fun u hu=>hβ u (by rw [List.flatMap_cons];exact List.mem_append_right _ hu)) fun p hp=>h p (.inr hp)]
 | [],_::_,_,h=>(h False (by simp [CB])).elim
 | _::_,[],_,h=>(h False (by simp [CB])).elim
theorem Gt {ρ:List (Nat×Nat)}{β β':Nat->Nat}{a b:SV}(hβ:∀s'∈b.ids,∀s,mK ρ s s'=true->β' s'=β s)(h:∀p∈Lb ρ a b,p):a.den β=b.den β':=by
 unfold Lb at h
 split at h
 ·exact DW hβ h
 ·simp only [SV.den];rw [tm hβ h]
 ·exact (h False (by simp)).elim
theorem EU {ρ:List (Nat×Nat)}{β β':Nat->Nat}{a b:aH}(hβ:∀s'∈b.cs.ids,∀s,mK ρ s s'=true->β' s'=β s)(h:∀p∈Gs ρ a b,p):a.obj β=b.obj β'/\(b.live->a.live):=by
 unfold Gs at h
 obtain ⟨ac,at'⟩:=a
 obtain ⟨bc,bt⟩:=b
 dsimp only at h
 split at h
 ·obtain ⟨h1,h2⟩:=cf h
  simp only [aH.obj,Cells.den]
  rw [tm hβ h2,beq_eq.1 h1]
  exact ⟨rfl,fun _=>ck⟩
 ·obtain ⟨h1,h2⟩:=cf h
  have:=h2 _ (List.mem_singleton.2 rfl)
  subst this
  simp only [aH.obj,Cells.den]
  rw [beq_eq.1 h1]
  exact ⟨rfl,fun _=>bV⟩
 ·obtain ⟨h1,h2⟩:=cf h
  have:=h2 _ (List.mem_singleton.2 rfl)
  subst this
  simp only [aH.obj,Cells.den]
  rw [beq_eq.1 h1]
  exact ⟨rfl,fun l=>l⟩
 ·obtain ⟨h1,h2⟩:=cf h
  have:=h2 _ (List.mem_singleton.2 rfl)
  subst this
  simp only [aH.obj,Cells.den]
  rw [beq_eq.1 h1]
  exact ⟨rfl,fun _=>bV⟩
 ·split at h
  ·rename_i ws hws
   obtain ⟨h1,h2⟩:=cf h
   have:=h2 _ (List.mem_singleton.2 rfl)
   subst this
   simp only [aH.obj,Cells.den]
   rw [(eW (β:=β) hws).1,beq_eq.1 h1]
   exact ⟨rfl,fun _=>ck⟩
  ·exact (h False (by simp)).elim
 ·exact (h False (by simp)).elim
theorem bR {α:Type}:∀{l:List (Nat×α)} {t:Nat} {x:α},au l t=some x->(t,x)∈l
 | [],_,_,h=>by cases h
 | (s,y)::r,t,x,h=>by
  simp only [au] at h
  by_cases e:t=s
  ·subst e;rw [Nat.beq_refl] at h;cases h;simp
  ·rw [cN e] at h;exact List.mem_cons_of_mem _ (bR h)
theorem eZ {α:Type}:∀{l:List (Nat×α)} {t:Nat},t∈l.map (·.1)->∃x,au l t=some x
 | [],_,h=>by simp at h
 | (s,y)::r,t,h=>by
  simp only [au]
  by_cases e:t=s
  ·subst e;rw [Nat.beq_refl];exact ⟨_,rfl⟩
  ·rw [cN e]
   exact eZ (by simpa [e] using h)
theorem xh {ρ:List (Nat×Nat)}{β β':Nat->Nat}{st:St}:∀{l:List (Nat×SV)},(∀t x,(t,x)∈l->∀s'∈x.ids,∀s,mK ρ s s'=true->β' s'=β s)->(∀p∈IM ρ st l,p)->∀t x,(t,x)∈l->∃y,st.ao t=some y/\y.den β=x.den β'
 | [],_,_,_,_,h=>nomatch h
 | (s,z)::r,hβ,h,t,x,hm=>by
  simp only [IM] at h
  split at h
  ·rename_i y hy
   simp only [List.mem_append] at h
   rcases List.mem_cons.1 hm with e|hm
   ·cases e;exact ⟨y,hy,Gt (hβ _ _ List.mem_cons_self) fun p hp=>h p (.inl hp)⟩
   ·exact xh (fun t x h=>hβ t x (by simp [h])) (fun p hp=>h p (.inr hp)) t x hm
  ·exact (h False (by simp)).elim
theorem xg {ρ:List (Nat×Nat)}{β β':Nat->Nat}{st:St}:∀{l:List (Nat×aH)},(∀t x,(t,x)∈l->∀s'∈x.cs.ids,∀s,mK ρ s s'=true->β' s'=β s)->(∀p∈EX ρ st l,p)->∀t x,(t,x)∈l->x.live ->
  t∈k_ ρ l/\∃y,st.boxes (ze ρ t)=some y/\y.obj β=x.obj β'/\y.live
 | [],_,_,_,_,h,_=>nomatch h
 | (s,z)::r,hβ,h,t,x,hm,hl=>by
  have W4:∀t x,(t,x)∈r->∀s'∈x.cs.ids,∀s,mK ρ s s'=true->β' s'=β s:=fun t x h=>hβ t x (by simp [h])
  have tail:(∀p∈EX ρ st r,p)->(t,x)∈r->t∈k_ ρ ((s,z)::r)/\∃y,st.boxes (ze ρ t)=some y/\y.obj β=x.obj β'/\y.live:=by
   intro h hm
   obtain ⟨h1,h2⟩:=xg W4 h t x hm hl
   refine ⟨?_,h2⟩
   unfold k_
   split
   ·split
    ·exact List.mem_cons_of_mem _ h1
    ·exact h1
   ·exact List.mem_cons_of_mem _ h1
  simp only [EX] at h
  split at h
  ·rename_i l0 hcs hal
   rcases List.mem_cons.1 hm with e|hm
   ·cases e
    have:=h (l0=[]) (by simp)
    subst this
    exact absurd (hl [] hcs) (by simp)
   ·exact tail (fun p hp=>h p (List.mem_cons_of_mem _ hp)) hm
  ·rename_i hne
   split at h
   ·rename_i y hy
    simp only [List.mem_append] at h
    rcases List.mem_cons.1 hm with e|hm
    ·cases e
     obtain ⟨h1,h2⟩:=EU (hβ _ _ List.mem_cons_self) fun p hp=>h p (.inl hp)
     refine ⟨?_,y,hy,h1,h2 hl⟩
     unfold k_
     split
     ·rename_i l0 hcs
      split
      ·simp
      ·rename_i hal;exact absurd hal (hne l0 hcs)
     ·simp
    ·exact tail (fun p hp=>h p (.inr hp)) hm
   ·exact (h False (by simp)).elim
theorem Bp {ρ:List (Nat×Nat)}:∀{l:List (Nat×aH)} {t:Nat} {x:aH},(t,x)∈l->(∃s,au ρ t=some s)->t∈k_ ρ l
 | [],_,_,h,_=>nomatch h
 | (s,z)::r,t,x,hm,ha=>by
  rcases List.mem_cons.1 hm with e|hm
  ·cases e
   unfold k_
   split
   ·obtain ⟨s,hs⟩:=ha
    rw [hs];simp
   ·simp
  ·have:=Bp hm ha
   unfold k_
   split
   ·split
    ·exact List.mem_cons_of_mem _ this
    ·exact this
   ·exact List.mem_cons_of_mem _ this
theorem uf {ρ:List (Nat×Nat)}:∀{l:List Nat},xK ρ l=true->(∀t∈l,(t<100000↔ze ρ t<100000)/\(100000<=t->t<200000->ze ρ t=t))/\∀t∈l,∀t'∈l,ze ρ t=ze ρ t'->t=t'
 | [],_=>⟨fun t h=>(nomatch h),fun t h=>(nomatch h)⟩
 | t::r,h=>by
  simp only [xK,Bool.and_eq_true,List.all_eq_true] at h
  obtain ⟨⟨⟨h1,h2⟩,h3⟩,h4⟩:=h
  obtain ⟨i1,i2⟩:=uf h4
  have hlt:∀a b:Nat,Nat.blt a b=true↔a<b:=fun a b=>by rw [Nat.blt_eq]
  have k1:t<100000↔ze ρ t<100000:=by
   rw [←hlt,←hlt,beq_iff_eq.1 h1]
  have k2:100000<=t->t<200000->ze ρ t=t:=by
   intro g1 g2
   simp only [Bool.or_eq_true] at h2
   rcases h2 with (h2|h2)|h2
   ·rw [hlt] at h2;omega
   ·have:=Nat.le_of_ble_eq_true h2;omega
   ·exact beq_eq.1 h2
  have k3:∀u∈r,ze ρ t≠ze ρ u:=by
   intro u hu e
   have:=h3 u hu
   rw [e,Nat.beq_refl] at this
   cases this
  refine ⟨fun u hu=>?_,fun u hu v hv e=>?_⟩
  ·rcases List.mem_cons.1 hu with rfl|hu
   ·exact ⟨k1,k2⟩
   ·exact i1 u hu
  ·rcases List.mem_cons.1 hu with hu|hu<;>rcases List.mem_cons.1 hv with hv|hv
   ·rw [hu,hv]
   ·rw [hu] at e;exact absurd e (k3 v hv)
   ·rw [hv] at e;exact absurd e.symm (k3 u hu)
   ·exact i2 u hu v hv e
theorem uw {ss:List (Nat×SV)}{bs:List (Nat×aH)}(h:lu ss bs=true) :
  (∀t x,au ss t=some x->∀s∈x.ids,∃b,au bs s=some b)/\(∀t x,au bs t=some x->∀s∈x.cs.ids,∃b,au bs s=some b):=by
 unfold lu at h
 simp only [Bool.and_eq_true,List.all_eq_true] at h
 refine ⟨fun t x hx s hs=>eZ (bW.1 (h.1 _ (bR hx) s hs)),fun t x hx s hs=>eZ (bW.1 (h.2 _ (bR hx) s hs))⟩
theorem wH:∀{l:List Prop},KY l->∀p∈l,p
 | [],_,_,h=>nomatch h
 | [q],h,p,hp=>by rw [List.mem_singleton.1 hp];exact h
 | q::r::s,h,p,hp=>by
  rcases List.mem_cons.1 hp with e|e
  ·rw [e];exact h.1
  ·exact wH h.2 p e
theorem gV {st:St}{a:Act}{w:World}{V:View}(hM:Mod n V0 bf β0 st β a w V){A:KO}{x:A.τ}{k:Prop}(ht:lu (A.ao x) (A.boxes x)=true)(h:A.fits st x k):(∃β',Mod n V0 bf β0 (A.st x) β' a w V)/\k:=by
 unfold KO.fits at h
 dsimp only at h
 generalize HJ st (A.ao x) (A.boxes x)=ρ at h
 obtain ⟨h1,h2⟩:=h
 refine ⟨?_,h2⟩
 replace h1:=wH h1
 obtain ⟨t1,t2⟩:=uw ht
 have hR:xK ρ (k_ ρ (A.boxes x))=true:=by
  have:=fun p hp=>h1 p (List.mem_append_right _ hp)
  unfold Ns at this
  cases hc:xK ρ (k_ ρ (A.boxes x)) with
  | true=>rfl
  | false=>rw [hc] at this;exact (this False (by simp)).elim
 obtain ⟨r1,r2⟩:=uf hR
 let β':Nat->Nat:=fun t=>if t∈k_ ρ (A.boxes x) then β (ze ρ t) else β t
 have hin:∀t,t∈k_ ρ (A.boxes x)->β' t=β (ze ρ t):=fun t h=>if_pos h
 have hβ:∀s',(∃b,au (A.boxes x) s'=some b)->∀s,mK ρ s s'=true->β' s'=β s:=by
  rintro s' ⟨b,hb⟩ s he
  unfold mK at he
  split at he
  ·rename_i u hu
   have e:=beq_eq.1 he
   subst e
   rw [hin s' (Bp (bR hb) ⟨_,hu⟩)]
   simp only [ze,hu]
  ·rename_i hu
   have e:=beq_eq.1 he
   subst e
   by_cases hm:s∈k_ ρ (A.boxes x)
   ·rw [hin s hm];simp only [ze,hu]
   ·exact if_neg hm
 have Rr:∀t y,(t,y)∈A.ao x->∀s∈y.ids,∃b,au (A.boxes x) s=some b:=by
  intro t y hy s hs
  unfold lu at ht
  simp only [Bool.and_eq_true,List.all_eq_true] at ht
  exact eZ (bW.1 (ht.1 _ hy s hs))
 have Rq:∀t y,(t,y)∈A.boxes x->∀s∈y.cs.ids,∃b,au (A.boxes x) s=some b:=by
  intro t y hy s hs
  unfold lu at ht
  simp only [Bool.and_eq_true,List.all_eq_true] at ht
  exact eZ (bW.1 (ht.2 _ hy s hs))
 have fs:=xh (ρ:=ρ) (β:=β) (β':=β') (st:=st) (l:=A.ao x) (fun t y hy s hs=>hβ s (Rr t y hy s hs)) fun p hp=>h1 p (List.mem_append_left _ (List.mem_append_left _ hp))
 have fb:=xg (ρ:=ρ) (β:=β) (β':=β') (st:=st) (l:=A.boxes x) (fun t y hy s hs=>hβ s (Rq t y hy s hs)) fun p hp=>h1 p (List.mem_append_left _ (List.mem_append_right _ hp))
 refine ⟨β',hM.defers,hM.size,?_,t1,t2,?_,?_,hM.my,?_,hM.ext,?_,?_,hM.iT,hM.small⟩
 ·intro t y hy
  obtain ⟨z,hz,hd⟩:=fs t y (bR hy)
  rw [hM.ao t z hz,hd]
 ·intro s b hb l
  obtain ⟨hr,z,hz,hd,hl⟩:=fb s b (bR hb) l
  rw [hin s hr,hM.boxes _ z hz hl,hd]
 ·intro s s' b b' hb l hb' l' he
  obtain ⟨hr,z,hz,hd,hl⟩:=fb s b (bR hb) l
  obtain ⟨hr',z',hz',hd',hl'⟩:=fb s' b' (bR hb') l'
  rw [hin s hr,hin s' hr'] at he
  exact r2 s hr s' hr' (hM.inj _ _ z z' hz hl hz' hl' he)
 ·intro s b hb l
  obtain ⟨hr,z,hz,hd,hl⟩:=fb s b (bR hb) l
  rw [hin s hr]
  exact hM.qS _ z hz hl
 ·intro s b hb l
  obtain ⟨hr,z,hz,hd,hl⟩:=fb s b (bR hb) l
  rw [hin s hr]
  refine (hM.own _ z hz hl).imp id fun h=>⟨?_,h.2⟩
  have:=(r1 s hr).1
  omega
 ·intro s hs
  obtain ⟨g1,g2⟩:=hM.jQ s hs
  refine ⟨g1,?_⟩
  by_cases hm:s∈k_ ρ (A.boxes x)
  ·rw [hin s hm,(r1 s hm).2 g1.1 g1.2];exact g2
  ·exact (if_neg hm:β' s=β s).trans g2
theorem Cy (hT:cD.ok P T)(hmx:P.follows .mixedOrders=true){L J:zO}:∀(c:Code)(st:St)(β:Nat->Nat)(a:Act)(w:World)(V:View)(K:Exit->St->View->Prop)(Q:Exit->Act->World->Prop),
  Mod n V0 bf β0 st β a w V->fV n c=true->vc P T LF RF L J c st V K->(∀e st' β' a' w' V',Mod n V0 bf β0 st' β' a' w' V'->V.Le V'->K e st' V'->Q e a' w')->c.wp P Q a w:=by
 intro c
 induction c with
 | skip=>intro st β a w V K Q hM _ hv hK;exact wp_skip (hK _ _ _ _ _ _ hM (View.Le.refl V) hv)
 | region id ops draw=>
  intro st β a w V K Q hM hb hv hK
  have hd:∀(i:Nat)(o:Oper),ops[i]?=some o->∀d,o.dst=some d->d<n:=by
   intro i o ho d hd
   simp only [fV,List.all_eq_true] at hb
   have:=hb o (by rw [←Array.getElem?_toList] at ho;exact List.mem_of_getElem? ho)
   rw [hd] at this
   simp only [Nat.blt_eq] at this
   exact this
  simp only [vc] at hv
  split at hv
  ·obtain ⟨st1,V1,hM1,hle1,hv1⟩:=hM.release hv
   exact oh hT hmx hM1 hd hv1 (fun st' β' a' w' V' hM' hle hk=>hK _ _ _ _ _ _ hM' (hle1.trans hle) hk)
  ·rename_i A hA
   obtain ⟨I,hv,hj⟩:=hv
   obtain ⟨st1,V1,hM1,hle1,hv1⟩:=hM.release hv
   refine oh (K:=fun _ s V'=>∃x,(A.at st).fits s x (I x V')) hT hmx hM1 hd hv1 (fun st' β' a' w' V' hM' hle hk=>?_)
   obtain ⟨x,hf⟩:=hk
   have hinv:I x V':=hf.2
   obtain ⟨h1,h2⟩:=hj x V' (hle1.trans hle) hinv
   obtain ⟨β2,hM2⟩:=(gV hM' h1 hf).1
   exact hK _ _ _ _ _ _ hM2 (hle1.trans hle) h2
 | seq x y Kt ihy=>
  intro st β a w V K Q hM hb hv hK
  simp only [fV,Bool.and_eq_true] at hb
  refine wp_seq (Kt st β a w V _ _ hM hb.1 hv ?_)
  intro e st' β' a' w' V' hM' hle hk
  cases e with
  | normal=>exact ihy st' β' a' w' V' K Q hM' hb.2 hk (fun e s b a w dO h1 h2 h3=>hK e s b a w dO h1 (hle.trans h2) h3)
  | _=>exact hK _ _ _ _ _ _ hM' hle hk
 | cond c x y Kt ihy=>
  intro st β a w V K Q hM hb hv hK
  simp only [fV,Bool.and_eq_true] at hb
  simp only [vc] at hv
  split at hv
  ·split at hv
   ·rename_i hc
    exact wp_cond_true (hM.eval hc) (Kt st β a w V K Q hM hb.1 hv hK)
   ·rename_i hc
    exact wp_cond_false (hM.eval hc) (ihy st β a w V K Q hM hb.2 hv hK)
   ·rename_i t hc
    exact wp_cond_split (hM.eval hc) (fun ht=>Kt st β a w V K Q hM hb.1 (hv.1 ht) hK) (fun ht=>ihy st β a w V K Q hM hb.2 (hv.2 ht) hK)
   ·exact hv.elim
  ·rename_i A hA
   split at hv
   ·rename_i hc
    exact wp_cond_true (hM.eval hc) (Kt st β a w V K Q hM hb.1 hv hK)
   ·rename_i hc
    exact wp_cond_false (hM.eval hc) (ihy st β a w V K Q hM hb.2 hv hK)
   ·rename_i t hc
    obtain ⟨I,⟨hx,hy⟩,hj⟩:=hv
    have join:∀e st' β' a' w' V',Mod n V0 bf β0 st' β' a' w' V'->V.Le V'->(match e with|.normal=>∃x,(A.at st).fits st' x (I x V')|e=>K e st' V')->Q e a' w':=by
     intro e st' β' a' w' V' hM' hle hk
     cases e with
     | normal=>
      obtain ⟨x,hf⟩:=hk
      have hinv:I x V':=hf.2
      obtain ⟨h1,h2⟩:=hj x V' hle hinv
      obtain ⟨β2,hM2⟩:=(gV hM' h1 hf).1
      exact hK _ _ _ _ _ _ hM2 hle h2
     | _=>exact hK _ _ _ _ _ _ hM' hle hk
    exact wp_cond_split (hM.eval hc) (fun ht=>Kt st β a w V _ Q hM hb.1 (hx ht) join) (fun ht=>ihy st β a w V _ Q hM hb.2 (hy ht) join)
   ·exact hv.elim
 | block id x ih=>
  intro st β a w V K Q hM hb hv hK
  simp only [vc] at hv
  split at hv
  ·refine wp_block (ih st β a w V _ _ hM hb hv ?_)
   intro e st' β' a' w' V' hM' hle hk
   cases e with
   | normal=>exact hK _ _ _ _ _ _ hM' hle hk
   | exit i=>
    simp only [Exit.inBlock]
    dsimp only at hk
    by_cases e:i=id
    ·subst e
     rw [Nat.beq_refl] at hk
     simp only [if_true]
     exact hK _ _ _ _ _ _ hM' hle hk
    ·rw [cN e] at hk
     rw [if_neg e]
     exact hK _ _ _ _ _ _ hM' hle hk
   | _=>exact hK _ _ _ _ _ _ hM' hle hk
  ·rename_i A hA
   obtain ⟨I,hv,hj⟩:=hv
   refine wp_block (ih st β a w V _ _ hM hb hv ?_)
   intro e st' β' a' w' V' hM' hle hk
   have join:(∃x,(A.at st).fits st' x (I x V'))->Q .normal a' w':=by
    rintro ⟨x,hf⟩
    have hinv:I x V':=hf.2
    obtain ⟨h1,h2⟩:=hj x V' hle hinv
    obtain ⟨β2,hM2⟩:=(gV hM' h1 hf).1
    exact hK _ _ _ _ _ _ hM2 hle h2
   cases e with
   | normal=>exact join hk
   | exit i=>
    simp only [Exit.inBlock]
    dsimp only at hk
    by_cases e:i=id
    ·subst e
     rw [Nat.beq_refl] at hk
     simp only [if_true]
     exact join hk
    ·rw [cN e] at hk
     rw [if_neg e]
     exact hK _ _ _ _ _ _ hM' hle hk
   | _=>exact hK _ _ _ _ _ _ hM' hle hk
 | loop x ih=>
  intro st β a w V K Q hM hb hv hK
  simp only [vc] at hv
  split at hv
  ·refine wp_loop_ghost (fun m a w=>∃st β V',Mod n V0 bf β0 st β a w V'/\V.Le V'/\SI (fun st V K=>vc P T LF RF L J x st V K) m st V' K) 3 ⟨st,β,V,hM,View.Le.refl V,hv⟩ ?_
   rintro m a w ⟨st',β',V',hM',hle,hu⟩
   cases m with
   | zero=>exact hu.elim
   | succ m=>
    refine ih st' β' a w V' _ _ hM' hb hu ?_
    intro e HU S0 a'' w'' dO Aw hle' hk
    cases e with
    | normal=>exact ⟨m,Nat.lt_succ_self m,HU,S0,dO,Aw,hle.trans hle',hk⟩
    | _=>exact hK _ _ _ _ _ _ Aw (hle.trans hle') hk
  ·rename_i A hA
   split at hv
   ·obtain ⟨I,ms,⟨x0,hf0⟩,hr⟩:=hv
    have AB:I x0 V:=hf0.2
    refine wp_loop_ghost (fun m a w=>∃x β V',Mod n V0 bf β0 ((A.at st).st x) β a w V'/\V.Le V'/\I x V'/\ms x=m) (ms x0) ?_ ?_
    ·obtain ⟨β2,hM2⟩:=(gV hM (hr x0 V (View.Le.refl V) AB).1 hf0).1
     exact ⟨x0,β2,V,hM2,View.Le.refl V,AB,rfl⟩
    ·rintro m a w ⟨x,β,V',hM',hle,hinv,rfl⟩
     refine ih ((A.at st).st x) β a w V' _ _ hM' hb (hr x V' hle hinv).2 ?_
     intro e HU S0 a'' w'' dO Aw hle' hk
     cases e with
     | normal=>
      obtain ⟨y,hlt,hf⟩:=hk
      have AA:I y dO:=hf.2
      obtain ⟨β2,hM2⟩:=(gV Aw (hr y dO (hle.trans hle') AA).1 hf).1
      exact ⟨ms y,hlt,y,β2,dO,hM2,hle.trans hle',AA,rfl⟩
     | _=>exact hK _ _ _ _ _ _ Aw (hle.trans hle') hk
   ·obtain ⟨I,⟨x0,k0,hf0⟩,hr⟩:=hv
    have AB:I x0 k0 V:=hf0.2
    refine wp_loop_ghost (fun m a w=>∃x β V',Mod n V0 bf β0 ((A.at st).st x) β a w V'/\V.Le V'/\I x m V') k0 ?_ ?_
    ·obtain ⟨β2,hM2⟩:=(gV hM (hr x0 k0 V (View.Le.refl V) AB).1 hf0).1
     exact ⟨x0,β2,V,hM2,View.Le.refl V,AB⟩
    ·rintro m a w ⟨x,β,V',hM',hle,hinv⟩
     refine ih ((A.at st).st x) β a w V' _ _ hM' hb (hr x m V' hle hinv).2 ?_
     intro e HU S0 a'' w'' dO Aw hle' hk
     cases e with
     | normal=>
      obtain ⟨y,k',hlt,hf⟩:=hk
      have AA:I y k' dO:=hf.2
      obtain ⟨β2,hM2⟩:=(gV Aw (hr y k' dO (hle.trans hle') AA).1 hf).1
      exact ⟨k',hlt,y,β2,dO,hM2,hle.trans hle',AA⟩
     | _=>exact hK _ _ _ _ _ _ Aw (hle.trans hle') hk
 | exit id=>intro st β a w V K Q hM _ hv hK;exact wp_exit (hK _ _ _ _ _ _ hM (View.Le.refl V) hv)
 | scope x ih=>
  intro st β a w V K Q hM hb hv hK
  simp only [vc] at hv
  refine wp_scope_straight (ih st β a w V _ _ hM hb hv ?_)
  intro e st' β' a' w' V' hM' hle hk
  cases e with
  | goto l=>exact hk.elim
  | _=>exact hK _ _ _ _ _ _ hM' hle hk
 | label l=>intro st β a w V K Q hM _ hv hK;exact wp_label (hK _ _ _ _ _ _ hM (View.Le.refl V) hv)
 | ret=>intro st β a w V K Q hM _ hv hK;exact wp_ret (hK _ _ _ _ _ _ hM (View.Le.refl V) hv)
 | _=>intro st β a w V K Q hM _ hv hK;exact hv.elim
end Go.Eng
