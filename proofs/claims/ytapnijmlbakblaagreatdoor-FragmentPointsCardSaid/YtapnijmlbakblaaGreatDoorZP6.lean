import Derived.Test.YtapnijmlbakblaaGreatDoorZP5
import Derived.Scope
import Derived.Laws.Sem
import Derived.Test.YtapnijmlbakblaaGreatDoorProg
set_option linter.unusedVariables false
open Go.IntKind (i64 u64 u32)
namespace Go.Eng
variable {P:Program} {T:cI} {LF RF:List Nat} {n:Nat} {V0:View} {bw:Ds} {β0:Nat->Nat} {β:Nat->Nat}
theorem bZ {c:Bool}{l:List Prop}(h:∀p∈(cond c l [False]),p):c=true/\∀p∈l,p:=by
 cases c with
 | true=>exact ⟨rfl,h⟩
 | false=>exact (h False (by simp)).elim
theorem yS {ρ:List (Nat×Nat)}{β β':Nat->Nat}:∀{ss ts:List Nat},(∀s'∈ts,∀s,nP ρ s s'=true->β' s'=β s)->yR ρ ss ts=true->ss.map β=ts.map β'
 | [],[],_,_=>rfl
 | s::r,s'::r',hβ,h=>by
  simp only [yR,Qx1] at h;simp only [Qb3];rw [hβ s' (by simp) s h.1,yS (fun u hu=>hβ u (by simp [hu])) h.2]
 | [],_::_,_,h=>by simp [yR] at h
 | _::_,[],_,h=>by simp [yR] at h
theorem Fj {ρ:List (Nat×Nat)}{β β':Nat->Nat}{a b:C}(hβ:∀s'∈b.ids,∀s,nP ρ s s'=true->β' s'=β s)(h:∀p∈Qr ρ a b,p):a.den β=b.den β':=by
 unfold Qr at h;split at h
 ·obtain ⟨d,i⟩:=bZ h;have:=ze d;have:=i _ (Qw3.2 rfl);subst_vars;rfl
 ·have:=h _ (Qw3.2 rfl);subst this;rfl
 ·have:=h _ (Qw3.2 rfl);subst this;rfl
 ·have:=h _ (Qw3.2 rfl);subst this;rfl
 ·rename_i a n c u j k;have d:=h (a=u) (by simp);have i:=h (n=j) (by simp);have l:=h (c=k) (by simp);subst d i l;rfl
 ·rename_i a n c s' j k;have d:=h (a=none) (by simp);have i:=h (n=j) (by simp);have l:=h (c=k) (by simp);have q:=h (c=0) (by simp);subst d i l q;rfl
 ·have:=h _ (Qw3.2 rfl);subst this;rfl
 ·have:=h _ (Qw3.2 rfl);subst this;rfl
 ·have:=h _ (Qw3.2 rfl);subst this;rfl
 ·have:=h _ (Qw3.2 rfl);subst this;rfl
 ·have:=h _ (Qw3.2 rfl);subst this;rfl
 ·rfl
 ·rfl
 ·rename_i s o s' r;obtain ⟨d,i⟩:=bZ h;have e:=hβ s' (by simp [C.ids]) s d;have:=i (o=r) (by simp);subst_vars;simp only [C.den,e]
 ·rename_i s o n c s' r j k;obtain ⟨m,h⟩:=bZ h;have e:=hβ s' (by simp [C.ids]) s m;have d:=h (o=r) (by simp);have i:=h (n=j) (by simp);have l:=h (c=k) (by simp);subst_vars;simp only [C.den,e]
 ·rename_i s o n c s' j k;obtain ⟨m,h⟩:=bZ h;have e:=hβ s' (by simp [C.ids]) s m;have d:=h (o=0) (by simp);have i:=h (n=j) (by simp);have l:=h (c=k) (by simp);have q:=h (c≠0) (by simp);subst d i l;simp only [C.den,e,mA,q,if_false]
 ·rename_i s n c s' j k;obtain ⟨m,h⟩:=bZ h;have e:=hβ s' (by simp [C.ids]) s m;have i:=h (n=j) (by simp);have l:=h (c=k) (by simp);subst_vars;simp only [C.den,e]
 ·rename_i f t g ts;obtain ⟨m,h⟩:=bZ h;have d:=h (f=g) (by simp);have e:t.map β=ts.map β':=yS (β:=β) (β':=β') (ts:=ts) (fun s' v=>hβ s' v) m;subst d
  have w:(t.map fun s=>Value.pointer (some ⟨β s,0,none⟩))=ts.map fun s=>Value.pointer (some ⟨β' s,0,none⟩):=by
   have:=congrArg (List.map fun b=>Value.pointer (some ⟨b,0,none⟩)) e;simpa [Qt8,Function.comp_def] using this
  simp only [C.den,w]
 ·exact (h False (by simp)).elim
theorem uP {ρ:List (Nat×Nat)}{β β':Nat->Nat}:∀{l m:List C},(∀s'∈m.flatMap C.ids,∀s,nP ρ s s'=true->β' s'=β s)->(∀p∈D0 ρ l m,p)->l.map (C.den β)=m.map (C.den β')
 | [],[],_,_=>rfl
 | a::r,b::s,hβ,h=>by
  simp only [D0,Qw1] at h;simp only [Qb3];rw [Fj (fun u hu=>hβ u (by simp [hu])) fun p hp=>h p (.inl hp),uP (fun u hu=>hβ u (by rw [Qw8];exact Qb7 _ hu)) fun p hp=>h p (.inr hp)]
 | [],_::_,_,h=>(h False (by simp [D0])).elim
 | _::_,[],_,h=>(h False (by simp [D0])).elim
theorem H5 {ρ:List (Nat×Nat)}{β β':Nat->Nat}{a b:SV}(hβ:∀s'∈b.ids,∀s,nP ρ s s'=true->β' s'=β s)(h:∀p∈Ms ρ a b,p):a.den β=b.den β':=by
 unfold Ms at h;split at h
 ·exact Fj hβ h
 ·simp only [SV.den];rw [uP hβ h]
 ·exact (h False (by simp)).elim
theorem Gl {ρ:List (Nat×Nat)}{β β':Nat->Nat}{a b:aP}(hβ:∀s'∈b.cs.ids,∀s,nP ρ s s'=true->β' s'=β s)(h:∀p∈H4 ρ a b,p):a.obj β=b.obj β'/\(b.live->a.live):=by
 unfold H4 at h;obtain ⟨ac,at'⟩:=a;obtain ⟨f,g⟩:=b;dsimp only at h;split at h
 ·obtain ⟨c,d⟩:=bZ h;simp only [aP.obj,Cells.den];rw [uP hβ d,beq_eq.1 c];exact ⟨rfl,fun _=>cw⟩
 ·obtain ⟨c,d⟩:=bZ h;have:=d _ (Qw3.2 rfl);subst this;simp only [aP.obj,Cells.den];rw [beq_eq.1 c];exact ⟨rfl,fun _=>cf⟩
 ·obtain ⟨c,d⟩:=bZ h;have:=d _ (Qw3.2 rfl);subst this;simp only [aP.obj,Cells.den];rw [beq_eq.1 c];exact ⟨rfl,fun l=>l⟩
 ·obtain ⟨c,d⟩:=bZ h;have:=d _ (Qw3.2 rfl);subst this;simp only [aP.obj,Cells.den];rw [beq_eq.1 c];exact ⟨rfl,fun _=>cf⟩
 ·split at h
  ·rename_i ws e;obtain ⟨c,d⟩:=bZ h;have:=d _ (Qw3.2 rfl);subst this;simp only [aP.obj,Cells.den];rw [(dT (β:=β) e).1,beq_eq.1 c];exact ⟨rfl,fun _=>cw⟩
  ·exact (h False (by simp)).elim
 ·split at h
  ·rename_i ws e;obtain ⟨c,d⟩:=bZ h;have:=d _ (Qw3.2 rfl);subst this;simp only [aP.obj,Cells.den];rw [(dT (β:=β) e).1,beq_eq.1 c];exact ⟨rfl,fun _=>cw⟩
  ·exact (h False (by simp)).elim
 ·exact (h False (by simp)).elim
theorem bW {α:Type}:∀{l:List (Nat×α)} {t:Nat} {x:α},aC l t=some x->(t,x)∈l
 | [],_,_,h=>by cases h
 | (s,y)::r,t,x,h=>by
  simp only [aC] at h;by_cases e:t=s
  ·subst e;rw [Qz8] at h;cases h;simp
  ·rw [cR e] at h;exact Qq8 _ (bW h)
theorem fk {α:Type}:∀{l:List (Nat×α)} {t:Nat},t∈l.map (·.1)->∃x,aC l t=some x
 | [],_,h=>by simp at h
 | (s,y)::r,t,h=>by
  simp only [aC];by_cases e:t=s
  ·subst e;rw [Qz8];exact ⟨_,rfl⟩
  ·rw [cR e];exact fk (by simpa [e] using h)
theorem yV {ρ:List (Nat×Nat)}{β β':Nat->Nat}{st:St}:∀{l:List (Nat×SV)},(∀t x,(t,x)∈l->∀s'∈x.ids,∀s,nP ρ s s'=true->β' s'=β s)->(∀p∈Kp ρ st l,p)->∀t x,(t,x)∈l->∃y,st.ay t=some y/\y.den β=x.den β'
 | [],_,_,_,_,h=>nomatch h
 | (s,z)::r,hβ,h,t,x,hm=>by
  simp only [Kp] at h;split at h
  ·rename_i y hy;simp only [Qw1] at h;rcases Qq4.1 hm with e|hm
   ·cases e;exact ⟨y,hy,H5 (hβ _ _ Qn0) fun p hp=>h p (.inl hp)⟩
   ·exact yV (fun t x h=>hβ t x (by simp [h])) (fun p hp=>h p (.inr hp)) t x hm
  ·exact (h False (by simp)).elim
theorem yU {ρ:List (Nat×Nat)}{β β':Nat->Nat}{st:St}:∀{l:List (Nat×aP)},(∀t x,(t,x)∈l->∀s'∈x.cs.ids,∀s,nP ρ s s'=true->β' s'=β s)->(∀p∈Gp ρ st l,p)->∀t x,(t,x)∈l->x.live ->
  t∈me ρ l/\∃y,st.boxes (Aw ρ t)=some y/\y.obj β=x.obj β'/\y.live
 | [],_,_,_,_,h,_=>nomatch h
 | (s,z)::r,hβ,h,t,x,hm,hl=>by
  have X5:∀t x,(t,x)∈r->∀s'∈x.cs.ids,∀s,nP ρ s s'=true->β' s'=β s:=fun t x h=>hβ t x (by simp [h])
  have tail:(∀p∈Gp ρ st r,p)->(t,x)∈r->t∈me ρ ((s,z)::r)/\∃y,st.boxes (Aw ρ t)=some y/\y.obj β=x.obj β'/\y.live:=by
   intro h hm;obtain ⟨b,f⟩:=yU X5 h t x hm hl;refine ⟨?_,f⟩;unfold me;split
   ·split
    ·exact Qq8 _ b
    ·exact b
   ·exact Qq8 _ b
  simp only [Gp] at h;split at h
  ·rename_i g a c;rcases Qq4.1 hm with e|hm
   ·cases e;have:=h (g=[]) (by simp);subst this;exact absurd (hl [] a) (by simp)
   ·exact tail (fun p d=>h p (Qq8 _ d)) hm
  ·rename_i i;split at h
   ·rename_i y j;simp only [Qw1] at h;rcases Qq4.1 hm with e|hm
    ·cases e;obtain ⟨b,f⟩:=Gl (hβ _ _ Qn0) fun p d=>h p (.inl d);refine ⟨?_,y,j,b,f hl⟩;unfold me;split
     ·rename_i g a;split
      ·simp
      ·rename_i c;exact absurd c (i g a)
     ·simp
    ·exact tail (fun p d=>h p (.inr d)) hm
   ·exact (h False (by simp)).elim
theorem CA {ρ:List (Nat×Nat)}:∀{l:List (Nat×aP)} {t:Nat} {x:aP},(t,x)∈l->(∃s,aC ρ t=some s)->t∈me ρ l
 | [],_,_,h,_=>nomatch h
 | (s,z)::r,t,x,hm,ha=>by
  rcases Qq4.1 hm with e|hm
  ·cases e;unfold me;split
   ·obtain ⟨s,hs⟩:=ha;rw [hs];simp
   ·simp
  ·have:=CA hm ha;unfold me;split
   ·split
    ·exact Qq8 _ this
    ·exact this
   ·exact Qq8 _ this
theorem vI {ρ:List (Nat×Nat)}:∀{l:List Nat},zq ρ l=true->(∀t∈l,(t<100000↔Aw ρ t<100000)/\(100000<=t->t<200000->Aw ρ t=t))/\∀t∈l,∀t'∈l,Aw ρ t=Aw ρ t'->t=t'
 | [],_=>⟨fun t h=>(nomatch h),fun t h=>(nomatch h)⟩
 | t::r,h=>by
  simp only [zq,Qx1,Qz0] at h;obtain ⟨⟨⟨h1,h2⟩,h3⟩,h4⟩:=h;obtain ⟨i1,i2⟩:=vI h4;have c:∀a b:Nat,Nat.blt a b=true↔a<b:=fun a b=>by rw [Nat.blt_eq]
  have g:t<100000↔Aw ρ t<100000:=by
   rw [←c,←c,beq_iff_eq.1 h1]
  have i:100000<=t->t<200000->Aw ρ t=t:=by
   intro j k;simp only [Qm4] at h2;rcases h2 with (h2|h2)|h2
   ·rw [c] at h2;omega
   ·have:=Qz9 h2;omega
   ·exact beq_eq.1 h2
  have f:∀u∈r,Aw ρ t≠Aw ρ u:=by
   intro u hu e;have:=h3 u hu;rw [e,Qz8] at this;cases this
  refine ⟨fun u hu=>?_,fun u hu v d e=>?_⟩
  ·rcases Qq4.1 hu with rfl|hu
   ·exact ⟨g,i⟩
   ·exact i1 u hu
  ·rcases Qq4.1 hu with hu|hu<;>rcases Qq4.1 d with d|d
   ·rw [hu,d]
   ·rw [hu] at e;exact absurd e (f v d)
   ·rw [d] at e;exact absurd e.symm (f u hu)
   ·exact i2 u hu v d e
theorem vX {ss:List (Nat×SV)}{bs:List (Nat×aP)}(h:mq ss bs=true) :
  (∀t x,aC ss t=some x->∀s∈x.ids,∃b,aC bs s=some b)/\(∀t x,aC bs t=some x->∀s∈x.cs.ids,∃b,aC bs s=some b):=by
 unfold mq at h;simp only [Qx1,Qz0] at h;refine ⟨fun t x a s c=>fk (cj.1 (h.1 _ (bW a) s c)),fun t x a s c=>fk (cj.1 (h.2 _ (bW a) s c))⟩
theorem yw:∀{l:List Prop},Mm l->∀p∈l,p
 | [],_,_,h=>nomatch h
 | [q],h,p,hp=>by rw [Qw3.1 hp];exact h
 | q::r::s,h,p,hp=>by
  rcases Qq4.1 hp with e|e
  ·rw [e];exact h.1
  ·exact yw h.2 p e
theorem iJ {st:St}{a:Act}{w:World}{V:View}(hM:Mod n V0 bw β0 st β a w V){A:Mf}{x:A.τ}{k:Prop}(ht:mq (A.ay x) (A.boxes x)=true)(h:A.fits st x k):(∃β',Mod n V0 bw β0 (A.st x) β' a w V)/\k:=by
 unfold Mf.fits at h;dsimp only at h;generalize Jr st (A.ay x) (A.boxes x)=ρ at h;obtain ⟨r,J⟩:=h;refine ⟨?_,J⟩
 replace r:=yw r
 obtain ⟨t1,t2⟩:=vX ht
 have K:zq ρ (me ρ (A.boxes x))=true:=by
  have:=fun p v=>r p (Qb7 _ v);unfold Ou at this
  cases hc:zq ρ (me ρ (A.boxes x)) with
  | true=>rfl
  | false=>rw [hc] at this;exact (this False (by simp)).elim
 obtain ⟨H,L⟩:=vI K;let β':Nat->Nat:=fun t=>if t∈me ρ (A.boxes x) then β (Aw ρ t) else β t;have c:∀t,t∈me ρ (A.boxes x)->β' t=β (Aw ρ t):=fun t h=>if_pos h
 have hβ:∀d,(∃b,aC (A.boxes x) d=some b)->∀s,nP ρ s d=true->β' d=β s:=by
  rintro d ⟨b,f⟩ s he;unfold nP at he;split at he
  ·rename_i u hu;have e:=beq_eq.1 he;subst e;rw [c d (CA (bW f) ⟨_,hu⟩)];simp only [Aw,hu]
  ·rename_i hu;have e:=beq_eq.1 he;subst e;by_cases hm:s∈me ρ (A.boxes x)
   ·rw [c s hm];simp only [Aw,hu]
   ·exact if_neg hm
 have M:∀t y,(t,y)∈A.ay x->∀s∈y.ids,∃b,aC (A.boxes x) s=some b:=by
  intro t y g s i;unfold mq at ht;simp only [Qx1,Qz0] at ht;exact fk (cj.1 (ht.1 _ g s i))
 have N:∀t y,(t,y)∈A.boxes x->∀s∈y.cs.ids,∃b,aC (A.boxes x) s=some b:=by
  intro t y g s i;unfold mq at ht;simp only [Qx1,Qz0] at ht;exact fk (cj.1 (ht.2 _ g s i))
 have O:=yV (ρ:=ρ) (β:=β) (β':=β') (st:=st) (l:=A.ay x) (fun t y g s i=>hβ s (M t y g s i)) fun p v=>r p (Qk3 _ (Qk3 _ v));have B:=yU (ρ:=ρ) (β:=β) (β':=β') (st:=st) (l:=A.boxes x) (fun t y g s i=>hβ s (N t y g s i)) fun p v=>r p (Qk3 _ (Qb7 _ v));refine ⟨β',hM.defers,hM.size,?_,t1,t2,?_,?_,hM.nD,?_,hM.ext,?_,?_,hM.jD,hM.small⟩
 ·intro t y g;obtain ⟨z,j,q⟩:=O t y (bW g);rw [hM.ay t z j,q]
 ·intro s b f l;obtain ⟨m,z,j,q,o⟩:=B s b (bW f) l;rw [c s m,hM.boxes _ z j o,q]
 ·intro s d b P f l D Q he;obtain ⟨m,z,j,q,o⟩:=B s b (bW f) l;obtain ⟨C,R,E,S,F⟩:=B d P (bW D) Q;rw [c s m,c d C] at he;exact L s m d C (hM.inj _ _ z R j o E F he)
 ·intro s b f l;obtain ⟨m,z,j,q,o⟩:=B s b (bW f) l;rw [c s m];exact hM.s_ _ z j o
 ·intro s b f l;obtain ⟨m,z,j,q,o⟩:=B s b (bW f) l;rw [c s m];refine (hM.own _ z j o).imp id fun h=>⟨?_,h.2⟩;have:=(H s m).1;omega
 ·intro s i;obtain ⟨G,I⟩:=hM.kD s i;refine ⟨G,?_⟩;by_cases hm:s∈me ρ (A.boxes x)
  ·rw [c s hm,(H s hm).2 G.1 G.2];exact I
  ·exact (if_neg hm:β' s=β s).trans I
theorem DZ (hT:cI.ok P T)(hmx:P.follows .mixedOrders=true){L J:Bb}:∀(c:Code)(st:St)(β:Nat->Nat)(a:Act)(w:World)(V:View)(K:Exit->St->View->Prop)(Q:Exit->Act->World->Prop),
  Mod n V0 bw β0 st β a w V->gN n c=true->vc P T LF RF L J c st V K->(∀e st' β' a' w' V',Mod n V0 bw β0 st' β' a' w' V'->V.Le V'->K e st' V'->Q e a' w')->c.wp P Q a w:=by
 intro c
 induction c with
 | skip=>intro st β a w V K Q h _ g j;exact wp_skip (j _ _ _ _ _ _ h (View.Le.refl V) g)
 | region id ops draw=>
  intro st β a w V K Q h r g j
  have Z:∀(i:Nat)(o:Oper),ops[i]?=some o->∀d,o.dst=some d->d<n:=by
   intro i o ho d Z;simp only [gN,Qz0] at r;have:=r o (by rw [←Array.getElem?_toList] at ho;exact Qv1 ho);rw [Z] at this;simp only [Nat.blt_eq] at this;exact this
  simp only [vc] at g;split at g
  ·obtain ⟨a0,V1,F,u,G⟩:=h.release g;exact pL hT hmx F Z G (fun st' β' a' w' V' f hle k=>j _ _ _ _ _ _ f (u.trans hle) k)
  ·rename_i A hA;obtain ⟨I,g,S⟩:=g;obtain ⟨a0,V1,F,u,G⟩:=h.release g;refine pL (K:=fun _ s V'=>∃x,(A.at st).fits s x (I x V')) hT hmx F Z G (fun st' β' a' w' V' f hle k=>?_);obtain ⟨x,v⟩:=k;have hinv:I x V':=v.2;obtain ⟨H,M⟩:=S x V' (u.trans hle) hinv;obtain ⟨β2,q⟩:=(iJ f H v).1;exact j _ _ _ _ _ _ q (u.trans hle) M
 | seq x y NO ihy=>
  intro st β a w V K Q h r g j;simp only [gN,Qx1] at r;refine wp_seq (NO st β a w V _ _ h r.1 g ?_);intro e st' β' a' w' V' f hle k
  cases e with
  | normal=>exact ihy st' β' a' w' V' K Q f r.2 k (fun e s b a w z H M h3=>j e s b a w z H (hle.trans M) h3)
  | _=>exact j _ _ _ _ _ _ f hle k
 | cond c x y NO ihy=>
  intro st β a w V K Q h r g j;simp only [gN,Qx1] at r;simp only [vc] at g;split at g
  ·split at g
   ·rename_i B;exact wp_cond_true (h.eval B) (NO st β a w V K Q h r.1 g j)
   ·rename_i B;exact wp_cond_false (h.eval B) (ihy st β a w V K Q h r.2 g j)
   ·rename_i t B;exact wp_cond_split (h.eval B) (fun N=>NO st β a w V K Q h r.1 (g.1 N) j) (fun N=>ihy st β a w V K Q h r.2 (g.2 N) j)
   ·exact g.elim
  ·rename_i A hA;split at g
   ·rename_i B;exact wp_cond_true (h.eval B) (NO st β a w V K Q h r.1 g j)
   ·rename_i B;exact wp_cond_false (h.eval B) (ihy st β a w V K Q h r.2 g j)
   ·rename_i t B;obtain ⟨I,⟨hx,hy⟩,S⟩:=g
    have join:∀e st' β' a' w' V',Mod n V0 bw β0 st' β' a' w' V'->V.Le V'->(match e with|.normal=>∃x,(A.at st).fits st' x (I x V')|e=>K e st' V')->Q e a' w':=by
     intro e st' β' a' w' V' f hle k
     cases e with
     | normal=>
      obtain ⟨x,v⟩:=k;have hinv:I x V':=v.2;obtain ⟨H,M⟩:=S x V' hle hinv;obtain ⟨β2,q⟩:=(iJ f H v).1;exact j _ _ _ _ _ _ q hle M
     | _=>exact j _ _ _ _ _ _ f hle k
    exact wp_cond_split (h.eval B) (fun N=>NO st β a w V _ Q h r.1 (hx N) join) (fun N=>ihy st β a w V _ Q h r.2 (hy N) join)
   ·exact g.elim
 | block id x ih=>
  intro st β a w V K Q h r g j;simp only [vc] at g;split at g
  ·refine wp_block (ih st β a w V _ _ h r g ?_);intro e st' β' a' w' V' f hle k
   cases e with
   | normal=>exact j _ _ _ _ _ _ f hle k
   | exit i=>
    simp only [Exit.inBlock];dsimp only at k;by_cases e:i=id
    ·subst e;rw [Qz8] at k;simp only [if_true];exact j _ _ _ _ _ _ f hle k
    ·rw [cR e] at k;rw [if_neg e];exact j _ _ _ _ _ _ f hle k
   | _=>exact j _ _ _ _ _ _ f hle k
  ·rename_i A hA;obtain ⟨I,g,S⟩:=g;refine wp_block (ih st β a w V _ _ h r g ?_);intro e st' β' a' w' V' f hle k
   have join:(∃x,(A.at st).fits st' x (I x V'))->Q .normal a' w':=by
    rintro ⟨x,v⟩;have hinv:I x V':=v.2;obtain ⟨H,M⟩:=S x V' hle hinv;obtain ⟨β2,q⟩:=(iJ f H v).1;exact j _ _ _ _ _ _ q hle M
   cases e with
   | normal=>exact join k
   | exit i=>
    simp only [Exit.inBlock];dsimp only at k;by_cases e:i=id
    ·subst e;rw [Qz8] at k;simp only [if_true];exact join k
    ·rw [cR e] at k;rw [if_neg e];exact j _ _ _ _ _ _ f hle k
   | _=>exact j _ _ _ _ _ _ f hle k
 | loop x ih=>
  intro st β a w V K Q h r g j;simp only [vc] at g;split at g
  ·refine wp_loop_ghost (fun m a w=>∃st β V',Mod n V0 bw β0 st β a w V'/\V.Le V'/\TB (fun st V K=>vc P T LF RF L J x st V K) m st V' K) 3 ⟨st,β,V,h,View.Le.refl V,g⟩ ?_;rintro m a w ⟨st',β',V',f,hle,hu⟩
   cases m with
   | zero=>exact hu.elim
   | succ m=>
    refine ih st' β' a w V' _ _ f r hu ?_;intro e Jz Uu U W z D p k
    cases e with
    | normal=>exact ⟨m,Nat.lt_succ_self m,Jz,Uu,z,D,hle.trans p,k⟩
    | _=>exact j _ _ _ _ _ _ D (hle.trans p) k
  ·rename_i A hA;split at g
   ·obtain ⟨I,ms,⟨E,C⟩,O⟩:=g;have X:I E V:=C.2;refine wp_loop_ghost (fun m a w=>∃x β V',Mod n V0 bw β0 ((A.at st).st x) β a w V'/\V.Le V'/\I x V'/\ms x=m) (ms E) ?_ ?_
    ·obtain ⟨β2,q⟩:=(iJ h (O E V (View.Le.refl V) X).1 C).1;exact ⟨E,β2,V,q,View.Le.refl V,X,rfl⟩
    ·rintro m a w ⟨x,β,V',f,hle,hinv,rfl⟩;refine ih ((A.at st).st x) β a w V' _ _ f r (O x V' hle hinv).2 ?_;intro e Jz Uu U W z D p k
     cases e with
     | normal=>
      obtain ⟨y,R,v⟩:=k;have Y:I y z:=v.2;obtain ⟨β2,q⟩:=(iJ D (O y z (hle.trans p) Y).1 v).1;exact ⟨ms y,R,y,β2,z,q,hle.trans p,Y,rfl⟩
     | _=>exact j _ _ _ _ _ _ D (hle.trans p) k
   ·obtain ⟨I,⟨E,k0,C⟩,O⟩:=g;have X:I E k0 V:=C.2;refine wp_loop_ghost (fun m a w=>∃x β V',Mod n V0 bw β0 ((A.at st).st x) β a w V'/\V.Le V'/\I x m V') k0 ?_ ?_
    ·obtain ⟨β2,q⟩:=(iJ h (O E k0 V (View.Le.refl V) X).1 C).1;exact ⟨E,β2,V,q,View.Le.refl V,X⟩
    ·rintro m a w ⟨x,β,V',f,hle,hinv⟩;refine ih ((A.at st).st x) β a w V' _ _ f r (O x m V' hle hinv).2 ?_;intro e Jz Uu U W z D p k
     cases e with
     | normal=>
      obtain ⟨y,k',R,v⟩:=k;have Y:I y k' z:=v.2;obtain ⟨β2,q⟩:=(iJ D (O y k' z (hle.trans p) Y).1 v).1;exact ⟨k',R,y,β2,z,q,hle.trans p,Y⟩
     | _=>exact j _ _ _ _ _ _ D (hle.trans p) k
 | exit id=>intro st β a w V K Q h _ g j;exact wp_exit (j _ _ _ _ _ _ h (View.Le.refl V) g)
 | scope x ih=>
  intro st β a w V K Q h r g j;simp only [vc] at g;refine wp_scope_straight (ih st β a w V _ _ h r g ?_);intro e st' β' a' w' V' f hle k
  cases e with
  | goto l=>exact k.elim
  | _=>exact j _ _ _ _ _ _ f hle k
 | label l=>intro st β a w V K Q h _ g j;exact wp_label (j _ _ _ _ _ _ h (View.Le.refl V) g)
 | ret=>intro st β a w V K Q h _ g j;exact wp_ret (j _ _ _ _ _ _ h (View.Le.refl V) g)
 | _=>intro st β a w V K Q h _ g j;exact g.elim
end Go.Eng
namespace Go.Eng
variable {P:Program} {T:cI} {LF RF:List Nat} {n:Nat} {V0:View} {bw:Ds} {β0:Nat->Nat} {β:Nat->Nat} {st:St} {a:Act} {w:World} {V:View}
def K8 (tmps:Array Value):ResultVar->Sem Value
 | .tmp t=>pure (tmps.getD t undef)
 | .cell c t=>do loadVar t (←asAddr (tmps.getD c undef))
theorem Ey (fn:Func)(tmps:Array Value):results fn tmps=(do let vs ←fn.results.mapM (K8 tmps);pure (if h:vs.size=1 then vs[0] else .tuple vs)):=by
 unfold results;congr 1
theorem mf (hT:cI.ok P T)(hM:Mod n V0 bw β0 st β a w V):∀{l:List ResultVar} {xs:List SV},ld T st l=some xs ->
  (l.mapM (K8 a.tmps)).run P w=.ok (xs.map (SV.den β)) w/\∀x∈xs,Live st x
 | [],xs,h=>by cases h;exact ⟨rfl,fun x hx=>nomatch hx⟩
 | .tmp t::r,xs,h=>by
  simp only [ld] at h;split at h
  ·rename_i x l hx hl;cases h;obtain ⟨h1,h2⟩:=mf hT hM hl;refine ⟨?_,fun y b=>?_⟩
   ·simp only [Wy0,K8,Sem.run_bind,Sem.run_pure,Result.andThen_ok,h1,Qb3];rw [hM.ay t x hx]
   ·rcases Qq4.1 b with rfl|b
    ·exact hM.wY t y hx
    ·exact h2 y b
  ·cases h
 | .cell c t::r,xs,h=>by
  simp only [ld] at h;split at h
  ·rename_i s o i l hx d hl;split at h
   ·rename_i p x e;cases h;obtain ⟨h1,h2⟩:=mf hT hM hl;obtain ⟨f,g⟩:=zk hM (hT _ _ d) e;have j:(loadVar t ⟨β s,o,none⟩).run P w=.ok (x.den β) w:=f;refine ⟨?_,fun y b=>?_⟩
    ·have k:a.tmps.getD c undef=.pointer (some ⟨β s,o,none⟩):=hM.ay c _ hx;have m:asAddr (.pointer (some ⟨β s,o,none⟩))=pure ⟨β s,o,none⟩:=rfl;simp only [Wy0,K8,k,m,Sem.run_bind,Result.andThen_ok,Sem.run_pure,j,h1,Qb3]
    ·rcases Qq4.1 b with rfl|b
     ·exact g
     ·exact h2 y b
   ·cases h
  ·cases h
theorem CB (hT:cI.ok P T)(hM:Mod n V0 bw β0 st β a w V){fn:Func}{xs:List SV}(h:ld T st fn.results.toList=some xs) :
  (results fn a.tmps).run P w=.ok (k_ β xs) w/\∀x∈xs,Live st x:=by
 obtain ⟨b,c⟩:=mf hT hM h;refine ⟨?_,c⟩;rw [Ey,Wq3];simp only [map_eq_pure_bind,bind_assoc,pure_bind,Sem.run_bind];rw [b];simp only [Result.andThen_ok,Sem.run_pure]
 match xs with
 | []=>simp [k_]
 | [x]=>simp [k_]
 | x::y::r=>simp [k_]
def HH (β0:Nat->Nat)(s:Nat)(b:aP):List (Nat×aP)->Prop
 | []=>True
 | (t,b')::r=>pA (Hm b++Hm b') (β0 s≠β0 t)/\HH β0 s b r
def J_ (β0:Nat->Nat)(V:View):List (Nat×aP)->Prop
 | []=>True
 | (s,b)::r=>(pA (Hm b) (V.w.heap[β0 s]?=some (b.obj β0))/\pA (Hm b) (V.X (β0 s)))/\HH β0 s b r/\J_ β0 V r
theorem nG {s:Nat}{b:aP}:∀{r:List (Nat×aP)},HH β0 s b r->∀t b',aC r t=some b'->b.live->b'.live->β0 s≠β0 t
 | [],_,_,_,h=>by cases h
 | (u,c)::r,h,t,b',ha=>by
  simp only [aC] at ha;by_cases e:t=u
  ·subst e;rw [Qz8] at ha;cases ha;have h1:=h.1;rw [rZ,eL] at h1;exact fun l a=>eL.1 (h1 l) a
  ·rw [cR e] at ha;exact nG h.2 t b' ha
theorem yD:∀{bs:List (Nat×aP)},J_ β0 V bs->(∀s b,aC bs s=some b->b.live->V.w.heap[β0 s]?=some (b.obj β0)/\V.X (β0 s))/\∀s s' b b',aC bs s=some b->b.live->aC bs s'=some b'->b'.live->β0 s=β0 s'->s=s'
 | [],_=>⟨fun s b h=>(by cases h),fun s s' b b' h=>(by cases h)⟩
 | (s,b)::r,⟨h1,h2,h3⟩=>by
  obtain ⟨g1,g2⟩:=yD h3;refine ⟨fun t x h l=>?_,fun t f x i a l c g he=>?_⟩
  ·simp only [aC] at h;by_cases e:t=s
   ·subst e;rw [Qz8] at h;cases h;exact ⟨eL.1 h1.1 l,eL.1 h1.2 l⟩
   ·rw [cR e] at h;exact g1 t x h l
  ·simp only [aC] at a c;by_cases e:t=s<;>by_cases d:f=s
   ·rw [e,d]
   ·subst e;rw [Qz8] at a;cases a;rw [cR d] at c;exact absurd he (nG h2 f i c l g)
   ·subst d;rw [Qz8] at c;cases c;rw [cR e] at a;exact absurd he.symm (nG h2 t x a g l)
   ·rw [cR e] at a;rw [cR d] at c;exact g2 t f x i a l c g he
theorem mi:∀{l:List (Nat×SV)} {i:Nat},mP i l=true->∀t x,aC l t=some x->∃k,t=i+k/\l[k]?=some (t,x)
 | [],_,_,_,_,h=>by cases h
 | (j,y)::r,i,hs,t,x,h=>by
  simp only [mP,Qx1] at hs;obtain ⟨⟨h1,-⟩,h2⟩:=hs;have h1:=beq_eq.1 h1;simp only [aC] at h;by_cases e:t=j
  ·subst e;rw [Qz8] at h;cases h;exact ⟨0,by omega,rfl⟩
  ·rw [cR e] at h;obtain ⟨k,b,a⟩:=mi h2 t x h;exact ⟨k+1,by omega,by simpa using a⟩
theorem qC {bx:Nat->Option aP}{V':View}:∀{l:List Nat} {k:Prop},HG bx β V' l k->(∀s∈l,∀b,bx s=some b->b.live->V'.w.heap[β s]?=some (b.obj β))->(∀s∈l,∃b,bx s=some b/\b.live)/\k
 | [],_,h,_=>⟨fun s hs=>(nomatch hs),h⟩
 | s::r,k,h,hf=>by
  simp only [HG] at h;split at h
  ·exact h.elim
  ·rename_i b hne hb
   have lb:b.live:=by
    intro c e;obtain ⟨cs,ty⟩:=b;dsimp only at e;subst e;exact absurd rfl (hne c ty)
   obtain ⟨d,f⟩:=qC (h (hf s (by simp) b hb lb)) fun t a=>hf t (Qq8 _ a);exact ⟨fun t a=>by rcases Qq4.1 a with rfl|a;exact ⟨b,hb,lb⟩;exact d t a,f⟩
  ·exact h.elim
theorem yW:∀{bs:List (Nat×aP)} {m:Nat} {b:aP},(m,b)∈bs->(∃vs,b.cs=.aN vs)\/m∈iZ bs
 | [],_,_,h=>nomatch h
 | (s,x)::r,m,b,h=>by
  rcases Qq4.1 h with e|h
  ·cases e;unfold iZ;split
   ·rename_i vs hcs;exact .inl ⟨vs,hcs⟩
   ·exact .inr (by simp)
  ·refine (yW h).imp id fun h=>?_;unfold iZ;split
   ·exact h
   ·exact Qq8 _ h
theorem uU:∀{bs:List (Nat×aP)} {m:Nat},m∈iZ bs->m∈bs.map (·.1)
 | [],_,h=>nomatch h
 | (s,x)::r,m,h=>by
  unfold iZ at h;split at h
  ·exact Qq8 _ (uU h)
  ·rcases Qq4.1 h with rfl|h
   ·simp
   ·exact Qq8 _ (uU h)
theorem zi {b:Nat}{k:Prop}:∀{bs:List (Nat×aP)} {m:Nat} {vs:List Value} {ty:TypeId},(m,(⟨.aN vs,ty⟩:aP))∈bs->vs≠[]->b=β0 m->IG bs β0 b k
 | [],_,_,_,h,_,_=>nomatch h
 | (s,x)::r,m,vs,ty,h,hv,he=>by
  rcases Qq4.1 h with e|h
  ·cases e;exact .inl ⟨hv,he⟩
  ·have:=zi (k:=k) h hv he;unfold IG;split
   ·exact .inr this
   ·exact this
theorem kk {l m:List Nat}{s:Nat}:s∈minus l m↔s∈l/\s∉m:=by
 unfold minus;rw [Qj8,Qw7];refine and_congr_right fun _=>⟨fun h hm=>?_,fun h=>?_⟩
 ·rw [cj.2 hm] at h;cases h
 ·cases hb:dZ s m
  ·rfl
  ·exact absurd (cj.1 hb) h
theorem FN {bx:Nat->Option aP}{s:Nat}(h:sF T bx s=false):s<100000:=by
 rcases Qy8 s 100000 with g|g
 ·exact g
 ·unfold sF at h;rw [show Nat.ble 100000 s=true from by rw [Nat.ble_eq];exact g] at h;cases h
theorem zt {bs:List (Nat×aP)}(hT:cI.ok P T)(hM:Mod n V0 ⟨iZ bs,fun b=>∃m b0,aC bs m=some b0/\b0.live/\b=β0 m⟩ β0 st β a w V){fn:Func}{R:Value->View->Prop}(hv:FD T fn.results.toList bs β0 V0.w.heap.size R st V) :
  ∃v,(results fn a.tmps).run P w=.ok v w/\R v (V0.to w hM.ext.size):=by
 unfold FD at hv;split at hv
 ·exact hv.elim
 ·rename_i xs M;obtain ⟨X,h2⟩:=CB hT hM M;dsimp only at hv;split at hv
  ·exact hv.elim
  ·rename_i E;generalize hL:reach st.boxes 3 (dedup (xs.flatMap SV.ids++iZ bs))=L at hv E
   have p:∀s,s∈xs.flatMap SV.ids\/s∈iZ bs->s∈L:=fun s c=>by
    rw [←hL];exact dR 3 _ s (bJ.2 (Qw1.2 c))
   have hle:V.Le (V0.to w hM.ext.size):=by
    intro b o d;obtain ⟨C,D⟩:=hM.nD b o d;exact ⟨D,C⟩
   have γf:∀γ:Nat->Nat,γ=(fun t=>if t∈minus L (iZ bs) then β t else β0 t)->(∀s∈L,γ s=β s)/\k_ γ xs=k_ β xs:=by
    intro γ hγ
    have f:∀s∈L,γ s=β s:=by
     intro s c;rw [hγ];by_cases d:s∈iZ bs
     ·have:s∉minus L (iZ bs):=fun h=>(kk.1 h).2 d;simp only [this,if_false];exact (hM.kD s d).2.symm
     ·simp only [kk.2 ⟨c,d⟩,if_true]
    refine ⟨f,?_⟩;have j:∀x∈xs,x.den γ=x.den β:=fun x j=>SV.bB fun s c=>f s (p s (.inl (Qw5.2 ⟨x,j,c⟩)))
    match xs,j with
    | [],_=>rfl
    | [x],j=>exact j x (by simp)
    | x::y::r,j=>simp only [k_];rw [Qj0 j]
   have J:∀γ:Nat->Nat,(∀s∈L,γ s=β s)->∀s∈L,∀b,st.boxes s=some b->b.live->(V0.to w hM.ext.size).w.heap[γ s]?=some (b.obj γ):=by
    intro γ f s c b d l;rw [f s c,aP.cD fun t q=>f t (eU E c d t q)];exact hM.boxes s b d l
   have k:∀γ:Nat->Nat,(∀s∈L,γ s=β s)->∀s∈L,s<100000->∀b,st.boxes s=some b->b.live->(V0.to w hM.ext.size).bI (γ s) (b.obj γ):=by
    intro γ f s c F b d l;refine ⟨fun hH=>?_,J γ f s c b d l⟩;have hH:V0.H (γ s):=hH;rw [f s c] at hH;rcases hM.own s b d l with h|⟨h,-⟩
    ·have:=V0.hH _ hH;omega
    ·omega
   split at hv
   ·rename_i K
    have F:∀s∈minus L (iZ bs),s<100000:=by
     intro s c
     cases q:sF T st.boxes s with
     | false=>exact FN q
     | true=>
      have:s∈(minus L (iZ bs)).filter (sF T st.boxes):=Qj8.2 ⟨c,q⟩;rw [K] at this;cases this
    have g:=iq (hv _ hle) β;generalize hγ:(fun t=>if t∈minus L (iZ bs) then β t else β0 t)=γ at g;obtain ⟨f,i⟩:=γf γ hγ.symm;obtain ⟨-,z⟩:=qC g (fun s c b d l=>J γ f s (p s (.inr c)) b d l);obtain ⟨-,A⟩:=iu z (fun s c b d l=>k γ f s (kk.1 c).1 (F s c) b d l);refine ⟨_,X,?_⟩;rw [←i];exact A
   ·rename_i s K;split at hv
    ·rename_i b d
     have c:s∈minus L (iZ bs):=by
      have:s∈(minus L (iZ bs)).filter (sF T st.boxes):=by rw [K];simp
      exact (Qj8.1 this).1
     obtain ⟨B,Y⟩:=kk.1 c;have g:=iq (hv (V0.to w hM.ext.size)) β;generalize hγ:(fun t=>if t∈minus L (iZ bs) then β t else β0 t)=γ at g;obtain ⟨f,i⟩:=γf γ hγ.symm
     have G:V.Le ((V0.to w hM.ext.size).cu (RO b) (γ s)):=by
      intro x o j;obtain ⟨C,D⟩:=hle x o j;refine ⟨fun N=>?_,D⟩;rcases N with N|⟨Z,e,-⟩
      ·exact C N
      ·rw [f s B] at e;exact hM.s_ s b d (Kr.1 Z) o (e▸j)
     obtain ⟨hF,z⟩:=qC (g G) (fun s c b d l=>J γ f s (p s (.inr c)) b d l)
     have A:=z (eL.2 fun l=>J γ f s B b d l) (eL.2 fun l=>by
      rw [f s B];rcases hM.own s b d l with h|⟨-,m,b0,hm,l0,he⟩
      ·exact .inl h
      ·right;rcases yW (bW hm) with ⟨vs,I⟩|O
       ·obtain ⟨cs,ty⟩:=b0;dsimp only at I;subst I;exact zi (bW hm) (l0 vs rfl) he
       ·exfalso;obtain ⟨b1,Q,l1⟩:=hF m O;have e:=(hM.kD m O).2;rw [←e] at he;have:=hM.inj s m b b1 d l Q l1 he;exact Y (this▸O))
     obtain ⟨-,S⟩:=iu A (fun u hu b' U l'=>by
      obtain ⟨C,D⟩:=Qj8.1 hu;have OV:u≠s:=fun e=>by subst e;rw [Qz8] at D;cases D
      have W:u<100000:=by
       cases q:sF T st.boxes u with
       | false=>exact FN q
       | true=>
        have:u∈(minus L (iZ bs)).filter (sF T st.boxes):=Qj8.2 ⟨C,q⟩;rw [K] at this;exact absurd (Qw3.1 this) OV
      exact k γ f u (kk.1 C).1 W b' U l')
     refine ⟨_,X,?_⟩;rw [←i];exact S
    ·exact hv.elim
   ·exact hv.elim
theorem H8 (hT : cI.ok P T)(hmx : P.follows .mixedOrders = true){L J : Bb}{f : FuncId}{fn : Func}(hf : P.funcs[f]? = some fn)(hn : (fn.name == "runtime.NumGoroutine") = false)
  {ss:List (Nat×SV)}{bs:List (Nat×aP)}{args:Array Value}{R:Value->View->Prop}(ha:args=(ss.map fun x=>x.2.den β0).toArray)(hb:J_ β0 V bs)
  (hv:AG P T LF RF L J fn ss bs β0 V R):aa P f args V R:=by
 unfold AG at hv;split at hv
 ·rename_i code c;split at hv
  ·rename_i A;simp only [Qx1,Qz0,Nat.ble_eq] at A;obtain ⟨⟨⟨⟨⟨d,C⟩,hlen⟩,g⟩,D⟩,E⟩:=A
   have B:∀x∈bs,100000<=x.1/\x.1<200000:=fun x j=>by
    obtain ⟨F,G⟩:=D x j;exact ⟨F,Qz9 G⟩
   refine ⟨⟨fn,hf,by rw [c];rfl,hn⟩,calls_of_wp hf c ?_⟩;obtain ⟨u,H⟩:=yD hb;obtain ⟨t1,t2⟩:=vX E;have I:args.size=ss.length:=by rw [ha];simp
   have K:Mod fn.ntmps V ⟨iZ bs,fun b=>∃m p,aC bs m=some p/\p.live/\b=β0 m⟩ β0 ⟨aC ss,aC bs⟩ β0 { tmps:=args++Array.replicate (fn.ntmps-args.size) undef,defers:=[] } V.w V:=by
    refine ⟨rfl,by simp;omega,?_,t1,t2,fun s b h l=>(u s b h l).1,fun s M b N h l n O=>H s M b N h l n O,fun b o h=>⟨h.2,h.1⟩,fun s b h l o Q=>Q.1 (V.hX _ (u s b h l).2),h_.refl _ _,?_,?_,?_,g⟩
    ·intro t x j;obtain ⟨k,q,i⟩:=mi C t x j
     have r:k<ss.length:=by
      rcases Qy8 k ss.length with n|n
      ·exact n
      ·rw [Qj6 n] at i;cases i
     have y:t=k:=by omega
     subst y;have:args[t]?=some (x.den β0):=by rw [ha];simp [i]
     have z:t<args.size:=by omega
     show (args++Array.replicate (fn.ntmps-args.size) undef).getD t undef=_;rw [Array.getD_eq_getD_getElem?,Array.getElem?_append_left z,this];rfl
    ·intro s b h l;exact .inr ⟨(B _ (bW h)).1,s,b,h,l,rfl⟩
    ·intro s S;obtain ⟨x,j,rfl⟩:=Qy0.1 (uU S);exact ⟨B x j,rfl⟩
    ·rintro b ⟨m,p,hm,l,rfl⟩;exact (u m p hm l).2
   refine DZ hT hmx code _ β0 _ _ V _ _ K d hv ?_;intro e U β' W X Y a hle r
   cases e with
   | normal=>
    obtain ⟨v,q,i⟩:=zt hT a r;exact ⟨a.defers,v,q,v,rfl,a.ext,i⟩
   | ret=>
    obtain ⟨v,q,i⟩:=zt hT a r;exact ⟨a.defers,v,q,v,rfl,a.ext,i⟩
   | _=>exact r.elim
  ·exact hv.elim
 ·exact hv.elim
theorem aS (hT : cI.ok P T)(hmx : P.follows .mixedOrders = true)(L J : Bb){f : FuncId}{fn : Func}(hf : P.funcs[f]? = some fn)(hn : (fn.name == "runtime.NumGoroutine") = false)
  (ss:List (Nat×SV))(bs:List (Nat×aP)){args:Array Value}{R:Value->View->Prop}(ha:args=(ss.map fun x=>x.2.den β0).toArray)(hb:J_ β0 V bs)
  {G:Prop}(h:G)(hG:G=AG P T LF RF L J fn ss bs β0 V R):aa P f args V R:=by
 subst hG;exact H8 hT hmx hf hn ha hb h
theorem Ma (h:T.map (fun x=>kT P x.1)=T.map fun x=>some x.2):cI.ok P T:=by
 intro t i a;have hm:=bW a;obtain ⟨k,b⟩:=List.getElem?_of_mem hm;have:=congrArg (fun l=>l[k]?) h;simp only [Qc9,b,Qg8,Qq2] at this;exact this
end Go.Eng
namespace Go.Proofs.Tryz
open Go.Eng
abbrev aT:List Nat:=[]
def Tx:cI:=[
 (3,⟨.int .i64,1,8,[.v (.int .i64 0)]⟩),
 (0,⟨.tuple [],1,0,[.v (.tuple #[])]⟩),
 (4,⟨.bool,1,1,[.ff]⟩),
 (98,⟨.struct [(2,0),(2,1),(96,2)],3,24,[.v (.int .i64 0),.v (.int .i64 0),.v (.pointer none)]⟩),
 (32,⟨.struct [(28,0),(26,2)],3,56,[.ff,.v (.slice none 0 0),.v (.slice none 0 0)]⟩),
 (187,⟨.int .u64,1,8,[.v (.int .u64 0)]⟩),
 (46,⟨.slice 221,1,24,[.v (.slice none 0 0)]⟩),
 (221,⟨.int .u32,1,4,[.v (.int .u32 0)]⟩),
 (26,⟨.slice 221,1,24,[.v (.slice none 0 0)]⟩),
 (28,⟨.struct [(4,0),(26,1)],2,32,[.ff,.v (.slice none 0 0)]⟩),
 (189,⟨.slice 98,1,24,[.v (.slice none 0 0)]⟩),
 (48,⟨.struct [(4,0),(46,1)],2,32,[.ff,.v (.slice none 0 0)]⟩),
 (64,⟨.struct [(32,0),(32,3)],6,112,[.ff,.v (.slice none 0 0),.v (.slice none 0 0),.ff,.v (.slice none 0 0),.v (.slice none 0 0)]⟩),
 (30,⟨.struct [(28,0),(28,2),(28,4)],6,96,[.ff,.v (.slice none 0 0),.ff,.v (.slice none 0 0),.ff,.v (.slice none 0 0)]⟩),
 (2,⟨.int .i64,1,8,[.v (.int .i64 0)]⟩),
 (287,⟨.slice 290,1,24,[.v (.slice none 0 0)]⟩),
 (125,⟨.struct [(98,0),(98,3)],6,48,[.v (.int .i64 0),.v (.int .i64 0),.v (.pointer none),.v (.int .i64 0),.v (.int .i64 0),.v (.pointer none)]⟩),
 (290,⟨.struct [(98,0),(3,3),(3,4)],5,40,[.v (.int .i64 0),.v (.int .i64 0),.v (.pointer none),.v (.int .i64 0),.v (.int .i64 0)]⟩),
 (100,⟨.struct [(98,0),(98,3),(98,6)],9,72,[.v (.int .i64 0),.v (.int .i64 0),.v (.pointer none),.v (.int .i64 0),.v (.int .i64 0),.v (.pointer none),.v (.int .i64 0),.v (.int .i64 0),.v (.pointer none)]⟩),
 (102,⟨.struct [(98,0),(98,3),(4,6),(4,7)],8,56,[.v (.int .i64 0),.v (.int .i64 0),.v (.pointer none),.v (.int .i64 0),.v (.int .i64 0),.v (.pointer none),.ff,.ff]⟩),
 (104,⟨.struct [(100,0),(102,9)],17,128,[.v (.int .i64 0),.v (.int .i64 0),.v (.pointer none),.v (.int .i64 0),.v (.int .i64 0),.v (.pointer none),.v (.int .i64 0),.v (.int .i64 0),.v (.pointer none),.v (.int .i64 0),.v (.int .i64 0),.v (.pointer none),.v (.int .i64 0),.v (.int .i64 0),.v (.pointer none),.ff,.ff]⟩),
 (34,⟨.struct [(32,0),(32,3),(4,6),(4,7)],8,120,[.ff,.v (.slice none 0 0),.v (.slice none 0 0),.ff,.v (.slice none 0 0),.v (.slice none 0 0),.ff,.ff]⟩),
 (36,⟨.struct [(30,0),(34,6)],14,216,[.ff,.v (.slice none 0 0),.ff,.v (.slice none 0 0),.ff,.v (.slice none 0 0),.ff,.v (.slice none 0 0),.v (.slice none 0 0),.ff,.v (.slice none 0 0),.v (.slice none 0 0),.ff,.ff]⟩),
 (109,⟨.slice 104,1,24,[.v (.slice none 0 0)]⟩),
 (52,⟨.struct [(48,0),(46,2)],3,56,[.ff,.v (.slice none 0 0),.v (.slice none 0 0)]⟩),
 (41,⟨.slice 56,1,24,[.v (.slice none 0 0)]⟩),
 (56,⟨.struct [(50,0),(54,6)],14,216,[.ff,.v (.slice none 0 0),.ff,.v (.slice none 0 0),.ff,.v (.slice none 0 0),.ff,.v (.slice none 0 0),.v (.slice none 0 0),.ff,.v (.slice none 0 0),.v (.slice none 0 0),.ff,.ff]⟩),
 (54,⟨.struct [(52,0),(52,3),(4,6),(4,7)],8,120,[.ff,.v (.slice none 0 0),.v (.slice none 0 0),.ff,.v (.slice none 0 0),.v (.slice none 0 0),.ff,.ff]⟩),
 (82,⟨.struct [(52,0),(52,3)],6,112,[.ff,.v (.slice none 0 0),.v (.slice none 0 0),.ff,.v (.slice none 0 0),.v (.slice none 0 0)]⟩),
 (135,⟨.slice 32,1,24,[.v (.slice none 0 0)]⟩),
 (222,⟨.int .u64,1,8,[.v (.int .u64 0)]⟩),
 (59,⟨.slice 36,1,24,[.v (.slice none 0 0)]⟩),
 (96,⟨.ptr 271,1,8,[.v (.pointer none)]⟩),
 (25,⟨.slice 221,1,24,[.v (.slice none 0 0)]⟩),
 (50,⟨.struct [(48,0),(48,2),(48,4)],6,96,[.ff,.v (.slice none 0 0),.ff,.v (.slice none 0 0),.ff,.v (.slice none 0 0)]⟩),
 (116,⟨.slice 34,1,24,[.v (.slice none 0 0)]⟩),
 (43,⟨.iface,1,16,[.v (.nilIface)]⟩),
 (23,⟨.ptr 88,1,8,[.v (.pointer none)]⟩),
 (302,⟨.int .u64,1,8,[.v (.int .u64 0)]⟩),
 (62,⟨.slice 64,1,24,[.v (.slice none 0 0)]⟩),
 (193,⟨.func,1,8,[.v (.nilFunc)]⟩),
 (292,⟨.func,1,8,[.v (.nilFunc)]⟩),
 (22,⟨.slice 3,1,24,[.v (.slice none 0 0)]⟩),
 (146,⟨.slice 30,1,24,[.v (.slice none 0 0)]⟩),
 (271,⟨.struct [(48,0),(46,2)],3,56,[.ff,.v (.slice none 0 0),.v (.slice none 0 0)]⟩),
 (274,⟨.int .i64,1,8,[.v (.int .i64 0)]⟩),
 (210,⟨.slice 102,1,24,[.v (.slice none 0 0)]⟩),
 (207,⟨.func,1,8,[.v (.nilFunc)]⟩),
 (306,⟨.ptr 3,1,8,[.v (.pointer none)]⟩),
 (70,⟨.slice 82,1,24,[.v (.slice none 0 0)]⟩),
 (88,⟨.struct [(22,0),(3,1)],2,32,[.v (.slice none 0 0),.v (.int .i64 0)]⟩),
 (179,⟨.slice 4,1,24,[.v (.slice none 0 0)]⟩),
 (208,⟨.slice 102,1,24,[.v (.slice none 0 0)]⟩),
 (288,⟨.arr 2 3,2,16,[.v (.int .i64 0),.v (.int .i64 0)]⟩),
 (123,⟨.slice 125,1,24,[.v (.slice none 0 0)]⟩),
 (68,⟨.tuple [41,43],1,0,[.v (.tuple #[.slice none 0 0,.nilIface])]⟩),
 (257,⟨.tuple [187,4],1,0,[.v (.tuple #[.int .u64 0,.bool false])]⟩),
 (115,⟨.arr 2 59,2,48,[.v (.slice none 0 0),.v (.slice none 0 0)]⟩),
 (253,⟨.arr 2 208,2,48,[.v (.slice none 0 0),.v (.slice none 0 0)]⟩),
 (105,⟨.tuple [104,4],1,0,[.v (.tuple #[.agg #[.int .i64 0,.int .i64 0,.pointer none,.int .i64 0,.int .i64 0,.pointer none,.int .i64 0,.int .i64 0,.pointer none,.int .i64 0,.int .i64 0,.pointer none,.int .i64 0,.int .i64 0,.pointer none,.bool false,.bool false],.bool false])]⟩),
 (224,⟨.tuple [26,26],1,0,[.v (.tuple #[.slice none 0 0,.slice none 0 0])]⟩),
 (5,⟨.int .u8,1,1,[.v (.int .u8 0)]⟩),
 (265,⟨.tuple [2,4],1,0,[.v (.tuple #[.int .i64 0,.bool false])]⟩),
 (317,⟨.tuple [3,3],1,0,[.v (.tuple #[.int .i64 0,.int .i64 0])]⟩),
 (9,⟨.str,1,16,[.v (.string ByteArray.empty)]⟩),
 (165,⟨.tuple [102,4],1,0,[.v (.tuple #[.agg #[.int .i64 0,.int .i64 0,.pointer none,.int .i64 0,.int .i64 0,.pointer none,.bool false,.bool false],.bool false])]⟩),
 (254,⟨.func,1,8,[.v (.nilFunc)]⟩),
 (93,⟨.tuple [30,4],1,0,[.v (.tuple #[.agg #[.bool false,.slice none 0 0,.bool false,.slice none 0 0,.bool false,.slice none 0 0],.bool false])]⟩),
 (107,⟨.tuple [100,4],1,0,[.v (.tuple #[.agg #[.int .i64 0,.int .i64 0,.pointer none,.int .i64 0,.int .i64 0,.pointer none,.int .i64 0,.int .i64 0,.pointer none],.bool false])]⟩),
 (316,⟨.ptr 302,1,8,[.v (.pointer none)]⟩),
 (344,⟨.struct [(9,0)],1,16,[.v (.string ByteArray.empty)]⟩),
 (259,⟨.tuple [221,221],1,0,[.v (.tuple #[.int .u32 0,.int .u32 0])]⟩),
 (263,⟨.tuple [46,46,4],1,0,[.v (.tuple #[.slice none 0 0,.slice none 0 0,.bool false])]⟩),
 (44,⟨.tuple [41,41,43],1,0,[.v (.tuple #[.slice none 0 0,.slice none 0 0,.nilIface])]⟩),
 (72,⟨.func,1,8,[.v (.nilFunc)]⟩),
 (84,⟨.tuple [36,4],1,0,[.v (.tuple #[.agg #[.bool false,.slice none 0 0,.bool false,.slice none 0 0,.bool false,.slice none 0 0,.bool false,.slice none 0 0,.slice none 0 0,.bool false,.slice none 0 0,.slice none 0 0,.bool false,.bool false],.bool false])]⟩),
 (226,⟨.tuple [98,4],1,0,[.v (.tuple #[.agg #[.int .i64 0,.int .i64 0,.pointer none],.bool false])]⟩),
 (275,⟨.tuple [3,274],1,0,[.v (.tuple #[.int .i64 0,.int .i64 0])]⟩),
 (279,⟨.tuple [3,4],1,0,[.v (.tuple #[.int .i64 0,.bool false])]⟩),
 (314,⟨.tuple [46,4],1,0,[.v (.tuple #[.slice none 0 0,.bool false])]⟩),
 (131,⟨.tuple [82,4],1,0,[.v (.tuple #[.agg #[.bool false,.slice none 0 0,.slice none 0 0,.bool false,.slice none 0 0,.slice none 0 0],.bool false])]⟩),
 (196,⟨.func,1,8,[.v (.nilFunc)]⟩),
 (60,⟨.tuple [59,59],1,0,[.v (.tuple #[.slice none 0 0,.slice none 0 0])]⟩),
 (110,⟨.tuple [109,109],1,0,[.v (.tuple #[.slice none 0 0,.slice none 0 0])]⟩),
 (117,⟨.tuple [116,4],1,0,[.v (.tuple #[.slice none 0 0,.bool false])]⟩),
 (128,⟨.tuple [56,4],1,0,[.v (.tuple #[.agg #[.bool false,.slice none 0 0,.bool false,.slice none 0 0,.bool false,.slice none 0 0,.bool false,.slice none 0 0,.slice none 0 0,.bool false,.slice none 0 0,.slice none 0 0,.bool false,.bool false],.bool false])]⟩),
 (143,⟨.tuple [109,4],1,0,[.v (.tuple #[.slice none 0 0,.bool false])]⟩),
 (152,⟨.tuple [34,4],1,0,[.v (.tuple #[.agg #[.bool false,.slice none 0 0,.slice none 0 0,.bool false,.slice none 0 0,.slice none 0 0,.bool false,.bool false],.bool false])]⟩),
 (154,⟨.tuple [4,43],1,0,[.v (.tuple #[.bool false,.nilIface])]⟩),
 (176,⟨.tuple [64,4],1,0,[.v (.tuple #[.agg #[.bool false,.slice none 0 0,.slice none 0 0,.bool false,.slice none 0 0,.slice none 0 0],.bool false])]⟩),
 (200,⟨.func,1,8,[.v (.nilFunc)]⟩),
 (247,⟨.tuple [125,4],1,0,[.v (.tuple #[.agg #[.int .i64 0,.int .i64 0,.pointer none,.int .i64 0,.int .i64 0,.pointer none],.bool false])]⟩),
 (295,⟨.tuple [46,221],1,0,[.v (.tuple #[.slice none 0 0,.int .u32 0])]⟩),
 (297,⟨.tuple [46,46],1,0,[.v (.tuple #[.slice none 0 0,.slice none 0 0])]⟩),
 (311,⟨.tuple [187,187],1,0,[.v (.tuple #[.int .u64 0,.int .u64 0])]⟩),
 (20,⟨.iface,1,16,[.v (.nilIface)]⟩),
 (327,⟨.ptr 344,1,8,[.v (.pointer none)]⟩)]
def Ty:cI:=Tx++[
 (30,⟨.struct [(28,0),(28,2),(28,4)],6,96,[.ff,.v (.slice none 0 0),.ff,.v (.slice none 0 0),.ff,.v (.slice none 0 0)]⟩),
 (36,⟨.struct [(30,0),(34,6)],14,216,[.ff,.v (.slice none 0 0),.ff,.v (.slice none 0 0),.ff,.v (.slice none 0 0),.ff,.v (.slice none 0 0),.v (.slice none 0 0),.ff,.v (.slice none 0 0),.v (.slice none 0 0),.ff,.ff]⟩),
 (104,⟨.struct [(100,0),(102,9)],17,128,[.v (.int .i64 0),.v (.int .i64 0),.v (.pointer none),.v (.int .i64 0),.v (.int .i64 0),.v (.pointer none),.v (.int .i64 0),.v (.int .i64 0),.v (.pointer none),.v (.int .i64 0),.v (.int .i64 0),.v (.pointer none),.v (.int .i64 0),.v (.int .i64 0),.v (.pointer none),.ff,.ff]⟩)]
theorem FM:cI.ok prog Ty:=Ma (by kernel_rfl)
theorem bu:cI.ok prog Tx:=Ma (by kernel_rfl)
theorem mixed:prog.follows .mixedOrders=true:=by kernel_rfl
abbrev VP:=View->Prop
abbrev VR:=Value->VP
abbrev Rt (V:View)(R:VR)(x:Value):Prop:=∀v:View,V.Le v->R x v
abbrev s3 {α0 α1 α2:Type}(a:α0)(b:α1)(c:α2)(K:Prop):Prop:=sm a/\sm b/\sm c/\K
abbrev s4 {α0 α1 α2 α3:Type}(a:α0)(b:α1)(c:α2)(d:α3)(K:Prop):Prop:=sm a/\sm b/\sm c/\sm d/\K
abbrev s5 {α0 α1 α2 α3 α4:Type}(a:α0)(b:α1)(c:α2)(d:α3)(e:α4)(K:Prop):Prop:=sm a/\sm b/\sm c/\sm d/\sm e/\K
abbrev s6 {α0 α1 α2 α3 α4 α5:Type}(a:α0)(b:α1)(c:α2)(d:α3)(e:α4)(f:α5)(K:Prop):Prop:=sm a/\sm b/\sm c/\sm d/\sm e/\sm f/\K
abbrev s7 {α0 α1 α2 α3 α4 α5 α6:Type}(a:α0)(b:α1)(c:α2)(d:α3)(e:α4)(f:α5)(g:α6)(K:Prop):Prop:=sm a/\sm b/\sm c/\sm d/\sm e/\sm f/\sm g/\K
abbrev s8 {α0 α1 α2 α3 α4 α5 α6 α7:Type}(a:α0)(b:α1)(c:α2)(d:α3)(e:α4)(f:α5)(g:α6)(h:α7)(K:Prop):Prop:=sm a/\sm b/\sm c/\sm d/\sm e/\sm f/\sm g/\sm h/\K
abbrev s9 {α0 α1 α2 α3 α4 α5 α6 α7 α8:Type}(a:α0)(b:α1)(c:α2)(d:α3)(e:α4)(f:α5)(g:α6)(h:α7)(i:α8)(K:Prop):Prop:=sm a/\sm b/\sm c/\sm d/\sm e/\sm f/\sm g/\sm h/\sm i/\K
abbrev PV {α0 α1 α2 α3 α4 α5 α6 α7 α8 α9:Type}(a:α0)(b:α1)(c:α2)(d:α3)(e:α4)(f:α5)(g:α6)(h:α7)(i:α8)(j:α9)(K:Prop):Prop:=sm a/\sm b/\sm c/\sm d/\sm e/\sm f/\sm g/\sm h/\sm i/\sm j/\K
abbrev vK {α0 α1 α2 α3 α4 α5 α6 α7 α8 α9 Ut:Type}(a:α0)(b:α1)(c:α2)(d:α3)(e:α4)(f:α5)(g:α6)(h:α7)(i:α8)(j:α9)(k:Ut)(K:Prop):Prop:=sm a/\sm b/\sm c/\sm d/\sm e/\sm f/\sm g/\sm h/\sm i/\sm j/\sm k/\K
abbrev gT {α0 α1 α2 α3 α4 α5 α6 α7 α8 α9 Ut Zc:Type}(a:α0)(b:α1)(c:α2)(d:α3)(e:α4)(f:α5)(g:α6)(h:α7)(i:α8)(j:α9)(k:Ut)(l:Zc)(K:Prop):Prop:=sm a/\sm b/\sm c/\sm d/\sm e/\sm f/\sm g/\sm h/\sm i/\sm j/\sm k/\sm l/\K
abbrev Ca (V:View)(f:Nat)(a:Array Value)(K:VR):Prop:=∀V1:View,V.Le V1->aa prog f a V1 K
def sV:Value->SV
  | .agg l=>.agg (l.toList.map C.v)
  | v=>.c (.v v)
def sA:Nat->List Value->List (Nat×SV)
  | _,[]=>[]
  | n,v::l=>(n,sV v)::sA (n+1) l
theorem fd {LF RF:List Nat}(L K:Bb){f:FuncId}{fn:Func}(hf:prog.funcs[f]?=some fn){l:List Value}{V:View}{R:VR}{G:Prop}(h:G)
 (hn:(fn.name=="runtime.NumGoroutine")=false:=by kernel_rfl)(ha:l.toArray=((sA 0 l).map fun x=>x.2.den fun _=>0).toArray:=by kernel_rfl)
 (hG:G=AG prog Tx LF RF L K fn (sA 0 l) [] (fun _=>0) V R:=by kernel_rfl):aa prog f l.toArray V R:=
  aS (LF:=LF) (RF:=RF) (β0:=fun _=>0) bu mixed L K hf hn (sA 0 l) [] ha trivial h hG
open Go.Value renaming int→I,pointer→P,slice→S,agg→A,bool→B,tuple→T
open Go.IntKind renaming i64→J,u64→U,u32→W
abbrev Yo (a:OA)(n:Nat)(m:View)(v:Value):Prop:=∃q,ah a n=some q/\m.at q v
abbrev Xh (V:View)(b:Nat)(l:List Value)(t:Nat):Prop:=V.w.heap[b]?=some (.cells l.toArray t (0,0))
abbrev Z0 (r:Value)(K:OA->Nat->Nat->Int->Prop):Prop:=∃(v0:OA)(v1:Nat)(v2:Nat)(v3:Int),r=T #[S v0 v1 v2,I W v3]/\K v0 v1 v2 v3
abbrev Z1 (r:Value)(K:OA->Nat->Nat->OA->Nat->Nat->Prop):Prop:=∃(v0:OA)(v1:Nat)(v2:Nat)(v3:OA)(v4:Nat)(v5:Nat),r=T #[S v0 v1 v2,S v3 v4 v5]/\K v0 v1 v2 v3 v4 v5
abbrev Z2 (r:Value)(K:OA->Nat->Nat->OA->Nat->Nat->Bool->Prop):Prop:=∃(v0:OA)(v1:Nat)(v2:Nat)(v3:OA)(v4:Nat)(v5:Nat)(v6:Bool),r=T #[S v0 v1 v2,S v3 v4 v5,B v6]/\K v0 v1 v2 v3 v4 v5 v6
abbrev Z3 (r:Value)(K:Int->Bool->Prop):Prop:=∃(v0:Int)(v1:Bool),r=T #[I U v0,B v1]/\K v0 v1
abbrev X4 (v0:OA)(v1:Nat)(v2:Nat)(v3:OA)(v4:Nat)(v5:Nat):Value:=T #[S v0 v1 v2,S v3 v4 v5]
abbrev Z5 (r:Value)(K:Bool->OA->Nat->Nat->Prop):Prop:=∃(v0:Bool)(v1:OA)(v2:Nat)(v3:Nat),r=A #[B v0,S v1 v2 v3]/\K v0 v1 v2 v3
abbrev X6 (v0:Bool)(v1:OA)(v2:Nat)(v3:Nat):Value:=A #[B v0,S v1 v2 v3]
abbrev Z7 (r:Value)(K:OA->Nat->Nat->Bool->Prop):Prop:=∃(v0:OA)(v1:Nat)(v2:Nat)(v3:Bool),r=T #[S v0 v1 v2,B v3]/\K v0 v1 v2 v3
abbrev Z8 (r:Value)(K:Int->Int->OA->Prop):Prop:=∃(v0:Int)(v1:Int)(v2:OA),r=A #[I J v0,I J v1,P v2]/\K v0 v1 v2
abbrev X9 (v0:Int)(v1:Int)(v2:OA):Value:=A #[I J v0,I J v1,P v2]
abbrev Hy (r:Value)(K:Int->Bool->Prop):Prop:=∃(v0:Int)(v1:Bool),r=T #[I J v0,B v1]/\K v0 v1
abbrev aZ (v0:Bool)(v1:OA)(v2:Nat)(v3:Nat)(v4:OA)(v5:Nat)(v6:Nat):Value:=A #[B v0,S v1 v2 v3,S v4 v5 v6]
abbrev WT (r:Value)(K:Int->Int->Prop):Prop:=∃(v0:Int)(v1:Int),r=T #[I U v0,I U v1]/\K v0 v1
abbrev QY (r:Value)(K:Int->Int->Prop):Prop:=∃(v0:Int)(v1:Int),r=T #[I W v0,I W v1]/\K v0 v1
abbrev dI (r:Value)(K:Bool->OA->Nat->Nat->OA->Nat->Nat->Prop):Prop:=∃(v0:Bool)(v1:OA)(v2:Nat)(v3:Nat)(v4:OA)(v5:Nat)(v6:Nat),r=A #[B v0,S v1 v2 v3,S v4 v5 v6]/\K v0 v1 v2 v3 v4 v5 v6
abbrev gu (v0:Bool)(v1:OA)(v2:Nat)(v3:Nat)(v4:OA)(v5:Nat)(v6:Nat)(v7:Bool)(v8:OA)(v9:Nat)(v10:Nat)(v11:OA)(v12:Nat)(v13:Nat):Value:=A #[B v0,S v1 v2 v3,S v4 v5 v6,B v7,S v8 v9 v10,S v11 v12 v13]
abbrev sN (r:Value)(K:Bool->OA->Nat->Nat->OA->Nat->Nat->Bool->OA->Nat->Nat->OA->Nat->Nat->Prop):Prop:=∃(v0:Bool)(v1:OA)(v2:Nat)(v3:Nat)(v4:OA)(v5:Nat)(v6:Nat)(v7:Bool)(v8:OA)(v9:Nat)(v10:Nat)(v11:OA)(v12:Nat)(v13:Nat),r=A #[B v0,S v1 v2 v3,S v4 v5 v6,B v7,S v8 v9 v10,S v11 v12 v13]/\K v0 v1 v2 v3 v4 v5 v6 v7 v8 v9 v10 v11 v12 v13
abbrev qt (v0:Bool)(v1:OA)(v2:Nat)(v3:Nat)(v4:Bool)(v5:OA)(v6:Nat)(v7:Nat)(v8:Bool)(v9:OA)(v10:Nat)(v11:Nat):Value:=A #[B v0,S v1 v2 v3,B v4,S v5 v6 v7,B v8,S v9 v10 v11]
abbrev rQ (v0:Int)(v1:Int)(v2:OA)(v3:Int)(v4:Int)(v5:OA)(v6:Int)(v7:Int)(v8:OA):Value:=A #[I J v0,I J v1,P v2,I J v3,I J v4,P v5,I J v6,I J v7,P v8]
abbrev jU (v0:Int)(v1:Int)(v2:OA)(v3:Int)(v4:Int)(v5:OA):Value:=A #[I J v0,I J v1,P v2,I J v3,I J v4,P v5]
abbrev Dn (r:Value)(K:Int->Int->OA->Int->Int->OA->Prop):Prop:=∃(v0:Int)(v1:Int)(v2:OA)(v3:Int)(v4:Int)(v5:OA),r=A #[I J v0,I J v1,P v2,I J v3,I J v4,P v5]/\K v0 v1 v2 v3 v4 v5
abbrev Hk (v0:Bool)(v1:OA)(v2:Nat)(v3:Nat)(v4:OA)(v5:Nat)(v6:Nat)(v7:Bool)(v8:OA)(v9:Nat)(v10:Nat)(v11:OA)(v12:Nat)(v13:Nat)(v14:Bool)(v15:Bool):Value:=A #[B v0,S v1 v2 v3,S v4 v5 v6,B v7,S v8 v9 v10,S v11 v12 v13,B v14,B v15]
abbrev Mk (r:Value)(K:Bool->OA->Nat->Nat->Bool->OA->Nat->Nat->Bool->OA->Nat->Nat->Prop):Prop:=∃(v0:Bool)(v1:OA)(v2:Nat)(v3:Nat)(v4:Bool)(v5:OA)(v6:Nat)(v7:Nat)(v8:Bool)(v9:OA)(v10:Nat)(v11:Nat),r=A #[B v0,S v1 v2 v3,B v4,S v5 v6 v7,B v8,S v9 v10 v11]/\K v0 v1 v2 v3 v4 v5 v6 v7 v8 v9 v10 v11
abbrev NB (r:Value)(K:Bool->OA->Nat->Nat->OA->Nat->Nat->Bool->OA->Nat->Nat->OA->Nat->Nat->Bool->Bool->Prop):Prop:=∃(v0:Bool)(v1:OA)(v2:Nat)(v3:Nat)(v4:OA)(v5:Nat)(v6:Nat)(v7:Bool)(v8:OA)(v9:Nat)(v10:Nat)(v11:OA)(v12:Nat)(v13:Nat)(v14:Bool)(v15:Bool),r=A #[B v0,S v1 v2 v3,S v4 v5 v6,B v7,S v8 v9 v10,S v11 v12 v13,B v14,B v15]/\K v0 v1 v2 v3 v4 v5 v6 v7 v8 v9 v10 v11 v12 v13 v14 v15
abbrev wT (v0:Bool)(v1:OA)(v2:Nat)(v3:Nat)(v4:Bool)(v5:OA)(v6:Nat)(v7:Nat)(v8:Bool)(v9:OA)(v10:Nat)(v11:Nat)(v12:Bool)(v13:OA)(v14:Nat)(v15:Nat)(v16:OA)(v17:Nat)(v18:Nat)(v19:Bool)(v20:OA)(v21:Nat)(v22:Nat)(v23:OA)(v24:Nat)(v25:Nat)(v26:Bool)(v27:Bool):Value:=A #[B v0,S v1 v2 v3,B v4,S v5 v6 v7,B v8,S v9 v10 v11,B v12,S v13 v14 v15,S v16 v17 v18,B v19,S v20 v21 v22,S v23 v24 v25,B v26,B v27]
abbrev Mj (v0:Int)(v1:Int)(v2:OA)(v3:Int)(v4:Int)(v5:OA)(v6:Bool)(v7:Bool):Value:=A #[I J v0,I J v1,P v2,I J v3,I J v4,P v5,B v6,B v7]
abbrev Dw (v0:Int)(v1:Int)(v2:OA)(v3:Int)(v4:Int)(v5:OA)(v6:Int)(v7:Int)(v8:OA)(v9:Int)(v10:Int)(v11:OA)(v12:Int)(v13:Int)(v14:OA)(v15:Bool)(v16:Bool):Value:=A #[I J v0,I J v1,P v2,I J v3,I J v4,P v5,I J v6,I J v7,P v8,I J v9,I J v10,P v11,I J v12,I J v13,P v14,B v15,B v16]
abbrev N0 (r:Value)(K:Bool->OA->Nat->Nat->Bool->OA->Nat->Nat->Bool->OA->Nat->Nat->Bool->OA->Nat->Nat->OA->Nat->Nat->Bool->OA->Nat->Nat->OA->Nat->Nat->Bool->Bool->Prop):Prop:=∃(v0:Bool)(v1:OA)(v2:Nat)(v3:Nat)(v4:Bool)(v5:OA)(v6:Nat)(v7:Nat)(v8:Bool)(v9:OA)(v10:Nat)(v11:Nat)(v12:Bool)(v13:OA)(v14:Nat)(v15:Nat)(v16:OA)(v17:Nat)(v18:Nat)(v19:Bool)(v20:OA)(v21:Nat)(v22:Nat)(v23:OA)(v24:Nat)(v25:Nat)(v26:Bool)(v27:Bool),r=A #[B v0,S v1 v2 v3,B v4,S v5 v6 v7,B v8,S v9 v10 v11,B v12,S v13 v14 v15,S v16 v17 v18,B v19,S v20 v21 v22,S v23 v24 v25,B v26,B v27]/\K v0 v1 v2 v3 v4 v5 v6 v7 v8 v9 v10 v11 v12 v13 v14 v15 v16 v17 v18 v19 v20 v21 v22 v23 v24 v25 v26 v27
abbrev WR (a:OA)(n:Nat)(m:View)(K:Int->Int->OA->Int->Int->OA->Int->Int->OA->Int->Int->OA->Int->Int->OA->Bool->Bool->Addr->Prop):Prop:=∃(v0:Int)(v1:Int)(v2:OA)(v3:Int)(v4:Int)(v5:OA)(v6:Int)(v7:Int)(v8:OA)(v9:Int)(v10:Int)(v11:OA)(v12:Int)(v13:Int)(v14:OA)(v15:Bool)(v16:Bool)(q:Addr),ah a n=some q/\m.at (q.add 0) (I J v0)/\m.at (q.add 1) (I J v1)/\m.at (q.add 2) (P v2)/\m.at (q.add 3) (I J v3)/\m.at (q.add 4) (I J v4)/\m.at (q.add 5) (P v5)/\m.at (q.add 6) (I J v6)/\m.at (q.add 7) (I J v7)/\m.at (q.add 8) (P v8)/\m.at (q.add 9) (I J v9)/\m.at (q.add 10) (I J v10)/\m.at (q.add 11) (P v11)/\m.at (q.add 12) (I J v12)/\m.at (q.add 13) (I J v13)/\m.at (q.add 14) (P v14)/\m.at (q.add 15) (B v15)/\m.at (q.add 16) (B v16)/\K v0 v1 v2 v3 v4 v5 v6 v7 v8 v9 v10 v11 v12 v13 v14 v15 v16 q
abbrev Qn (a:OA)(n:Nat)(m:View)(K:Bool->OA->Nat->Nat->Bool->OA->Nat->Nat->Bool->OA->Nat->Nat->Bool->OA->Nat->Nat->OA->Nat->Nat->Bool->OA->Nat->Nat->OA->Nat->Nat->Bool->Bool->Addr->Prop):Prop:=∃(v0:Bool)(v1:OA)(v2:Nat)(v3:Nat)(v4:Bool)(v5:OA)(v6:Nat)(v7:Nat)(v8:Bool)(v9:OA)(v10:Nat)(v11:Nat)(v12:Bool)(v13:OA)(v14:Nat)(v15:Nat)(v16:OA)(v17:Nat)(v18:Nat)(v19:Bool)(v20:OA)(v21:Nat)(v22:Nat)(v23:OA)(v24:Nat)(v25:Nat)(v26:Bool)(v27:Bool)(q:Addr),ah a n=some q/\m.at (q.add 0) (B v0)/\m.at (q.add 1) (S v1 v2 v3)/\m.at (q.add 2) (B v4)/\m.at (q.add 3) (S v5 v6 v7)/\m.at (q.add 4) (B v8)/\m.at (q.add 5) (S v9 v10 v11)/\m.at (q.add 6) (B v12)/\m.at (q.add 7) (S v13 v14 v15)/\m.at (q.add 8) (S v16 v17 v18)/\m.at (q.add 9) (B v19)/\m.at (q.add 10) (S v20 v21 v22)/\m.at (q.add 11) (S v23 v24 v25)/\m.at (q.add 12) (B v26)/\m.at (q.add 13) (B v27)/\K v0 v1 v2 v3 v4 v5 v6 v7 v8 v9 v10 v11 v12 v13 v14 v15 v16 v17 v18 v19 v20 v21 v22 v23 v24 v25 v26 v27 q
abbrev WS (a:OA)(n:Nat)(m:View)(K:Int->Int->OA->Int->Int->OA->Bool->Bool->Addr->Prop):Prop:=∃(v0:Int)(v1:Int)(v2:OA)(v3:Int)(v4:Int)(v5:OA)(v6:Bool)(v7:Bool)(q:Addr),ah a n=some q/\m.at (q.add 0) (I J v0)/\m.at (q.add 1) (I J v1)/\m.at (q.add 2) (P v2)/\m.at (q.add 3) (I J v3)/\m.at (q.add 4) (I J v4)/\m.at (q.add 5) (P v5)/\m.at (q.add 6) (B v6)/\m.at (q.add 7) (B v7)/\K v0 v1 v2 v3 v4 v5 v6 v7 q
abbrev mY (v0:Int)(v1:Int)(v2:OA)(v3:Int)(v4:Int):Value:=A #[I J v0,I J v1,P v2,I J v3,I J v4]
abbrev U2 (v0:Int)(v1:Int):Value:=T #[I J v0,I J v1]
abbrev N1 (r:Value)(K:Int->Int->Prop):Prop:=∃(v0:Int)(v1:Int),r=T #[I J v0,I J v1]/\K v0 v1
end Go.Proofs.Tryz
