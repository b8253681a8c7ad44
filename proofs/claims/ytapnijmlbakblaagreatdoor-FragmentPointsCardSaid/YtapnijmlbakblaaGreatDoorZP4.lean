import Derived.Test.YtapnijmlbakblaaGreatDoorZP3
set_option linter.unusedVariables false
open Go.IntKind (i64 u64 u32)
namespace Go.Eng
variable {P:Program} {T:cI} {n:Nat} {V0:View} {bw:Ds} {β0:Nat->Nat} {st:St} {β:Nat->Nat} {a:Act} {w:World} {V:View}
def bV (V:View)(w:World):View:=⟨w,fun b=>b<w.heap.size/\∀o,¬V.bI b o,fun _=>False,fun _ h=>h.1,fun _ h=>h.elim⟩
theorem rK (hM:Mod n V0 bw β0 st β a w V):V.Le (bV V w):=fun b o c=>⟨fun h=>h.2 o c,(hM.nD b o c).1⟩
theorem jW.run {f:FuncId}(h:jW P f)(xs:Array Value):(callFunc f xs).run P w=.ok (.enter f xs) w:=by
 obtain ⟨fn,a,b,c⟩:=h;simp only [callFunc,Sem.run_bind,run_program,Result.andThen_ok,a,c,b,Qz5,if_false,Sem.run_pure]
theorem bJ {x:Nat}:∀{l:List Nat},x∈dedup l↔x∈l
 | []=>by simp [dedup]
 | y::r=>by
  simp only [dedup]
  cases h:dZ y (dedup r) with
  | true=>
   simp only [cond_true,Qq4];rw [bJ];constructor
   ·exact .inr
   ·rintro (rfl|h')
    ·exact bJ.1 (cj.1 h)
    ·exact h'
  | false=>simp only [cond_false,Qq4];rw [bJ]
theorem dR {bx:Nat->Option aP}:∀(k:Nat)(l:List Nat),∀x∈l,x∈reach bx k l
 | 0,_,x,hx=>hx
 | k+1,l,x,hx=>by simp only [reach];exact dR k _ x (bJ.2 (Qk3 _ hx))
theorem eU {bx:Nat->Option aP}{l:List Nat}(h:gi bx l=true){s:Nat}(hs:s∈l){b:aP}(hb:bx s=some b):∀t∈b.cs.ids,t∈l:=by
 unfold gi at h;rw [Qz0] at h;have:=h s hs;unfold JE kE at this;rw [hb,Qz0] at this;exact fun t a=>cj.1 (this t a)
theorem iq {L:List Nat}:∀{γ:Nat->Nat} {k:(Nat->Nat)->Prop},kC L γ k->∀β:Nat->Nat,k (fun t=>if t∈L then β t else γ t):=by
 induction L with
 | nil=>
  intro γ k h β;have e:(fun t=>if t∈([]:List Nat) then β t else γ t)=γ:=by funext t;simp
  rw [e];exact h
 | cons s r ih=>
  intro γ k h β;have:=ih (h (β s)) β
  have e:(fun t=>if t∈r then β t else bG γ s (β s) t)=fun t=>if t∈s::r then β t else γ t:=by
   funext t;by_cases a:t∈r
   ·simp [a]
   ·by_cases b:t=s
    ·subst b;simp [a,aR]
    ·simp [a,b,fC]
  rw [e] at this;exact this
theorem vx {bx:Nat->Option aP}{b:aP}{γ:Nat->Nat}{s:Nat}:∀{r:List Nat} {k:Prop},LY bx b γ s r k->(∀t∈r,∀b',bx t=some b'->b.live->b'.live->γ s=γ t->s=t)->(∀t∈r,∃b',bx t=some b')->k
 | [],_,h,_,_=>h
 | t::r,k,h,hi,hl=>by
  simp only [LY] at h
  cases hb:Nat.beq s t with
  | true=>rw [hb] at h;exact vx h (fun t ht=>hi t (Qq8 _ ht)) (fun t ht=>hl t (Qq8 _ ht))
  | false=>
   rw [hb] at h;obtain ⟨b',hb'⟩:=hl t (by simp);simp only [hb',cond_false] at h;refine vx (h ?_) (fun t ht=>hi t (Qq8 _ ht)) (fun t ht=>hl t (Qq8 _ ht));rw [rZ,eL];intro l;rw [eL];intro a e;have:=hi t (by simp) b' hb' l a e;rw [this,Qz8] at hb;cases hb
theorem vl {bx:Nat->Option aP}{γ:Nat->Nat}{V':View}:∀{L:List Nat} {k:Prop},hU bx γ V' L k->(∀s∈L,∀b,bx s=some b->b.live->V'.w.heap[γ s]?=some (b.obj γ)/\V'.H (γ s)) ->
  (∀s∈L,∀t∈L,∀b b',bx s=some b->b.live->bx t=some b'->b'.live->γ s=γ t->s=t)->(∀s∈L,∃b,bx s=some b)/\k
 | [],k,h,_,_=>⟨fun s hs=>(nomatch hs),h⟩
 | s::r,k,h,hf,hi=>by
  simp only [hU] at h;split at h
  ·rename_i b hb
   obtain ⟨h3,h5⟩:=vl (h (eL.2 fun l=>(hf s (by simp) b hb l).1) (eL.2 fun l=>(hf s (by simp) b hb l).2)) (fun c a=>hf c (Qq8 _ a))
    (fun c a t d=>hi c (Qq8 _ a) t (Qq8 _ d))
   have f:=vx h5 (fun t d b' e l g=>hi s (by simp) t (Qq8 _ d) b b' hb l e g) h3;exact ⟨fun c a=>by rcases Qq4.1 a with rfl|a;exact ⟨b,hb⟩;exact h3 c a,f⟩
  ·exact h.elim
theorem iu {bx:Nat->Option aP}{γ:Nat->Nat}{V':View}:∀{L:List Nat} {k:Prop},pM bx γ V' L k->(∀s∈L,∀b,bx s=some b->b.live->V'.bI (γ s) (b.obj γ))->(∀s∈L,∃b,bx s=some b)/\k
 | [],k,h,_=>⟨fun s hs=>(nomatch hs),h⟩
 | s::r,k,h,hf=>by
  simp only [pM] at h;split at h
  ·rename_i b hb;obtain ⟨h3,h4⟩:=iu (h (eL.2 (hf s (by simp) b hb))) (fun c a=>hf c (Qq8 _ a));exact ⟨fun c a=>by rcases Qq4.1 a with rfl|a;exact ⟨b,hb⟩;exact h3 c a,h4⟩
  ·exact h.elim
theorem gC {mv:Option (Nat×Nat)}:∀(cs zs:List C) {K:List C->Prop},kN mv cs zs K->∃cs',K cs'/\∀s∈cs'.flatMap C.ids,s∈cs.flatMap C.ids\/∃m,mv=some (m,s)
 | [],_,_,h=>⟨[],h,fun s hs=>(nomatch hs)⟩
 | c::r,[],_,h=>h.elim
 | c::r,z::zr,K,h=>by
  simp only [kN] at h;split at h
  ·split at h
   ·rename_i m nb;split at h
    ·obtain ⟨n,c,h⟩:=h;obtain ⟨cs',a,b⟩:=gC r zr h;refine ⟨_,a,fun s hs=>?_⟩;simp only [Qw8,Qw1] at hs ⊢;rcases hs with hs|hs
     ·simp only [C.ids,Qw3] at hs;subst hs;exact .inr ⟨m,rfl⟩
     ·exact (b s hs).imp .inr id
    ·exact h.elim
   ·exact h.elim
  ·split at h
   ·obtain ⟨v,d,e⟩:=wS.dN _ h;obtain ⟨cs',a,b⟩:=gC r zr e
    exact ⟨v::cs',a,fun s hs=>by
     simp only [Qw8,d,Qm3,Qw1] at hs ⊢;exact (b s hs).imp .inr id⟩
   ·obtain ⟨cs',a,b⟩:=gC r zr h
    exact ⟨c::cs',a,fun s hs=>by
     simp only [Qw8,Qw1] at hs ⊢;rcases hs with hs|hs
     ·exact .inl (.inl hs)
     ·exact (b s hs).imp .inr id⟩
theorem Mod.fill (h:Mod n V0 bw β0 st β a w V){s:Nat}{b0 b:aP}(hs:st.boxes s=some b0)(fc:∀t∈b.cs.ids,∃b',st.boxes t=some b')
  (hg:∀t b',st.boxes t=some b'->b'.live->t≠s->β t≠β s)(hV:∀o,¬V.bI (β s) o)(hown:V0.w.heap.size<=β s\/(100000<=s/\bw.B (β s)))(hw:w.heap[β s]?=some (b.obj β)) :
  Mod n V0 bw β0 (st.box s b) β a w V:=by
 have j:∀t,(∃b',st.boxes t=some b')->∃b',(st.box s b).boxes t=some b':=by
  rintro t ⟨b',c⟩;rw [ao];split
  ·exact ⟨_,rfl⟩
  ·exact ⟨b',c⟩
 refine ⟨h.defers,h.size,h.ay,fun t x v u hu=>j u (h.wY t x v u hu),?_,?_,?_,h.nD,?_,h.ext,?_,h.kD,h.jD,h.small⟩
 ·intro t b' c u hu;rw [ao] at c;split at c
  ·simp only [Qq2] at c;exact j u (fc u (c▸hu))
  ·exact j u (h.wX t b' c u hu)
 ·intro t b' c l;rw [ao] at c;split at c
  ·rename_i e;simp only [Qq2] at c;rw [e,←c];exact hw
  ·exact h.boxes t b' c l
 ·intro t k m p g q i r he;rw [ao] at g i;split at g<;>split at i
  ·rename_i d f;rw [d,f]
  ·rename_i d f;rw [d] at he;exact absurd he.symm (hg k p i r f)
  ·rename_i d f;rw [f] at he;exact absurd he (hg t m g q d)
  ·exact h.inj t k m p g q i r he
 ·intro t b' c l;rw [ao] at c;split at c
  ·rename_i e;rw [e];exact hV
  ·exact h.s_ t b' c l
 ·intro t b' c l;rw [ao] at c;split at c
  ·rename_i e;rw [e];exact hown
  ·exact h.own t b' c l
theorem Mod.later (hM:Mod n V0 bw β0 st β a w V){X:Nat->Prop}{w':World}(hx:h_ X w w')(hX:∀t b,st.boxes t=some b->b.live->¬X (β t))(hX0:∀i,i<V0.w.heap.size->X i->V0.X i){V1:View}
  (MK:∀b o,V1.bI b o->w'.heap[b]?=some o/\¬V0.H b)(qS:∀t b,st.boxes t=some b->b.live->∀o,¬V1.bI (β t) o):Mod n V0 bw β0 st β a w' V1:=by
 refine ⟨hM.defers,hM.size,hM.ay,hM.wY,hM.wX,?_,hM.inj,MK,qS,?_,hM.own,hM.kD,hM.jD,hM.small⟩
 ·intro t b d l;have:=hM.boxes t b d l;rw [hx.bI _ (aB this) (hX t b d l)];exact this
 ·refine ⟨Qx3 hM.ext.size hx.size,fun i c e=>?_,hx.os.trans hM.ext.os,hx.tape.trans hM.ext.tape,hx.out.trans hM.ext.out⟩;rw [hx.bI i (Qx2 c hM.ext.size) (fun h=>e (hX0 i c h))];exact hM.ext.bI i c e
theorem Mod.beta (hM:Mod n V0 bw β0 st β a w V){d g:Nat}(hd:d<n\/200000<=d)(hn:st.boxes d=none):Mod n V0 bw β0 st (bG β d g) a w V:=by
 have m:∀s f,st.boxes s=some f->s≠d:=fun s f j e=>by rw [e,hn] at j;cases j
 have hβ:∀s f,st.boxes s=some f->bG β d g s=β s:=fun s f j=>fC _ _ (m s f j);refine ⟨hM.defers,hM.size,?_,hM.wY,hM.wX,?_,?_,hM.nD,?_,hM.ext,?_,?_,hM.jD,hM.small⟩
 ·intro t x q;rw [hM.ay t x q];exact SV.bB fun s j=>by obtain ⟨f,i⟩:=hM.wY t x q s j;exact (hβ s f i).symm
 ·intro s b c l;rw [hβ s b c,hM.boxes s b c l];congr 1;exact aP.cD fun k o=>by obtain ⟨p,r⟩:=hM.wX s b c k o;exact (hβ k p r).symm
 ·intro s k b f c l i u he;rw [hβ s b c,hβ k f i] at he;exact hM.inj s k b f c l i u he
 ·intro s b c l;rw [hβ s b c];exact hM.s_ s b c l
 ·intro s b c l;rw [hβ s b c];exact hM.own s b c l
 ·intro s j;obtain ⟨v,y⟩:=hM.kD s j;exact ⟨v,by rw [fC _ _ (by have:=hM.small;omega)];exact y⟩
theorem jB {ty:TypeId}:∀{L:List Nat} {st:St},(dg st L ty).ay=st.ay
 | [],_=>rfl
 | s::r,st=>by unfold dg;rw [Qc4];exact jB (L:=r)
theorem bg {ty:TypeId}:∀{L:List Nat} {st:St} (t:Nat),(dg st L ty).boxes t=if t∈L then some ⟨.aN [],ty⟩ else st.boxes t
 | [],st,t=>by simp [dg]
 | s::r,st,t=>by
  have:=bg (ty:=ty) (L:=r) (st:=st.box s ⟨.aN [],ty⟩) t;unfold dg at this ⊢;rw [Qc4,this,ao];by_cases a:t∈r
  ·simp [a]
  ·by_cases b:t=s
   ·simp [b]
   ·simp [a,b]
theorem Mod.FU {ty:TypeId}:∀{L:List Nat} {st:St},Mod n V0 bw β0 st β a w V->Mod n V0 bw β0 (dg st L ty) β a w V
 | [],_,h=>h
 | s::r,st,h=>by unfold dg;rw [Qc4];exact Mod.FU (L:=r) h.void
theorem kP {mv:Option (Nat×Nat)}{γ:Nat->Nat}{V2:View}{A:List Nat}(hV2:V2.w=w)(Su:∀s∈A,γ s=β s)(hinj:∀s∈A,∀s'∈A,β s=β s'->s=s')(qS:∀s∈A,∀o,¬V.bI (β s) o)
  (hown:∀s∈A,V0.w.heap.size<=β s\/(100000<=s/\bw.B (β s))) :
  ∀(L:List Nat) (JC xF:St) {k:St->Prop},(∀s∈L,s∈A)->Mod n V0 bw β0 xF β a w V->JC.ay=xF.ay->(∀t,t∉L->JC.boxes t=xF.boxes t)->(∀s∈L,∃b,xF.boxes s=some b) ->
   (∀t b,xF.boxes t=some b->b.live->t∉A->∀s∈A,β t≠β s)->(∀s∈L,∀b,JC.boxes s=some b->∀t∈b.cs.ids,(∃b',xF.boxes t=some b')/\γ t=β t)->(∀m nb,mv=some (m,nb)->(∃b',xF.boxes nb=some b')/\γ nb=β nb) ->
   dz T mv γ V2 L JC k->∃st',Mod n V0 bw β0 st' β a w V/\st'.ay=xF.ay/\(∀t,(∃b,xF.boxes t=some b)->∃b,st'.boxes t=some b)/\k st'
 | [],JC,xF,k,_,hM,hsl,hag,_,_,_,_,h=>by
  have:JC=xF:=by
   obtain ⟨s1,j⟩:=JC;obtain ⟨s2,Q⟩:=xF;dsimp only at hsl hag;subst hsl;congr 1;funext t;exact hag t (by simp)
  exact ⟨xF,hM,rfl,fun _ h=>h,this▸h⟩
 | s::r,JC,xF,k,hA,hM,hsl,hag,hb,hd,hw,hmv,h=>by
  have g:=hA s (by simp);obtain ⟨R,C⟩:=hb s (by simp)
  have step:∀j:aP,(∀t∈j.cs.ids,(∃b',xF.boxes t=some b')/\γ t=β t)->w.heap[γ s]?=some (j.obj γ)->dz T mv γ V2 r (JC.box s j) k ->
    ∃st',Mod n V0 bw β0 st' β a w V/\st'.ay=xF.ay/\(∀t,(∃b,xF.boxes t=some b)->∃b,st'.boxes t=some b)/\k st':=by
   intro j v I h;rw [Su s g,aP.cD fun t c=>(v t c).2] at I;by_cases D:s∈r
   ·
    refine kP hV2 Su hinj qS hown r (JC.box s j) xF (fun s' d=>hA s' (Qq8 _ d)) hM hsl ?_ (fun s' d=>hb s' (Qq8 _ d)) hd ?_ hmv h
    ·intro t c;have:t≠s:=fun e=>c (e▸D);rw [ao,if_neg this];exact hag t (by simp [this,c])
    ·intro s' d b' f t c;rw [ao] at f;split at f
     ·cases f;exact v t c
     ·exact hw s' (Qq8 _ d) b' f t c
   ·have E:=hM.fill (b:=j) C (fun t c=>(v t c).1) (by
     intro t b' c l F he;by_cases x:t∈A
     ·exact F (hinj t x s g he)
     ·exact hd t b' c l x s g he) (qS s g) (hown s g) I
    have y:∀t,(∃b,xF.boxes t=some b)->∃b,(xF.box s j).boxes t=some b:=by
     rintro t ⟨b,c⟩;rw [ao];split
     ·exact ⟨_,rfl⟩
     ·exact ⟨b,c⟩
    obtain ⟨st',J,K,M,N⟩:=kP hV2 Su hinj qS hown r (JC.box s j) (xF.box s j) (fun s' d=>hA s' (Qq8 _ d)) E hsl
     (by
      intro t c;rw [ao,ao];split
      ·rfl
      ·rename_i e;exact hag t (by simp [e,c]))
     (fun s' d=>y s' (hb s' (Qq8 _ d)))
     (by
      intro t b' c l x;rw [ao] at c;split at c
      ·rename_i e;exact absurd (e▸g) x
      ·exact hd t b' c l x)
     (by
      intro s' d b' f t c;rw [ao] at f;split at f
      ·cases f;exact ⟨y t (v t c).1,(v t c).2⟩
      ·have:=hw s' (Qq8 _ d) b' f t c;exact ⟨y t this.1,this.2⟩)
     (fun m nb e=>⟨y nb (hmv m nb e).1,(hmv m nb e).2⟩) h
    exact ⟨st',J,K,fun t c=>M t (y t c),N⟩
  simp only [dz] at h;split at h
  ·rename_i cs ty q;split at h
   ·rename_i i S;obtain ⟨G,⟨p,z⟩,O⟩:=gC _ _ h;rw [hV2] at p;refine step ⟨.lit G,ty⟩ (fun t c=>?_) p z;rcases O t c with H|⟨m,H⟩
    ·exact hw s (by simp) _ q t H
    ·exact hmv m t H
   ·exact h.elim
  ·rename_i P ty q;obtain ⟨u,p,z⟩:=h;rw [hV2] at p;exact step ⟨.row u,ty⟩ (fun t c=>(nomatch c)) p z
  ·rename_i P ty q;obtain ⟨-,u,-,p,z⟩:=h;rw [hV2] at p;exact step ⟨.aN u,ty⟩ (fun t c=>(nomatch c)) p z
  ·exact h.elim
theorem vk {mv:Option (Nat×Nat)}{V2:View}:∀{L:List Nat} {st:St} {k:St->Prop},dz T mv β V2 L st k->∀s∈L,∃b,st.boxes s=some b/\b.live
 | [],_,_,_,s,hs=>nomatch hs
 | s::r,st,k,h,t,ht=>by
  have core:∀b1:aP,(∃b,st.boxes s=some b/\b.live)->dz T mv β V2 r (st.box s b1) k->∃b,st.boxes t=some b/\b.live:=by
   intro b1 hs h;by_cases e:t=s
   ·rw [e];exact hs
   ·have:=vk h t (by simpa [e] using ht);rw [ao,if_neg e] at this;exact this
  simp only [dz] at h;split at h
  ·rename_i cs ty a;split at h
   ·obtain ⟨i,⟨g,c⟩,l⟩:=gC _ _ h;exact core _ ⟨_,a,cw⟩ c
   ·exact h.elim
  ·rename_i j ty a;obtain ⟨d,g,c⟩:=h;exact core _ ⟨_,a,cf⟩ c
  ·rename_i j ty a;obtain ⟨f,d,-,g,c⟩:=h;exact core _ ⟨_,a,fun _ e=>by cases e;exact f⟩ c
  ·exact h.elim
theorem vj {bx:Nat->Option aP}{γ:Nat->Nat}{N b:Nat}{L:List Nat}(hl:∀s∈L,∃b,bx s=some b)(hb:b∈L.map (cO bx γ N))(hlt:b<N):∃s∈L,∃b0,bx s=some b0/\b0.live/\γ s=b:=by
 obtain ⟨s,c,he⟩:=Qy0.1 hb;obtain ⟨b0,a⟩:=hl s c;unfold cO at he;rw [a] at he;obtain ⟨cs,ty⟩:=b0
 cases cs with
 | lit cs=>exact ⟨s,c,_,a,cw,he⟩
 | row cs=>exact ⟨s,c,_,a,cf,he⟩
 | aN vs=>
  cases vs with
  | nil=>simp only [vb] at he;omega
  | cons v r=>exact ⟨s,c,_,a,dQ (by simp),he⟩
theorem rY {nb:Nat}:∀{xs:List (Bool×List C)},(xs.flatMap fun x=>x.2.flatMap C.ids)=[]->∀s∈((tT nb xs).flatMap fun x=>x.2.flatMap C.ids),s=nb
 | [],_,s,hs=>nomatch hs
 | x::r,h,s,hs=>by
  simp only [Qw8,List.append_eq_nil_iff] at h;unfold tT at hs;split at hs
  ·rename_i heq;cases heq
  ·rename_i heq;cases heq;simp only [Qw8,h.2,List.flatMap_nil,Qk2] at hs;simpa [C.ids] using hs
  ·rename_i heq;cases heq;simp only [Qw8,Qw1,h.1,Qn7,false_or] at hs;exact rY h.2 s hs
theorem uX {nb:Nat}:∀{cs:List C},(cs.flatMap C.ids)=[]->∀s∈(Aa nb cs).flatMap C.ids,s=nb
 | [],_,s,hs=>nomatch hs
 | x::r,h,s,hs=>by
  simp only [Qw8,List.append_eq_nil_iff] at h;unfold Aa at hs;split at hs
  ·rename_i heq;cases heq
  ·rename_i heq;cases heq;simp only [Qw8,h.2,Qk2] at hs;simpa [C.ids] using hs
  ·rename_i heq;cases heq;simp only [Qw8,Qw1,h.1,Qn7,false_or] at hs;exact uX h.2 s hs
theorem D2 {nb:Nat}{x:SV}(h:x.ids=[]):∀s∈(qR nb x).ids,s=nb:=by
 intro s a;unfold qR at a;split at a
 ·simpa [SV.ids,C.ids] using a
 ·exact uX h s a
 ·exact rY h s a
 ·rw [h] at a;cases a
theorem BI {xs:List SV}(h:∀x∈xs,x.ids=[])(γ δ:Nat->Nat):aO γ xs=aO δ xs:=by
 unfold aO;rw [Qj0 fun x a=>js (h x a) γ δ]
theorem Mod.Ml {w0:World}{V':View}(hM:Mod n V0 bw β0 st β a w V')(hlt:∀s b,st.boxes s=some b->b.live->β s<w0.heap.size)(hsz:V0.w.heap.size<=w0.heap.size){d b:Nat}{cs:List C}{e:TypeId}(hd:d<n)(hn:st.boxes d=none)
  (hb:w0.heap.size<=b)(hw:V'.w=w)(hblk:V'.bI b (.cells (cs.map (C.den fun _=>0)).toArray e (0,0)))(fc:cs.flatMap C.ids=[]) :
  Mod n V0 bw β0 ((st.box d ⟨.lit cs,e⟩).put (some d) (.c (.ptr d 0))) (bG β d b) (a.put (some d) (.pointer (some ⟨b,0,none⟩))) w (V'.Ig b):=by
 have r:∀s g,st.boxes s=some g->s≠d:=fun s g f e=>by rw [e,hn] at f;cases f
 have hβ:∀s g,st.boxes s=some g->bG β d b s=β s:=fun s g f=>fC _ _ (r s g f);have u:w.heap[b]?=some (.cells (cs.map (C.den fun _=>0)).toArray e (0,0)):=(hM.nD b _ hblk).1
 have H:(⟨.lit cs,e⟩:aP).obj (bG β d b)=.cells (cs.map (C.den fun _=>0)).toArray e (0,0):=by
  simp only [aP.obj,Cells.den];rw [kL (β':=fun _=>0) fun s f=>by rw [fc] at f;cases f]
 have I:Mod n V0 bw β0 (st.box d ⟨.lit cs,e⟩) (bG β d b) a w (V'.Ig b):=by
  refine ⟨hM.defers,hM.size,?_,?_,?_,?_,?_,?_,?_,hM.ext,?_,?_,hM.jD,hM.small⟩
  ·intro t x y;rw [hM.ay t x y];exact SV.bB fun s f=>by obtain ⟨g,p⟩:=hM.wY t x y s f;exact (hβ s g p).symm
  ·intro t x y s f;obtain ⟨g,p⟩:=hM.wY t x y s f;exact ⟨g,by rw [ao,if_neg (r s g p)];exact p⟩
  ·intro s g f m i;rw [ao] at f;split at f
   ·simp only [Qq2] at f;rw [←f] at i;simp only [Cells.ids] at i;rw [fc] at i;cases i
   ·obtain ⟨q,z⟩:=hM.wX s g f m i;exact ⟨q,by rw [ao,if_neg (r m q z)];exact z⟩
  ·intro s g f l;rw [ao] at f;split at f
   ·rename_i v;simp only [Qq2] at f;rw [v,aR,←f,H];exact u
   ·rw [hβ s g f,hM.boxes s g f l];congr 1;exact aP.cD fun m i=>by obtain ⟨q,z⟩:=hM.wX s g f m i;exact (hβ m q z).symm
  ·intro s m A B j F k G he;rw [ao] at j k;split at j<;>split at k
   ·rename_i D E;rw [D,E]
   ·rename_i D E;rw [D,aR,hβ m B k] at he;have:=hlt m B k G;omega
   ·rename_i D E;rw [E,aR,hβ s A j] at he;have:=hlt s A j F;omega
   ·rw [hβ s A j,hβ m B k] at he;exact hM.inj s m A B j F k G he
  ·rintro x o ⟨j,k⟩;exact hM.nD x o ⟨fun h=>j (.inl h),k⟩
  ·rintro s g f l o ⟨j,k⟩;rw [ao] at f;split at f
   ·rename_i v;rw [v,aR] at j;exact j (.inr ⟨rfl,by rw [hw];exact aB u⟩)
   ·rw [hβ s g f] at j k;exact hM.s_ s g f l o ⟨fun h=>j (.inl h),k⟩
  ·intro s g f l;rw [ao] at f;split at f
   ·rename_i v;rw [v,aR];exact .inl (Qx3 hsz hb)
   ·rw [hβ s g f];exact hM.own s g f l
  ·intro s f;obtain ⟨j,k⟩:=hM.kD s f;exact ⟨j,by rw [fC _ _ (by have:=hM.small;omega)];exact k⟩
 refine I.put hd ?_ ?_
 ·simp only [SV.den,C.den,aR]
 ·intro s f;simp [SV.ids,C.ids] at f;subst f;exact ⟨_,by rw [ao,if_pos rfl]⟩
theorem vu {L:List Nat}{m s:Nat}:s∈(L.filter fun s=>!(Nat.beq s m))↔s∈L/\s≠m:=by
 rw [Qj8];constructor
 ·rintro ⟨b,a⟩;refine ⟨b,fun e=>?_⟩;subst e;rw [Qz8] at a;cases a
 ·rintro ⟨b,a⟩;refine ⟨b,?_⟩
  cases h:Nat.beq s m with
  | false=>rfl
  | true=>exact absurd (beq_eq.1 h) a
theorem lV (hM:Mod n V0 bw β0 st β a w V){L:List Nat}{γ:Nat->Nat}(hJ:∀s∈L,γ s=β s)(hcl:∀s∈L,∀b,st.boxes s=some b->∀t∈b.cs.ids,t∈L)(hlive:∀s∈L,∃b,st.boxes s=some b)
  {give:Bool}{sh:Sh}{m:Option Nat}{d:Nat}(hd:d<n){ety:TypeId}{K:St->View->Prop}{w':World}{r:Value}(hm:∀k,m=some k->k∈L)(hfree:iO st m d=true)
  (hx:h_ (fun b=>b∈L.map (cO st.boxes γ w.heap.size)/\(bV V w).H b) w w')
  (hr:bM T give sh L m d ety γ st (bV V w) K r (((bV V w).ax (L.map (cO st.boxes γ w.heap.size))).to w' hx.size)) :
  ∃st' β' V',Mod n V0 bw β0 st' β' (a.put (some d) r) w' V'/\K st' V':=by
 have a4:V0.w.heap.size<=w.heap.size:=hM.ext.size;unfold bM at hr;generalize hnb:eA m d=nb at hr;obtain ⟨D,p,M,MM,N⟩:=hr;obtain ⟨x,O,rfl,hr⟩:=Sh.dN sh N;clear N
 have Y:st.boxes nb=none:=by
  unfold iO at hfree;rw [hnb] at hfree;split at hfree
  ·cases hfree
  ·assumption
 have LB:nb<n\/200000<=nb:=by
  rw [←hnb]
  cases m with
  | none=>exact .inl hd
  | some m=>exact Ah hd
 generalize hV1:((((bV V w).ax (L.map (cO st.boxes γ w.heap.size))).to w' hx.size).shut.cu (p≠[]) D)=V1 at hr;have RT:V1.w=w':=by rw [←hV1];rfl
 have Z:∀b o,V1.bI b o->w'.heap[b]?=some o/\¬(b<w.heap.size/\∀o,¬V.bI b o)/\¬(p≠[]/\b=D/\b<w'.heap.size):=by
  rintro b o ⟨B,E⟩;rw [RT] at E;rw [←hV1] at B;refine ⟨E,fun h=>B (.inl h),fun h=>B (.inr ⟨h.1,h.2.1,by rw [←h.2.1];exact h.2.2⟩)⟩
 have MK:∀b o,V1.bI b o->w'.heap[b]?=some o/\¬V0.H b:=by
  intro b o h;obtain ⟨B,E,-⟩:=Z b o h;refine ⟨B,fun hH=>?_⟩;by_cases a0:b<w.heap.size
  ·exact E ⟨a0,fun o' a1=>(hM.nD b o' a1).2 hH⟩
  ·have:=V0.hH b hH;omega
 have qS:∀s b,st.boxes s=some b->b.live->∀o,¬V1.bI (β s) o:=fun s b g l o ho=>
  (Z _ o ho).2.1 ⟨aB (hM.boxes s b g l),hM.s_ s b g l⟩
 have OB:∀b,(b∈L.map (cO st.boxes γ w.heap.size)/\(bV V w).H b)->∃s∈L,∃q,st.boxes s=some q/\q.live/\β s=b:=by
  rintro b ⟨B,E⟩;obtain ⟨s,c,q,f,C,he⟩:=vj hlive B E.1;exact ⟨s,c,q,f,C,by rw [←hJ s c];exact he⟩
 have Dp:Mod n V0 bw β0 (dg st L ety) β a w' V1:=by
  refine (hM.FU (L:=L) (ty:=ety)).later hx ?_ ?_ MK ?_
  ·intro t b g l hX;rw [bg] at g;split at g
   ·cases g;exact eB l
   ·rename_i v;obtain ⟨s,c,q,f,C,he⟩:=OB _ hX;exact v (hM.inj s t q b f C g l he▸c)
  ·intro i hi hX;obtain ⟨s,c,q,f,C,rfl⟩:=OB _ hX;rcases hM.own s q f C with h|h
   ·omega
   ·exact hM.jD _ h.2
  ·intro t b g l;rw [bg] at g;split at g
   ·cases g;exact absurd l eB
   ·exact qS t b g l
 have OJ:(dg st L ety).boxes nb=none:=by
  rw [bg,if_neg]
  ·exact Y
  ·intro h;obtain ⟨b,g⟩:=hlive nb h;rw [Y] at g;cases g
 have D8:p≠[]->w.heap.size<=D\/∃k q,m=some k/\st.boxes k=some q/\q.live/\D=β k:=by
  intro u;rcases MM u with h|h
  ·exact .inl h
  ·right
   cases m with
   | none=>exact h.elim
   | some k=>
    have W:=hm k rfl;obtain ⟨q,f⟩:=hlive k W;simp only [wL,f] at h;obtain ⟨cs,ty⟩:=q
    cases cs with
    | lit cs=>exact ⟨k,_,rfl,f,cw,by rw [←hJ k W];exact h⟩
    | row cs=>exact ⟨k,_,rfl,f,cf,by rw [←hJ k W];exact h⟩
    | aN cs=>exact ⟨k,_,rfl,f,dQ h.1,by rw [←hJ k W];exact h.2⟩
 have Xx:Mod n V0 bw β0 ((dg st L ety).box nb ⟨.aN p,ety⟩) (bG β nb D) a w' V1:=by
  by_cases u:p=[]
  ·subst u;exact (Dp.beta LB OJ).void
  ·have OC:w'.heap[D]?=some (.cells p.toArray ety (0,0)):=M u;refine Dp.g_ LB OJ rfl ?_ ?_ ?_ OC (fun _ _ _=>rfl) (Qq3 _) rfl rfl rfl
   ·intro s b g l he;rw [bg] at g;split at g
    ·cases g;exact eB l
    ·rename_i a2;rcases D8 u with h|⟨k,q,P,f,C,h⟩
     ·have:=aB (hM.boxes s b g l);omega
     ·exact a2 (hM.inj k s q b f C g l (h▸he.symm)▸hm k P)
   ·intro o ho;exact (Z _ o ho).2.2 ⟨u,rfl,aB OC⟩
   ·rcases D8 u with h|⟨k,q,P,f,C,h⟩
    ·left;omega
    ·rcases hM.own k q f C with X|X
     ·left;rw [h];exact X
     ·right;refine ⟨?_,by rw [h];exact X.2⟩;rw [←hnb,P];exact Ft X.1
 have D6:∀s,(∃b,st.boxes s=some b)->s≠nb:=by rintro s ⟨b,g⟩ rfl;rw [Y] at g;cases g
 generalize hA:Cc m L=A at hr
 have F:∀s∈A,s∈L/\∀k,m=some k->s≠k:=by
  intro s c;rw [←hA] at c
  cases m with
  | none=>exact ⟨c,fun k h=>nomatch h⟩
  | some k=>obtain ⟨B,E⟩:=vu.1 c;exact ⟨B,fun j hj=>by cases hj;exact E⟩
 have Vs:∀s∈L,(∀k,m=some k->s≠k)->s∈A:=by
  intro s c h;rw [←hA]
  cases m with
  | none=>exact c
  | some k=>exact vu.2 ⟨c,h k rfl⟩
 have J:∀s,(∃b,st.boxes s=some b)->bG γ nb D s=γ s/\bG β nb D s=β s:=fun s c=>⟨fC _ _ (D6 s c),fC _ _ (D6 s c)⟩
 have OS:∀s∈A,((pf m ety st).box nb ⟨.aN p,ety⟩).boxes s=st.boxes s:=by
  intro s c;obtain ⟨B,E⟩:=F s c;rw [ao,if_neg (D6 s (hlive s B))]
  cases m with
  | none=>rfl
  | some k=>simp only [pf];rw [ao,if_neg (E k rfl)]
 have Q:∀s∈A,∃b,st.boxes s=some b/\b.live:=by
  intro s c;have:=vk hr s c;rw [OS s c] at this;exact this
 obtain ⟨st',g1,g2,g3,g4⟩:=kP (a:=a) (w:=w') (V:=V1) (γ:=bG γ nb D) (β:=bG β nb D) (by rfl) (fun s c=>by
   have:=J s (hlive s (F s c).1);rw [this.1,this.2];exact hJ s (F s c).1)
  (by
   intro s c R S he;rw [(J s (hlive s (F s c).1)).2,(J R (hlive R (F R S).1)).2] at he;obtain ⟨y,z,G⟩:=Q s c;obtain ⟨b2,e2,l2⟩:=Q R S;exact hM.inj s R y b2 z G e2 l2 he)
  (by
   intro s c;obtain ⟨y,z,G⟩:=Q s c;rw [(J s ⟨y,z⟩).2];exact qS s y z G)
  (by
   intro s c;obtain ⟨y,z,G⟩:=Q s c;rw [(J s ⟨y,z⟩).2];exact hM.own s y z G)
  A _ ((dg st L ety).box nb ⟨.aN p,ety⟩) (fun _ h=>h) Xx
  (by
   show _=(dg st L ety).ay;rw [jB];cases m<;>rfl)
  (by
   intro t v;rw [ao,ao];split
   ·rfl
   ·rw [bg]
    cases m with
    | none=>
     simp only [pf];rw [if_neg fun h=>v (Vs t h fun k e=>nomatch e)]
    | some k=>
     simp only [pf];rw [ao];split
     ·rename_i e;rw [if_pos (e▸hm k rfl)]
     ·rename_i e;rw [if_neg fun h=>v (Vs t h fun j hj=>by cases hj;exact e)])
  (by
   intro s c;rw [ao];split
   ·exact ⟨_,rfl⟩
   ·rw [bg,if_pos (F s c).1];exact ⟨_,rfl⟩)
  (by
   intro t b v l KC s c;obtain ⟨y,z,G⟩:=Q s c;rw [(J s ⟨y,z⟩).2];rw [ao] at v;split at v
   ·rename_i e;simp only [Qq2] at v;rw [e,aR];have u:p≠[]:=fun e0=>by rw [←v,e0] at l;exact eB l
    rcases D8 u with h|⟨k,q,P,f,C,h⟩
    ·have:=aB (hM.boxes s y z G);omega
    ·intro he;exact (F s c).2 k P (hM.inj k s q y f C z G (h▸he)).symm
   ·rw [bg] at v;split at v
    ·cases v;exact absurd l eB
    ·rename_i U;intro he;rw [(J t ⟨b,v⟩).2] at he;exact U (hM.inj t s b y v l z G he▸(F s c).1))
  (by
   intro s c b g t v;rw [OS s c] at g;have U:=hcl s (F s c).1 b g t v;have I:=J t (hlive t U);refine ⟨?_,by rw [I.1,I.2];exact hJ t U⟩;rw [ao];split
   ·exact ⟨_,rfl⟩
   ·rw [bg,if_pos U];exact ⟨_,rfl⟩)
  (by
   intro k a3 e
   have:a3=nb:=by
    cases m with
    | none=>cases e
    | some m=>cases e;rfl
   subst this;exact ⟨⟨_,by rw [ao,if_pos rfl]⟩,by rw [aR,aR]⟩)
  hr
 obtain ⟨b2,I⟩:=g3 nb ⟨_,by rw [ao,if_pos rfl]⟩
 have fc:∀s∈(cond give (qR nb x) x).ids,s=nb:=by
  cases give with
  | true=>exact D2 O
  | false=>intro s c;rw [cond_false,O] at c;cases c
 refine ⟨_,_,_,g1.put (x:=cond give (qR nb x) x) hd ?_ ?_,g4⟩
 ·exact SV.bB fun s c=>by rw [fc s c,aR,aR]
 ·intro s c;rw [fc s c];exact ⟨b2,I⟩
theorem jq (hM:Mod n V0 bw β0 st β a w V){m:CM}{f:FuncId}{xs:List SV}{ty:TypeId}{dst:Option Nat}{K:St->View->Prop}{next:Act->World->Prop}{Q:Exit->Act->World->Prop}
  (hd:∀d,dst=some d->d<n)(hv:eM P T m f xs ty dst st V K)
  (hK:∀st' β' a' w' V',Mod n V0 bw β0 st' β' a' w' V'->K st' V'->next a' w') :
  jW P f/\Calls P f (aO β xs) w fun
   | .returned v,w''=>next (a.put dst v) w''
   | .panicked chain,w''=>Q (.panic chain) a w''
   | .outgrown,_=>LetsOut Q:=by
 have hle:=rK hM;have a9:V0.w.heap.size<=w.heap.size:=hM.ext.size;unfold eM at hv;split at hv
 ·exact hv.elim
 ·rename_i sh c0;split at hv
  ·
   rename_i fc
   have b3:∀x∈xs,x.ids=[]:=by
    intro x u;rcases hx':x.ids with _|⟨s,r⟩
    ·rfl
    ·exfalso;have:s∈reach st.boxes 3 (dedup (xs.flatMap SV.ids)):=dR 3 _ s (bJ.2 (Qw5.2 ⟨x,u,by rw [hx'];simp⟩));rw [fc] at this;cases this
   have Vt:∀(w':World)(u:h_ (fun _=>False) w w'),Mod n V0 bw β0 st β a w' ((bV V w).to w' u.size):=by
    intro w' u;refine hM.later u (fun _ _ _ _ h=>h) (fun _ _ h=>h.elim) ?_ ?_
    ·rintro b o ⟨D,G⟩;refine ⟨G,fun hH=>?_⟩;by_cases U:b<w.heap.size
     ·apply D;refine ⟨U,fun o' W=>(hM.nD b o' W).2 hH⟩
     ·have:=V0.hH b hH;omega
    ·rintro s b p l o ⟨D,-⟩;exact D ⟨aB (hM.boxes s b p l),hM.s_ s b p l⟩
   rw [BI b3 β fun _=>0];split at hv
   ·
    split at hv
    ·rename_i d N c1;split at hv
     ·exact hv.elim
     ·rename_i q;obtain ⟨hc,X⟩:=hv (bV V w) hle;refine ⟨hc,Calls.mono X ?_⟩;rintro e' w' ⟨r,rfl,u,Y⟩;have A:h_ (fun b=>b∈([]:List Nat).map (cO st.boxes (fun _=>0) w.heap.size)/\(bV V w).H b) w w':=u.mono fun _ h=>h.elim
      have a6:bM T true sh [] Option.none d N (fun _=>0) st (bV V w) K r (((bV V w).ax (([]:List Nat).map (cO st.boxes (fun _=>0) w.heap.size))).to w' A.size):=by
       unfold bM Cc at Y ⊢;exact Y
      obtain ⟨st',β',V',D,G⟩:=lV (T:=T) (give:=true) (m:=Option.none) hM (fun s g=>absurd g (by simp)) (fun s g=>absurd g (by simp)) (fun s g=>absurd g (by simp)) (hd d rfl) (fun k J=>by cases J) q A a6;exact hK _ _ _ _ _ D G
    ·exact hv.elim
   ·split at hv
    ·rename_i d;split at hv
     ·exact hv.elim
     ·rename_i hn;split at hv
      ·rename_i ti c2;split at hv
       ·rename_i e he;split at hv
        ·rename_i ei BZ;obtain ⟨hc,X⟩:=hv (bV V w) hle;refine ⟨hc,Calls.mono X ?_⟩;rintro e' w' ⟨r,rfl,u,b,Y⟩;obtain ⟨cs,D,G,rfl,h4,h5,h6⟩:=oZ _ Y;exact hK _ _ _ _ _ ((Vt w' u).Ml (w0:=w) (fun s b p l=>aB (hM.boxes s b p l)) a9 (hd d rfl) hn h4 rfl h5 D) h6
        ·exact hv.elim
       ·exact hv.elim
      ·exact hv.elim
    ·exact hv.elim
   ·obtain ⟨hc,X⟩:=hv (bV V w) hle;refine ⟨hc,Calls.mono X ?_⟩;rintro e w' ⟨r,rfl,u,Y⟩;obtain ⟨x,A,rfl,Z⟩:=Sh.dN sh Y;have u:h_ (fun _=>False) w w':=u;exact hK (st.put dst x) β _ _ _ ((Vt w' u).Em hd (js A _ _) (bN A)) Z
  ·rename_i s0 r0 fc;split at hv
   ·exact hv.elim
   ·rename_i a4;generalize hL:s0::r0=L at hv fc a4
    have Qy:∀x∈xs,∀s∈x.ids,s∈L:=by
     intro x u s g;rw [←fc];exact dR 3 _ s (bJ.2 (Qw5.2 ⟨x,u,g⟩))
    have a1:∀s∈L,∀b,st.boxes s=some b->∀t∈b.cs.ids,t∈L:=fun s g b p=>eU a4 g p
    have Pb:∀{R:(Nat->Nat)->Value->View->Prop},(kC L (fun _=>0) fun γ=>hU st.boxes γ (bV V w) L (aa P f (aO γ xs) ((bV V w).ax (L.map (cO st.boxes γ w.heap.size))) (R γ))) ->
      ∃γ,(∀s∈L,γ s=β s)/\(∀s∈L,∃b,st.boxes s=some b)/\aa P f (aO β xs) ((bV V w).ax (L.map (cO st.boxes γ w.heap.size))) (R γ):=by
     intro R hv;have O:=iq hv β;generalize hγ:(fun t=>if t∈L then β t else (fun _=>0) t)=γ at O;have F:∀s∈L,γ s=β s:=fun s g=>by rw [←hγ];simp [g]
     have uY:∀s∈L,∀b,st.boxes s=some b->b.obj γ=b.obj β:=fun s g b p=>aP.cD fun t S=>F t (a1 s g b p t S)
     obtain ⟨z,b4⟩:=vl O (by
      intro s g b p l;rw [F s g,uY s g b p];exact ⟨hM.boxes s b p l,aB (hM.boxes s b p l),hM.s_ s b p l⟩) (by
      intro s g t S b b' p l b5 l' e;rw [F s g,F t S] at e;exact hM.inj s t b b' p l b5 l' e)
     refine ⟨γ,F,z,?_⟩
     have E:aO γ xs=aO β xs:=by
      unfold aO;rw [Qj0 fun x u=>SV.bB fun s g=>F s (Qy x u s g)]
     rw [←E];exact b4
    have a0:∀{give:Bool} {mm:Option Nat} {d:Nat} {N:TypeId},dst=some d->(∀k,mm=some k->k∈L)->iO st mm d=true ->
      (∀V':View,V.Le V'->kC L (fun _=>0) fun γ=>hU st.boxes γ V' L (aa P f (aO γ xs) (V'.ax (L.map (cO st.boxes γ V'.w.heap.size))) (bM T give sh L mm d N γ st V' K))) ->
      jW P f/\Calls P f (aO β xs) w fun
       | .returned v,w''=>next (a.put dst v) w''
       | .panicked chain,w''=>Q (.panic chain) a w''
       | .outgrown,_=>LetsOut Q:=by
     intro give mm d N a5 b6 q hv;obtain ⟨γ,F,z,hc,X⟩:=Pb (R:=fun γ=>bM T give sh L mm d N γ st (bV V w) K) (hv (bV V w) hle);refine ⟨hc,Calls.mono X ?_⟩;rintro e w' ⟨r,rfl,u,Y⟩;obtain ⟨st',β',V',D,G⟩:=lV hM F a1 z (hd d a5) b6 q u Y;rw [a5];exact hK _ _ _ _ _ D G
    have SJ:∀k,k∈pG st.boxes L->k∈L:=by
     intro k J;unfold pG at J;obtain ⟨s,g,J⟩:=Qw5.1 (bJ.1 J);split at J
     ·rename_i cs ty p;refine a1 s g _ p k ?_
      have:∀cs:List C,k∈nX cs->k∈cs.flatMap C.ids:=by
       intro cs
       induction cs with
       | nil=>exact fun h=>nomatch h
       | cons c r ih=>
        intro h;rw [Qw8,Qw1]
        cases c<;>simp only [nX,Qq4] at h<;>first
         | exact .inr (ih h)
         | (rcases h with h|h
            ·left;simp [C.ids,h]
            ·exact .inr (ih h))
      exact this cs J
     ·cases J
    have Rz:∀k,k∈kQ xs->k∈L:=by
     intro k J
     have:∀xs:List SV,k∈kQ xs->∃x∈xs,k∈x.ids:=by
      intro xs
      induction xs with
      | nil=>exact fun h=>nomatch h
      | cons x r ih=>
       intro h;unfold kQ at h;split at h
       ·rename_i heq;cases heq
       ·rename_i s n c r' heq;cases heq;exact ⟨.c (.gF s n c),Qn0,h⟩
       ·rename_i s n c r' heq;cases heq;exact ⟨.c (.gU s 0 n c),Qn0,h⟩
       ·rename_i heq;cases heq;obtain ⟨y,hy,J⟩:=ih h;exact ⟨y,by simp [hy],J⟩
     obtain ⟨x,u,J⟩:=this xs J;exact Qy x u k J
    split at hv
    ·exact hv.elim
    ·exact hv.elim
    ·
     split at hv
     ·split at hv
      ·exact hv.elim
      ·rename_i q;exact a0 rfl (fun k J=>by cases J) q hv
     ·rename_i d N k _ b7 _;split at hv
      ·split at hv
       ·exact hv.elim
       ·rename_i q;exact a0 rfl (fun j hj=>by cases hj;exact Rz k (by rw [b7];simp)) q hv
      ·split at hv
       ·exact hv.elim
       ·rename_i q;split at hv
        ·exact hv.elim
        ·
         rename_i B;rw [Qz0] at B;let Vr:View:=⟨w,fun b=>(b<w.heap.size/\∀o,¬V.bI b o)/\¬∃s∈L,∃M,st.boxes s=some M/\M.live/\β s=b,fun _=>False,fun _ h=>h.1.1,fun _ h=>h.elim⟩;have a2:V.Le Vr:=fun b o p=>⟨fun h=>h.1.2 o p,(hM.nD b o p).1⟩
         have BV:Mod n V0 bw β0 (dg st L 0) β a w Vr:=by
          have Dp:=hM.FU (L:=L) (ty:=0);refine ⟨Dp.defers,Dp.size,Dp.ay,Dp.wY,Dp.wX,Dp.boxes,Dp.inj,?_,?_,Dp.ext,Dp.own,Dp.kD,Dp.jD,hM.small⟩
          ·rintro b o ⟨D,G⟩;refine ⟨G,fun hH=>?_⟩;have U:=aB G;apply D;refine ⟨⟨U,fun o' W=>(hM.nD b o' W).2 hH⟩,fun hm=>?_⟩;obtain ⟨s,g,M,I,l0,rfl⟩:=hm;rcases hM.own s M I l0 with h|h
           ·have:=V0.hH _ hH;omega
           ·have:=Qz9 (B s g);omega
          ·rintro s b p l o ⟨D,-⟩;rw [bg] at p;split at p
           ·cases p;exact absurd l eB
           ·rename_i a7;refine D ⟨⟨aB (hM.boxes s b p l),hM.s_ s b p l⟩,fun hm=>?_⟩;obtain ⟨s',a3,bs,a8,ls,he⟩:=hm;exact a7 (hM.inj s' s bs b a8 ls p l he▸a3)
         have O:=iq (hv (bV Vr w) (a2.trans (rK BV))) β;generalize hγ:(fun t=>if t∈L then β t else (fun _=>0) t)=γ at O;have F:∀s∈L,γ s=β s:=fun s g=>by rw [←hγ];simp [g]
         obtain ⟨z,hc,X⟩:=iu O (by
          intro s g b p l;rw [F s g,aP.cD fun t S=>F t (eU a4 g p t S)];exact rK BV _ _ ⟨fun h=>h.2 ⟨s,g,b,p,l,rfl⟩,hM.boxes s b p l⟩)
         refine ⟨hc,?_⟩
         have E:aO γ xs=aO β xs:=by
          unfold aO;rw [Qj0 fun x u=>SV.bB fun s g=>F s (Qy x u s g)]
         rw [E] at X;refine Calls.mono X ?_;rintro e' w' ⟨r,rfl,u,Y⟩;have A:h_ (fun b=>b∈([]:List Nat).map (cO (dg st L 0).boxes (fun _=>0) w.heap.size)/\(bV Vr w).H b) w w':=u.mono fun _ h=>h.elim
         have a6:bM T true sh [] Option.none d N (fun _=>0) (dg st L 0) (bV Vr w) K r (((bV Vr w).ax (([]:List Nat).map (cO (dg st L 0).boxes (fun _=>0) w.heap.size))).to w' A.size):=by
          unfold bM Cc at Y ⊢;exact Y
         obtain ⟨st',β',V',D,G⟩:=lV (T:=T) (give:=true) (m:=Option.none) BV (fun s g=>absurd g (by simp)) (fun s g=>absurd g (by simp)) (fun s g=>absurd g (by simp)) (hd d rfl) (fun k J=>by cases J) q A a6;exact hK _ _ _ _ _ D G
     ·exact hv.elim
    ·
     split at hv
     ·obtain ⟨γ,F,z,hc,X⟩:=Pb (R:=fun γ r' dX=>sh.ex fun x=>r'=x.den (fun _=>0)/\dz T Option.none γ dX L st fun st'=>K (st'.put dst x) dX.shut) (hv (bV V w) hle);refine ⟨hc,Calls.mono X ?_⟩;rintro e w' ⟨r,rfl,u,Y⟩;obtain ⟨x,A,rfl,Z⟩:=Sh.dN sh Y;have u:h_ (fun b=>b∈L.map (cO st.boxes γ w.heap.size)/\(bV V w).H b) w w':=u;generalize hV1:(((bV V w).ax (L.map (cO st.boxes γ w.heap.size))).to w' u.size)=V2 at Z;have RU:V2.w=w':=by rw [←hV1];rfl
      have OB:∀b,(b∈L.map (cO st.boxes γ w.heap.size)/\(bV V w).H b)->∃s∈L,∃M,st.boxes s=some M/\M.live/\β s=b:=by
       rintro b ⟨D,G⟩;obtain ⟨s,g,M,I,l0,he⟩:=vj z D G.1;exact ⟨s,g,M,I,l0,by rw [←F s g];exact he⟩
      have Gw:∀b o,V2.shut.bI b o->w'.heap[b]?=some o/\¬(b<w.heap.size/\∀o,¬V.bI b o):=by
       rintro b o ⟨D,G⟩;rw [←hV1] at D G;exact ⟨G,D⟩
      have qS:∀s b,st.boxes s=some b->b.live->∀o,¬V2.shut.bI (β s) o:=fun s b p l o ho=>
       (Gw _ o ho).2 ⟨aB (hM.boxes s b p l),hM.s_ s b p l⟩
      have Dp:Mod n V0 bw β0 (dg st L 0) β a w' V2.shut:=by
       refine (hM.FU (L:=L) (ty:=0)).later u ?_ ?_ ?_ ?_
       ·intro t b p l hX;rw [bg] at p;split at p
        ·cases p;exact eB l
        ·rename_i S;obtain ⟨s,g,M,I,l0,he⟩:=OB _ hX;exact S (hM.inj s t M b I l0 p l he▸g)
       ·intro i hi hX;obtain ⟨s,g,M,I,l0,rfl⟩:=OB _ hX;rcases hM.own s M I l0 with h|h
        ·omega
        ·exact hM.jD _ h.2
       ·intro b o h;obtain ⟨D,G⟩:=Gw b o h;refine ⟨D,fun hH=>?_⟩;by_cases U:b<w.heap.size
        ·exact G ⟨U,fun o' W=>(hM.nD b o' W).2 hH⟩
        ·have:=V0.hH b hH;omega
       ·intro t b p l;rw [bg] at p;split at p
        ·cases p;exact absurd l eB
        ·exact qS t b p l
      have iL:=vk Z
      obtain ⟨st',g1,g2,g3,g4⟩:=kP (a:=a) (w:=w') (V:=V2.shut) (γ:=γ) (β:=β) RU F
       (by
        intro s g s' a3 he;obtain ⟨b1,e1,l1⟩:=iL s g;obtain ⟨b2,e2,l2⟩:=iL s' a3;exact hM.inj s s' b1 b2 e1 l1 e2 l2 he)
       (by intro s g;obtain ⟨b1,e1,l1⟩:=iL s g;exact qS s b1 e1 l1)
       (by intro s g;obtain ⟨b1,e1,l1⟩:=iL s g;exact hM.own s b1 e1 l1)
       L st (dg st L 0) (fun _ h=>h) Dp jB.symm (by intro t S;rw [bg,if_neg S])
       (by intro s g;rw [bg,if_pos g];exact ⟨_,rfl⟩)
       (by
        intro t b S l KC s g he;rw [bg,if_neg KC] at S;obtain ⟨b1,e1,l1⟩:=iL s g;exact KC (hM.inj t s b b1 S l e1 l1 he▸g))
       (by
        intro s g b p t S;have LH:=a1 s g b p t S;exact ⟨by rw [bg,if_pos LH];exact ⟨_,rfl⟩,F t LH⟩)
       (fun m nb e=>by cases e) Z
      exact hK _ _ _ _ _ (g1.Em hd (js A _ _) (bN A)) g4
     ·rename_i k b8;split at hv
      ·rename_i d N _;split at hv
       ·exact hv.elim
       ·rename_i q;exact a0 rfl (fun j hj=>by cases hj;exact SJ k (by rw [b8];simp)) q hv
      ·exact hv.elim
     ·exact hv.elim
    ·
     split at hv
     ·exact hv.elim
     ·rename_i B;rw [Qz0] at B;let Vr:View:=⟨w,fun b=>(b<w.heap.size/\∀o,¬V.bI b o)/\¬∃s∈L,∃M,st.boxes s=some M/\M.live/\β s=b,fun _=>False,fun _ h=>h.1.1,fun _ h=>h.elim⟩;have a2:V.Le Vr:=fun b o p=>⟨fun h=>h.1.2 o p,(hM.nD b o p).1⟩;have O:=iq (hv Vr a2) β;generalize hγ:(fun t=>if t∈L then β t else (fun _=>0) t)=γ at O;have F:∀s∈L,γ s=β s:=fun s g=>by rw [←hγ];simp [g]
      obtain ⟨z,hc,X⟩:=iu O (by
       intro s g b p l;rw [F s g,aP.cD fun t S=>F t (eU a4 g p t S)];exact ⟨fun h=>h.2 ⟨s,g,b,p,l,rfl⟩,hM.boxes s b p l⟩)
      refine ⟨hc,?_⟩
      have E:aO γ xs=aO β xs:=by
       unfold aO;rw [Qj0 fun x u=>SV.bB fun s g=>F s (Qy x u s g)]
      rw [E] at X;refine Calls.mono X ?_;rintro e w' ⟨r,rfl,u,Y⟩;obtain ⟨x,A,rfl,Z⟩:=Sh.dN sh Y;have u:h_ (fun _=>False) w w':=u;refine hK ((st.rel L γ (C.den β)).put dst x) β _ _ _ ?_ (Z (C.den β));have BV:=hM.rel (L:=L) (β':=γ) F
      have b9:Mod n V0 bw β0 (st.rel L γ (C.den β)) β a w' (Vr.to w' u.size):=by
       refine BV.later u (fun _ _ _ _ h=>h) (fun _ _ h=>h.elim) ?_ ?_
       ·rintro b o ⟨D,G⟩;refine ⟨G,fun hH=>?_⟩;by_cases U:b<w.heap.size
        ·apply D;refine ⟨⟨U,fun o' W=>(hM.nD b o' W).2 hH⟩,fun hm=>?_⟩;obtain ⟨s,g,M,I,l0,rfl⟩:=hm;rcases hM.own s M I l0 with h|h
         ·have:=V0.hH _ hH;omega
         ·have:=Qz9 (B s g);omega
        ·have:=V0.hH b hH;omega
       ·rintro s b p l o ⟨D,-⟩;obtain ⟨a7,y,hy,rfl⟩:=e_ p;have ly:=aP.eE l;refine D ⟨⟨aB (hM.boxes s y hy ly),hM.s_ s y hy ly⟩,fun hm=>?_⟩;obtain ⟨s',a3,bs,a8,ls,he⟩:=hm;exact a7 (hM.inj s' s bs y a8 ls hy ly he▸a3)
      exact b9.Em hd (js A _ _) (bN A)
theorem Mod.release (hM:Mod n V0 bw β0 st β a w V){l:List Nat}{K:St->View->Prop}(hv:FT l st V K):∃st' V',Mod n V0 bw β0 st' β a w V'/\V.Le V'/\K st' V':=by
 unfold FT at hv;split at hv
 ·exact ⟨st,V,hM,fun _ _ h=>h,hv⟩
 ·rename_i G H;split at hv
  ·exact hv.elim
  ·rename_i k;generalize hL:G::H=L at hv k;rw [Qx1,Qz0] at k;obtain ⟨m,d⟩:=k;let Vr:View:=⟨w,fun b=>(b<w.heap.size/\∀o,¬V.bI b o)/\¬∃s∈L,∃j,st.boxes s=some j/\j.live/\β s=b,fun _=>False,fun _ h=>h.1.1,fun _ h=>h.elim⟩;have e:V.Le Vr:=fun b o f=>⟨fun h=>h.1.2 o f,(hM.nD b o f).1⟩;have i:=iq (hv Vr e) β;generalize hγ:(fun t=>if t∈L then β t else (fun _=>0) t)=γ at i;have p:∀s∈L,γ s=β s:=fun s g=>by rw [←hγ];simp [g]
   obtain ⟨q,I⟩:=iu i (by
    intro s g b f l;rw [p s g,aP.cD fun t J=>p t (eU m g f t J)];exact ⟨fun h=>h.2 ⟨s,g,b,f,l,rfl⟩,hM.boxes s b f l⟩)
   have c:=hM.rel (L:=L) (β':=γ) p;refine ⟨_,Vr,?_,e,I (C.den β)⟩;refine ⟨c.defers,c.size,c.ay,c.wY,c.wX,c.boxes,c.inj,?_,?_,c.ext,c.own,c.kD,c.jD,hM.small⟩
   ·rintro b o ⟨r,F⟩;refine ⟨F,fun hH=>?_⟩;have u:=aB F;apply r;refine ⟨⟨u,fun M v=>(hM.nD b M v).2 hH⟩,fun hm=>?_⟩;obtain ⟨s,g,j,x,N,rfl⟩:=hm;rcases hM.own s j x N with h|h
    ·have:=V0.hH _ hH;omega
    ·have:=Qz9 (d s g);omega
   ·rintro s b f l o ⟨r,-⟩;obtain ⟨z,y,A,rfl⟩:=e_ f;have B:=aP.eE l;refine r ⟨⟨aB (hM.boxes s y A B),hM.s_ s y A B⟩,fun hm=>?_⟩;obtain ⟨O,D,P,E,ls,he⟩:=hm;exact z (hM.inj O s P y E ls A B he▸D)
theorem vO {bx:Nat->Option aP}{β:Nat->Nat}:∀{xs xs':List SV} {vs:List Value} {c:Nat},lj bx xs=some (vs,c,xs')->c=0->xs'.map (SV.den β)=xs.map (SV.den β)
 | [],_,_,_,h,_=>nomatch h
 | x::r,xs',vs,c,h,hc=>by
  simp only [lj] at h;split at h
  ·split at h
   ·cases h;subst hc;simp [SV.den,C.den,mA]
   ·cases h
  ·split at h
   ·rename_i e;cases h;rw [Qb3,Qb3,vO e hc]
   ·cases h
theorem vP {bx:Nat->Option aP}:∀{xs xs':List SV} {vs:List Value} {c:Nat},lj bx xs=some (vs,c,xs')->∀t∈xs'.flatMap SV.ids,t∈xs.flatMap SV.ids
 | [],_,_,_,h=>nomatch h
 | x::r,xs',vs,c,h=>by
  simp only [lj] at h;split at h
  ·split at h
   ·cases h;intro t ht;simp only [Qw8,SV.ids,C.ids,Qw1] at ht ⊢;right;simpa using ht
   ·cases h
  ·split at h
   ·rename_i e;cases h;intro t ht;rw [Qw8,Qw1] at ht ⊢;exact ht.imp_right (vP e t)
   ·cases h
theorem pT {bx bx':Nat->Option aP}:∀{xs:List SV},(∀s∈xs.flatMap SV.ids,bx' s=bx s)->lj bx' xs=lj bx xs
 | [],_=>rfl
 | x::r,h=>by
  have ih:=pT (xs:=r) fun s a=>h s (by rw [Qw8];exact Qb7 _ a);simp only [lj];rw [ih];split
  ·rename_i s n c;rw [h s (by rw [Qw8];exact Qk3 _ (by simp [SV.ids,C.ids]))]
  ·rfl
theorem uI (hM:Mod n V0 bw β0 st β a w V){m:CM}{f:FuncId}{xs:List SV}{ty:TypeId}{dst:Option Nat}{K:St->View->Prop}{next:Act->World->Prop}{Q:Exit->Act->World->Prop}
  (hd:∀d,dst=some d->d<n)(hv:jP P T m f xs ty dst st V K)
  (hK:∀st' β' a' w' V',Mod n V0 bw β0 st' β' a' w' V'->K st' V'->next a' w') :
  jW P f/\Calls P f (aO β xs) w fun
   | .returned v,w''=>next (a.put dst v) w''
   | .panicked chain,w''=>Q (.panic chain) a w''
   | .outgrown,_=>LetsOut Q:=by
 unfold jP at hv;split at hv
 ·split at hv
  ·rename_i b c g e;by_cases h:b=[]
   ·obtain ⟨i,j⟩:=hv.1 h;have:=jq (Q:=Q) hM hd j hK;unfold aO at this ⊢;rw [vO e i] at this;exact this
   ·exact jq hM hd (hv.2 h) hK
  ·exact jq hM hd hv hK
 ·exact jq hM hd hv hK
end Go.Eng
namespace Go.Eng
variable {P:Program} {T:cI} {n:Nat} {V0:View} {bw:Ds} {β0:Nat->Nat} {st:St} {β:Nat->Nat} {a:Act} {w:World} {V:View}
theorem Ej {t:TypeId}{name:String}{f:FuncId}(h:Ei P t name=some f)(k:Nat)(v:Value)(w:World):(Go.method (k+1) t v name).run P w=.ok (f,v) w:=by
 unfold Ei at h;split at h
 ·rename_i i d b c;split at h
  ·rename_i m hm;split at h
   ·rename_i j l e g;cases h;have a:m.path=#[]:=by apply Qb9;exact e
    simp only [Go.method,typeInfo,Sem.run_bind,run_program,Result.andThen_ok,b,hm,Sem.run_pure,a,follow,g,receiverAt,aj c,Place.get]
   ·cases h
  ·cases h
 ·cases h
theorem rS (hT:cI.ok P T)(hM:Mod n V0 bw β0 st β a w V){m:CM}{o:Oper}{K:St->View->Prop}{next:Act->World->Prop}{Q:Exit->Act->World->Prop}
  (hd:∀d,o.dst=some d->d<n)(hv:cF P T m o st V K)
  (hK:∀st' β' a' w' V',Mod n V0 bw β0 st' β' a' w' V'->K st' V'->next a' w'):o.wp P a w next Q:=by
 unfold cF at hv;split at hv
 ·rename_i A args r e;split at hv
  ·rename_i xs g;obtain ⟨h,u⟩:=eY hM _ _ g;split at hv
   ·rename_i f i j;obtain ⟨k,l⟩:=uI (Q:=Q) hM hd hv hK;have p:args.map a.eval=(xs.map (SV.den β)).toArray:=by apply Qb9;rw [Qm8];exact h
    have q:aO β (xs++uJ i)=(xs.map (SV.den β)).toArray++(i.map fun s=>Value.pointer (some ⟨β s,0,none⟩)).toArray:=by
     unfold aO uJ;rw [Qp7,Qt8];apply Qb9;simp [Function.comp_def,SV.den,C.den]
    have b:(execOp a.eval o).run P w=.ok (.enter f (aO β (xs++uJ i))) w:=by
     rw [q];simp only [execOp,e,resolve,hM.eval j,SV.den,C.den,Deferred.ofValue,pure_bind,invoke,p,Array.empty_append];exact k.run _
    unfold Oper.wp;rw [b];exact l
   ·exact hv.elim
  ·exact hv.elim
 ·rename_i recv name args r e;split at hv
  ·rename_i xs g;obtain ⟨h,u⟩:=eY hM _ _ g;split at hv
   ·rename_i t v j;split at hv
    ·rename_i f x;obtain ⟨k,l⟩:=uI (Q:=Q) hM hd hv hK;have p:args.map a.eval=(xs.map (SV.den β)).toArray:=by apply Qb9;rw [Qm8];exact h
     have q:aO β (.c (.w v)::xs)=#[v]++(xs.map (SV.den β)).toArray:=by
      unfold aO;apply Qb9;simp [SV.den,C.den]
     have b:(execOp a.eval o).run P w=.ok (.enter f (aO β (.c (.w v)::xs))) w:=by
      rw [q]
      have y:(#[Value.iface t v]++(xs.map (SV.den β)).toArray).extract 1 (#[Value.iface t v]++(xs.map (SV.den β)).toArray).size=(xs.map (SV.den β)).toArray:=by
       apply Qb9;simp;exact Qc1 (by simp)
      have z:(#[Value.iface t v]++(xs.map (SV.den β)).toArray)[0]?=some (Value.iface t v):=by simp
      simp only [execOp,e,resolve,hM.eval j,SV.den,C.den,pure_bind,invoke,p,z,y,callMethod,Sem.run_bind,run_program,Result.andThen_ok,Made.depth];rw [Ej x];exact k.run _
     unfold Oper.wp;rw [b];exact l
    ·exact hv.elim
   ·exact hv.elim
  ·exact hv.elim
 ·exact Cu hT hM hd hv hK
theorem iB (hT:cI.ok P T)(hM:Mod n V0 bw β0 st β a w V){m:CM}{h:Hint}{o:Oper}{K:St->View->Prop}{next:Act->World->Prop}{Q:Exit->Act->World->Prop}
  (hd:∀d,o.dst=some d->d<n)(hv:cz P T m h o st V K)
  (hK:∀st' β' a' w' V',Mod n V0 bw β0 st' β' a' w' V'->K st' V'->next a' w'):o.wp P a w next Q:=by
 unfold cz at hv;split at hv
 ·exact rS hT hM hd hv hK
 ·split at hv
  ·split at hv
   ·exact rS hT hM hd hv hK
   ·exact hv.elim
  ·exact hv.elim
theorem Mod.refine (hM:Mod n V0 bw β0 st β a w V){g:Nat}{x y:SV}(hx:st.ay g=some x)(he:x.den β=y.den β)(hy:y.ids=[]):Mod n V0 bw β0 (st.put (some g) y) β a w V:=by
 refine ⟨hM.defers,hM.size,?_,?_,hM.wX,hM.boxes,hM.inj,hM.nD,hM.s_,hM.ext,hM.own,hM.kD,hM.jD,hM.small⟩
 ·intro t z b;rw [cP] at b;split at b
  ·rename_i e;simp only [Qq2] at b;rw [e,←b,←he];exact hM.ay g x hx
  ·exact hM.ay t z b
 ·intro t z b;rw [cP] at b;split at b
  ·simp only [Qq2] at b;rw [←b,hy];exact fun s c=>(nomatch c)
  ·exact hM.wY t z b
theorem E4 {ops:Array Oper}{tmps:Array Value}{j g:Nat}(hg:(ops[j]?).bind (·.dst)=some g):yielded ops tmps j=match tmps.getD g undef with|.bool b=>some b|_=>none:=by
 unfold yielded;rw [hg];simp only [Option.bind_some];by_cases h:g<tmps.size
 ·have a:tmps[g]?=some tmps[g]:=getElem?_pos tmps g h;have c:tmps.getD g undef=tmps[g]:=by simp [h]
  rw [a,c];generalize tmps[g]=v;cases v<;>rfl
 ·simp [h,undef]
theorem Cl (hT:cI.ok P T)(hM:Mod n V0 bw β0 st β a w V){m:CM}{h:Hint}{ops:Array Oper}{o:Oper}{K:St->View->Prop}{next:Act->World->Prop}{Q:Exit->Act->World->Prop}
  (hd:∀d,o.dst=some d->d<n)(hv:pZ P T m h ops o st V K)
  (hK:∀st' β' a' w' V',Mod n V0 bw β0 st' β' a' w' V'->K st' V'->next a' w') :
  if Region.wanted o (yielded ops a.tmps) then o.wp P a w next Q else next (a.put o.dst undef) w:=by
 unfold pZ at hv;split at hv
 ·rename_i q;rw [if_pos (by simp [Region.wanted,q])];exact iB hT hM hd hv hK
 ·rename_i j b q;split at hv
  ·exact hv.elim
  ·rename_i g p;have t:=E4 (tmps:=a.tmps) p
   have i:∀c:Bool,a.tmps.getD g undef=.bool c->(Region.wanted o (yielded ops a.tmps)=true↔c=b):=by
    intro c x;simp only [Region.wanted,q];rw [t,x];simp
   have skip:∀{l:St},Mod n V0 bw β0 l β a w V->K (l.put o.dst iV) V->next (a.put o.dst undef) w:=by
    intro l r s;exact hK _ _ _ _ _ (r.Em hd rfl (bN rfl)) s
   split at hv
   ·rename_i k;have f:=hM.ay g _ k;split at hv
    ·rw [if_pos ((i true f).2 rfl)];exact iB hT hM hd hv hK
    ·rw [if_neg (fun h=>by have:=(i true f).1 h;cases this)];exact skip hM hv
   ·rename_i k;have f:=hM.ay g _ k;split at hv
    ·rw [if_neg (fun h=>by have:=(i false f).1 h;cases this)];exact skip hM hv
    ·rw [if_pos ((i false f).2 rfl)];exact iB hT hM hd hv hK
   ·rename_i c k;have f:=hM.ay g _ k;have u:c=true->Mod n V0 bw β0 (st.put (some g) (.c .tt)) β a w V:=fun e=>hM.refine k (by rw [e];rfl) rfl;have v:c=false->Mod n V0 bw β0 (st.put (some g) (.c .ff)) β a w V:=fun e=>hM.refine k (by rw [e];rfl) rfl;split at hv
    ·cases c with
     | true=>rw [if_pos ((i true f).2 rfl)];exact iB hT (u rfl) hd (hv.1 rfl) hK
     | false=>rw [if_neg (fun h=>by have:=(i false f).1 h;cases this)];exact skip (v rfl) (hv.2 rfl)
    ·cases c with
     | true=>rw [if_neg (fun h=>by have:=(i true f).1 h;cases this)];exact skip (u rfl) (hv.1 rfl)
     | false=>rw [if_pos ((i false f).2 rfl)];exact iB hT (v rfl) hd (hv.2 rfl) hK
   ·rename_i xs k;have f:=hM.ay g _ k
    have:Region.wanted o (yielded ops a.tmps)=false:=by
     simp only [Region.wanted,q];rw [t,f];simp [SV.den]
    rw [if_neg (by rw [this];simp)];exact skip hM hv
   ·exact hv.elim
theorem zj (hT:cI.ok P T){m:Nat->CM}{hint:Nat->Hint}{ops:Array Oper}(hd:∀(i:Nat)(o:Oper),ops[i]?=some o->∀d,o.dst=some d->d<n){Q:Exit->Act->World->Prop}{K:St->View->Prop}
  (hK:∀st' β' a' w' V',Mod n V0 bw β0 st' β' a' w' V'->K st' V'->Q .normal a' w') :
  ∀(l:List Nat)(st:St)(β:Nat->Nat)(a:Act)(w:World)(V:View),Mod n V0 bw β0 st β a w V->JO P T m hint ops l st V K->wpOps P ops Q l a w
 | [],st,β,a,w,V,hM,hv=>hK _ _ _ _ _ hM hv
 | i::r,st,β,a,w,V,hM,hv=>by
  simp only [JO] at hv;simp only [wpOps];split at hv
  ·rename_i o ho;rw [ho];dsimp only;have:=Cl (Q:=Q) (next:=wpOps P ops Q r) hT hM (hd i o ho) hv (fun st' β' a' w' V' b c=>zj hT hd hK r st' β' a' w' V' b c);split at this
   ·rename_i hw;rw [if_pos hw];exact .inl this
   ·rename_i hw;rw [if_neg hw];exact this
  ·exact hv.elim
end Go.Eng
namespace Go.Eng
def ov (p:Nat->Option SV)(q:Nat->Option aP)(st:St):St:=
 ⟨fun t=>match p t with|some x=>some x|none=>st.ay t,fun t=>match q t with|some x=>some x|none=>st.boxes t⟩
theorem cR {a b:Nat}(h:a≠b):Nat.beq a b=false:=by
 cases hb:Nat.beq a b
 ·rfl
 ·exact absurd (beq_eq.1 hb) h
section
variable {p:Nat->Option SV} {q:Nat->Option aP} {st:St}
theorem jJ {d:Option Nat}{x:SV}(h:∀k,d=some k->p k=none):(ov p q st).put d x=ov p q (st.put d x):=by
 cases d with
 | none=>rfl
 | some d=>
  have a:=h d rfl;simp only [ov,St.put];congr 1;funext t;by_cases e:t=d
  ·subst e;simp [a,Qz8]
  ·simp [cR e]
theorem jI {s:Nat}{b:aP}(h:q s=none):(ov p q st).box s b=ov p q (st.box s b):=by
 simp only [ov,St.box];congr 1;funext t;by_cases e:t=s
 ·subst e;simp [h,Qz8]
 ·simp [cR e]
theorem bU {s:Nat}(h:q s=none):(ov p q st).boxes s=st.boxes s:=by simp [ov,h]
theorem K0 {x:Operand}(h:∀t,x=.tmp t->p t=none):(ov p q st).aY x=st.aY x:=by
 cases x with
 | tmp t=>simp [St.aY,ov,h t rfl]
 | _=>rfl
def one {α:Type}(d:Option Nat)(x:α):Nat->Option α:=fun t=>match d with|some k=>cond (Nat.beq t k) (some x) none|none=>none
theorem df {α:Type}{d:Option Nat}{x:α}{t:Nat}(h:d≠some t):one d x t=none:=by
 cases d with
 | none=>rfl
 | some k=>simp [one,cR (fun e:t=k=>h (by rw [e]))]
theorem d_ (d:Option Nat)(x:SV):st.put d x=ov (one d x) (fun _=>none) st:=by
 cases d with
 | none=>rfl
 | some d=>
  simp only [ov,St.put,one];congr 1;funext t;by_cases e:t=d
  ·subst e;simp [Qz8]
  ·simp [cR e]
theorem DD (s:Nat)(b:aP):st.box s b=ov (fun _=>none) (one (some s) b) st:=by
 simp only [ov,St.box,one];congr 1;funext t;by_cases e:t=s
 ·subst e;simp [Qz8]
 ·simp [cR e]
theorem yE (s:Nat)(b:aP)(d:Option Nat)(x:SV):(st.box s b).put d x=ov (one d x) (one (some s) b) st:=by
 rw [d_,DD];rfl
end
theorem dD {ρ ρ':Operand->Option SV}:∀l:List Operand,(∀x∈l,ρ x=ρ' x)->bR ρ l=bR ρ' l
 | [],_=>rfl
 | o::r,h=>by simp only [bR];rw [h o (by simp),dD r fun x hx=>h x (by simp [hx])]
theorem jK {ρ ρ':Operand->Option SV}:∀l:List (Nat×Operand),(∀x∈l.map (·.2),ρ x=ρ' x)->partsOf ρ l=partsOf ρ' l
 | [],_=>rfl
 | (i,o)::r,h=>by simp only [partsOf];rw [h o (by simp),jK r fun x hx=>h x (by simp only [Qb3,Qq4];exact .inr hx)]
theorem nY {ρ ρ':Operand->Option SV}:∀l:Option Operand,(∀x,l=some x->ρ x=ρ' x)->An ρ l=An ρ' l
 | none,_=>rfl
 | some o,h=>by simp only [An];rw [h o rfl]
theorem l_ {T:cI}{ρ ρ':Operand->Option SV}{bx:Nat->Option aP}{op:Op}(h:∀x∈op.operands.toList,ρ x=ρ' x):aK T ρ bx op=aK T ρ' bx op:=by
 cases op with
 | move x=>simp only [aK];rw [h x (by simp [Op.operands])]
 | assign x=>simp only [aK];rw [h x (by simp [Op.operands])]
 | pick c a b=>simp only [aK];rw [h c (by simp [Op.operands]),h a (by simp [Op.operands]),h b (by simp [Op.operands])]
 | box t x=>simp only [aK];rw [h x (by simp [Op.operands])]
 | build t ps=>simp only [aK];rw [jK _ fun x g=>h x (by simpa [Op.operands] using g)]
 | buildSlice t n ps=>simp only [aK];rw [jK _ fun x g=>h x (by simpa [Op.operands] using g)]
 | load t a=>simp only [aK];rw [h a (by simp [Op.operands])]
 | store t a x=>simp only [aK];rw [h a (by simp [Op.operands]),h x (by simp [Op.operands])]
 | nilCheck x=>simp only [aK];rw [h x (by simp [Op.operands])]
 | binOp o xt x y yt=>simp only [aK];rw [h x (by simp [Op.operands]),h y (by simp [Op.operands])]
 | unOp o xt x=>cases o<;>simp only [aK]<;>rw [h x (by simp [Op.operands])]
 | convert s d x=>simp only [aK];rw [h x (by simp [Op.operands])]
 | makeFunc fn first caps=>
  cases fn with
  | func f=>simp only [aK];rw [dD _ fun x g=>h x (by simp [Op.operands];exact .inr (by simpa using g))]
  | _=>rfl
 | makeSlice t a b=>simp only [aK];rw [h a (by simp [Op.operands]),h b (by simp [Op.operands])]
 | slice t x lo hi mx=>
  simp only [aK];rw [h x (by simp [Op.operands]),nY lo fun y k=>h y (by simp [Op.operands,k]),nY hi fun y k=>h y (by simp [Op.operands,k]),nY mx fun y k=>h y (by simp [Op.operands,k])]
 | fieldAddr t x f=>simp only [aK];rw [h x (by simp [Op.operands])]
 | field t x f=>simp only [aK];rw [h x (by simp [Op.operands])]
 | indexAddr t x i=>simp only [aK];rw [h x (by simp [Op.operands]),h i (by simp [Op.operands])]
 | extract x j=>simp only [aK];rw [h x (by simp [Op.operands])]
 | index t x i=>simp only [aK];rw [h x (by simp [Op.operands]),h i (by simp [Op.operands])]
 | makeInterface t x=>simp only [aK];rw [h x (by simp [Op.operands])]
 | call c=>
  obtain ⟨l,args,m⟩:=c
  cases l with
  | builtin b=>
   have e:bR ρ args.toList=bR ρ' args.toList:=dD _ fun x g=>h x (by simpa [Op.operands,Call.operands] using g);cases b<;>simp only [aK]<;>rw [e]
  | _=>rfl
 | _=>rfl
theorem Jl {T:cI}{LF RF:List Nat}{ρ:Operand->Option SV}{bx bx':Nat->Option aP}{op:Op}(h:a_ LF RF op=.pure\/a_ LF RF op=.alloc):aK T ρ bx op=aK T ρ bx' op:=by
 cases op with
 | load t a=>rcases h with h|h<;>cases h
 | store t a x=>rcases h with h|h<;>cases h
 | unOp o xt x=>cases o<;>rfl
 | makeFunc fn first caps=>cases fn<;>rfl
 | call c=>
  obtain ⟨d,args,e⟩:=c
  cases d with
  | builtin b=>cases b<;>first|rfl|(rcases h with h|h<;>cases h)
  | _=>rfl
 | _=>rfl
theorem Jn {bx bx':Nat->Option aP}{i:TI}{x:SV}(h:∀s∈x.ids,bx' s=bx s):iQ bx i x=iQ bx' i x:=by
 unfold iQ;split
 ·rename_i b o;rw [h b (by simp [SV.ids,C.ids])]
 ·rfl
 ·rfl
theorem GX {bx bx':Nat->Option aP}{i:TI}{x y:SV}(h:∀s∈x.ids,bx' s=bx s):fS bx i x y=fS bx' i x y:=by
 unfold fS;split
 ·rename_i b o;rw [h b (by simp [SV.ids,C.ids])]
 ·rfl
theorem Eu {bx:Nat->Option aP}{i:TI}{x y:SV}{sc:List Prop}{s:Nat}{b:aP}(h:fS bx i x y=.tu sc s b):s∈x.ids:=by
 unfold fS at h;split at h
 ·split at h
  ·split at h
   ·split at h
    ·cases h;simp [SV.ids,C.ids]
    ·cases h
   ·split at h
    ·cases h;simp [SV.ids,C.ids]
    ·cases h
   ·split at h
    ·cases h
    ·split at h
     ·cases h;simp [SV.ids,C.ids]
     ·cases h
   ·cases h
  ·cases h
 ·cases h
theorem Av {V:View}{p:Addr}:∀(cs:List C) (i:Nat) {k:Prop},V.K5 p i cs k↔V.K5 p i cs True/\k
 | [],_,k=>by simp [View.K5]
 | c::r,i,k=>by
  simp only [View.K5];rw [Av r (i+1),and_assoc]
theorem Jq {V V':View}(h:V.Le V'){p:Addr}:∀(cs:List C) (i:Nat) {k:Prop},V.K5 p i cs k->V'.K5 p i cs k
 | [],_,_,hk=>hk
 | c::r,i,_,hk=>⟨h.at hk.1,Jq h r (i+1) hk.2⟩
theorem pI {V:View}{p:OA}{x:SV}{k:Prop}:V.J1 p x k↔V.J1 p x True/\k:=by
 cases x with
 | c c=>simp [View.J1]
 | agg cs=>
  simp only [View.J1];constructor
  ·rintro ⟨a,d,b⟩;rw [Av] at b;exact ⟨⟨a,d,b.1⟩,b.2⟩
  ·rintro ⟨⟨a,d,b⟩,e⟩;exact ⟨a,d,by rw [Av];exact ⟨b,e⟩⟩
 | oI xs=>simp [View.J1]
theorem Nd {V V':View}(h:V.Le V'){p:OA}{x:SV}{k:Prop}(hk:V.J1 p x k):V'.J1 p x k:=by
 cases x with
 | c c=>obtain ⟨⟨a,b,d⟩,e⟩:=hk;exact ⟨⟨a,b,h.at d⟩,e⟩
 | agg cs=>obtain ⟨a,b,d⟩:=hk;exact ⟨a,b,Jq h _ _ d⟩
 | oI xs=>exact hk
theorem wS.split:∀(s:wS) {F:C->Prop},s.ex F->∃x,F x/\∀G:C->Prop,G x->s.ex G
 | .int _,_,⟨_,h⟩=>⟨_,h,fun _ g=>⟨_,g⟩⟩
 | .bool,_,⟨_,h⟩=>⟨_,h,fun _ g=>⟨_,g⟩⟩
 | .slice,_,⟨_,_,_,h⟩=>⟨_,h,fun _ g=>⟨_,_,_,g⟩⟩
 | .ptr,_,⟨_,h⟩=>⟨_,h,fun _ g=>⟨_,g⟩⟩
 | .str,_,⟨_,h⟩=>⟨_,h,fun _ g=>⟨_,g⟩⟩
 | .any,_,⟨_,h⟩=>⟨_,h,fun _ g=>⟨_,g⟩⟩
theorem mG:∀(l:List wS) {F:List C->Prop},Mt l F->∃x,F x/\∀G:List C->Prop,G x->Mt l G
 | [],_,h=>⟨_,h,fun _ g=>g⟩
 | s::r,_,h=>by
  obtain ⟨c,h1,h2⟩:=wS.split s h;obtain ⟨cs,a,b⟩:=mG r h1;exact ⟨c::cs,a,fun G g=>h2 _ (b _ g)⟩
theorem uc.split:∀(s:uc) {F:SV->Prop},s.ex F->∃x,F x/\∀G:SV->Prop,G x->s.ex G
 | .one s,_,h=>by obtain ⟨c,h1,h2⟩:=wS.split s h;exact ⟨.c c,h1,fun G g=>h2 _ g⟩
 | .agg l,_,h=>by obtain ⟨c,h1,h2⟩:=mG l h;exact ⟨.agg c,h1,fun G g=>h2 _ g⟩
theorem qO:∀(l:List uc) {F:List (Bool×List C)->Prop},ND l F->∃x,F x/\∀G:List (Bool×List C)->Prop,G x->ND l G
 | [],_,h=>⟨_,h,fun _ g=>g⟩
 | .one s::r,_,h=>by
  obtain ⟨c,h1,h2⟩:=wS.split s h;obtain ⟨cs,a,b⟩:=qO r h1;exact ⟨_,a,fun G g=>h2 _ (b _ g)⟩
 | .agg l::r,_,h=>by
  obtain ⟨c,h1,h2⟩:=mG l h;obtain ⟨cs,a,b⟩:=qO r h1;exact ⟨_,a,fun G g=>h2 _ (b _ g)⟩
theorem Sh.split:∀(s:Sh) {F:SV->Prop},s.ex F->∃x,F x/\∀G:SV->Prop,G x->s.ex G
 | .val s,_,h=>uc.split s h
 | .oI l,_,h=>by obtain ⟨x,h1,h2⟩:=qO l h;exact ⟨_,h1,fun G g=>h2 _ g⟩
 | .none,_,h=>⟨_,h,fun _ g=>g⟩
theorem Sh.mono {s:Sh}{F G:SV->Prop}(h:s.ex F)(k:∀x,F x->G x):s.ex G:=by
 obtain ⟨x,a,b⟩:=s.split h;exact b G (k x a)
theorem vR {l m:List Nat}:JE l m=true↔∀x∈l,x∈m:=by
 simp only [JE,Qz0,cj]
theorem vt {op:Op}{x:Operand}(h:x∈op.operands.toList){t:Nat}(e:x=.tmp t):t∈gS op:=by
 subst e;exact List.mem_filterMap.2 ⟨_,h,rfl⟩
theorem mM {st st2:St}{op:Op}(h:∀t∈gS op,st2.ay t=st.ay t){x:Operand}(hx:x∈op.operands.toList):st2.aY x=st.aY x:=by
 cases x with
 | tmp t=>exact h t (vt hx rfl)
 | _=>rfl
theorem vr {op:Op}{x:Operand}(h:x∈gR op):x∈op.operands.toList:=by
 unfold gR at h;split at h
 ·simpa [Op.operands] using h
 ·simp at h;subst h;simp [Op.operands]
 ·simp only [Op.operands,Call.operands];simp at h ⊢;rcases h with h|h
  ·exact .inr h
  ·exact .inl h
 ·simpa [Op.operands,Call.operands] using h
 ·cases h
theorem rj {ρ:Operand->Option SV}:∀{l:List Operand} {xs:List SV},bR ρ l=some xs->∀x∈l,∃v,ρ x=some v/\v∈xs
 | [],_,_,_,hx=>nomatch hx
 | o::r,xs,h,x,hx=>by
  simp only [bR] at h;split at h
  ·rename_i v l h1 h2;cases h;rcases Qq4.1 hx with e|hx
   ·exact ⟨v,by rw [e];exact h1,by simp⟩
   ·obtain ⟨u,hu,hm⟩:=rj h2 x hx;exact ⟨u,hu,by simp [hm]⟩
  ·cases h
structure Outcome (P:Program) (T:cI) (m:CM) (h:Hint) (o:Oper) (st:St) (V:View) (R W:List Nat) (K:St->View->Prop) (p:Nat->Option SV) (q:Nat->Option aP):Prop where
 pd:∀t,t∉dt o->p t=none
 qd:∀s,s∉W->q s=none
 next:K (ov p q st) V
 again:∀(st2:St)(V2:View)(K2:St->View->Prop),V.Le V2->(∀t∈gS o.op,st2.ay t=st.ay t)->(∀s∈R,st2.boxes s=st.boxes s)->K2 (ov p q st2) V2->cz P T m h o st2 V2 K2
variable {P:Program} {T:cI} {LF RF:List Nat} {m:CM}
theorem zZ {o:Oper}{t:Nat}(h:t∉dt o):o.dst≠some t:=by
 intro e;apply h;simp [dt,e]
theorem Lm {o:Oper}{st:St}{V:View}{K:St->View->Prop}{R W:List Nat}{Q0:Q}
  (hnew:∀sc b x,Q0=.new sc b x->dt o=W/\dt o=R)(Sl:∀sc s b,Q0=.tu sc s b->s∈W)(happ:cL Q0≠6)
  (hv:tv Q0 o.dst st V K) :
  ∃p q,(∀t,t∉dt o->p t=none)/\(∀s,s∉W->q s=none)/\K (ov p q st) V /\
   ∀(st2:St)(V2:View)(K2:St->View->Prop),V.Le V2->(∀s∈R,st2.boxes s=st.boxes s)->K2 (ov p q st2) V2->tv Q0 o.dst st2 V2 K2:=by
 cases Q0 with
 | fail=>exact hv.elim
 | ret sc x=>
  obtain ⟨h,k⟩:=(cW sc _).1 hv;refine ⟨one o.dst x,fun _=>none,fun t l=>df (zZ l),fun _ _=>rfl,by rw [←d_];exact k,?_⟩;intro st2 V2 K2 _ _ m;exact (cW sc _).2 ⟨h,by rw [d_];exact m⟩
 | new sc b x=>
  obtain ⟨r,u⟩:=hnew _ _ _ rfl;simp only [tv] at hv ⊢
  cases hd:o.dst with
  | none=>rw [hd] at hv;exact hv.elim
  | some d=>
   have n:dt o=[d]:=by simp [dt,hd]
   rw [hd] at hv;dsimp only at hv ⊢;split at hv
   ·rename_i v;obtain ⟨h,k⟩:=(cW sc _).1 hv;refine ⟨one (some d) (x d),one (some d) b,fun t l=>df (by intro e;apply l;rw [n];simpa using e.symm),fun s w=>df (by intro e;apply w;rw [←r,n];simpa using e.symm),by rw [←yE];exact k,?_⟩;intro st2 V2 K2 _ y m;rw [y d (by rw [←u,n];simp),v];exact (cW sc _).2 ⟨h,by rw [yE];exact m⟩
   ·exact hv.elim
 | tu sc s b=>
  simp only [tv] at hv ⊢
  cases hd:o.dst with
  | some d=>rw [hd] at hv;exact hv.elim
  | none=>
   rw [hd] at hv;dsimp only at hv ⊢;obtain ⟨h,k⟩:=(cW sc _).1 hv;refine ⟨fun _=>none,one (some s) b,fun _ _=>rfl,fun t l=>df (by intro e;apply l;have:=Sl _ _ _ rfl;simp at e;rw [←e];exact this),by rw [←DD];exact k,?_⟩;intro st2 V2 K2 _ _ m;exact (cW sc _).2 ⟨h,by rw [DD];exact m⟩
 | rd a sh=>
  obtain ⟨x,h,k⟩:=sh.split hv;obtain ⟨z,A⟩:=pI.1 h;refine ⟨one o.dst x,fun _=>none,fun t l=>df (zZ l),fun _ _=>rfl,by rw [←d_];exact A,?_⟩;intro st2 V2 K2 hle _ m;exact k _ (pI.2 ⟨Nd hle z,by rw [d_];exact m⟩)
 | nk vs of size sh=>
  obtain ⟨x,h,k⟩:=sh.split hv;refine ⟨one o.dst x,fun _=>none,fun t l=>df (zZ l),fun _ _=>rfl,by rw [←d_];exact h.2,?_⟩;intro st2 V2 K2 hle _ m;exact k _ ⟨h.1,by rw [d_];exact m⟩
 | app a b c d e f g i j=>exact absurd rfl happ
 | qZ a b c d e f g i=>exact absurd rfl happ
theorem vH {o:Oper}(h:mb (a_ LF RF o.op)=true)(st:St)(V:View)(K:St->View->Prop):cF P T m o st V K=tv (aK T st.aY st.boxes o.op) o.dst st V K:=by
 unfold cF;split
 ·rename_i f args b a;rw [a] at h;exfalso
  cases f with
  | func f=>
   simp only [a_] at h;split at h
   ·split at h<;>cases h
   ·split at h
    ·cases h
    ·split at h<;>cases h
  | _=>cases h
 ·rename_i recv name args b a;rw [a] at h;cases h
 ·rfl
theorem oe {ρ:Operand->Option SV}{bx:Nat->Option aP}{op:Op}:cL (aK T ρ bx op)=2->a_ LF RF op=.alloc:=by
 have gE:∀{q:Q} {X:Prop},cL q<=1->cL q=2->X:=by intro q X h h';omega
 unfold aK;split
 case h_8=>
  split
  ·intro h;rcases ru (bx:=bx) with h'|h'|h'|h'<;>(rw [h'] at h;cases h)
  ·exact gE (Qw2 _)
 case h_9=>
  split
  ·intro h;rcases oo (bx:=bx) with h'|h'<;>(rw [h'] at h;cases h)
  ·exact gE (Qw2 _)
 case h_11=>
  split
  ·split
   ·split
    ·exact gE pU
    ·exact gE (Qw2 _)
   ·exact gE pU
  ·exact gE (Qw2 _)
 case h_17=>exact fun _=>rfl
 case h_18=>
  split
  ·split
   ·split
    ·exact gE vW
    ·exact gE (Qw2 _)
   ·exact gE (Qw2 _)
  ·exact gE (Qw2 _)
 case h_21=>
  split
  ·exact gE mn
  ·exact gE (Qw2 _)
 case h_23 c=>
  split
  ·intro h;exfalso;split at h<;>(try split at h)<;>(try split at h)<;>(try split at h)<;>first|(rcases mj (bx:=bx) with h'|h'<;>(rw [h'] at h;cases h))|cases h
  ·split
   ·intro h;rcases om (T:=T) (bx:=bx) with h'|h'<;>(rw [h'] at h;cases h)
   ·exact gE (Qw2 _)
  ·split
   ·split
    ·exact gE pV
    ·exact gE (Qw2 _)
   ·exact gE (Qw2 _)
  ·exact gE (Qw2 _)
 all_goals
  first
  | exact fun _=>rfl
  | exact gE (Qw2 _)
  | ((repeat' split)<;>first|exact gE (Qw2 _)|exact gE (Qq3 _)|exact gE ns|(unfold vF;(repeat' split)<;>first|exact gE (Qw2 _)|exact gE (Qq3 _)))
theorem zb {st st2:St}{op:Op}(h:∀t∈gS op,st2.ay t=st.ay t):bR st2.aY (gR op)=bR st.aY (gR op):=
 dD _ fun _ a=>mM h (vr a)
theorem mO {h:Hint}{o:Oper}{st:St}{V:View}{K:St->View->Prop}{R W:List Nat}(hq:mb (a_ LF RF o.op)=true)(hrw:pP (a_ LF RF o.op) h (dt o)=some (R,W))
  (hv:cz P T m h o st V K):∃p q,Outcome P T m h o st V R W K p q:=by
 have core:(∀g:St,(∀t∈gS o.op,g.ay t=st.ay t)->(∀s∈R,g.boxes s=st.boxes s)->aK T g.aY g.boxes o.op=aK T st.aY st.boxes o.op) ->
   (∀C b x,aK T st.aY st.boxes o.op=.new C b x->dt o=W/\dt o=R)->(∀C s b,aK T st.aY st.boxes o.op=.tu C s b->s∈W) ->
   (∀(g:St)(D:View)(E:St->View->Prop),(∀t∈gS o.op,g.ay t=st.ay t)->cF P T m o g D E->cz P T m h o g D E) ->
   cF P T m o st V K->∃p q,Outcome P T m h o st V R W K p q:=by
  intro he X hu A hv;rw [vH hq] at hv
  obtain ⟨p,q,Y,Z,h3,h4⟩:=Lm (R:=R) (W:=W) X hu (fun n=>by
   obtain ⟨cl,d,G⟩:=(eZ (T:=T) (ρ:=st.aY) (bx:=st.boxes) (op:=o.op)).2.2 n;rw [d] at hq;obtain ⟨H,args,O⟩:=cl;dsimp only at G;subst G;cases hq) hv
  refine ⟨p,q,Y,Z,h3,fun g D E hle I J hK=>?_⟩;refine A g D E I ?_;rw [vH hq,he g I J];exact h4 g D E hle J hK
 have Q:a_ LF RF o.op=.pure\/a_ LF RF o.op=.alloc->h=.free->(a_ LF RF o.op=.alloc->R=dt o/\W=dt o)->∃p q,Outcome P T m h o st V R W K p q:=by
  intro j hf hd;subst hf;refine core (fun g r _=>?_) (fun C b x n=>?_) (fun C s b n=>?_) (fun _ _ _ _ A=>A) hv
  ·rw [Jl (bx':=st.boxes) j];exact l_ fun x L=>mM r L
  ·have:=hd (oe (by rw [n];rfl));exact ⟨this.2.symm,this.1.symm⟩
  ·rcases (eZ (T:=T) (ρ:=st.aY) (bx:=st.boxes) (op:=o.op)).1 (by rw [n];rfl) with ⟨t,y,x,d⟩|⟨⟨H,args,O⟩,d,G⟩
   ·rw [d] at j;rcases j with j|j<;>cases j
   ·dsimp only at G;subst G;rw [d] at j;rcases j with j|j<;>cases j
 generalize j:a_ LF RF o.op=c at hrw hq Q
 cases c with
 | pure=>
  cases h with
  | free=>exact Q (.inl rfl) rfl (fun e=>by cases e)
  | own l=>cases hrw
 | alloc=>
  cases h with
  | free=>
   simp only [pP,Qq2,Qb5] at hrw;exact Q (.inr rfl) rfl (fun _=>⟨hrw.1.symm,hrw.2.symm⟩)
  | own l=>cases hrw
 | load=>
  cases h with
  | free=>cases hrw
  | own l=>
   simp only [pP,Qq2,Qb5] at hrw;obtain ⟨rfl,rfl⟩:=hrw
   have d:∃t a,o.op=.load t a:=by
    generalize o.op=op at j
    cases op with
    | load t a=>exact ⟨t,a,rfl⟩
    | call c=>obtain ⟨H,args,O⟩:=c;cases H with
     | builtin b=>cases b<;>cases j
     | value f=>cases f with
      | func f=>simp only [a_] at j;split at j<;>(try split at j)<;>(try split at j)<;>(try split at j)<;>cases j
      | _=>cases j
     | _=>cases j
    | _=>cases j
   obtain ⟨t,a,d⟩:=d;unfold cz at hv;dsimp only at hv;split at hv
   ·rename_i xs z;split at hv
    ·rename_i k
     have N:∀v,st.aY a=some v->∀s∈v.ids,s∈l:=by
      intro v S s r;rw [vR] at k;apply k;rw [d] at z;obtain ⟨u,hu,hm⟩:=rj z a (by simp [gR]);rw [d];simp only [dO];rw [S] at hu;cases hu;exact Qw5.2 ⟨_,hm,r⟩
     refine core (fun g r A=>?_) (fun C b x n=>?_) (fun C s b n=>?_) (fun g D E r A=>?_) hv
     ·rw [d] at r ⊢;rw [l_ (ρ':=st.aY) fun x L=>mM r L];simp only [aK];split
      ·rename_i i v U M;exact (Jn fun s F=>A s (N v M s F)).symm
      ·rfl
     ·have:=oe (LF:=LF) (RF:=RF) (op:=o.op) (T:=T) (ρ:=st.aY) (bx:=st.boxes) (by rw [n];rfl);rw [d] at this;cases this
     ·rcases (eZ (T:=T) (ρ:=st.aY) (bx:=st.boxes) (op:=o.op)).1 (by rw [n];rfl) with ⟨t,y,x,B⟩|⟨c,B,-⟩<;>(rw [d] at B;cases B)
     ·unfold cz;dsimp only;rw [zb r,z];dsimp only;have:dO g.boxes o.op (xs.flatMap SV.ids)=dO st.boxes o.op (xs.flatMap SV.ids):=by rw [d];rfl
      rw [this,k];exact A
    ·exact hv.elim
   ·exact hv.elim
 | store=>
  cases h with
  | free=>cases hrw
  | own l=>
   simp only [pP,Qq2,Qb5] at hrw;obtain ⟨rfl,rfl⟩:=hrw
   have d:∃t a x,o.op=.store t a x:=by
    generalize o.op=op at j
    cases op with
    | store t a x=>exact ⟨t,a,x,rfl⟩
    | call c=>obtain ⟨H,args,O⟩:=c;cases H with
     | builtin b=>cases b<;>cases j
     | value f=>cases f with
      | func f=>simp only [a_] at j;split at j<;>(try split at j)<;>(try split at j)<;>(try split at j)<;>cases j
      | _=>cases j
     | _=>cases j
    | _=>cases j
   obtain ⟨t,a,y,d⟩:=d;unfold cz at hv;dsimp only at hv;split at hv
   ·rename_i xs z;split at hv
    ·rename_i k
     have N:∀v,st.aY a=some v->∀s∈v.ids,s∈l:=by
      intro v S s r;rw [vR] at k;apply k;rw [d] at z;obtain ⟨u,hu,hm⟩:=rj z a (by simp [gR]);rw [d];simp only [dO];rw [S] at hu;cases hu;exact Qw5.2 ⟨_,hm,r⟩
     refine core (fun g r A=>?_) (fun C b x n=>?_) (fun C s b n=>?_) (fun g D E r A=>?_) hv
     ·rw [d] at r ⊢;rw [l_ (ρ':=st.aY) fun x L=>mM r L];simp only [aK];split
      ·rename_i i v w U M hw;exact (GX fun s F=>A s (N v M s F)).symm
      ·rfl
     ·have:=oe (LF:=LF) (RF:=RF) (op:=o.op) (T:=T) (ρ:=st.aY) (bx:=st.boxes) (by rw [n];rfl);rw [d] at this;cases this
     ·rw [d] at n;simp only [aK] at n;split at n
      ·rename_i i v w U M hw;exact N v M s (Eu n)
      ·cases n
     ·unfold cz;dsimp only;rw [zb r,z];dsimp only;have:dO g.boxes o.op (xs.flatMap SV.ids)=dO st.boxes o.op (xs.flatMap SV.ids):=by rw [d];rfl
      rw [this,k];exact A
    ·exact hv.elim
   ·exact hv.elim
 | _=>cases hq
end Go.Eng
