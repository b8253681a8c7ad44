import Derived.Test.YtapnijmlbakblaaGreatDoorZJ3
set_option linter.unusedVariables false
open Go.IntKind (i64 u64 u32)
namespace Go.Eng
variable {P:Program} {T:cG} {n:Nat} {V0:View} {bu:Dn} {β0:Nat->Nat} {st:St} {β:Nat->Nat} {a:Act} {w:World} {V:View}
def bR (V:View)(w:World):View:=⟨w,fun b=>b<w.heap.size/\∀o,¬V.bB b o,fun _=>False,fun _ h=>h.1,fun _ h=>h.elim⟩
theorem rk (hM:Mod n V0 bu β0 st β a w V):V.Le (bR V w):=fun b o c=>⟨fun h=>h.2 o c,(hM.nt b o c).1⟩
theorem jP.run {f:FuncId}(h:jP P f)(xs:Array Value):(callFunc f xs).run P w=.ok (.enter f xs) w:=by
 obtain ⟨fn,a,b,c⟩:=h;simp only [callFunc,Sem.run_bind,run_program,Result.andThen_ok,a,c,b,Qz9,if_false,Sem.run_pure]
theorem bI {x:Nat}:∀{l:List Nat},x∈dedup l↔x∈l
 | []=>by simp [dedup]
 | y::r=>by
  simp only [dedup]
  cases h:dS y (dedup r) with
  | true=>
   simp only [cond_true,Qq6];rw [bI];constructor
   ·exact .inr
   ·rintro (rfl|h')
    ·exact bI.1 (bZ.1 h)
    ·exact h'
  | false=>simp only [cond_false,Qq6];rw [bI]
theorem dK {bx:Nat->Option aP}:∀(k:Nat)(l:List Nat),∀x∈l,x∈reach bx k l
 | 0,_,x,hx=>hx
 | k+1,l,x,hx=>by simp only [reach];exact dK k _ x (bI.2 (Qj2 _ hx))
theorem eQ {bx:Nat->Option aP}{l:List Nat}(h:fZ bx l=true){s:Nat}(hs:s∈l){b:aP}(hb:bx s=some b):∀t∈b.cs.ids,t∈l:=by
 unfold fZ at h;rw [Qz4] at h;have:=h s hs;unfold Jk kv at this;rw [hb,Qz4] at this;exact fun t a=>bZ.1 (this t a)
theorem ie {L:List Nat}:∀{γ:Nat->Nat} {k:(Nat->Nat)->Prop},kt L γ k->∀β:Nat->Nat,k (fun t=>if t∈L then β t else γ t):=by
 induction L with
 | nil=>
  intro γ k h β;have e:(fun t=>if t∈([]:List Nat) then β t else γ t)=γ:=by funext t;simp
  rw [e];exact h
 | cons s r ih=>
  intro γ k h β;have:=ih (h (β s)) β
  have e:(fun t=>if t∈r then β t else bH γ s (β s) t)=fun t=>if t∈s::r then β t else γ t:=by
   funext t;by_cases a:t∈r
   ·simp [a]
   ·by_cases b:t=s
    ·subst b;simp [a,aR]
    ·simp [a,b,fD]
  rw [e] at this;exact this
theorem vl {bx:Nat->Option aP}{b:aP}{γ:Nat->Nat}{s:Nat}:∀{r:List Nat} {k:Prop},LC bx b γ s r k->(∀t∈r,∀b',bx t=some b'->b.live->b'.live->γ s=γ t->s=t)->(∀t∈r,∃b',bx t=some b')->k
 | [],_,h,_,_=>h
 | t::r,k,h,hi,hl=>by
  simp only [LC] at h
  cases hb:Nat.beq s t with
  | true=>rw [hb] at h;exact vl h (fun t ht=>hi t (Qq8 _ ht)) (fun t ht=>hl t (Qq8 _ ht))
  | false=>
   rw [hb] at h;obtain ⟨b',hb'⟩:=hl t (by simp);simp only [hb',cond_false] at h;refine vl (h ?_) (fun t ht=>hi t (Qq8 _ ht)) (fun t ht=>hl t (Qq8 _ ht));rw [rK,eA];intro l;rw [eA];intro a e;have:=hi t (by simp) b' hb' l a e;rw [this,Qk4] at hb;cases hb
theorem uY {bx:Nat->Option aP}{γ:Nat->Nat}{V':View}:∀{L:List Nat} {k:Prop},gR bx γ V' L k->(∀s∈L,∀b,bx s=some b->b.live->V'.w.heap[γ s]?=some (b.obj γ)/\V'.H (γ s)) ->
  (∀s∈L,∀t∈L,∀b b',bx s=some b->b.live->bx t=some b'->b'.live->γ s=γ t->s=t)->(∀s∈L,∃b,bx s=some b)/\k
 | [],k,h,_,_=>⟨fun s hs=>(nomatch hs),h⟩
 | s::r,k,h,hf,hi=>by
  simp only [gR] at h;split at h
  ·rename_i b hb
   obtain ⟨h3,h5⟩:=uY (h (eA.2 fun l=>(hf s (by simp) b hb l).1) (eA.2 fun l=>(hf s (by simp) b hb l).2)) (fun c a=>hf c (Qq8 _ a))
    (fun c a t d=>hi c (Qq8 _ a) t (Qq8 _ d))
   have f:=vl h5 (fun t d b' e l g=>hi s (by simp) t (Qq8 _ d) b b' hb l e g) h3;exact ⟨fun c a=>by rcases Qq6.1 a with rfl|a;exact ⟨b,hb⟩;exact h3 c a,f⟩
  ·exact h.elim
theorem ik {bx:Nat->Option aP}{γ:Nat->Nat}{V':View}:∀{L:List Nat} {k:Prop},pg bx γ V' L k->(∀s∈L,∀b,bx s=some b->b.live->V'.bB (γ s) (b.obj γ))->(∀s∈L,∃b,bx s=some b)/\k
 | [],k,h,_=>⟨fun s hs=>(nomatch hs),h⟩
 | s::r,k,h,hf=>by
  simp only [pg] at h;split at h
  ·rename_i b hb;obtain ⟨h3,h4⟩:=ik (h (eA.2 (hf s (by simp) b hb))) (fun c a=>hf c (Qq8 _ a));exact ⟨fun c a=>by rcases Qq6.1 a with rfl|a;exact ⟨b,hb⟩;exact h3 c a,h4⟩
  ·exact h.elim
theorem gm {mv:Option (Nat×Nat)}:∀(cs zs:List C) {K:List C->Prop},kK mv cs zs K->∃cs',K cs'/\∀s∈cs'.flatMap C.ids,s∈cs.flatMap C.ids\/∃m,mv=some (m,s)
 | [],_,_,h=>⟨[],h,fun s hs=>(nomatch hs)⟩
 | c::r,[],_,h=>h.elim
 | c::r,z::zr,K,h=>by
  simp only [kK] at h;split at h
  ·split at h
   ·rename_i m nb;split at h
    ·obtain ⟨n,c,h⟩:=h;obtain ⟨cs',a,b⟩:=gm r zr h;refine ⟨_,a,fun s hs=>?_⟩;simp only [Qw5,Qw2] at hs ⊢;rcases hs with hs|hs
     ·simp only [C.ids,Qx0] at hs;subst hs;exact .inr ⟨m,rfl⟩
     ·exact (b s hs).imp .inr id
    ·exact h.elim
   ·exact h.elim
  ·split at h
   ·obtain ⟨v,d,e⟩:=wK.dG _ h;obtain ⟨cs',a,b⟩:=gm r zr e
    exact ⟨v::cs',a,fun s hs=>by
     simp only [Qw5,d,Qn3,Qw2] at hs ⊢;exact (b s hs).imp .inr id⟩
   ·obtain ⟨cs',a,b⟩:=gm r zr h
    exact ⟨c::cs',a,fun s hs=>by
     simp only [Qw5,Qw2] at hs ⊢;rcases hs with hs|hs
     ·exact .inl (.inl hs)
     ·exact (b s hs).imp .inr id⟩
theorem Mod.fill (h:Mod n V0 bu β0 st β a w V){s:Nat}{b0 b:aP}(hs:st.boxes s=some b0)(eY:∀t∈b.cs.ids,∃b',st.boxes t=some b')
  (hg:∀t b',st.boxes t=some b'->b'.live->t≠s->β t≠β s)(hV:∀o,¬V.bB (β s) o)(hown:V0.w.heap.size<=β s\/(100000<=s/\bu.B (β s)))(hw:w.heap[β s]?=some (b.obj β)) :
  Mod n V0 bu β0 (st.box s b) β a w V:=by
 have j:∀t,(∃b',st.boxes t=some b')->∃b',(st.box s b).boxes t=some b':=by
  rintro t ⟨b',c⟩;rw [ao];split
  ·exact ⟨_,rfl⟩
  ·exact ⟨b',c⟩
 refine ⟨h.defers,h.size,h.ax,fun t x v u hu=>j u (h.wQ t x v u hu),?_,?_,?_,h.nt,?_,h.ext,?_,h.ku,h.jx,h.small⟩
 ·intro t b' c u hu;rw [ao] at c;split at c
  ·simp only [Qq4] at c;exact j u (eY u (c▸hu))
  ·exact j u (h.wP t b' c u hu)
 ·intro t b' c l;rw [ao] at c;split at c
  ·rename_i e;simp only [Qq4] at c;rw [e,←c];exact hw
  ·exact h.boxes t b' c l
 ·intro t k m p g q i r he;rw [ao] at g i;split at g<;>split at i
  ·rename_i d f;rw [d,f]
  ·rename_i d f;rw [d] at he;exact absurd he.symm (hg k p i r f)
  ·rename_i d f;rw [f] at he;exact absurd he (hg t m g q d)
  ·exact h.inj t k m p g q i r he
 ·intro t b' c l;rw [ao] at c;split at c
  ·rename_i e;rw [e];exact hV
  ·exact h.sJ t b' c l
 ·intro t b' c l;rw [ao] at c;split at c
  ·rename_i e;rw [e];exact hown
  ·exact h.own t b' c l
theorem Mod.later (hM:Mod n V0 bu β0 st β a w V){X:Nat->Prop}{w':World}(hx:gV X w w')(hX:∀t b,st.boxes t=some b->b.live->¬X (β t))(hX0:∀i,i<V0.w.heap.size->X i->V0.X i){V1:View}
  (MF:∀b o,V1.bB b o->w'.heap[b]?=some o/\¬V0.H b)(qB:∀t b,st.boxes t=some b->b.live->∀o,¬V1.bB (β t) o):Mod n V0 bu β0 st β a w' V1:=by
 refine ⟨hM.defers,hM.size,hM.ax,hM.wQ,hM.wP,?_,hM.inj,MF,qB,?_,hM.own,hM.ku,hM.jx,hM.small⟩
 ·intro t b d l;have:=hM.boxes t b d l;rw [hx.bB _ (aA this) (hX t b d l)];exact this
 ·refine ⟨Qx6 hM.ext.size hx.size,fun i c e=>?_,hx.os.trans hM.ext.os,hx.tape.trans hM.ext.tape,hx.out.trans hM.ext.out⟩;rw [hx.bB i (Qx7 c hM.ext.size) (fun h=>e (hX0 i c h))];exact hM.ext.bB i c e
theorem Mod.beta (hM:Mod n V0 bu β0 st β a w V){d g:Nat}(hd:d<n\/200000<=d)(hn:st.boxes d=none):Mod n V0 bu β0 st (bH β d g) a w V:=by
 have m:∀s f,st.boxes s=some f->s≠d:=fun s f j e=>by rw [e,hn] at j;cases j
 have hβ:∀s f,st.boxes s=some f->bH β d g s=β s:=fun s f j=>fD _ _ (m s f j);refine ⟨hM.defers,hM.size,?_,hM.wQ,hM.wP,?_,?_,hM.nt,?_,hM.ext,?_,?_,hM.jx,hM.small⟩
 ·intro t x q;rw [hM.ax t x q];exact SV.bC fun s j=>by obtain ⟨f,i⟩:=hM.wQ t x q s j;exact (hβ s f i).symm
 ·intro s b c l;rw [hβ s b c,hM.boxes s b c l];congr 1;exact aP.cA fun k o=>by obtain ⟨p,r⟩:=hM.wP s b c k o;exact (hβ k p r).symm
 ·intro s k b f c l i u he;rw [hβ s b c,hβ k f i] at he;exact hM.inj s k b f c l i u he
 ·intro s b c l;rw [hβ s b c];exact hM.sJ s b c l
 ·intro s b c l;rw [hβ s b c];exact hM.own s b c l
 ·intro s j;obtain ⟨v,y⟩:=hM.ku s j;exact ⟨v,by rw [fD _ _ (by have:=hM.small;omega)];exact y⟩
theorem jw {ty:TypeId}:∀{L:List Nat} {st:St},(cW st L ty).ax=st.ax
 | [],_=>rfl
 | s::r,st=>by unfold cW;rw [Qm8];exact jw (L:=r)
theorem a_ {ty:TypeId}:∀{L:List Nat} {st:St} (t:Nat),(cW st L ty).boxes t=if t∈L then some ⟨.aH [],ty⟩ else st.boxes t
 | [],st,t=>by simp [cW]
 | s::r,st,t=>by
  have:=a_ (ty:=ty) (L:=r) (st:=st.box s ⟨.aH [],ty⟩) t;unfold cW at this ⊢;rw [Qm8,this,ao];by_cases a:t∈r
  ·simp [a]
  ·by_cases b:t=s
   ·simp [b]
   ·simp [a,b]
theorem Mod.FM {ty:TypeId}:∀{L:List Nat} {st:St},Mod n V0 bu β0 st β a w V->Mod n V0 bu β0 (cW st L ty) β a w V
 | [],_,h=>h
 | s::r,st,h=>by unfold cW;rw [Qm8];exact Mod.FM (L:=r) h.void
theorem kM {mv:Option (Nat×Nat)}{γ:Nat->Nat}{V2:View}{A:List Nat}(hV2:V2.w=w)(Sb:∀s∈A,γ s=β s)(hinj:∀s∈A,∀s'∈A,β s=β s'->s=s')(qB:∀s∈A,∀o,¬V.bB (β s) o)
  (hown:∀s∈A,V0.w.heap.size<=β s\/(100000<=s/\bu.B (β s))) :
  ∀(L:List Nat) (Ji xw:St) {k:St->Prop},(∀s∈L,s∈A)->Mod n V0 bu β0 xw β a w V->Ji.ax=xw.ax->(∀t,t∉L->Ji.boxes t=xw.boxes t)->(∀s∈L,∃b,xw.boxes s=some b) ->
   (∀t b,xw.boxes t=some b->b.live->t∉A->∀s∈A,β t≠β s)->(∀s∈L,∀b,Ji.boxes s=some b->∀t∈b.cs.ids,(∃b',xw.boxes t=some b')/\γ t=β t)->(∀m nb,mv=some (m,nb)->(∃b',xw.boxes nb=some b')/\γ nb=β nb) ->
   dn T mv γ V2 L Ji k->∃st',Mod n V0 bu β0 st' β a w V/\st'.ax=xw.ax/\(∀t,(∃b,xw.boxes t=some b)->∃b,st'.boxes t=some b)/\k st'
 | [],Ji,xw,k,_,hM,hsl,hag,_,_,_,_,h=>by
  have:Ji=xw:=by
   obtain ⟨s1,j⟩:=Ji;obtain ⟨s2,Q⟩:=xw;dsimp only at hsl hag;subst hsl;congr 1;funext t;exact hag t (by simp)
  exact ⟨xw,hM,rfl,fun _ h=>h,this▸h⟩
 | s::r,Ji,xw,k,hA,hM,hsl,hag,hb,hd,hw,hmv,h=>by
  have g:=hA s (by simp);obtain ⟨R,C⟩:=hb s (by simp)
  have step:∀j:aP,(∀t∈j.cs.ids,(∃b',xw.boxes t=some b')/\γ t=β t)->w.heap[γ s]?=some (j.obj γ)->dn T mv γ V2 r (Ji.box s j) k ->
    ∃st',Mod n V0 bu β0 st' β a w V/\st'.ax=xw.ax/\(∀t,(∃b,xw.boxes t=some b)->∃b,st'.boxes t=some b)/\k st':=by
   intro j v I h;rw [Sb s g,aP.cA fun t c=>(v t c).2] at I;by_cases D:s∈r
   ·
    refine kM hV2 Sb hinj qB hown r (Ji.box s j) xw (fun s' d=>hA s' (Qq8 _ d)) hM hsl ?_ (fun s' d=>hb s' (Qq8 _ d)) hd ?_ hmv h
    ·intro t c;have:t≠s:=fun e=>c (e▸D);rw [ao,if_neg this];exact hag t (by simp [this,c])
    ·intro s' d b' f t c;rw [ao] at f;split at f
     ·cases f;exact v t c
     ·exact hw s' (Qq8 _ d) b' f t c
   ·have E:=hM.fill (b:=j) C (fun t c=>(v t c).1) (by
     intro t b' c l F he;by_cases x:t∈A
     ·exact F (hinj t x s g he)
     ·exact hd t b' c l x s g he) (qB s g) (hown s g) I
    have y:∀t,(∃b,xw.boxes t=some b)->∃b,(xw.box s j).boxes t=some b:=by
     rintro t ⟨b,c⟩;rw [ao];split
     ·exact ⟨_,rfl⟩
     ·exact ⟨b,c⟩
    obtain ⟨st',J,K,M,N⟩:=kM hV2 Sb hinj qB hown r (Ji.box s j) (xw.box s j) (fun s' d=>hA s' (Qq8 _ d)) E hsl
     (by
      intro t c;rw [ao,ao];split
      ·rfl
      ·rename_i e;exact hag t (by simp [e,c]))
     (fun s' d=>y s' (hb s' (Qq8 _ d)))
     (by
      intro t b' c l x;rw [ao] at c;split at c
      ·rename_i e;exact absurd (e▸g) x
      ·exact hd t b' c l x)
     (by
      intro s' d b' f t c;rw [ao] at f;split at f
      ·cases f;exact ⟨y t (v t c).1,(v t c).2⟩
      ·have:=hw s' (Qq8 _ d) b' f t c;exact ⟨y t this.1,this.2⟩)
     (fun m nb e=>⟨y nb (hmv m nb e).1,(hmv m nb e).2⟩) h
    exact ⟨st',J,K,fun t c=>M t (y t c),N⟩
  simp only [dn] at h;split at h
  ·rename_i cs ty q;split at h
   ·rename_i i S;obtain ⟨G,⟨p,z⟩,O⟩:=gm _ _ h;rw [hV2] at p;refine step ⟨.lit G,ty⟩ (fun t c=>?_) p z;rcases O t c with H|⟨m,H⟩
    ·exact hw s (by simp) _ q t H
    ·exact hmv m t H
   ·exact h.elim
  ·rename_i P ty q;obtain ⟨u,p,z⟩:=h;rw [hV2] at p;exact step ⟨.row u,ty⟩ (fun t c=>(nomatch c)) p z
  ·rename_i P ty q;obtain ⟨-,u,-,p,z⟩:=h;rw [hV2] at p;exact step ⟨.aH u,ty⟩ (fun t c=>(nomatch c)) p z
  ·exact h.elim
theorem uX {mv:Option (Nat×Nat)}{V2:View}:∀{L:List Nat} {st:St} {k:St->Prop},dn T mv β V2 L st k->∀s∈L,∃b,st.boxes s=some b/\b.live
 | [],_,_,_,s,hs=>nomatch hs
 | s::r,st,k,h,t,ht=>by
  have core:∀b1:aP,(∃b,st.boxes s=some b/\b.live)->dn T mv β V2 r (st.box s b1) k->∃b,st.boxes t=some b/\b.live:=by
   intro b1 hs h;by_cases e:t=s
   ·rw [e];exact hs
   ·have:=uX h t (by simpa [e] using ht);rw [ao,if_neg e] at this;exact this
  simp only [dn] at h;split at h
  ·rename_i cs ty a;split at h
   ·obtain ⟨i,⟨g,c⟩,l⟩:=gm _ _ h;exact core _ ⟨_,a,cq⟩ c
   ·exact h.elim
  ·rename_i j ty a;obtain ⟨d,g,c⟩:=h;exact core _ ⟨_,a,bY⟩ c
  ·rename_i j ty a;obtain ⟨f,d,-,g,c⟩:=h;exact core _ ⟨_,a,fun _ e=>by cases e;exact f⟩ c
  ·exact h.elim
theorem uW {bx:Nat->Option aP}{γ:Nat->Nat}{N b:Nat}{L:List Nat}(hl:∀s∈L,∃b,bx s=some b)(hb:b∈L.map (cJ bx γ N))(hlt:b<N):∃s∈L,∃b0,bx s=some b0/\b0.live/\γ s=b:=by
 obtain ⟨s,c,he⟩:=Qy5.1 hb;obtain ⟨b0,a⟩:=hl s c;unfold cJ at he;rw [a] at he;obtain ⟨cs,ty⟩:=b0
 cases cs with
 | lit cs=>exact ⟨s,c,_,a,cq,he⟩
 | row cs=>exact ⟨s,c,_,a,bY,he⟩
 | aH vs=>
  cases vs with
  | nil=>simp only [vb] at he;omega
  | cons v r=>exact ⟨s,c,_,a,dI (by simp),he⟩
theorem rJ {nb:Nat}:∀{xs:List (Bool×List C)},(xs.flatMap fun x=>x.2.flatMap C.ids)=[]->∀s∈((tD nb xs).flatMap fun x=>x.2.flatMap C.ids),s=nb
 | [],_,s,hs=>nomatch hs
 | x::r,h,s,hs=>by
  simp only [Qw5,List.append_eq_nil_iff] at h;unfold tD at hs;split at hs
  ·rename_i heq;cases heq
  ·rename_i heq;cases heq;simp only [Qw5,h.2,List.flatMap_nil,Qz5] at hs;simpa [C.ids] using hs
  ·rename_i heq;cases heq;simp only [Qw5,Qw2,h.1,Qk1,false_or] at hs;exact rJ h.2 s hs
theorem uO {nb:Nat}:∀{cs:List C},(cs.flatMap C.ids)=[]->∀s∈(Ac nb cs).flatMap C.ids,s=nb
 | [],_,s,hs=>nomatch hs
 | x::r,h,s,hs=>by
  simp only [Qw5,List.append_eq_nil_iff] at h;unfold Ac at hs;split at hs
  ·rename_i heq;cases heq
  ·rename_i heq;cases heq;simp only [Qw5,h.2,Qz5] at hs;simpa [C.ids] using hs
  ·rename_i heq;cases heq;simp only [Qw5,Qw2,h.1,Qk1,false_or] at hs;exact uO h.2 s hs
theorem DS {nb:Nat}{x:SV}(h:x.ids=[]):∀s∈(qA nb x).ids,s=nb:=by
 intro s a;unfold qA at a;split at a
 ·simpa [SV.ids,C.ids] using a
 ·exact uO h s a
 ·exact rJ h s a
 ·rw [h] at a;cases a
theorem BH {xs:List SV}(h:∀x∈xs,x.ids=[])(γ δ:Nat->Nat):aN γ xs=aN δ xs:=by
 unfold aN;rw [Qj8 fun x a=>jm (h x a) γ δ]
theorem Mod.Mb {w0:World}{V':View}(hM:Mod n V0 bu β0 st β a w V')(hlt:∀s b,st.boxes s=some b->b.live->β s<w0.heap.size)(hsz:V0.w.heap.size<=w0.heap.size){d b:Nat}{cs:List C}{e:TypeId}(hd:d<n)(hn:st.boxes d=none)
  (hb:w0.heap.size<=b)(hw:V'.w=w)(hblk:V'.bB b (.cells (cs.map (C.den fun _=>0)).toArray e (0,0)))(eY:cs.flatMap C.ids=[]) :
  Mod n V0 bu β0 ((st.box d ⟨.lit cs,e⟩).put (some d) (.c (.ptr d 0))) (bH β d b) (a.put (some d) (.pointer (some ⟨b,0,none⟩))) w (V'.HY b):=by
 have r:∀s g,st.boxes s=some g->s≠d:=fun s g f e=>by rw [e,hn] at f;cases f
 have hβ:∀s g,st.boxes s=some g->bH β d b s=β s:=fun s g f=>fD _ _ (r s g f);have u:w.heap[b]?=some (.cells (cs.map (C.den fun _=>0)).toArray e (0,0)):=(hM.nt b _ hblk).1
 have H:(⟨.lit cs,e⟩:aP).obj (bH β d b)=.cells (cs.map (C.den fun _=>0)).toArray e (0,0):=by
  simp only [aP.obj,Cells.den];rw [kI (β':=fun _=>0) fun s f=>by rw [eY] at f;cases f]
 have I:Mod n V0 bu β0 (st.box d ⟨.lit cs,e⟩) (bH β d b) a w (V'.HY b):=by
  refine ⟨hM.defers,hM.size,?_,?_,?_,?_,?_,?_,?_,hM.ext,?_,?_,hM.jx,hM.small⟩
  ·intro t x y;rw [hM.ax t x y];exact SV.bC fun s f=>by obtain ⟨g,p⟩:=hM.wQ t x y s f;exact (hβ s g p).symm
  ·intro t x y s f;obtain ⟨g,p⟩:=hM.wQ t x y s f;exact ⟨g,by rw [ao,if_neg (r s g p)];exact p⟩
  ·intro s g f m i;rw [ao] at f;split at f
   ·simp only [Qq4] at f;rw [←f] at i;simp only [Cells.ids] at i;rw [eY] at i;cases i
   ·obtain ⟨q,z⟩:=hM.wP s g f m i;exact ⟨q,by rw [ao,if_neg (r m q z)];exact z⟩
  ·intro s g f l;rw [ao] at f;split at f
   ·rename_i v;simp only [Qq4] at f;rw [v,aR,←f,H];exact u
   ·rw [hβ s g f,hM.boxes s g f l];congr 1;exact aP.cA fun m i=>by obtain ⟨q,z⟩:=hM.wP s g f m i;exact (hβ m q z).symm
  ·intro s m A B j F k G he;rw [ao] at j k;split at j<;>split at k
   ·rename_i D E;rw [D,E]
   ·rename_i D E;rw [D,aR,hβ m B k] at he;have:=hlt m B k G;omega
   ·rename_i D E;rw [E,aR,hβ s A j] at he;have:=hlt s A j F;omega
   ·rw [hβ s A j,hβ m B k] at he;exact hM.inj s m A B j F k G he
  ·rintro x o ⟨j,k⟩;exact hM.nt x o ⟨fun h=>j (.inl h),k⟩
  ·rintro s g f l o ⟨j,k⟩;rw [ao] at f;split at f
   ·rename_i v;rw [v,aR] at j;exact j (.inr ⟨rfl,by rw [hw];exact aA u⟩)
   ·rw [hβ s g f] at j k;exact hM.sJ s g f l o ⟨fun h=>j (.inl h),k⟩
  ·intro s g f l;rw [ao] at f;split at f
   ·rename_i v;rw [v,aR];exact .inl (Qx6 hsz hb)
   ·rw [hβ s g f];exact hM.own s g f l
  ·intro s f;obtain ⟨j,k⟩:=hM.ku s f;exact ⟨j,by rw [fD _ _ (by have:=hM.small;omega)];exact k⟩
 refine I.put hd ?_ ?_
 ·simp only [SV.den,C.den,aR]
 ·intro s f;simp [SV.ids,C.ids] at f;subst f;exact ⟨_,by rw [ao,if_pos rfl]⟩
theorem vi {L:List Nat}{m s:Nat}:s∈(L.filter fun s=>!(Nat.beq s m))↔s∈L/\s≠m:=by
 rw [Qn9];constructor
 ·rintro ⟨b,a⟩;refine ⟨b,fun e=>?_⟩;subst e;rw [Qk4] at a;cases a
 ·rintro ⟨b,a⟩;refine ⟨b,?_⟩
  cases h:Nat.beq s m with
  | false=>rfl
  | true=>exact absurd (beq_eq.1 h) a
theorem lR (hM:Mod n V0 bu β0 st β a w V){L:List Nat}{γ:Nat->Nat}(gP:∀s∈L,γ s=β s)(hcl:∀s∈L,∀b,st.boxes s=some b->∀t∈b.cs.ids,t∈L)(hlive:∀s∈L,∃b,st.boxes s=some b)
  {give:Bool}{sh:Sh}{m:Option Nat}{d:Nat}(hd:d<n){ety:TypeId}{K:St->View->Prop}{w':World}{r:Value}(hm:∀k,m=some k->k∈L)(hfree:iL st m d=true)
  (hx:gV (fun b=>b∈L.map (cJ st.boxes γ w.heap.size)/\(bR V w).H b) w w')
  (hr:bK T give sh L m d ety γ st (bR V w) K r (((bR V w).ay (L.map (cJ st.boxes γ w.heap.size))).to w' hx.size)) :
  ∃st' β' V',Mod n V0 bu β0 st' β' (a.put (some d) r) w' V'/\K st' V':=by
 have a4:V0.w.heap.size<=w.heap.size:=hM.ext.size;unfold bK at hr;generalize hnb:dZ m d=nb at hr;obtain ⟨D,p,M,MH,N⟩:=hr;obtain ⟨x,O,rfl,hr⟩:=Sh.dG sh N;clear N
 have Y:st.boxes nb=none:=by
  unfold iL at hfree;rw [hnb] at hfree;split at hfree
  ·cases hfree
  ·assumption
 have Ll:nb<n\/200000<=nb:=by
  rw [←hnb]
  cases m with
  | none=>exact .inl hd
  | some m=>exact Ak hd
 generalize hV1:((((bR V w).ay (L.map (cJ st.boxes γ w.heap.size))).to w' hx.size).shut.cp (p≠[]) D)=V1 at hr;have Rq:V1.w=w':=by rw [←hV1];rfl
 have Z:∀b o,V1.bB b o->w'.heap[b]?=some o/\¬(b<w.heap.size/\∀o,¬V.bB b o)/\¬(p≠[]/\b=D/\b<w'.heap.size):=by
  rintro b o ⟨B,E⟩;rw [Rq] at E;rw [←hV1] at B;refine ⟨E,fun h=>B (.inl h),fun h=>B (.inr ⟨h.1,h.2.1,by rw [←h.2.1];exact h.2.2⟩)⟩
 have MF:∀b o,V1.bB b o->w'.heap[b]?=some o/\¬V0.H b:=by
  intro b o h;obtain ⟨B,E,-⟩:=Z b o h;refine ⟨B,fun hH=>?_⟩;by_cases a0:b<w.heap.size
  ·exact E ⟨a0,fun o' a1=>(hM.nt b o' a1).2 hH⟩
  ·have:=V0.hH b hH;omega
 have qB:∀s b,st.boxes s=some b->b.live->∀o,¬V1.bB (β s) o:=fun s b g l o ho=>
  (Z _ o ho).2.1 ⟨aA (hM.boxes s b g l),hM.sJ s b g l⟩
 have OB:∀b,(b∈L.map (cJ st.boxes γ w.heap.size)/\(bR V w).H b)->∃s∈L,∃q,st.boxes s=some q/\q.live/\β s=b:=by
  rintro b ⟨B,E⟩;obtain ⟨s,c,q,f,C,he⟩:=uW hlive B E.1;exact ⟨s,c,q,f,C,by rw [←gP s c];exact he⟩
 have Dm:Mod n V0 bu β0 (cW st L ety) β a w' V1:=by
  refine (hM.FM (L:=L) (ty:=ety)).later hx ?_ ?_ MF ?_
  ·intro t b g l hX;rw [a_] at g;split at g
   ·cases g;exact d_ l
   ·rename_i v;obtain ⟨s,c,q,f,C,he⟩:=OB _ hX;exact v (hM.inj s t q b f C g l he▸c)
  ·intro i hi hX;obtain ⟨s,c,q,f,C,rfl⟩:=OB _ hX;rcases hM.own s q f C with h|h
   ·omega
   ·exact hM.jx _ h.2
  ·intro t b g l;rw [a_] at g;split at g
   ·cases g;exact absurd l d_
   ·exact qB t b g l
 have OL:(cW st L ety).boxes nb=none:=by
  rw [a_,if_neg]
  ·exact Y
  ·intro h;obtain ⟨b,g⟩:=hlive nb h;rw [Y] at g;cases g
 have DZ:p≠[]->w.heap.size<=D\/∃k q,m=some k/\st.boxes k=some q/\q.live/\D=β k:=by
  intro u;rcases MH u with h|h
  ·exact .inl h
  ·right
   cases m with
   | none=>exact h.elim
   | some k=>
    have W:=hm k rfl;obtain ⟨q,f⟩:=hlive k W;simp only [wF,f] at h;obtain ⟨cs,ty⟩:=q
    cases cs with
    | lit cs=>exact ⟨k,_,rfl,f,cq,by rw [←gP k W];exact h⟩
    | row cs=>exact ⟨k,_,rfl,f,bY,by rw [←gP k W];exact h⟩
    | aH cs=>exact ⟨k,_,rfl,f,dI h.1,by rw [←gP k W];exact h.2⟩
 have WZ:Mod n V0 bu β0 ((cW st L ety).box nb ⟨.aH p,ety⟩) (bH β nb D) a w' V1:=by
  by_cases u:p=[]
  ·subst u;exact (Dm.beta Ll OL).void
  ·have OC:w'.heap[D]?=some (.cells p.toArray ety (0,0)):=M u;refine Dm.gO Ll OL rfl ?_ ?_ ?_ OC (fun _ _ _=>rfl) (Qq3 _) rfl rfl rfl
   ·intro s b g l he;rw [a_] at g;split at g
    ·cases g;exact d_ l
    ·rename_i a2;rcases DZ u with h|⟨k,q,P,f,C,h⟩
     ·have:=aA (hM.boxes s b g l);omega
     ·exact a2 (hM.inj k s q b f C g l (h▸he.symm)▸hm k P)
   ·intro o ho;exact (Z _ o ho).2.2 ⟨u,rfl,aA OC⟩
   ·rcases DZ u with h|⟨k,q,P,f,C,h⟩
    ·left;omega
    ·rcases hM.own k q f C with X|X
     ·left;rw [h];exact X
     ·right;refine ⟨?_,by rw [h];exact X.2⟩;rw [←hnb,P];exact Fh X.1
 have DX:∀s,(∃b,st.boxes s=some b)->s≠nb:=by rintro s ⟨b,g⟩ rfl;rw [Y] at g;cases g
 generalize hA:B8 m L=A at hr
 have F:∀s∈A,s∈L/\∀k,m=some k->s≠k:=by
  intro s c;rw [←hA] at c
  cases m with
  | none=>exact ⟨c,fun k h=>nomatch h⟩
  | some k=>obtain ⟨B,E⟩:=vi.1 c;exact ⟨B,fun j hj=>by cases hj;exact E⟩
 have UI:∀s∈L,(∀k,m=some k->s≠k)->s∈A:=by
  intro s c h;rw [←hA]
  cases m with
  | none=>exact c
  | some k=>exact vi.2 ⟨c,h k rfl⟩
 have J:∀s,(∃b,st.boxes s=some b)->bH γ nb D s=γ s/\bH β nb D s=β s:=fun s c=>⟨fD _ _ (DX s c),fD _ _ (DX s c)⟩
 have OU:∀s∈A,((oT m ety st).box nb ⟨.aH p,ety⟩).boxes s=st.boxes s:=by
  intro s c;obtain ⟨B,E⟩:=F s c;rw [ao,if_neg (DX s (hlive s B))]
  cases m with
  | none=>rfl
  | some k=>simp only [oT];rw [ao,if_neg (E k rfl)]
 have Q:∀s∈A,∃b,st.boxes s=some b/\b.live:=by
  intro s c;have:=uX hr s c;rw [OU s c] at this;exact this
 obtain ⟨st',g1,g2,g3,g4⟩:=kM (a:=a) (w:=w') (V:=V1) (γ:=bH γ nb D) (β:=bH β nb D) (by rfl) (fun s c=>by
   have:=J s (hlive s (F s c).1);rw [this.1,this.2];exact gP s (F s c).1)
  (by
   intro s c R S he;rw [(J s (hlive s (F s c).1)).2,(J R (hlive R (F R S).1)).2] at he;obtain ⟨y,z,G⟩:=Q s c;obtain ⟨b2,e2,l2⟩:=Q R S;exact hM.inj s R y b2 z G e2 l2 he)
  (by
   intro s c;obtain ⟨y,z,G⟩:=Q s c;rw [(J s ⟨y,z⟩).2];exact qB s y z G)
  (by
   intro s c;obtain ⟨y,z,G⟩:=Q s c;rw [(J s ⟨y,z⟩).2];exact hM.own s y z G)
  A _ ((cW st L ety).box nb ⟨.aH p,ety⟩) (fun _ h=>h) WZ
  (by
   show _=(cW st L ety).ax;rw [jw];cases m<;>rfl)
  (by
   intro t v;rw [ao,ao];split
   ·rfl
   ·rw [a_]
    cases m with
    | none=>
     simp only [oT];rw [if_neg fun h=>v (UI t h fun k e=>nomatch e)]
    | some k=>
     simp only [oT];rw [ao];split
     ·rename_i e;rw [if_pos (e▸hm k rfl)]
     ·rename_i e;rw [if_neg fun h=>v (UI t h fun j hj=>by cases hj;exact e)])
  (by
   intro s c;rw [ao];split
   ·exact ⟨_,rfl⟩
   ·rw [a_,if_pos (F s c).1];exact ⟨_,rfl⟩)
  (by
   intro t b v l Kg s c;obtain ⟨y,z,G⟩:=Q s c;rw [(J s ⟨y,z⟩).2];rw [ao] at v;split at v
   ·rename_i e;simp only [Qq4] at v;rw [e,aR];have u:p≠[]:=fun e0=>by rw [←v,e0] at l;exact d_ l
    rcases DZ u with h|⟨k,q,P,f,C,h⟩
    ·have:=aA (hM.boxes s y z G);omega
    ·intro he;exact (F s c).2 k P (hM.inj k s q y f C z G (h▸he)).symm
   ·rw [a_] at v;split at v
    ·cases v;exact absurd l d_
    ·rename_i U;intro he;rw [(J t ⟨b,v⟩).2] at he;exact U (hM.inj t s b y v l z G he▸(F s c).1))
  (by
   intro s c b g t v;rw [OU s c] at g;have U:=hcl s (F s c).1 b g t v;have I:=J t (hlive t U);refine ⟨?_,by rw [I.1,I.2];exact gP t U⟩;rw [ao];split
   ·exact ⟨_,rfl⟩
   ·rw [a_,if_pos U];exact ⟨_,rfl⟩)
  (by
   intro k a3 e
   have:a3=nb:=by
    cases m with
    | none=>cases e
    | some m=>cases e;rfl
   subst this;exact ⟨⟨_,by rw [ao,if_pos rfl]⟩,by rw [aR,aR]⟩)
  hr
 obtain ⟨b2,I⟩:=g3 nb ⟨_,by rw [ao,if_pos rfl]⟩
 have eY:∀s∈(cond give (qA nb x) x).ids,s=nb:=by
  cases give with
  | true=>exact DS O
  | false=>intro s c;rw [cond_false,O] at c;cases c
 refine ⟨_,_,_,g1.put (x:=cond give (qA nb x) x) hd ?_ ?_,g4⟩
 ·exact SV.bC fun s c=>by rw [eY s c,aR,aR]
 ·intro s c;rw [eY s c];exact ⟨b2,I⟩
theorem ji (hM:Mod n V0 bu β0 st β a w V){m:CM}{f:FuncId}{xs:List SV}{ty:TypeId}{dst:Option Nat}{K:St->View->Prop}{next:Act->World->Prop}{Q:Exit->Act->World->Prop}
  (hd:∀d,dst=some d->d<n)(hv:eE P T m f xs ty dst st V K)
  (hK:∀st' β' a' w' V',Mod n V0 bu β0 st' β' a' w' V'->K st' V'->next a' w') :
  jP P f/\Calls P f (aN β xs) w fun
   | .returned v,w''=>next (a.put dst v) w''
   | .panicked chain,w''=>Q (.panic chain) a w''
   | .outgrown,_=>LetsOut Q:=by
 have hle:=rk hM;have a9:V0.w.heap.size<=w.heap.size:=hM.ext.size;unfold eE at hv;split at hv
 ·exact hv.elim
 ·rename_i sh c0;split at hv
  ·
   rename_i eY
   have b3:∀x∈xs,x.ids=[]:=by
    intro x u;rcases hx':x.ids with _|⟨s,r⟩
    ·rfl
    ·exfalso;have:s∈reach st.boxes 3 (dedup (xs.flatMap SV.ids)):=dK 3 _ s (bI.2 (Qw6.2 ⟨x,u,by rw [hx'];simp⟩));rw [eY] at this;cases this
   have UJ:∀(w':World)(u:gV (fun _=>False) w w'),Mod n V0 bu β0 st β a w' ((bR V w).to w' u.size):=by
    intro w' u;refine hM.later u (fun _ _ _ _ h=>h) (fun _ _ h=>h.elim) ?_ ?_
    ·rintro b o ⟨D,G⟩;refine ⟨G,fun hH=>?_⟩;by_cases U:b<w.heap.size
     ·apply D;refine ⟨U,fun o' W=>(hM.nt b o' W).2 hH⟩
     ·have:=V0.hH b hH;omega
    ·rintro s b p l o ⟨D,-⟩;exact D ⟨aA (hM.boxes s b p l),hM.sJ s b p l⟩
   rw [BH b3 β fun _=>0];split at hv
   ·
    split at hv
    ·rename_i d N c1;split at hv
     ·exact hv.elim
     ·rename_i q;obtain ⟨hc,X⟩:=hv (bR V w) hle;refine ⟨hc,Calls.mono X ?_⟩;rintro e' w' ⟨r,rfl,u,Y⟩;have A:gV (fun b=>b∈([]:List Nat).map (cJ st.boxes (fun _=>0) w.heap.size)/\(bR V w).H b) w w':=u.mono fun _ h=>h.elim
      have a6:bK T true sh [] Option.none d N (fun _=>0) st (bR V w) K r (((bR V w).ay (([]:List Nat).map (cJ st.boxes (fun _=>0) w.heap.size))).to w' A.size):=by
       unfold bK B8 at Y ⊢;exact Y
      obtain ⟨st',β',V',D,G⟩:=lR (T:=T) (give:=true) (m:=Option.none) hM (fun s g=>absurd g (by simp)) (fun s g=>absurd g (by simp)) (fun s g=>absurd g (by simp)) (hd d rfl) (fun k J=>by cases J) q A a6;exact hK _ _ _ _ _ D G
    ·exact hv.elim
   ·split at hv
    ·rename_i d;split at hv
     ·exact hv.elim
     ·rename_i hn;split at hv
      ·rename_i ti c2;split at hv
       ·rename_i e he;split at hv
        ·rename_i ei BU;obtain ⟨hc,X⟩:=hv (bR V w) hle;refine ⟨hc,Calls.mono X ?_⟩;rintro e' w' ⟨r,rfl,u,b,Y⟩;obtain ⟨cs,D,G,rfl,h4,h5,h6⟩:=oR _ Y;exact hK _ _ _ _ _ ((UJ w' u).Mb (w0:=w) (fun s b p l=>aA (hM.boxes s b p l)) a9 (hd d rfl) hn h4 rfl h5 D) h6
        ·exact hv.elim
       ·exact hv.elim
      ·exact hv.elim
    ·exact hv.elim
   ·obtain ⟨hc,X⟩:=hv (bR V w) hle;refine ⟨hc,Calls.mono X ?_⟩;rintro e w' ⟨r,rfl,u,Y⟩;obtain ⟨x,A,rfl,Z⟩:=Sh.dG sh Y;have u:gV (fun _=>False) w w':=u;exact hK (st.put dst x) β _ _ _ ((UJ w' u).Eb hd (jm A _ _) (bL A)) Z
  ·rename_i s0 r0 eY;split at hv
   ·exact hv.elim
   ·rename_i a4;generalize hL:s0::r0=L at hv eY a4
    have Qy:∀x∈xs,∀s∈x.ids,s∈L:=by
     intro x u s g;rw [←eY];exact dK 3 _ s (bI.2 (Qw6.2 ⟨x,u,g⟩))
    have a1:∀s∈L,∀b,st.boxes s=some b->∀t∈b.cs.ids,t∈L:=fun s g b p=>eQ a4 g p
    have Pg:∀{R:(Nat->Nat)->Value->View->Prop},(kt L (fun _=>0) fun γ=>gR st.boxes γ (bR V w) L (aa P f (aN γ xs) ((bR V w).ay (L.map (cJ st.boxes γ w.heap.size))) (R γ))) ->
      ∃γ,(∀s∈L,γ s=β s)/\(∀s∈L,∃b,st.boxes s=some b)/\aa P f (aN β xs) ((bR V w).ay (L.map (cJ st.boxes γ w.heap.size))) (R γ):=by
     intro R hv;have O:=ie hv β;generalize hγ:(fun t=>if t∈L then β t else (fun _=>0) t)=γ at O;have F:∀s∈L,γ s=β s:=fun s g=>by rw [←hγ];simp [g]
     have uP:∀s∈L,∀b,st.boxes s=some b->b.obj γ=b.obj β:=fun s g b p=>aP.cA fun t S=>F t (a1 s g b p t S)
     obtain ⟨z,b4⟩:=uY O (by
      intro s g b p l;rw [F s g,uP s g b p];exact ⟨hM.boxes s b p l,aA (hM.boxes s b p l),hM.sJ s b p l⟩) (by
      intro s g t S b b' p l b5 l' e;rw [F s g,F t S] at e;exact hM.inj s t b b' p l b5 l' e)
     refine ⟨γ,F,z,?_⟩
     have E:aN γ xs=aN β xs:=by
      unfold aN;rw [Qj8 fun x u=>SV.bC fun s g=>F s (Qy x u s g)]
     rw [←E];exact b4
    have a0:∀{give:Bool} {mm:Option Nat} {d:Nat} {N:TypeId},dst=some d->(∀k,mm=some k->k∈L)->iL st mm d=true ->
      (∀V':View,V.Le V'->kt L (fun _=>0) fun γ=>gR st.boxes γ V' L (aa P f (aN γ xs) (V'.ay (L.map (cJ st.boxes γ V'.w.heap.size))) (bK T give sh L mm d N γ st V' K))) ->
      jP P f/\Calls P f (aN β xs) w fun
       | .returned v,w''=>next (a.put dst v) w''
       | .panicked chain,w''=>Q (.panic chain) a w''
       | .outgrown,_=>LetsOut Q:=by
     intro give mm d N a5 b6 q hv;obtain ⟨γ,F,z,hc,X⟩:=Pg (R:=fun γ=>bK T give sh L mm d N γ st (bR V w) K) (hv (bR V w) hle);refine ⟨hc,Calls.mono X ?_⟩;rintro e w' ⟨r,rfl,u,Y⟩;obtain ⟨st',β',V',D,G⟩:=lR hM F a1 z (hd d a5) b6 q u Y;rw [a5];exact hK _ _ _ _ _ D G
    have Ss:∀k,k∈oY st.boxes L->k∈L:=by
     intro k J;unfold oY at J;obtain ⟨s,g,J⟩:=Qw6.1 (bI.1 J);split at J
     ·rename_i cs ty p;refine a1 s g _ p k ?_
      have:∀cs:List C,k∈nP cs->k∈cs.flatMap C.ids:=by
       intro cs
       induction cs with
       | nil=>exact fun h=>nomatch h
       | cons c r ih=>
        intro h;rw [Qw5,Qw2]
        cases c<;>simp only [nP,Qq6] at h<;>first
         | exact .inr (ih h)
         | (rcases h with h|h
            ·left;simp [C.ids,h]
            ·exact .inr (ih h))
      exact this cs J
     ·cases J
    have Rk:∀k,k∈kN xs->k∈L:=by
     intro k J
     have:∀xs:List SV,k∈kN xs->∃x∈xs,k∈x.ids:=by
      intro xs
      induction xs with
      | nil=>exact fun h=>nomatch h
      | cons x r ih=>
       intro h;unfold kN at h;split at h
       ·rename_i heq;cases heq
       ·rename_i s n c r' heq;cases heq;exact ⟨.c (.eU s n c),Qv5,h⟩
       ·rename_i s n c r' heq;cases heq;exact ⟨.c (.gH s 0 n c),Qv5,h⟩
       ·rename_i heq;cases heq;obtain ⟨y,hy,J⟩:=ih h;exact ⟨y,by simp [hy],J⟩
     obtain ⟨x,u,J⟩:=this xs J;exact Qy x u k J
    split at hv
    ·exact hv.elim
    ·exact hv.elim
    ·
     split at hv
     ·split at hv
      ·exact hv.elim
      ·rename_i q;exact a0 rfl (fun k J=>by cases J) q hv
     ·rename_i d N k _ b7 _;split at hv
      ·split at hv
       ·exact hv.elim
       ·rename_i q;exact a0 rfl (fun j hj=>by cases hj;exact Rk k (by rw [b7];simp)) q hv
      ·split at hv
       ·exact hv.elim
       ·rename_i q;split at hv
        ·exact hv.elim
        ·
         rename_i B;rw [Qz4] at B;let Vr:View:=⟨w,fun b=>(b<w.heap.size/\∀o,¬V.bB b o)/\¬∃s∈L,∃M,st.boxes s=some M/\M.live/\β s=b,fun _=>False,fun _ h=>h.1.1,fun _ h=>h.elim⟩;have a2:V.Le Vr:=fun b o p=>⟨fun h=>h.1.2 o p,(hM.nt b o p).1⟩
         have BS:Mod n V0 bu β0 (cW st L 0) β a w Vr:=by
          have Dm:=hM.FM (L:=L) (ty:=0);refine ⟨Dm.defers,Dm.size,Dm.ax,Dm.wQ,Dm.wP,Dm.boxes,Dm.inj,?_,?_,Dm.ext,Dm.own,Dm.ku,Dm.jx,hM.small⟩
          ·rintro b o ⟨D,G⟩;refine ⟨G,fun hH=>?_⟩;have U:=aA G;apply D;refine ⟨⟨U,fun o' W=>(hM.nt b o' W).2 hH⟩,fun hm=>?_⟩;obtain ⟨s,g,M,I,l0,rfl⟩:=hm;rcases hM.own s M I l0 with h|h
           ·have:=V0.hH _ hH;omega
           ·have:=Qk5 (B s g);omega
          ·rintro s b p l o ⟨D,-⟩;rw [a_] at p;split at p
           ·cases p;exact absurd l d_
           ·rename_i a7;refine D ⟨⟨aA (hM.boxes s b p l),hM.sJ s b p l⟩,fun hm=>?_⟩;obtain ⟨s',a3,bs,a8,ls,he⟩:=hm;exact a7 (hM.inj s' s bs b a8 ls p l he▸a3)
         have O:=ie (hv (bR Vr w) (a2.trans (rk BS))) β;generalize hγ:(fun t=>if t∈L then β t else (fun _=>0) t)=γ at O;have F:∀s∈L,γ s=β s:=fun s g=>by rw [←hγ];simp [g]
         obtain ⟨z,hc,X⟩:=ik O (by
          intro s g b p l;rw [F s g,aP.cA fun t S=>F t (eQ a4 g p t S)];exact rk BS _ _ ⟨fun h=>h.2 ⟨s,g,b,p,l,rfl⟩,hM.boxes s b p l⟩)
         refine ⟨hc,?_⟩
         have E:aN γ xs=aN β xs:=by
          unfold aN;rw [Qj8 fun x u=>SV.bC fun s g=>F s (Qy x u s g)]
         rw [E] at X;refine Calls.mono X ?_;rintro e' w' ⟨r,rfl,u,Y⟩;have A:gV (fun b=>b∈([]:List Nat).map (cJ (cW st L 0).boxes (fun _=>0) w.heap.size)/\(bR Vr w).H b) w w':=u.mono fun _ h=>h.elim
         have a6:bK T true sh [] Option.none d N (fun _=>0) (cW st L 0) (bR Vr w) K r (((bR Vr w).ay (([]:List Nat).map (cJ (cW st L 0).boxes (fun _=>0) w.heap.size))).to w' A.size):=by
          unfold bK B8 at Y ⊢;exact Y
         obtain ⟨st',β',V',D,G⟩:=lR (T:=T) (give:=true) (m:=Option.none) BS (fun s g=>absurd g (by simp)) (fun s g=>absurd g (by simp)) (fun s g=>absurd g (by simp)) (hd d rfl) (fun k J=>by cases J) q A a6;exact hK _ _ _ _ _ D G
     ·exact hv.elim
    ·
     split at hv
     ·obtain ⟨γ,F,z,hc,X⟩:=Pg (R:=fun γ r' dQ=>sh.ex fun x=>r'=x.den (fun _=>0)/\dn T Option.none γ dQ L st fun st'=>K (st'.put dst x) dQ.shut) (hv (bR V w) hle);refine ⟨hc,Calls.mono X ?_⟩;rintro e w' ⟨r,rfl,u,Y⟩;obtain ⟨x,A,rfl,Z⟩:=Sh.dG sh Y;have u:gV (fun b=>b∈L.map (cJ st.boxes γ w.heap.size)/\(bR V w).H b) w w':=u;generalize hV1:(((bR V w).ay (L.map (cJ st.boxes γ w.heap.size))).to w' u.size)=V2 at Z;have Rr:V2.w=w':=by rw [←hV1];rfl
      have OB:∀b,(b∈L.map (cJ st.boxes γ w.heap.size)/\(bR V w).H b)->∃s∈L,∃M,st.boxes s=some M/\M.live/\β s=b:=by
       rintro b ⟨D,G⟩;obtain ⟨s,g,M,I,l0,he⟩:=uW z D G.1;exact ⟨s,g,M,I,l0,by rw [←F s g];exact he⟩
      have Gl:∀b o,V2.shut.bB b o->w'.heap[b]?=some o/\¬(b<w.heap.size/\∀o,¬V.bB b o):=by
       rintro b o ⟨D,G⟩;rw [←hV1] at D G;exact ⟨G,D⟩
      have qB:∀s b,st.boxes s=some b->b.live->∀o,¬V2.shut.bB (β s) o:=fun s b p l o ho=>
       (Gl _ o ho).2 ⟨aA (hM.boxes s b p l),hM.sJ s b p l⟩
      have Dm:Mod n V0 bu β0 (cW st L 0) β a w' V2.shut:=by
       refine (hM.FM (L:=L) (ty:=0)).later u ?_ ?_ ?_ ?_
       ·intro t b p l hX;rw [a_] at p;split at p
        ·cases p;exact d_ l
        ·rename_i S;obtain ⟨s,g,M,I,l0,he⟩:=OB _ hX;exact S (hM.inj s t M b I l0 p l he▸g)
       ·intro i hi hX;obtain ⟨s,g,M,I,l0,rfl⟩:=OB _ hX;rcases hM.own s M I l0 with h|h
        ·omega
        ·exact hM.jx _ h.2
       ·intro b o h;obtain ⟨D,G⟩:=Gl b o h;refine ⟨D,fun hH=>?_⟩;by_cases U:b<w.heap.size
        ·exact G ⟨U,fun o' W=>(hM.nt b o' W).2 hH⟩
        ·have:=V0.hH b hH;omega
       ·intro t b p l;rw [a_] at p;split at p
        ·cases p;exact absurd l d_
        ·exact qB t b p l
      have iH:=uX Z
      obtain ⟨st',g1,g2,g3,g4⟩:=kM (a:=a) (w:=w') (V:=V2.shut) (γ:=γ) (β:=β) Rr F
       (by
        intro s g s' a3 he;obtain ⟨b1,e1,l1⟩:=iH s g;obtain ⟨b2,e2,l2⟩:=iH s' a3;exact hM.inj s s' b1 b2 e1 l1 e2 l2 he)
       (by intro s g;obtain ⟨b1,e1,l1⟩:=iH s g;exact qB s b1 e1 l1)
       (by intro s g;obtain ⟨b1,e1,l1⟩:=iH s g;exact hM.own s b1 e1 l1)
       L st (cW st L 0) (fun _ h=>h) Dm jw.symm (by intro t S;rw [a_,if_neg S])
       (by intro s g;rw [a_,if_pos g];exact ⟨_,rfl⟩)
       (by
        intro t b S l Kg s g he;rw [a_,if_neg Kg] at S;obtain ⟨b1,e1,l1⟩:=iH s g;exact Kg (hM.inj t s b b1 S l e1 l1 he▸g))
       (by
        intro s g b p t S;have Lp:=a1 s g b p t S;exact ⟨by rw [a_,if_pos Lp];exact ⟨_,rfl⟩,F t Lp⟩)
       (fun m nb e=>by cases e) Z
      exact hK _ _ _ _ _ (g1.Eb hd (jm A _ _) (bL A)) g4
     ·rename_i k b8;split at hv
      ·rename_i d N _;split at hv
       ·exact hv.elim
       ·rename_i q;exact a0 rfl (fun j hj=>by cases hj;exact Ss k (by rw [b8];simp)) q hv
      ·exact hv.elim
     ·exact hv.elim
    ·
     split at hv
     ·exact hv.elim
     ·rename_i B;rw [Qz4] at B;let Vr:View:=⟨w,fun b=>(b<w.heap.size/\∀o,¬V.bB b o)/\¬∃s∈L,∃M,st.boxes s=some M/\M.live/\β s=b,fun _=>False,fun _ h=>h.1.1,fun _ h=>h.elim⟩;have a2:V.Le Vr:=fun b o p=>⟨fun h=>h.1.2 o p,(hM.nt b o p).1⟩;have O:=ie (hv Vr a2) β;generalize hγ:(fun t=>if t∈L then β t else (fun _=>0) t)=γ at O;have F:∀s∈L,γ s=β s:=fun s g=>by rw [←hγ];simp [g]
      obtain ⟨z,hc,X⟩:=ik O (by
       intro s g b p l;rw [F s g,aP.cA fun t S=>F t (eQ a4 g p t S)];exact ⟨fun h=>h.2 ⟨s,g,b,p,l,rfl⟩,hM.boxes s b p l⟩)
      refine ⟨hc,?_⟩
      have E:aN γ xs=aN β xs:=by
       unfold aN;rw [Qj8 fun x u=>SV.bC fun s g=>F s (Qy x u s g)]
      rw [E] at X;refine Calls.mono X ?_;rintro e w' ⟨r,rfl,u,Y⟩;obtain ⟨x,A,rfl,Z⟩:=Sh.dG sh Y;have u:gV (fun _=>False) w w':=u;refine hK ((st.rel L γ (C.den β)).put dst x) β _ _ _ ?_ (Z (C.den β));have BS:=hM.rel (L:=L) (β':=γ) F
      have b9:Mod n V0 bu β0 (st.rel L γ (C.den β)) β a w' (Vr.to w' u.size):=by
       refine BS.later u (fun _ _ _ _ h=>h) (fun _ _ h=>h.elim) ?_ ?_
       ·rintro b o ⟨D,G⟩;refine ⟨G,fun hH=>?_⟩;by_cases U:b<w.heap.size
        ·apply D;refine ⟨⟨U,fun o' W=>(hM.nt b o' W).2 hH⟩,fun hm=>?_⟩;obtain ⟨s,g,M,I,l0,rfl⟩:=hm;rcases hM.own s M I l0 with h|h
         ·have:=V0.hH _ hH;omega
         ·have:=Qk5 (B s g);omega
        ·have:=V0.hH b hH;omega
       ·rintro s b p l o ⟨D,-⟩;obtain ⟨a7,y,hy,rfl⟩:=eX p;have ly:=aP.eg l;refine D ⟨⟨aA (hM.boxes s y hy ly),hM.sJ s y hy ly⟩,fun hm=>?_⟩;obtain ⟨s',a3,bs,a8,ls,he⟩:=hm;exact a7 (hM.inj s' s bs y a8 ls hy ly he▸a3)
      exact b9.Eb hd (jm A _ _) (bL A)
theorem Mod.release (hM:Mod n V0 bu β0 st β a w V){l:List Nat}{K:St->View->Prop}(hv:FL l st V K):∃st' V',Mod n V0 bu β0 st' β a w V'/\V.Le V'/\K st' V':=by
 unfold FL at hv;split at hv
 ·exact ⟨st,V,hM,fun _ _ h=>h,hv⟩
 ·rename_i G H;split at hv
  ·exact hv.elim
  ·rename_i k;generalize hL:G::H=L at hv k;rw [Qx5,Qz4] at k;obtain ⟨m,d⟩:=k;let Vr:View:=⟨w,fun b=>(b<w.heap.size/\∀o,¬V.bB b o)/\¬∃s∈L,∃j,st.boxes s=some j/\j.live/\β s=b,fun _=>False,fun _ h=>h.1.1,fun _ h=>h.elim⟩;have e:V.Le Vr:=fun b o f=>⟨fun h=>h.1.2 o f,(hM.nt b o f).1⟩;have i:=ie (hv Vr e) β;generalize hγ:(fun t=>if t∈L then β t else (fun _=>0) t)=γ at i;have p:∀s∈L,γ s=β s:=fun s g=>by rw [←hγ];simp [g]
   obtain ⟨q,I⟩:=ik i (by
    intro s g b f l;rw [p s g,aP.cA fun t J=>p t (eQ m g f t J)];exact ⟨fun h=>h.2 ⟨s,g,b,f,l,rfl⟩,hM.boxes s b f l⟩)
   have c:=hM.rel (L:=L) (β':=γ) p;refine ⟨_,Vr,?_,e,I (C.den β)⟩;refine ⟨c.defers,c.size,c.ax,c.wQ,c.wP,c.boxes,c.inj,?_,?_,c.ext,c.own,c.ku,c.jx,hM.small⟩
   ·rintro b o ⟨r,F⟩;refine ⟨F,fun hH=>?_⟩;have u:=aA F;apply r;refine ⟨⟨u,fun M v=>(hM.nt b M v).2 hH⟩,fun hm=>?_⟩;obtain ⟨s,g,j,x,N,rfl⟩:=hm;rcases hM.own s j x N with h|h
    ·have:=V0.hH _ hH;omega
    ·have:=Qk5 (d s g);omega
   ·rintro s b f l o ⟨r,-⟩;obtain ⟨z,y,A,rfl⟩:=eX f;have B:=aP.eg l;refine r ⟨⟨aA (hM.boxes s y A B),hM.sJ s y A B⟩,fun hm=>?_⟩;obtain ⟨O,D,P,E,ls,he⟩:=hm;exact z (hM.inj O s P y E ls A B he▸D)
theorem vH {bx:Nat->Option aP}{β:Nat->Nat}:∀{xs xs':List SV} {vs:List Value} {c:Nat},kW bx xs=some (vs,c,xs')->c=0->xs'.map (SV.den β)=xs.map (SV.den β)
 | [],_,_,_,h,_=>nomatch h
 | x::r,xs',vs,c,h,hc=>by
  simp only [kW] at h;split at h
  ·split at h
   ·cases h;subst hc;simp [SV.den,C.den,mA]
   ·cases h
  ·split at h
   ·rename_i e;cases h;rw [Qb9,Qb9,vH e hc]
   ·cases h
theorem vI {bx:Nat->Option aP}:∀{xs xs':List SV} {vs:List Value} {c:Nat},kW bx xs=some (vs,c,xs')->∀t∈xs'.flatMap SV.ids,t∈xs.flatMap SV.ids
 | [],_,_,_,h=>nomatch h
 | x::r,xs',vs,c,h=>by
  simp only [kW] at h;split at h
  ·split at h
   ·cases h;intro t ht;simp only [Qw5,SV.ids,C.ids,Qw2] at ht ⊢;right;simpa using ht
   ·cases h
  ·split at h
   ·rename_i e;cases h;intro t ht;rw [Qw5,Qw2] at ht ⊢;exact ht.imp_right (vI e t)
   ·cases h
theorem pD {bx bx':Nat->Option aP}:∀{xs:List SV},(∀s∈xs.flatMap SV.ids,bx' s=bx s)->kW bx' xs=kW bx xs
 | [],_=>rfl
 | x::r,h=>by
  have ih:=pD (xs:=r) fun s a=>h s (by rw [Qw5];exact Qn4 _ a);simp only [kW];rw [ih];split
  ·rename_i s n c;rw [h s (by rw [Qw5];exact Qj2 _ (by simp [SV.ids,C.ids]))]
  ·rfl
theorem uv (hM:Mod n V0 bu β0 st β a w V){m:CM}{f:FuncId}{xs:List SV}{ty:TypeId}{dst:Option Nat}{K:St->View->Prop}{next:Act->World->Prop}{Q:Exit->Act->World->Prop}
  (hd:∀d,dst=some d->d<n)(hv:jI P T m f xs ty dst st V K)
  (hK:∀st' β' a' w' V',Mod n V0 bu β0 st' β' a' w' V'->K st' V'->next a' w') :
  jP P f/\Calls P f (aN β xs) w fun
   | .returned v,w''=>next (a.put dst v) w''
   | .panicked chain,w''=>Q (.panic chain) a w''
   | .outgrown,_=>LetsOut Q:=by
 unfold jI at hv;split at hv
 ·split at hv
  ·rename_i b c g e;by_cases h:b=[]
   ·obtain ⟨i,j⟩:=hv.1 h;have:=ji (Q:=Q) hM hd j hK;unfold aN at this ⊢;rw [vH e i] at this;exact this
   ·exact ji hM hd (hv.2 h) hK
  ·exact ji hM hd hv hK
 ·exact ji hM hd hv hK
end Go.Eng
namespace Go.Eng
variable {P:Program} {T:cG} {n:Nat} {V0:View} {bu:Dn} {β0:Nat->Nat} {st:St} {β:Nat->Nat} {a:Act} {w:World} {V:View}
theorem D8 {t:TypeId}{name:String}{f:FuncId}(h:D7 P t name=some f)(k:Nat)(v:Value)(w:World):(Go.method (k+1) t v name).run P w=.ok (f,v) w:=by
 unfold D7 at h;split at h
 ·rename_i i d b c;split at h
  ·rename_i m hm;split at h
   ·rename_i j l e g;cases h;have a:m.path=#[]:=by apply Qn6;exact e
    simp only [Go.method,typeInfo,Sem.run_bind,run_program,Result.andThen_ok,b,hm,Sem.run_pure,a,follow,g,receiverAt,aj c,Place.get]
   ·cases h
  ·cases h
 ·cases h
theorem rD (hT:cG.ok P T)(hM:Mod n V0 bu β0 st β a w V){m:CM}{o:Oper}{K:St->View->Prop}{next:Act->World->Prop}{Q:Exit->Act->World->Prop}
  (hd:∀d,o.dst=some d->d<n)(hv:cF P T m o st V K)
  (hK:∀st' β' a' w' V',Mod n V0 bu β0 st' β' a' w' V'->K st' V'->next a' w'):o.wp P a w next Q:=by
 unfold cF at hv;split at hv
 ·rename_i A args r e;split at hv
  ·rename_i xs g;obtain ⟨h,u⟩:=eV hM _ _ g;split at hv
   ·rename_i f i j;obtain ⟨k,l⟩:=uv (Q:=Q) hM hd hv hK;have p:args.map a.eval=(xs.map (SV.den β)).toArray:=by apply Qn6;rw [Qc4];exact h
    have q:aN β (xs++uw i)=(xs.map (SV.den β)).toArray++(i.map fun s=>Value.pointer (some ⟨β s,0,none⟩)).toArray:=by
     unfold aN uw;rw [Qm9,Qs8];apply Qn6;simp [Function.comp_def,SV.den,C.den]
    have b:(execOp a.eval o).run P w=.ok (.enter f (aN β (xs++uw i))) w:=by
     rw [q];simp only [execOp,e,resolve,hM.eval j,SV.den,C.den,Deferred.ofValue,pure_bind,invoke,p,Array.empty_append];exact k.run _
    unfold Oper.wp;rw [b];exact l
   ·exact hv.elim
  ·exact hv.elim
 ·rename_i recv name args r e;split at hv
  ·rename_i xs g;obtain ⟨h,u⟩:=eV hM _ _ g;split at hv
   ·rename_i t v j;split at hv
    ·rename_i f x;obtain ⟨k,l⟩:=uv (Q:=Q) hM hd hv hK;have p:args.map a.eval=(xs.map (SV.den β)).toArray:=by apply Qn6;rw [Qc4];exact h
     have q:aN β (.c (.w v)::xs)=#[v]++(xs.map (SV.den β)).toArray:=by
      unfold aN;apply Qn6;simp [SV.den,C.den]
     have b:(execOp a.eval o).run P w=.ok (.enter f (aN β (.c (.w v)::xs))) w:=by
      rw [q]
      have y:(#[Value.iface t v]++(xs.map (SV.den β)).toArray).extract 1 (#[Value.iface t v]++(xs.map (SV.den β)).toArray).size=(xs.map (SV.den β)).toArray:=by
       apply Qn6;simp;exact Qb8 (by simp)
      have z:(#[Value.iface t v]++(xs.map (SV.den β)).toArray)[0]?=some (Value.iface t v):=by simp
      simp only [execOp,e,resolve,hM.eval j,SV.den,C.den,pure_bind,invoke,p,z,y,callMethod,Sem.run_bind,run_program,Result.andThen_ok,Made.depth];rw [D8 x];exact k.run _
     unfold Oper.wp;rw [b];exact l
    ·exact hv.elim
   ·exact hv.elim
  ·exact hv.elim
 ·exact Cs hT hM hd hv hK
theorem ir (hT:cG.ok P T)(hM:Mod n V0 bu β0 st β a w V){m:CM}{h:Hint}{o:Oper}{K:St->View->Prop}{next:Act->World->Prop}{Q:Exit->Act->World->Prop}
  (hd:∀d,o.dst=some d->d<n)(hv:cw P T m h o st V K)
  (hK:∀st' β' a' w' V',Mod n V0 bu β0 st' β' a' w' V'->K st' V'->next a' w'):o.wp P a w next Q:=by
 unfold cw at hv;split at hv
 ·exact rD hT hM hd hv hK
 ·split at hv
  ·split at hv
   ·exact rD hT hM hd hv hK
   ·exact hv.elim
  ·exact hv.elim
theorem Mod.refine (hM:Mod n V0 bu β0 st β a w V){g:Nat}{x y:SV}(hx:st.ax g=some x)(he:x.den β=y.den β)(hy:y.ids=[]):Mod n V0 bu β0 (st.put (some g) y) β a w V:=by
 refine ⟨hM.defers,hM.size,?_,?_,hM.wP,hM.boxes,hM.inj,hM.nt,hM.sJ,hM.ext,hM.own,hM.ku,hM.jx,hM.small⟩
 ·intro t z b;rw [cK] at b;split at b
  ·rename_i e;simp only [Qq4] at b;rw [e,←b,←he];exact hM.ax g x hx
  ·exact hM.ax t z b
 ·intro t z b;rw [cK] at b;split at b
  ·simp only [Qq4] at b;rw [←b,hy];exact fun s c=>(nomatch c)
  ·exact hM.wQ t z b
theorem ER {ops:Array Oper}{tmps:Array Value}{j g:Nat}(hg:(ops[j]?).bind (·.dst)=some g):yielded ops tmps j=match tmps.getD g undef with|.bool b=>some b|_=>none:=by
 unfold yielded;rw [hg];simp only [Option.bind_some];by_cases h:g<tmps.size
 ·have a:tmps[g]?=some tmps[g]:=getElem?_pos tmps g h;have c:tmps.getD g undef=tmps[g]:=by simp [h]
  rw [a,c];generalize tmps[g]=v;cases v<;>rfl
 ·simp [h,undef]
theorem Ci (hT:cG.ok P T)(hM:Mod n V0 bu β0 st β a w V){m:CM}{h:Hint}{ops:Array Oper}{o:Oper}{K:St->View->Prop}{next:Act->World->Prop}{Q:Exit->Act->World->Prop}
  (hd:∀d,o.dst=some d->d<n)(hv:pJ P T m h ops o st V K)
  (hK:∀st' β' a' w' V',Mod n V0 bu β0 st' β' a' w' V'->K st' V'->next a' w') :
  if Region.wanted o (yielded ops a.tmps) then o.wp P a w next Q else next (a.put o.dst undef) w:=by
 unfold pJ at hv;split at hv
 ·rename_i q;rw [if_pos (by simp [Region.wanted,q])];exact ir hT hM hd hv hK
 ·rename_i j b q;split at hv
  ·exact hv.elim
  ·rename_i g p;have t:=ER (tmps:=a.tmps) p
   have i:∀c:Bool,a.tmps.getD g undef=.bool c->(Region.wanted o (yielded ops a.tmps)=true↔c=b):=by
    intro c x;simp only [Region.wanted,q];rw [t,x];simp
   have skip:∀{l:St},Mod n V0 bu β0 l β a w V->K (l.put o.dst iT) V->next (a.put o.dst undef) w:=by
    intro l r s;exact hK _ _ _ _ _ (r.Eb hd rfl (bL rfl)) s
   split at hv
   ·rename_i k;have f:=hM.ax g _ k;split at hv
    ·rw [if_pos ((i true f).2 rfl)];exact ir hT hM hd hv hK
    ·rw [if_neg (fun h=>by have:=(i true f).1 h;cases this)];exact skip hM hv
   ·rename_i k;have f:=hM.ax g _ k;split at hv
    ·rw [if_neg (fun h=>by have:=(i false f).1 h;cases this)];exact skip hM hv
    ·rw [if_pos ((i false f).2 rfl)];exact ir hT hM hd hv hK
   ·rename_i c k;have f:=hM.ax g _ k;have u:c=true->Mod n V0 bu β0 (st.put (some g) (.c .tt)) β a w V:=fun e=>hM.refine k (by rw [e];rfl) rfl;have v:c=false->Mod n V0 bu β0 (st.put (some g) (.c .ff)) β a w V:=fun e=>hM.refine k (by rw [e];rfl) rfl;split at hv
    ·cases c with
     | true=>rw [if_pos ((i true f).2 rfl)];exact ir hT (u rfl) hd (hv.1 rfl) hK
     | false=>rw [if_neg (fun h=>by have:=(i false f).1 h;cases this)];exact skip (v rfl) (hv.2 rfl)
    ·cases c with
     | true=>rw [if_neg (fun h=>by have:=(i true f).1 h;cases this)];exact skip (u rfl) (hv.1 rfl)
     | false=>rw [if_pos ((i false f).2 rfl)];exact ir hT (v rfl) hd (hv.2 rfl) hK
   ·rename_i xs k;have f:=hM.ax g _ k
    have:Region.wanted o (yielded ops a.tmps)=false:=by
     simp only [Region.wanted,q];rw [t,f];simp [SV.den]
    rw [if_neg (by rw [this];simp)];exact skip hM hv
   ·exact hv.elim
theorem zh (hT:cG.ok P T){m:Nat->CM}{hint:Nat->Hint}{ops:Array Oper}(hd:∀(i:Nat)(o:Oper),ops[i]?=some o->∀d,o.dst=some d->d<n){Q:Exit->Act->World->Prop}{K:St->View->Prop}
  (hK:∀st' β' a' w' V',Mod n V0 bu β0 st' β' a' w' V'->K st' V'->Q .normal a' w') :
  ∀(l:List Nat)(st:St)(β:Nat->Nat)(a:Act)(w:World)(V:View),Mod n V0 bu β0 st β a w V->Js P T m hint ops l st V K->wpOps P ops Q l a w
 | [],st,β,a,w,V,hM,hv=>hK _ _ _ _ _ hM hv
 | i::r,st,β,a,w,V,hM,hv=>by
  simp only [Js] at hv;simp only [wpOps];split at hv
  ·rename_i o ho;rw [ho];dsimp only;have:=Ci (Q:=Q) (next:=wpOps P ops Q r) hT hM (hd i o ho) hv (fun st' β' a' w' V' b c=>zh hT hd hK r st' β' a' w' V' b c);split at this
   ·rename_i hw;rw [if_pos hw];exact .inl this
   ·rename_i hw;rw [if_neg hw];exact this
  ·exact hv.elim
end Go.Eng
namespace Go.Eng
def ov (p:Nat->Option SV)(q:Nat->Option aP)(st:St):St:=
 ⟨fun t=>match p t with|some x=>some x|none=>st.ax t,fun t=>match q t with|some x=>some x|none=>st.boxes t⟩
theorem cN {a b:Nat}(h:a≠b):Nat.beq a b=false:=by
 cases hb:Nat.beq a b
 ·rfl
 ·exact absurd (beq_eq.1 hb) h
section
variable {p:Nat->Option SV} {q:Nat->Option aP} {st:St}
theorem jD {d:Option Nat}{x:SV}(h:∀k,d=some k->p k=none):(ov p q st).put d x=ov p q (st.put d x):=by
 cases d with
 | none=>rfl
 | some d=>
  have a:=h d rfl;simp only [ov,St.put];congr 1;funext t;by_cases e:t=d
  ·subst e;simp [a,Qk4]
  ·simp [cN e]
theorem jC {s:Nat}{b:aP}(h:q s=none):(ov p q st).box s b=ov p q (st.box s b):=by
 simp only [ov,St.box];congr 1;funext t;by_cases e:t=s
 ·subst e;simp [h,Qk4]
 ·simp [cN e]
theorem bQ {s:Nat}(h:q s=none):(ov p q st).boxes s=st.boxes s:=by simp [ov,h]
theorem KE {x:Operand}(h:∀t,x=.tmp t->p t=none):(ov p q st).aY x=st.aY x:=by
 cases x with
 | tmp t=>simp [St.aY,ov,h t rfl]
 | _=>rfl
def one {α:Type}(d:Option Nat)(x:α):Nat->Option α:=fun t=>match d with|some k=>cond (Nat.beq t k) (some x) none|none=>none
theorem cV {α:Type}{d:Option Nat}{x:α}{t:Nat}(h:d≠some t):one d x t=none:=by
 cases d with
 | none=>rfl
 | some k=>simp [one,cN (fun e:t=k=>h (by rw [e]))]
theorem dT (d:Option Nat)(x:SV):st.put d x=ov (one d x) (fun _=>none) st:=by
 cases d with
 | none=>rfl
 | some d=>
  simp only [ov,St.put,one];congr 1;funext t;by_cases e:t=d
  ·subst e;simp [Qk4]
  ·simp [cN e]
theorem Dx (s:Nat)(b:aP):st.box s b=ov (fun _=>none) (one (some s) b) st:=by
 simp only [ov,St.box,one];congr 1;funext t;by_cases e:t=s
 ·subst e;simp [Qk4]
 ·simp [cN e]
theorem yx (s:Nat)(b:aP)(d:Option Nat)(x:SV):(st.box s b).put d x=ov (one d x) (one (some s) b) st:=by
 rw [dT,Dx];rfl
end
theorem dp {ρ ρ':Operand->Option SV}:∀l:List Operand,(∀x∈l,ρ x=ρ' x)->bO ρ l=bO ρ' l
 | [],_=>rfl
 | o::r,h=>by simp only [bO];rw [h o (by simp),dp r fun x hx=>h x (by simp [hx])]
theorem jE {ρ ρ':Operand->Option SV}:∀l:List (Nat×Operand),(∀x∈l.map (·.2),ρ x=ρ' x)->partsOf ρ l=partsOf ρ' l
 | [],_=>rfl
 | (i,o)::r,h=>by simp only [partsOf];rw [h o (by simp),jE r fun x hx=>h x (by simp only [Qb9,Qq6];exact .inr hx)]
theorem nQ {ρ ρ':Operand->Option SV}:∀l:Option Operand,(∀x,l=some x->ρ x=ρ' x)->Aq ρ l=Aq ρ' l
 | none,_=>rfl
 | some o,h=>by simp only [Aq];rw [h o rfl]
theorem lU {T:cG}{ρ ρ':Operand->Option SV}{bx:Nat->Option aP}{op:Op}(h:∀x∈op.operands.toList,ρ x=ρ' x):aK T ρ bx op=aK T ρ' bx op:=by
 cases op with
 | move x=>simp only [aK];rw [h x (by simp [Op.operands])]
 | assign x=>simp only [aK];rw [h x (by simp [Op.operands])]
 | pick c a b=>simp only [aK];rw [h c (by simp [Op.operands]),h a (by simp [Op.operands]),h b (by simp [Op.operands])]
 | box t x=>simp only [aK];rw [h x (by simp [Op.operands])]
 | build t ps=>simp only [aK];rw [jE _ fun x g=>h x (by simpa [Op.operands] using g)]
 | buildSlice t n ps=>simp only [aK];rw [jE _ fun x g=>h x (by simpa [Op.operands] using g)]
 | load t a=>simp only [aK];rw [h a (by simp [Op.operands])]
 | store t a x=>simp only [aK];rw [h a (by simp [Op.operands]),h x (by simp [Op.operands])]
 | nilCheck x=>simp only [aK];rw [h x (by simp [Op.operands])]
 | binOp o xt x y yt=>simp only [aK];rw [h x (by simp [Op.operands]),h y (by simp [Op.operands])]
 | unOp o xt x=>cases o<;>simp only [aK]<;>rw [h x (by simp [Op.operands])]
 | convert s d x=>simp only [aK];rw [h x (by simp [Op.operands])]
 | makeFunc fn first caps=>
  cases fn with
  | func f=>simp only [aK];rw [dp _ fun x g=>h x (by simp [Op.operands];exact .inr (by simpa using g))]
  | _=>rfl
 | makeSlice t a b=>simp only [aK];rw [h a (by simp [Op.operands]),h b (by simp [Op.operands])]
 | slice t x lo hi mx=>
  simp only [aK];rw [h x (by simp [Op.operands]),nQ lo fun y k=>h y (by simp [Op.operands,k]),nQ hi fun y k=>h y (by simp [Op.operands,k]),nQ mx fun y k=>h y (by simp [Op.operands,k])]
 | fieldAddr t x f=>simp only [aK];rw [h x (by simp [Op.operands])]
 | field t x f=>simp only [aK];rw [h x (by simp [Op.operands])]
 | indexAddr t x i=>simp only [aK];rw [h x (by simp [Op.operands]),h i (by simp [Op.operands])]
 | extract x j=>simp only [aK];rw [h x (by simp [Op.operands])]
 | index t x i=>simp only [aK];rw [h x (by simp [Op.operands]),h i (by simp [Op.operands])]
 | makeInterface t x=>simp only [aK];rw [h x (by simp [Op.operands])]
 | call c=>
  obtain ⟨l,args,m⟩:=c
  cases l with
  | builtin b=>
   have e:bO ρ args.toList=bO ρ' args.toList:=dp _ fun x g=>h x (by simpa [Op.operands,Call.operands] using g);cases b<;>simp only [aK]<;>rw [e]
  | _=>rfl
 | _=>rfl
theorem I2 {T:cG}{LF RF:List Nat}{ρ:Operand->Option SV}{bx bx':Nat->Option aP}{op:Op}(h:aZ LF RF op=.pure\/aZ LF RF op=.alloc):aK T ρ bx op=aK T ρ bx' op:=by
 cases op with
 | load t a=>rcases h with h|h<;>cases h
 | store t a x=>rcases h with h|h<;>cases h
 | unOp o xt x=>cases o<;>rfl
 | makeFunc fn first caps=>cases fn<;>rfl
 | call c=>
  obtain ⟨d,args,e⟩:=c
  cases d with
  | builtin b=>cases b<;>first|rfl|(rcases h with h|h<;>cases h)
  | _=>rfl
 | _=>rfl
theorem I4 {bx bx':Nat->Option aP}{i:TI}{x:SV}(h:∀s∈x.ids,bx' s=bx s):iO bx i x=iO bx' i x:=by
 unfold iO;split
 ·rename_i b o;rw [h b (by simp [SV.ids,C.ids])]
 ·rfl
 ·rfl
theorem GL {bx bx':Nat->Option aP}{i:TI}{x y:SV}(h:∀s∈x.ids,bx' s=bx s):fR bx i x y=fR bx' i x y:=by
 unfold fR;split
 ·rename_i b o;rw [h b (by simp [SV.ids,C.ids])]
 ·rfl
theorem Ei {bx:Nat->Option aP}{i:TI}{x y:SV}{sc:List Prop}{s:Nat}{b:aP}(h:fR bx i x y=.sN sc s b):s∈x.ids:=by
 unfold fR at h;split at h
 ·split at h
  ·split at h
   ·split at h
    ·cases h;simp [SV.ids,C.ids]
    ·cases h
   ·split at h
    ·cases h;simp [SV.ids,C.ids]
    ·cases h
   ·split at h
    ·cases h
    ·split at h
     ·cases h;simp [SV.ids,C.ids]
     ·cases h
   ·cases h
  ·cases h
 ·cases h
theorem Ay {V:View}{p:Addr}:∀(cs:List C) (i:Nat) {k:Prop},V.KJ p i cs k↔V.KJ p i cs True/\k
 | [],_,k=>by simp [View.KJ]
 | c::r,i,k=>by
  simp only [View.KJ];rw [Ay r (i+1),and_assoc]
theorem I6 {V V':View}(h:V.Le V'){p:Addr}:∀(cs:List C) (i:Nat) {k:Prop},V.KJ p i cs k->V'.KJ p i cs k
 | [],_,_,hk=>hk
 | c::r,i,_,hk=>⟨h.at hk.1,I6 h r (i+1) hk.2⟩
theorem oZ {V:View}{p:OA}{x:SV}{k:Prop}:V.JF p x k↔V.JF p x True/\k:=by
 cases x with
 | c c=>simp [View.JF]
 | agg cs=>
  simp only [View.JF];constructor
  ·rintro ⟨a,d,b⟩;rw [Ay] at b;exact ⟨⟨a,d,b.1⟩,b.2⟩
  ·rintro ⟨⟨a,d,b⟩,e⟩;exact ⟨a,d,by rw [Ay];exact ⟨b,e⟩⟩
 | oC xs=>simp [View.JF]
theorem M7 {V V':View}(h:V.Le V'){p:OA}{x:SV}{k:Prop}(hk:V.JF p x k):V'.JF p x k:=by
 cases x with
 | c c=>obtain ⟨⟨a,b,d⟩,e⟩:=hk;exact ⟨⟨a,b,h.at d⟩,e⟩
 | agg cs=>obtain ⟨a,b,d⟩:=hk;exact ⟨a,b,I6 h _ _ d⟩
 | oC xs=>exact hk
theorem wK.split:∀(s:wK) {F:C->Prop},s.ex F->∃x,F x/\∀G:C->Prop,G x->s.ex G
 | .int _,_,⟨_,h⟩=>⟨_,h,fun _ g=>⟨_,g⟩⟩
 | .bool,_,⟨_,h⟩=>⟨_,h,fun _ g=>⟨_,g⟩⟩
 | .slice,_,⟨_,_,_,h⟩=>⟨_,h,fun _ g=>⟨_,_,_,g⟩⟩
 | .ptr,_,⟨_,h⟩=>⟨_,h,fun _ g=>⟨_,g⟩⟩
 | .str,_,⟨_,h⟩=>⟨_,h,fun _ g=>⟨_,g⟩⟩
 | .any,_,⟨_,h⟩=>⟨_,h,fun _ g=>⟨_,g⟩⟩
theorem mB:∀(l:List wK) {F:List C->Prop},Mk l F->∃x,F x/\∀G:List C->Prop,G x->Mk l G
 | [],_,h=>⟨_,h,fun _ g=>g⟩
 | s::r,_,h=>by
  obtain ⟨c,h1,h2⟩:=wK.split s h;obtain ⟨cs,a,b⟩:=mB r h1;exact ⟨c::cs,a,fun G g=>h2 _ (b _ g)⟩
theorem tN.split:∀(s:tN) {F:SV->Prop},s.ex F->∃x,F x/\∀G:SV->Prop,G x->s.ex G
 | .one s,_,h=>by obtain ⟨c,h1,h2⟩:=wK.split s h;exact ⟨.c c,h1,fun G g=>h2 _ g⟩
 | .agg l,_,h=>by obtain ⟨c,h1,h2⟩:=mB l h;exact ⟨.agg c,h1,fun G g=>h2 _ g⟩
theorem qw:∀(l:List tN) {F:List (Bool×List C)->Prop},NF l F->∃x,F x/\∀G:List (Bool×List C)->Prop,G x->NF l G
 | [],_,h=>⟨_,h,fun _ g=>g⟩
 | .one s::r,_,h=>by
  obtain ⟨c,h1,h2⟩:=wK.split s h;obtain ⟨cs,a,b⟩:=qw r h1;exact ⟨_,a,fun G g=>h2 _ (b _ g)⟩
 | .agg l::r,_,h=>by
  obtain ⟨c,h1,h2⟩:=mB l h;obtain ⟨cs,a,b⟩:=qw r h1;exact ⟨_,a,fun G g=>h2 _ (b _ g)⟩
theorem Sh.split:∀(s:Sh) {F:SV->Prop},s.ex F->∃x,F x/\∀G:SV->Prop,G x->s.ex G
 | .val s,_,h=>tN.split s h
 | .oC l,_,h=>by obtain ⟨x,h1,h2⟩:=qw l h;exact ⟨_,h1,fun G g=>h2 _ g⟩
 | .none,_,h=>⟨_,h,fun _ g=>g⟩
theorem Sh.mono {s:Sh}{F G:SV->Prop}(h:s.ex F)(k:∀x,F x->G x):s.ex G:=by
 obtain ⟨x,a,b⟩:=s.split h;exact b G (k x a)
theorem vJ {l m:List Nat}:Jk l m=true↔∀x∈l,x∈m:=by
 simp only [Jk,Qz4,bZ]
theorem vh {op:Op}{x:Operand}(h:x∈op.operands.toList){t:Nat}(e:x=.tmp t):t∈gG op:=by
 subst e;exact List.mem_filterMap.2 ⟨_,h,rfl⟩
theorem mG {st st2:St}{op:Op}(h:∀t∈gG op,st2.ax t=st.ax t){x:Operand}(hx:x∈op.operands.toList):st2.aY x=st.aY x:=by
 cases x with
 | tmp t=>exact h t (vh hx rfl)
 | _=>rfl
theorem vg {op:Op}{x:Operand}(h:x∈gF op):x∈op.operands.toList:=by
 unfold gF at h;split at h
 ·simpa [Op.operands] using h
 ·simp at h;subst h;simp [Op.operands]
 ·simp only [Op.operands,Call.operands];simp at h ⊢;rcases h with h|h
  ·exact .inr h
  ·exact .inl h
 ·simpa [Op.operands,Call.operands] using h
 ·cases h
theorem qM {ρ:Operand->Option SV}:∀{l:List Operand} {xs:List SV},bO ρ l=some xs->∀x∈l,∃v,ρ x=some v/\v∈xs
 | [],_,_,_,hx=>nomatch hx
 | o::r,xs,h,x,hx=>by
  simp only [bO] at h;split at h
  ·rename_i v l h1 h2;cases h;rcases Qq6.1 hx with e|hx
   ·exact ⟨v,by rw [e];exact h1,by simp⟩
   ·obtain ⟨u,hu,hm⟩:=qM h2 x hx;exact ⟨u,hu,by simp [hm]⟩
  ·cases h
structure Outcome (P:Program) (T:cG) (m:CM) (h:Hint) (o:Oper) (st:St) (V:View) (R W:List Nat) (K:St->View->Prop) (p:Nat->Option SV) (q:Nat->Option aP):Prop where
 pd:∀t,t∉dm o->p t=none
 qd:∀s,s∉W->q s=none
 next:K (ov p q st) V
 again:∀(st2:St)(V2:View)(K2:St->View->Prop),V.Le V2->(∀t∈gG o.op,st2.ax t=st.ax t)->(∀s∈R,st2.boxes s=st.boxes s)->K2 (ov p q st2) V2->cw P T m h o st2 V2 K2
variable {P:Program} {T:cG} {LF RF:List Nat} {m:CM}
theorem Aa {o:Oper}{t:Nat}(h:t∉dm o):o.dst≠some t:=by
 intro e;apply h;simp [dm,e]
theorem K4 {o:Oper}{st:St}{V:View}{K:St->View->Prop}{R W:List Nat}{Q0:Q}
  (hnew:∀sc b x,Q0=.new sc b x->dm o=W/\dm o=R)(R5:∀sc s b,Q0=.sN sc s b->s∈W)(happ:cI Q0≠6)
  (hv:sO Q0 o.dst st V K) :
  ∃p q,(∀t,t∉dm o->p t=none)/\(∀s,s∉W->q s=none)/\K (ov p q st) V /\
   ∀(st2:St)(V2:View)(K2:St->View->Prop),V.Le V2->(∀s∈R,st2.boxes s=st.boxes s)->K2 (ov p q st2) V2->sO Q0 o.dst st2 V2 K2:=by
 cases Q0 with
 | fail=>exact hv.elim
 | ret sc x=>
  obtain ⟨h,k⟩:=(cS sc _).1 hv;refine ⟨one o.dst x,fun _=>none,fun t l=>cV (Aa l),fun _ _=>rfl,by rw [←dT];exact k,?_⟩;intro st2 V2 K2 _ _ m;exact (cS sc _).2 ⟨h,by rw [dT];exact m⟩
 | new sc b x=>
  obtain ⟨r,u⟩:=hnew _ _ _ rfl;simp only [sO] at hv ⊢
  cases hd:o.dst with
  | none=>rw [hd] at hv;exact hv.elim
  | some d=>
   have n:dm o=[d]:=by simp [dm,hd]
   rw [hd] at hv;dsimp only at hv ⊢;split at hv
   ·rename_i v;obtain ⟨h,k⟩:=(cS sc _).1 hv;refine ⟨one (some d) (x d),one (some d) b,fun t l=>cV (by intro e;apply l;rw [n];simpa using e.symm),fun s w=>cV (by intro e;apply w;rw [←r,n];simpa using e.symm),by rw [←yx];exact k,?_⟩;intro st2 V2 K2 _ y m;rw [y d (by rw [←u,n];simp),v];exact (cS sc _).2 ⟨h,by rw [yx];exact m⟩
   ·exact hv.elim
 | sN sc s b=>
  simp only [sO] at hv ⊢
  cases hd:o.dst with
  | some d=>rw [hd] at hv;exact hv.elim
  | none=>
   rw [hd] at hv;dsimp only at hv ⊢;obtain ⟨h,k⟩:=(cS sc _).1 hv;refine ⟨fun _=>none,one (some s) b,fun _ _=>rfl,fun t l=>cV (by intro e;apply l;have:=R5 _ _ _ rfl;simp at e;rw [←e];exact this),by rw [←Dx];exact k,?_⟩;intro st2 V2 K2 _ _ m;exact (cS sc _).2 ⟨h,by rw [Dx];exact m⟩
 | rd a sh=>
  obtain ⟨x,h,k⟩:=sh.split hv;obtain ⟨z,A⟩:=oZ.1 h;refine ⟨one o.dst x,fun _=>none,fun t l=>cV (Aa l),fun _ _=>rfl,by rw [←dT];exact A,?_⟩;intro st2 V2 K2 hle _ m;exact k _ (oZ.2 ⟨M7 hle z,by rw [dT];exact m⟩)
 | nh vs of size sh=>
  obtain ⟨x,h,k⟩:=sh.split hv;refine ⟨one o.dst x,fun _=>none,fun t l=>cV (Aa l),fun _ _=>rfl,by rw [←dT];exact h.2,?_⟩;intro st2 V2 K2 hle _ m;exact k _ ⟨h.1,by rw [dT];exact m⟩
 | app a b c d e f g i j=>exact absurd rfl happ
 | qI a b c d e f g i=>exact absurd rfl happ
theorem vx {o:Oper}(h:lV (aZ LF RF o.op)=true)(st:St)(V:View)(K:St->View->Prop):cF P T m o st V K=sO (aK T st.aY st.boxes o.op) o.dst st V K:=by
 unfold cF;split
 ·rename_i f args b a;rw [a] at h;exfalso
  cases f with
  | func f=>
   simp only [aZ] at h;split at h
   ·split at h<;>cases h
   ·split at h
    ·cases h
    ·split at h<;>cases h
  | _=>cases h
 ·rename_i recv name args b a;rw [a] at h;cases h
 ·rfl
theorem nV {ρ:Operand->Option SV}{bx:Nat->Option aP}{op:Op}:cI (aK T ρ bx op)=2->aZ LF RF op=.alloc:=by
 have eH:∀{q:Q} {X:Prop},cI q<=1->cI q=2->X:=by intro q X h h';omega
 unfold aK;split
 case h_8=>
  split
  ·intro h;rcases qQ (bx:=bx) with h'|h'|h'|h'<;>(rw [h'] at h;cases h)
  ·exact eH (Qq9 _)
 case h_9=>
  split
  ·intro h;rcases nY (bx:=bx) with h'|h'<;>(rw [h'] at h;cases h)
  ·exact eH (Qq9 _)
 case h_11=>
  split
  ·split
   ·split
    ·exact eH pE
    ·exact eH (Qq9 _)
   ·exact eH pE
  ·exact eH (Qq9 _)
 case h_17=>exact fun _=>rfl
 case h_18=>
  split
  ·split
   ·split
    ·exact eH vO
    ·exact eH (Qq9 _)
   ·exact eH (Qq9 _)
  ·exact eH (Qq9 _)
 case h_21=>
  split
  ·exact eH mg
  ·exact eH (Qq9 _)
 case h_23 c=>
  split
  ·intro h;exfalso;split at h<;>(try split at h)<;>(try split at h)<;>(try split at h)<;>first|(rcases mf (bx:=bx) with h'|h'<;>(rw [h'] at h;cases h))|cases h
  ·split
   ·intro h;rcases nX (T:=T) (bx:=bx) with h'|h'<;>(rw [h'] at h;cases h)
   ·exact eH (Qq9 _)
  ·split
   ·split
    ·exact eH pF
    ·exact eH (Qq9 _)
   ·exact eH (Qq9 _)
  ·exact eH (Qq9 _)
 all_goals
  first
  | exact fun _=>rfl
  | exact eH (Qq9 _)
  | ((repeat' split)<;>first|exact eH (Qq9 _)|exact eH (Qq3 _)|exact eH nj|(unfold vv;(repeat' split)<;>first|exact eH (Qq9 _)|exact eH (Qq3 _)))
theorem yX {st st2:St}{op:Op}(h:∀t∈gG op,st2.ax t=st.ax t):bO st2.aY (gF op)=bO st.aY (gF op):=
 dp _ fun _ a=>mG h (vg a)
theorem mI {h:Hint}{o:Oper}{st:St}{V:View}{K:St->View->Prop}{R W:List Nat}(hq:lV (aZ LF RF o.op)=true)(hrw:pv (aZ LF RF o.op) h (dm o)=some (R,W))
  (hv:cw P T m h o st V K):∃p q,Outcome P T m h o st V R W K p q:=by
 have core:(∀g:St,(∀t∈gG o.op,g.ax t=st.ax t)->(∀s∈R,g.boxes s=st.boxes s)->aK T g.aY g.boxes o.op=aK T st.aY st.boxes o.op) ->
   (∀C b x,aK T st.aY st.boxes o.op=.new C b x->dm o=W/\dm o=R)->(∀C s b,aK T st.aY st.boxes o.op=.sN C s b->s∈W) ->
   (∀(g:St)(D:View)(E:St->View->Prop),(∀t∈gG o.op,g.ax t=st.ax t)->cF P T m o g D E->cw P T m h o g D E) ->
   cF P T m o st V K->∃p q,Outcome P T m h o st V R W K p q:=by
  intro he X hu A hv;rw [vx hq] at hv
  obtain ⟨p,q,Y,Z,h3,h4⟩:=K4 (R:=R) (W:=W) X hu (fun n=>by
   obtain ⟨cl,d,G⟩:=(eW (T:=T) (ρ:=st.aY) (bx:=st.boxes) (op:=o.op)).2.2 n;rw [d] at hq;obtain ⟨H,args,O⟩:=cl;dsimp only at G;subst G;cases hq) hv
  refine ⟨p,q,Y,Z,h3,fun g D E hle I J hK=>?_⟩;refine A g D E I ?_;rw [vx hq,he g I J];exact h4 g D E hle J hK
 have Q:aZ LF RF o.op=.pure\/aZ LF RF o.op=.alloc->h=.free->(aZ LF RF o.op=.alloc->R=dm o/\W=dm o)->∃p q,Outcome P T m h o st V R W K p q:=by
  intro j hf hd;subst hf;refine core (fun g r _=>?_) (fun C b x n=>?_) (fun C s b n=>?_) (fun _ _ _ _ A=>A) hv
  ·rw [I2 (bx':=st.boxes) j];exact lU fun x L=>mG r L
  ·have:=hd (nV (by rw [n];rfl));exact ⟨this.2.symm,this.1.symm⟩
  ·rcases (eW (T:=T) (ρ:=st.aY) (bx:=st.boxes) (op:=o.op)).1 (by rw [n];rfl) with ⟨t,y,x,d⟩|⟨⟨H,args,O⟩,d,G⟩
   ·rw [d] at j;rcases j with j|j<;>cases j
   ·dsimp only at G;subst G;rw [d] at j;rcases j with j|j<;>cases j
 generalize j:aZ LF RF o.op=c at hrw hq Q
 cases c with
 | pure=>
  cases h with
  | free=>exact Q (.inl rfl) rfl (fun e=>by cases e)
  | own l=>cases hrw
 | alloc=>
  cases h with
  | free=>
   simp only [pv,Qq4,Qn1] at hrw;exact Q (.inr rfl) rfl (fun _=>⟨hrw.1.symm,hrw.2.symm⟩)
  | own l=>cases hrw
 | load=>
  cases h with
  | free=>cases hrw
  | own l=>
   simp only [pv,Qq4,Qn1] at hrw;obtain ⟨rfl,rfl⟩:=hrw
   have d:∃t a,o.op=.load t a:=by
    generalize o.op=op at j
    cases op with
    | load t a=>exact ⟨t,a,rfl⟩
    | call c=>obtain ⟨H,args,O⟩:=c;cases H with
     | builtin b=>cases b<;>cases j
     | value f=>cases f with
      | func f=>simp only [aZ] at j;split at j<;>(try split at j)<;>(try split at j)<;>(try split at j)<;>cases j
      | _=>cases j
     | _=>cases j
    | _=>cases j
   obtain ⟨t,a,d⟩:=d;unfold cw at hv;dsimp only at hv;split at hv
   ·rename_i xs z;split at hv
    ·rename_i k
     have N:∀v,st.aY a=some v->∀s∈v.ids,s∈l:=by
      intro v S s r;rw [vJ] at k;apply k;rw [d] at z;obtain ⟨u,hu,hm⟩:=qM z a (by simp [gF]);rw [d];simp only [dH];rw [S] at hu;cases hu;exact Qw6.2 ⟨_,hm,r⟩
     refine core (fun g r A=>?_) (fun C b x n=>?_) (fun C s b n=>?_) (fun g D E r A=>?_) hv
     ·rw [d] at r ⊢;rw [lU (ρ':=st.aY) fun x L=>mG r L];simp only [aK];split
      ·rename_i i v U M;exact (I4 fun s F=>A s (N v M s F)).symm
      ·rfl
     ·have:=nV (LF:=LF) (RF:=RF) (op:=o.op) (T:=T) (ρ:=st.aY) (bx:=st.boxes) (by rw [n];rfl);rw [d] at this;cases this
     ·rcases (eW (T:=T) (ρ:=st.aY) (bx:=st.boxes) (op:=o.op)).1 (by rw [n];rfl) with ⟨t,y,x,B⟩|⟨c,B,-⟩<;>(rw [d] at B;cases B)
     ·unfold cw;dsimp only;rw [yX r,z];dsimp only;have:dH g.boxes o.op (xs.flatMap SV.ids)=dH st.boxes o.op (xs.flatMap SV.ids):=by rw [d];rfl
      rw [this,k];exact A
    ·exact hv.elim
   ·exact hv.elim
 | store=>
  cases h with
  | free=>cases hrw
  | own l=>
   simp only [pv,Qq4,Qn1] at hrw;obtain ⟨rfl,rfl⟩:=hrw
   have d:∃t a x,o.op=.store t a x:=by
    generalize o.op=op at j
    cases op with
    | store t a x=>exact ⟨t,a,x,rfl⟩
    | call c=>obtain ⟨H,args,O⟩:=c;cases H with
     | builtin b=>cases b<;>cases j
     | value f=>cases f with
      | func f=>simp only [aZ] at j;split at j<;>(try split at j)<;>(try split at j)<;>(try split at j)<;>cases j
      | _=>cases j
     | _=>cases j
    | _=>cases j
   obtain ⟨t,a,y,d⟩:=d;unfold cw at hv;dsimp only at hv;split at hv
   ·rename_i xs z;split at hv
    ·rename_i k
     have N:∀v,st.aY a=some v->∀s∈v.ids,s∈l:=by
      intro v S s r;rw [vJ] at k;apply k;rw [d] at z;obtain ⟨u,hu,hm⟩:=qM z a (by simp [gF]);rw [d];simp only [dH];rw [S] at hu;cases hu;exact Qw6.2 ⟨_,hm,r⟩
     refine core (fun g r A=>?_) (fun C b x n=>?_) (fun C s b n=>?_) (fun g D E r A=>?_) hv
     ·rw [d] at r ⊢;rw [lU (ρ':=st.aY) fun x L=>mG r L];simp only [aK];split
      ·rename_i i v w U M hw;exact (GL fun s F=>A s (N v M s F)).symm
      ·rfl
     ·have:=nV (LF:=LF) (RF:=RF) (op:=o.op) (T:=T) (ρ:=st.aY) (bx:=st.boxes) (by rw [n];rfl);rw [d] at this;cases this
     ·rw [d] at n;simp only [aK] at n;split at n
      ·rename_i i v w U M hw;exact N v M s (Ei n)
      ·cases n
     ·unfold cw;dsimp only;rw [yX r,z];dsimp only;have:dH g.boxes o.op (xs.flatMap SV.ids)=dH st.boxes o.op (xs.flatMap SV.ids):=by rw [d];rfl
      rw [this,k];exact A
    ·exact hv.elim
   ·exact hv.elim
 | _=>cases hq
end Go.Eng
