import Derived.Test.YtdhlkpfmlimjfaaGreatDoorN3
set_option linter.unusedVariables false
open Go.IntKind (i64 u64 u32)
namespace Go.Eng
variable {P:Program} {T:cI} {n:Nat} {V0:View} {bh:DF} {β0:Nat->Nat} {st:St} {β:Nat->Nat} {a:Act} {w:World} {V:View}
def bT (V:View)(w:World):View:=⟨w,fun b=>b<w.heap.size/\∀o,¬V.aS b o,fun _=>False,fun _ h=>h.1,fun _ h=>h.elim⟩
theorem ry (hM:Mod n V0 bh β0 st β a w V):V.Le (bT V w):=fun b o c=>⟨fun h=>h.2 o c,(hM.nu b o c).1⟩
theorem jN.run {f:FuncId}(h:jN P f)(xs:Array Value):(callFunc f xs).run P w=.ok (.enter f xs) w:=by
 obtain ⟨fn,a,b,c⟩:=h;simp only [callFunc,Sem.run_bind,run_program,Result.andThen_ok,a,c,b,Bool.false_eq_true,if_false,Sem.run_pure]
theorem bC {x:Nat}:∀{l:List Nat},x∈dedup l↔x∈l
 | []=>by simp [dedup]
 | y::r=>by
  simp only [dedup]
  cases h:eH y (dedup r) with
  | true=>
   simp only [cond_true,List.mem_cons];rw [bC];constructor
   ·exact .inr
   ·rintro (rfl|h')
    ·exact bC.1 (cf.1 h)
    ·exact h'
  | false=>simp only [cond_false,List.mem_cons];rw [bC]
theorem d_ {bx:Nat->Option aF}:∀(k:Nat)(l:List Nat),∀x∈l,x∈reach bx k l
 | 0,_,x,hx=>hx
 | k+1,l,x,hx=>by simp only [reach];exact d_ k _ x (bC.2 (List.mem_append_left _ hx))
theorem fq {bx:Nat->Option aF}{l:List Nat}(h:gx bx l=true){s:Nat}(hs:s∈l){b:aF}(hb:bx s=some b):∀t∈b.cs.ids,t∈l:=by
 unfold gx at h;rw [List.all_eq_true] at h;have:=h s hs;unfold JU kv at this;rw [hb,List.all_eq_true] at this;exact fun t a=>cf.1 (this t a)
theorem iu {L:List Nat}:∀{γ:Nat->Nat} {k:(Nat->Nat)->Prop},kr L γ k->∀β:Nat->Nat,k (fun t=>if t∈L then β t else γ t):=by
 induction L with
 | nil=>
  intro γ k h β;have e:(fun t=>if t∈([]:List Nat) then β t else γ t)=γ:=by funext t;simp
  rw [e];exact h
 | cons s r ih=>
  intro γ k h β;have:=ih (h (β s)) β
  have e:(fun t=>if t∈r then β t else dh γ s (β s) t)=fun t=>if t∈s::r then β t else γ t:=by
   funext t;by_cases a:t∈r
   ·simp [a]
   ·by_cases b:t=s
    ·subst b;simp [a,aI]
    ·simp [a,b,fV]
  rw [e] at this;exact this
theorem va {bx:Nat->Option aF}{b:aF}{γ:Nat->Nat}{s:Nat}:∀{r:List Nat} {k:Prop},Mh bx b γ s r k->(∀t∈r,∀b',bx t=some b'->b.live->b'.live->γ s=γ t->s=t)->(∀t∈r,∃b',bx t=some b')->k
 | [],_,h,_,_=>h
 | t::r,k,h,hi,hl=>by
  simp only [Mh] at h
  cases hb:Nat.beq s t with
  | true=>rw [hb] at h;exact va h (fun t ht=>hi t (List.mem_cons_of_mem _ ht)) (fun t ht=>hl t (List.mem_cons_of_mem _ ht))
  | false=>
   rw [hb] at h;obtain ⟨b',hb'⟩:=hl t (by simp);simp only [hb',cond_false] at h;refine va (h ?_) (fun t ht=>hi t (List.mem_cons_of_mem _ ht)) (fun t ht=>hl t (List.mem_cons_of_mem _ ht));rw [rJ,e_];intro l;rw [e_];intro a e;have:=hi t (by simp) b' hb' l a e;rw [this,Nat.beq_refl] at hb;cases hb
theorem uP {bx:Nat->Option aF}{γ:Nat->Nat}{V':View}:∀{L:List Nat} {k:Prop},hJ bx γ V' L k->(∀s∈L,∀b,bx s=some b->b.live->V'.w.heap[γ s]?=some (b.obj γ)/\V'.H (γ s)) ->
  (∀s∈L,∀t∈L,∀b b',bx s=some b->b.live->bx t=some b'->b'.live->γ s=γ t->s=t)->(∀s∈L,∃b,bx s=some b)/\k
 | [],k,h,_,_=>⟨fun s hs=>(nomatch hs),h⟩
 | s::r,k,h,hf,hi=>by
  simp only [hJ] at h;split at h
  ·rename_i b hb
   obtain ⟨h3,h5⟩:=uP (h (e_.2 fun l=>(hf s (by simp) b hb l).1) (e_.2 fun l=>(hf s (by simp) b hb l).2)) (fun c a=>hf c (List.mem_cons_of_mem _ a))
    (fun c a t d=>hi c (List.mem_cons_of_mem _ a) t (List.mem_cons_of_mem _ d))
   have f:=va h5 (fun t d b' e l g=>hi s (by simp) t (List.mem_cons_of_mem _ d) b b' hb l e g) h3;exact ⟨fun c a=>by rcases List.mem_cons.1 a with rfl|a;exact ⟨b,hb⟩;exact h3 c a,f⟩
  ·exact h.elim
theorem iz {bx:Nat->Option aF}{γ:Nat->Nat}{V':View}:∀{L:List Nat} {k:Prop},pA bx γ V' L k->(∀s∈L,∀b,bx s=some b->b.live->V'.aS (γ s) (b.obj γ))->(∀s∈L,∃b,bx s=some b)/\k
 | [],k,h,_=>⟨fun s hs=>(nomatch hs),h⟩
 | s::r,k,h,hf=>by
  simp only [pA] at h;split at h
  ·rename_i b hb;obtain ⟨h3,h4⟩:=iz (h (e_.2 (hf s (by simp) b hb))) (fun c a=>hf c (List.mem_cons_of_mem _ a));exact ⟨fun c a=>by rcases List.mem_cons.1 a with rfl|a;exact ⟨b,hb⟩;exact h3 c a,h4⟩
  ·exact h.elim
theorem gN {mv:Option (Nat×Nat)}:∀(cs zs:List C) {K:List C->Prop},kO mv cs zs K->∃cs',K cs'/\∀s∈cs'.flatMap C.ids,s∈cs.flatMap C.ids\/∃m,mv=some (m,s)
 | [],_,_,h=>⟨[],h,fun s hs=>(nomatch hs)⟩
 | c::r,[],_,h=>h.elim
 | c::r,z::zr,K,h=>by
  simp only [kO] at h;split at h
  ·split at h
   ·rename_i m nb;split at h
    ·obtain ⟨n,c,h⟩:=h;obtain ⟨cs',a,b⟩:=gN r zr h;refine ⟨_,a,fun s hs=>?_⟩;simp only [List.flatMap_cons,List.mem_append] at hs ⊢;rcases hs with hs|hs
     ·simp only [C.ids,List.mem_singleton] at hs;subst hs;exact .inr ⟨m,rfl⟩
     ·exact (b s hs).imp .inr id
    ·exact h.elim
   ·exact h.elim
  ·split at h
   ·obtain ⟨v,d,e⟩:=wD.dW _ h;obtain ⟨cs',a,b⟩:=gN r zr e
    exact ⟨v::cs',a,fun s hs=>by
     simp only [List.flatMap_cons,d,List.nil_append,List.mem_append] at hs ⊢;exact (b s hs).imp .inr id⟩
   ·obtain ⟨cs',a,b⟩:=gN r zr h
    exact ⟨c::cs',a,fun s hs=>by
     simp only [List.flatMap_cons,List.mem_append] at hs ⊢;rcases hs with hs|hs
     ·exact .inl (.inl hs)
     ·exact (b s hs).imp .inr id⟩
theorem Mod.fill (h:Mod n V0 bh β0 st β a w V){s:Nat}{b0 b:aF}(hs:st.boxes s=some b0)(fF:∀t∈b.cs.ids,∃b',st.boxes t=some b')
  (hg:∀t b',st.boxes t=some b'->b'.live->t≠s->β t≠β s)(hV:∀o,¬V.aS (β s) o)(hown:V0.w.heap.size<=β s\/(100000<=s/\bh.B (β s)))(hw:w.heap[β s]?=some (b.obj β)) :
  Mod n V0 bh β0 (st.box s b) β a w V:=by
 have j:∀t,(∃b',st.boxes t=some b')->∃b',(st.box s b).boxes t=some b':=by
  rintro t ⟨b',c⟩;rw [ah];split
  ·exact ⟨_,rfl⟩
  ·exact ⟨b',c⟩
 refine ⟨h.defers,h.size,h.ao,fun t x v u hu=>j u (h.wG t x v u hu),?_,?_,?_,h.nu,?_,h.ext,?_,h.ku,h.jz,h.small⟩
 ·intro t b' c u hu;rw [ah] at c;split at c
  ·simp only [Option.some.injEq] at c;exact j u (fF u (c▸hu))
  ·exact j u (h.wF t b' c u hu)
 ·intro t b' c l;rw [ah] at c;split at c
  ·rename_i e;simp only [Option.some.injEq] at c;rw [e,←c];exact hw
  ·exact h.boxes t b' c l
 ·intro t k m p g q i r he;rw [ah] at g i;split at g<;>split at i
  ·rename_i d f;rw [d,f]
  ·rename_i d f;rw [d] at he;exact absurd he.symm (hg k p i r f)
  ·rename_i d f;rw [f] at he;exact absurd he (hg t m g q d)
  ·exact h.inj t k m p g q i r he
 ·intro t b' c l;rw [ah] at c;split at c
  ·rename_i e;rw [e];exact hV
  ·exact h.sw t b' c l
 ·intro t b' c l;rw [ah] at c;split at c
  ·rename_i e;rw [e];exact hown
  ·exact h.own t b' c l
theorem Mod.later (hM:Mod n V0 bh β0 st β a w V){X:Nat->Prop}{w':World}(hx:eK X w w')(hX:∀t b,st.boxes t=some b->b.live->¬X (β t))(hX0:∀i,i<V0.w.heap.size->X i->V0.X i){V1:View}
  (Nm:∀b o,V1.aS b o->w'.heap[b]?=some o/\¬V0.H b)(qE:∀t b,st.boxes t=some b->b.live->∀o,¬V1.aS (β t) o):Mod n V0 bh β0 st β a w' V1:=by
 refine ⟨hM.defers,hM.size,hM.ao,hM.wG,hM.wF,?_,hM.inj,Nm,qE,?_,hM.own,hM.ku,hM.jz,hM.small⟩
 ·intro t b d l;have:=hM.boxes t b d l;rw [hx.aS _ (ar this) (hX t b d l)];exact this
 ·refine ⟨Nat.le_trans hM.ext.size hx.size,fun i c e=>?_,hx.os.trans hM.ext.os,hx.tape.trans hM.ext.tape,hx.out.trans hM.ext.out⟩;rw [hx.aS i (Nat.lt_of_lt_of_le c hM.ext.size) (fun h=>e (hX0 i c h))];exact hM.ext.aS i c e
theorem Mod.beta (hM:Mod n V0 bh β0 st β a w V){d g:Nat}(hd:d<n\/200000<=d)(hn:st.boxes d=none):Mod n V0 bh β0 st (dh β d g) a w V:=by
 have m:∀s f,st.boxes s=some f->s≠d:=fun s f j e=>by rw [e,hn] at j;cases j
 have hβ:∀s f,st.boxes s=some f->dh β d g s=β s:=fun s f j=>fV _ _ (m s f j);refine ⟨hM.defers,hM.size,?_,hM.wG,hM.wF,?_,?_,hM.nu,?_,hM.ext,?_,?_,hM.jz,hM.small⟩
 ·intro t x q;rw [hM.ao t x q];exact SV.br fun s j=>by obtain ⟨f,i⟩:=hM.wG t x q s j;exact (hβ s f i).symm
 ·intro s b c l;rw [hβ s b c,hM.boxes s b c l];congr 1;exact aF.cz fun k o=>by obtain ⟨p,r⟩:=hM.wF s b c k o;exact (hβ k p r).symm
 ·intro s k b f c l i u he;rw [hβ s b c,hβ k f i] at he;exact hM.inj s k b f c l i u he
 ·intro s b c l;rw [hβ s b c];exact hM.sw s b c l
 ·intro s b c l;rw [hβ s b c];exact hM.own s b c l
 ·intro s j;obtain ⟨v,y⟩:=hM.ku s j;exact ⟨v,by rw [fV _ _ (by have:=hM.small;omega)];exact y⟩
theorem jx {ty:TypeId}:∀{L:List Nat} {st:St},(di st L ty).ao=st.ao
 | [],_=>rfl
 | s::r,st=>by unfold di;rw [List.foldl_cons];exact jx (L:=r)
theorem aU {ty:TypeId}:∀{L:List Nat} {st:St} (t:Nat),(di st L ty).boxes t=if t∈L then some ⟨.aJ [],ty⟩ else st.boxes t
 | [],st,t=>by simp [di]
 | s::r,st,t=>by
  have:=aU (ty:=ty) (L:=r) (st:=st.box s ⟨.aJ [],ty⟩) t;unfold di at this ⊢;rw [List.foldl_cons,this,ah];by_cases a:t∈r
  ·simp [a]
  ·by_cases b:t=s
   ·simp [b]
   ·simp [a,b]
theorem Mod.F7 {ty:TypeId}:∀{L:List Nat} {st:St},Mod n V0 bh β0 st β a w V->Mod n V0 bh β0 (di st L ty) β a w V
 | [],_,h=>h
 | s::r,st,h=>by unfold di;rw [List.foldl_cons];exact Mod.F7 (L:=r) h.void
theorem kP {mv:Option (Nat×Nat)}{γ:Nat->Nat}{V2:View}{A:List Nat}(hV2:V2.w=w)(S_:∀s∈A,γ s=β s)(hinj:∀s∈A,∀s'∈A,β s=β s'->s=s')(qE:∀s∈A,∀o,¬V.aS (β s) o)
  (hown:∀s∈A,V0.w.heap.size<=β s\/(100000<=s/\bh.B (β s))) :
  ∀(L:List Nat) (JS xh:St) {k:St->Prop},(∀s∈L,s∈A)->Mod n V0 bh β0 xh β a w V->JS.ao=xh.ao->(∀t,t∉L->JS.boxes t=xh.boxes t)->(∀s∈L,∃b,xh.boxes s=some b) ->
   (∀t b,xh.boxes t=some b->b.live->t∉A->∀s∈A,β t≠β s)->(∀s∈L,∀b,JS.boxes s=some b->∀t∈b.cs.ids,(∃b',xh.boxes t=some b')/\γ t=β t)->(∀m nb,mv=some (m,nb)->(∃b',xh.boxes nb=some b')/\γ nb=β nb) ->
   dK T mv γ V2 L JS k->∃st',Mod n V0 bh β0 st' β a w V/\st'.ao=xh.ao/\(∀t,(∃b,xh.boxes t=some b)->∃b,st'.boxes t=some b)/\k st'
 | [],JS,xh,k,_,hM,hsl,hag,_,_,_,_,h=>by
  have:JS=xh:=by
   obtain ⟨s1,j⟩:=JS;obtain ⟨s2,Q⟩:=xh;dsimp only at hsl hag;subst hsl;congr 1;funext t;exact hag t (by simp)
  exact ⟨xh,hM,rfl,fun _ h=>h,this▸h⟩
 | s::r,JS,xh,k,hA,hM,hsl,hag,hb,hd,hw,hmv,h=>by
  have g:=hA s (by simp);obtain ⟨R,C⟩:=hb s (by simp)
  have step:∀j:aF,(∀t∈j.cs.ids,(∃b',xh.boxes t=some b')/\γ t=β t)->w.heap[γ s]?=some (j.obj γ)->dK T mv γ V2 r (JS.box s j) k ->
    ∃st',Mod n V0 bh β0 st' β a w V/\st'.ao=xh.ao/\(∀t,(∃b,xh.boxes t=some b)->∃b,st'.boxes t=some b)/\k st':=by
   intro j v I h;rw [S_ s g,aF.cz fun t c=>(v t c).2] at I;by_cases D:s∈r
   ·
    refine kP hV2 S_ hinj qE hown r (JS.box s j) xh (fun s' d=>hA s' (List.mem_cons_of_mem _ d)) hM hsl ?_ (fun s' d=>hb s' (List.mem_cons_of_mem _ d)) hd ?_ hmv h
    ·intro t c;have:t≠s:=fun e=>c (e▸D);rw [ah,if_neg this];exact hag t (by simp [this,c])
    ·intro s' d b' f t c;rw [ah] at f;split at f
     ·cases f;exact v t c
     ·exact hw s' (List.mem_cons_of_mem _ d) b' f t c
   ·have E:=hM.fill (b:=j) C (fun t c=>(v t c).1) (by
     intro t b' c l F he;by_cases x:t∈A
     ·exact F (hinj t x s g he)
     ·exact hd t b' c l x s g he) (qE s g) (hown s g) I
    have y:∀t,(∃b,xh.boxes t=some b)->∃b,(xh.box s j).boxes t=some b:=by
     rintro t ⟨b,c⟩;rw [ah];split
     ·exact ⟨_,rfl⟩
     ·exact ⟨b,c⟩
    obtain ⟨st',J,K,M,N⟩:=kP hV2 S_ hinj qE hown r (JS.box s j) (xh.box s j) (fun s' d=>hA s' (List.mem_cons_of_mem _ d)) E hsl
     (by
      intro t c;rw [ah,ah];split
      ·rfl
      ·rename_i e;exact hag t (by simp [e,c]))
     (fun s' d=>y s' (hb s' (List.mem_cons_of_mem _ d)))
     (by
      intro t b' c l x;rw [ah] at c;split at c
      ·rename_i e;exact absurd (e▸g) x
      ·exact hd t b' c l x)
     (by
      intro s' d b' f t c;rw [ah] at f;split at f
      ·cases f;exact ⟨y t (v t c).1,(v t c).2⟩
      ·have:=hw s' (List.mem_cons_of_mem _ d) b' f t c;exact ⟨y t this.1,this.2⟩)
     (fun m nb e=>⟨y nb (hmv m nb e).1,(hmv m nb e).2⟩) h
    exact ⟨st',J,K,fun t c=>M t (y t c),N⟩
  simp only [dK] at h;split at h
  ·rename_i cs ty q;split at h
   ·rename_i i S;obtain ⟨G,⟨p,z⟩,O⟩:=gN _ _ h;rw [hV2] at p;refine step ⟨.lit G,ty⟩ (fun t c=>?_) p z;rcases O t c with H|⟨m,H⟩
    ·exact hw s (by simp) _ q t H
    ·exact hmv m t H
   ·exact h.elim
  ·rename_i P ty q;obtain ⟨u,p,z⟩:=h;rw [hV2] at p;exact step ⟨.row u,ty⟩ (fun t c=>(nomatch c)) p z
  ·rename_i P ty q;obtain ⟨-,u,-,p,z⟩:=h;rw [hV2] at p;exact step ⟨.aJ u,ty⟩ (fun t c=>(nomatch c)) p z
  ·exact h.elim
theorem uO {mv:Option (Nat×Nat)}{V2:View}:∀{L:List Nat} {st:St} {k:St->Prop},dK T mv β V2 L st k->∀s∈L,∃b,st.boxes s=some b/\b.live
 | [],_,_,_,s,hs=>nomatch hs
 | s::r,st,k,h,t,ht=>by
  have core:∀b1:aF,(∃b,st.boxes s=some b/\b.live)->dK T mv β V2 r (st.box s b1) k->∃b,st.boxes t=some b/\b.live:=by
   intro b1 hs h;by_cases e:t=s
   ·rw [e];exact hs
   ·have:=uO h t (by simpa [e] using ht);rw [ah,if_neg e] at this;exact this
  simp only [dK] at h;split at h
  ·rename_i cs ty a;split at h
   ·obtain ⟨i,⟨g,c⟩,l⟩:=gN _ _ h;exact core _ ⟨_,a,cB⟩ c
   ·exact h.elim
  ·rename_i j ty a;obtain ⟨d,g,c⟩:=h;exact core _ ⟨_,a,cd⟩ c
  ·rename_i j ty a;obtain ⟨f,d,-,g,c⟩:=h;exact core _ ⟨_,a,fun _ e=>by cases e;exact f⟩ c
  ·exact h.elim
theorem uN {bx:Nat->Option aF}{γ:Nat->Nat}{N b:Nat}{L:List Nat}(hl:∀s∈L,∃b,bx s=some b)(hb:b∈L.map (cR bx γ N))(hlt:b<N):∃s∈L,∃b0,bx s=some b0/\b0.live/\γ s=b:=by
 obtain ⟨s,c,he⟩:=List.mem_map.1 hb;obtain ⟨b0,a⟩:=hl s c;unfold cR at he;rw [a] at he;obtain ⟨cs,ty⟩:=b0
 cases cs with
 | lit cs=>exact ⟨s,c,_,a,cB,he⟩
 | row cs=>exact ⟨s,c,_,a,cd,he⟩
 | aJ vs=>
  cases vs with
  | nil=>simp only [vb] at he;omega
  | cons v r=>exact ⟨s,c,_,a,dZ (by simp),he⟩
theorem rI {nb:Nat}:∀{xs:List (Bool×List C)},(xs.flatMap fun x=>x.2.flatMap C.ids)=[]->∀s∈((tr nb xs).flatMap fun x=>x.2.flatMap C.ids),s=nb
 | [],_,s,hs=>nomatch hs
 | x::r,h,s,hs=>by
  simp only [List.flatMap_cons,List.append_eq_nil_iff] at h;unfold tr at hs;split at hs
  ·rename_i heq;cases heq
  ·rename_i heq;cases heq;simp only [List.flatMap_cons,h.2,List.flatMap_nil,List.append_nil] at hs;simpa [C.ids] using hs
  ·rename_i heq;cases heq;simp only [List.flatMap_cons,List.mem_append,h.1,List.not_mem_nil,false_or] at hs;exact rI h.2 s hs
theorem uG {nb:Nat}:∀{cs:List C},(cs.flatMap C.ids)=[]->∀s∈(z_ nb cs).flatMap C.ids,s=nb
 | [],_,s,hs=>nomatch hs
 | x::r,h,s,hs=>by
  simp only [List.flatMap_cons,List.append_eq_nil_iff] at h;unfold z_ at hs;split at hs
  ·rename_i heq;cases heq
  ·rename_i heq;cases heq;simp only [List.flatMap_cons,h.2,List.append_nil] at hs;simpa [C.ids] using hs
  ·rename_i heq;cases heq;simp only [List.flatMap_cons,List.mem_append,h.1,List.not_mem_nil,false_or] at hs;exact uG h.2 s hs
theorem D2 {nb:Nat}{x:SV}(h:x.ids=[]):∀s∈(qD nb x).ids,s=nb:=by
 intro s a;unfold qD at a;split at a
 ·simpa [SV.ids,C.ids] using a
 ·exact uG h s a
 ·exact rI h s a
 ·rw [h] at a;cases a
theorem BL {xs:List SV}(h:∀x∈xs,x.ids=[])(γ δ:Nat->Nat):aE γ xs=aE δ xs:=by
 unfold aE;rw [List.map_congr_left fun x a=>jo (h x a) γ δ]
theorem Mod.ML {w0:World}{V':View}(hM:Mod n V0 bh β0 st β a w V')(hlt:∀s b,st.boxes s=some b->b.live->β s<w0.heap.size)(hsz:V0.w.heap.size<=w0.heap.size){d b:Nat}{cs:List C}{e:TypeId}(hd:d<n)(hn:st.boxes d=none)
  (hb:w0.heap.size<=b)(hw:V'.w=w)(hblk:V'.aS b (.cells (cs.map (C.den fun _=>0)).toArray e (0,0)))(fF:cs.flatMap C.ids=[]) :
  Mod n V0 bh β0 ((st.box d ⟨.lit cs,e⟩).put (some d) (.c (.ptr d 0))) (dh β d b) (a.put (some d) (.pointer (some ⟨b,0,none⟩))) w (V'.KT b):=by
 have r:∀s g,st.boxes s=some g->s≠d:=fun s g f e=>by rw [e,hn] at f;cases f
 have hβ:∀s g,st.boxes s=some g->dh β d b s=β s:=fun s g f=>fV _ _ (r s g f);have u:w.heap[b]?=some (.cells (cs.map (C.den fun _=>0)).toArray e (0,0)):=(hM.nu b _ hblk).1
 have H:(⟨.lit cs,e⟩:aF).obj (dh β d b)=.cells (cs.map (C.den fun _=>0)).toArray e (0,0):=by
  simp only [aF.obj,Cells.den];rw [kN (β':=fun _=>0) fun s f=>by rw [fF] at f;cases f]
 have I:Mod n V0 bh β0 (st.box d ⟨.lit cs,e⟩) (dh β d b) a w (V'.KT b):=by
  refine ⟨hM.defers,hM.size,?_,?_,?_,?_,?_,?_,?_,hM.ext,?_,?_,hM.jz,hM.small⟩
  ·intro t x y;rw [hM.ao t x y];exact SV.br fun s f=>by obtain ⟨g,p⟩:=hM.wG t x y s f;exact (hβ s g p).symm
  ·intro t x y s f;obtain ⟨g,p⟩:=hM.wG t x y s f;exact ⟨g,by rw [ah,if_neg (r s g p)];exact p⟩
  ·intro s g f m i;rw [ah] at f;split at f
   ·simp only [Option.some.injEq] at f;rw [←f] at i;simp only [Cells.ids] at i;rw [fF] at i;cases i
   ·obtain ⟨q,z⟩:=hM.wF s g f m i;exact ⟨q,by rw [ah,if_neg (r m q z)];exact z⟩
  ·intro s g f l;rw [ah] at f;split at f
   ·rename_i v;simp only [Option.some.injEq] at f;rw [v,aI,←f,H];exact u
   ·rw [hβ s g f,hM.boxes s g f l];congr 1;exact aF.cz fun m i=>by obtain ⟨q,z⟩:=hM.wF s g f m i;exact (hβ m q z).symm
  ·intro s m A B j F k G he;rw [ah] at j k;split at j<;>split at k
   ·rename_i D E;rw [D,E]
   ·rename_i D E;rw [D,aI,hβ m B k] at he;have:=hlt m B k G;omega
   ·rename_i D E;rw [E,aI,hβ s A j] at he;have:=hlt s A j F;omega
   ·rw [hβ s A j,hβ m B k] at he;exact hM.inj s m A B j F k G he
  ·rintro x o ⟨j,k⟩;exact hM.nu x o ⟨fun h=>j (.inl h),k⟩
  ·rintro s g f l o ⟨j,k⟩;rw [ah] at f;split at f
   ·rename_i v;rw [v,aI] at j;exact j (.inr ⟨rfl,by rw [hw];exact ar u⟩)
   ·rw [hβ s g f] at j k;exact hM.sw s g f l o ⟨fun h=>j (.inl h),k⟩
  ·intro s g f l;rw [ah] at f;split at f
   ·rename_i v;rw [v,aI];exact .inl (Nat.le_trans hsz hb)
   ·rw [hβ s g f];exact hM.own s g f l
  ·intro s f;obtain ⟨j,k⟩:=hM.ku s f;exact ⟨j,by rw [fV _ _ (by have:=hM.small;omega)];exact k⟩
 refine I.put hd ?_ ?_
 ·simp only [SV.den,C.den,aI]
 ·intro s f;simp [SV.ids,C.ids] at f;subst f;exact ⟨_,by rw [ah,if_pos rfl]⟩
theorem uY {L:List Nat}{m s:Nat}:s∈(L.filter fun s=>!(Nat.beq s m))↔s∈L/\s≠m:=by
 rw [List.mem_filter];constructor
 ·rintro ⟨b,a⟩;refine ⟨b,fun e=>?_⟩;subst e;rw [Nat.beq_refl] at a;cases a
 ·rintro ⟨b,a⟩;refine ⟨b,?_⟩
  cases h:Nat.beq s m with
  | false=>rfl
  | true=>exact absurd (beq_eq.1 h) a
theorem lZ (hM:Mod n V0 bh β0 st β a w V){L:List Nat}{γ:Nat->Nat}(g_:∀s∈L,γ s=β s)(hcl:∀s∈L,∀b,st.boxes s=some b->∀t∈b.cs.ids,t∈L)(hlive:∀s∈L,∃b,st.boxes s=some b)
  {give:Bool}{sh:Sh}{m:Option Nat}{d:Nat}(hd:d<n){ety:TypeId}{K:St->View->Prop}{w':World}{r:Value}(hm:∀k,m=some k->k∈L)(hfree:iT st m d=true)
  (hx:eK (fun b=>b∈L.map (cR st.boxes γ w.heap.size)/\(bT V w).H b) w w')
  (hr:bH T give sh L m d ety γ st (bT V w) K r (((bT V w).lend (L.map (cR st.boxes γ w.heap.size))).to w' hx.size)) :
  ∃st' β' V',Mod n V0 bh β0 st' β' (a.put (some d) r) w' V'/\K st' V':=by
 have a4:V0.w.heap.size<=w.heap.size:=hM.ext.size;unfold bH at hr;generalize hnb:eO m d=nb at hr;obtain ⟨D,p,M,Nn,N⟩:=hr;obtain ⟨x,O,rfl,hr⟩:=Sh.dW sh N;clear N
 have Y:st.boxes nb=none:=by
  unfold iT at hfree;rw [hnb] at hfree;split at hfree
  ·cases hfree
  ·assumption
 have LW:nb<n\/200000<=nb:=by
  rw [←hnb]
  cases m with
  | none=>exact .inl hd
  | some m=>exact Ai hd
 generalize hV1:((((bT V w).lend (L.map (cR st.boxes γ w.heap.size))).to w' hx.size).shut.hideG (p≠[]) D)=V1 at hr;have SB:V1.w=w':=by rw [←hV1];rfl
 have Z:∀b o,V1.aS b o->w'.heap[b]?=some o/\¬(b<w.heap.size/\∀o,¬V.aS b o)/\¬(p≠[]/\b=D/\b<w'.heap.size):=by
  rintro b o ⟨B,E⟩;rw [SB] at E;rw [←hV1] at B;refine ⟨E,fun h=>B (.inl h),fun h=>B (.inr ⟨h.1,h.2.1,by rw [←h.2.1];exact h.2.2⟩)⟩
 have Nm:∀b o,V1.aS b o->w'.heap[b]?=some o/\¬V0.H b:=by
  intro b o h;obtain ⟨B,E,-⟩:=Z b o h;refine ⟨B,fun hH=>?_⟩;by_cases a0:b<w.heap.size
  ·exact E ⟨a0,fun o' a1=>(hM.nu b o' a1).2 hH⟩
  ·have:=V0.hH b hH;omega
 have qE:∀s b,st.boxes s=some b->b.live->∀o,¬V1.aS (β s) o:=fun s b g l o ho=>
  (Z _ o ho).2.1 ⟨ar (hM.boxes s b g l),hM.sw s b g l⟩
 have O9:∀b,(b∈L.map (cR st.boxes γ w.heap.size)/\(bT V w).H b)->∃s∈L,∃q,st.boxes s=some q/\q.live/\β s=b:=by
  rintro b ⟨B,E⟩;obtain ⟨s,c,q,f,C,he⟩:=uN hlive B E.1;exact ⟨s,c,q,f,C,by rw [←g_ s c];exact he⟩
 have DD:Mod n V0 bh β0 (di st L ety) β a w' V1:=by
  refine (hM.F7 (L:=L) (ty:=ety)).later hx ?_ ?_ Nm ?_
  ·intro t b g l hX;rw [aU] at g;split at g
   ·cases g;exact eQ l
   ·rename_i v;obtain ⟨s,c,q,f,C,he⟩:=O9 _ hX;exact v (hM.inj s t q b f C g l he▸c)
  ·intro i hi hX;obtain ⟨s,c,q,f,C,rfl⟩:=O9 _ hX;rcases hM.own s q f C with h|h
   ·omega
   ·exact hM.jz _ h.2
  ·intro t b g l;rw [aU] at g;split at g
   ·cases g;exact absurd l eQ
   ·exact qE t b g l
 have Ph:(di st L ety).boxes nb=none:=by
  rw [aU,if_neg]
  ·exact Y
  ·intro h;obtain ⟨b,g⟩:=hlive nb h;rw [Y] at g;cases g
 have D8:p≠[]->w.heap.size<=D\/∃k q,m=some k/\st.boxes k=some q/\q.live/\D=β k:=by
  intro u;rcases Nn u with h|h
  ·exact .inl h
  ·right
   cases m with
   | none=>exact h.elim
   | some k=>
    have W:=hm k rfl;obtain ⟨q,f⟩:=hlive k W;simp only [wq,f] at h;obtain ⟨cs,ty⟩:=q
    cases cs with
    | lit cs=>exact ⟨k,_,rfl,f,cB,by rw [←g_ k W];exact h⟩
    | row cs=>exact ⟨k,_,rfl,f,cd,by rw [←g_ k W];exact h⟩
    | aJ cs=>exact ⟨k,_,rfl,f,dZ h.1,by rw [←g_ k W];exact h.2⟩
 have Yi:Mod n V0 bh β0 ((di st L ety).box nb ⟨.aJ p,ety⟩) (dh β nb D) a w' V1:=by
  by_cases u:p=[]
  ·subst u;exact (DD.beta LW Ph).void
  ·have O_:w'.heap[D]?=some (.cells p.toArray ety (0,0)):=M u;refine DD.gZ LW Ph rfl ?_ ?_ ?_ O_ (fun _ _ _=>rfl) (Nat.le_refl _) rfl rfl rfl
   ·intro s b g l he;rw [aU] at g;split at g
    ·cases g;exact eQ l
    ·rename_i a2;rcases D8 u with h|⟨k,q,P,f,C,h⟩
     ·have:=ar (hM.boxes s b g l);omega
     ·exact a2 (hM.inj k s q b f C g l (h▸he.symm)▸hm k P)
   ·intro o ho;exact (Z _ o ho).2.2 ⟨u,rfl,ar O_⟩
   ·rcases D8 u with h|⟨k,q,P,f,C,h⟩
    ·left;omega
    ·rcases hM.own k q f C with X|X
     ·left;rw [h];exact X
     ·right;refine ⟨?_,by rw [h];exact X.2⟩;rw [←hnb,P];exact FD X.1
 have D6:∀s,(∃b,st.boxes s=some b)->s≠nb:=by rintro s ⟨b,g⟩ rfl;rw [Y] at g;cases g
 generalize hA:Cl m L=A at hr
 have F:∀s∈A,s∈L/\∀k,m=some k->s≠k:=by
  intro s c;rw [←hA] at c
  cases m with
  | none=>exact ⟨c,fun k h=>nomatch h⟩
  | some k=>obtain ⟨B,E⟩:=uY.1 c;exact ⟨B,fun j hj=>by cases hj;exact E⟩
 have VQ:∀s∈L,(∀k,m=some k->s≠k)->s∈A:=by
  intro s c h;rw [←hA]
  cases m with
  | none=>exact c
  | some k=>exact uY.2 ⟨c,h k rfl⟩
 have J:∀s,(∃b,st.boxes s=some b)->dh γ nb D s=γ s/\dh β nb D s=β s:=fun s c=>⟨fV _ _ (D6 s c),fV _ _ (D6 s c)⟩
 have Pq:∀s∈A,((oT m ety st).box nb ⟨.aJ p,ety⟩).boxes s=st.boxes s:=by
  intro s c;obtain ⟨B,E⟩:=F s c;rw [ah,if_neg (D6 s (hlive s B))]
  cases m with
  | none=>rfl
  | some k=>simp only [oT];rw [ah,if_neg (E k rfl)]
 have Q:∀s∈A,∃b,st.boxes s=some b/\b.live:=by
  intro s c;have:=uO hr s c;rw [Pq s c] at this;exact this
 obtain ⟨st',g1,g2,g3,g4⟩:=kP (a:=a) (w:=w') (V:=V1) (γ:=dh γ nb D) (β:=dh β nb D) (by rfl) (fun s c=>by
   have:=J s (hlive s (F s c).1);rw [this.1,this.2];exact g_ s (F s c).1)
  (by
   intro s c R S he;rw [(J s (hlive s (F s c).1)).2,(J R (hlive R (F R S).1)).2] at he;obtain ⟨y,z,G⟩:=Q s c;obtain ⟨b2,e2,l2⟩:=Q R S;exact hM.inj s R y b2 z G e2 l2 he)
  (by
   intro s c;obtain ⟨y,z,G⟩:=Q s c;rw [(J s ⟨y,z⟩).2];exact qE s y z G)
  (by
   intro s c;obtain ⟨y,z,G⟩:=Q s c;rw [(J s ⟨y,z⟩).2];exact hM.own s y z G)
  A _ ((di st L ety).box nb ⟨.aJ p,ety⟩) (fun _ h=>h) Yi
  (by
   show _=(di st L ety).ao;rw [jx];cases m<;>rfl)
  (by
   intro t v;rw [ah,ah];split
   ·rfl
   ·rw [aU]
    cases m with
    | none=>
     simp only [oT];rw [if_neg fun h=>v (VQ t h fun k e=>nomatch e)]
    | some k=>
     simp only [oT];rw [ah];split
     ·rename_i e;rw [if_pos (e▸hm k rfl)]
     ·rename_i e;rw [if_neg fun h=>v (VQ t h fun j hj=>by cases hj;exact e)])
  (by
   intro s c;rw [ah];split
   ·exact ⟨_,rfl⟩
   ·rw [aU,if_pos (F s c).1];exact ⟨_,rfl⟩)
  (by
   intro t b v l KW s c;obtain ⟨y,z,G⟩:=Q s c;rw [(J s ⟨y,z⟩).2];rw [ah] at v;split at v
   ·rename_i e;simp only [Option.some.injEq] at v;rw [e,aI];have u:p≠[]:=fun e0=>by rw [←v,e0] at l;exact eQ l
    rcases D8 u with h|⟨k,q,P,f,C,h⟩
    ·have:=ar (hM.boxes s y z G);omega
    ·intro he;exact (F s c).2 k P (hM.inj k s q y f C z G (h▸he)).symm
   ·rw [aU] at v;split at v
    ·cases v;exact absurd l eQ
    ·rename_i U;intro he;rw [(J t ⟨b,v⟩).2] at he;exact U (hM.inj t s b y v l z G he▸(F s c).1))
  (by
   intro s c b g t v;rw [Pq s c] at g;have U:=hcl s (F s c).1 b g t v;have I:=J t (hlive t U);refine ⟨?_,by rw [I.1,I.2];exact g_ t U⟩;rw [ah];split
   ·exact ⟨_,rfl⟩
   ·rw [aU,if_pos U];exact ⟨_,rfl⟩)
  (by
   intro k a3 e
   have:a3=nb:=by
    cases m with
    | none=>cases e
    | some m=>cases e;rfl
   subst this;exact ⟨⟨_,by rw [ah,if_pos rfl]⟩,by rw [aI,aI]⟩)
  hr
 obtain ⟨b2,I⟩:=g3 nb ⟨_,by rw [ah,if_pos rfl]⟩
 have fF:∀s∈(cond give (qD nb x) x).ids,s=nb:=by
  cases give with
  | true=>exact D2 O
  | false=>intro s c;rw [cond_false,O] at c;cases c
 refine ⟨_,_,_,g1.put (x:=cond give (qD nb x) x) hd ?_ ?_,g4⟩
 ·exact SV.br fun s c=>by rw [fF s c,aI,aI]
 ·intro s c;rw [fF s c];exact ⟨b2,I⟩
theorem jm (hM:Mod n V0 bh β0 st β a w V){m:CM}{f:FuncId}{xs:List SV}{ty:TypeId}{dst:Option Nat}{K:St->View->Prop}{next:Act->World->Prop}{Q:Exit->Act->World->Prop}
  (hd:∀d,dst=some d->d<n)(hv:fg P T m f xs ty dst st V K)
  (hK:∀st' β' a' w' V',Mod n V0 bh β0 st' β' a' w' V'->K st' V'->next a' w') :
  jN P f/\Calls P f (aE β xs) w fun
   | .returned v,w''=>next (a.put dst v) w''
   | .panicked chain,w''=>Q (.panic chain) a w''
   | .outgrown,_=>LetsOut Q:=by
 have hle:=ry hM;have a9:V0.w.heap.size<=w.heap.size:=hM.ext.size;unfold fg at hv;split at hv
 ·exact hv.elim
 ·rename_i sh c0;split at hv
  ·
   rename_i fF
   have b3:∀x∈xs,x.ids=[]:=by
    intro x u;rcases hx':x.ids with _|⟨s,r⟩
    ·rfl
    ·exfalso;have:s∈reach st.boxes 3 (dedup (xs.flatMap SV.ids)):=d_ 3 _ s (bC.2 (List.mem_flatMap.2 ⟨x,u,by rw [hx'];simp⟩));rw [fF] at this;cases this
   have VS:∀(w':World)(u:eK (fun _=>False) w w'),Mod n V0 bh β0 st β a w' ((bT V w).to w' u.size):=by
    intro w' u;refine hM.later u (fun _ _ _ _ h=>h) (fun _ _ h=>h.elim) ?_ ?_
    ·rintro b o ⟨D,G⟩;refine ⟨G,fun hH=>?_⟩;by_cases U:b<w.heap.size
     ·apply D;refine ⟨U,fun o' W=>(hM.nu b o' W).2 hH⟩
     ·have:=V0.hH b hH;omega
    ·rintro s b p l o ⟨D,-⟩;exact D ⟨ar (hM.boxes s b p l),hM.sw s b p l⟩
   rw [BL b3 β fun _=>0];split at hv
   ·
    split at hv
    ·rename_i d N c1;split at hv
     ·exact hv.elim
     ·rename_i q;obtain ⟨hc,X⟩:=hv (bT V w) hle;refine ⟨hc,Calls.mono X ?_⟩;rintro e' w' ⟨r,rfl,u,Y⟩;have A:eK (fun b=>b∈([]:List Nat).map (cR st.boxes (fun _=>0) w.heap.size)/\(bT V w).H b) w w':=u.mono fun _ h=>h.elim
      have a6:bH T true sh [] Option.none d N (fun _=>0) st (bT V w) K r (((bT V w).lend (([]:List Nat).map (cR st.boxes (fun _=>0) w.heap.size))).to w' A.size):=by
       unfold bH Cl at Y ⊢;exact Y
      obtain ⟨st',β',V',D,G⟩:=lZ (T:=T) (give:=true) (m:=Option.none) hM (fun s g=>absurd g (by simp)) (fun s g=>absurd g (by simp)) (fun s g=>absurd g (by simp)) (hd d rfl) (fun k J=>by cases J) q A a6;exact hK _ _ _ _ _ D G
    ·exact hv.elim
   ·split at hv
    ·rename_i d;split at hv
     ·exact hv.elim
     ·rename_i hn;split at hv
      ·rename_i ti c2;split at hv
       ·rename_i e he;split at hv
        ·rename_i ei B5;obtain ⟨hc,X⟩:=hv (bT V w) hle;refine ⟨hc,Calls.mono X ?_⟩;rintro e' w' ⟨r,rfl,u,b,Y⟩;obtain ⟨cs,D,G,rfl,h4,h5,h6⟩:=oQ _ Y;exact hK _ _ _ _ _ ((VS w' u).ML (w0:=w) (fun s b p l=>ar (hM.boxes s b p l)) a9 (hd d rfl) hn h4 rfl h5 D) h6
        ·exact hv.elim
       ·exact hv.elim
      ·exact hv.elim
    ·exact hv.elim
   ·obtain ⟨hc,X⟩:=hv (bT V w) hle;refine ⟨hc,Calls.mono X ?_⟩;rintro e w' ⟨r,rfl,u,Y⟩;obtain ⟨x,A,rfl,Z⟩:=Sh.dW sh Y;have u:eK (fun _=>False) w w':=u;exact hK (st.put dst x) β _ _ _ ((VS w' u).Ej hd (jo A _ _) (bI A)) Z
  ·rename_i s0 r0 fF;split at hv
   ·exact hv.elim
   ·rename_i a4;generalize hL:s0::r0=L at hv fF a4
    have Q3:∀x∈xs,∀s∈x.ids,s∈L:=by
     intro x u s g;rw [←fF];exact d_ 3 _ s (bC.2 (List.mem_flatMap.2 ⟨x,u,g⟩))
    have a1:∀s∈L,∀b,st.boxes s=some b->∀t∈b.cs.ids,t∈L:=fun s g b p=>fq a4 g p
    have PV:∀{R:(Nat->Nat)->Value->View->Prop},(kr L (fun _=>0) fun γ=>hJ st.boxes γ (bT V w) L (Acts P f (aE γ xs) ((bT V w).lend (L.map (cR st.boxes γ w.heap.size))) (R γ))) ->
      ∃γ,(∀s∈L,γ s=β s)/\(∀s∈L,∃b,st.boxes s=some b)/\Acts P f (aE β xs) ((bT V w).lend (L.map (cR st.boxes γ w.heap.size))) (R γ):=by
     intro R hv;have O:=iu hv β;generalize hγ:(fun t=>if t∈L then β t else (fun _=>0) t)=γ at O;have F:∀s∈L,γ s=β s:=fun s g=>by rw [←hγ];simp [g]
     have uH:∀s∈L,∀b,st.boxes s=some b->b.obj γ=b.obj β:=fun s g b p=>aF.cz fun t S=>F t (a1 s g b p t S)
     obtain ⟨z,b4⟩:=uP O (by
      intro s g b p l;rw [F s g,uH s g b p];exact ⟨hM.boxes s b p l,ar (hM.boxes s b p l),hM.sw s b p l⟩) (by
      intro s g t S b b' p l b5 l' e;rw [F s g,F t S] at e;exact hM.inj s t b b' p l b5 l' e)
     refine ⟨γ,F,z,?_⟩
     have E:aE γ xs=aE β xs:=by
      unfold aE;rw [List.map_congr_left fun x u=>SV.br fun s g=>F s (Q3 x u s g)]
     rw [←E];exact b4
    have a0:∀{give:Bool} {mm:Option Nat} {d:Nat} {N:TypeId},dst=some d->(∀k,mm=some k->k∈L)->iT st mm d=true ->
      (∀V':View,V.Le V'->kr L (fun _=>0) fun γ=>hJ st.boxes γ V' L (Acts P f (aE γ xs) (V'.lend (L.map (cR st.boxes γ V'.w.heap.size))) (bH T give sh L mm d N γ st V' K))) ->
      jN P f/\Calls P f (aE β xs) w fun
       | .returned v,w''=>next (a.put dst v) w''
       | .panicked chain,w''=>Q (.panic chain) a w''
       | .outgrown,_=>LetsOut Q:=by
     intro give mm d N a5 b6 q hv;obtain ⟨γ,F,z,hc,X⟩:=PV (R:=fun γ=>bH T give sh L mm d N γ st (bT V w) K) (hv (bT V w) hle);refine ⟨hc,Calls.mono X ?_⟩;rintro e w' ⟨r,rfl,u,Y⟩;obtain ⟨st',β',V',D,G⟩:=lZ hM F a1 z (hd d a5) b6 q u Y;rw [a5];exact hK _ _ _ _ _ D G
    have Tv:∀k,k∈pg st.boxes L->k∈L:=by
     intro k J;unfold pg at J;obtain ⟨s,g,J⟩:=List.mem_flatMap.1 (bC.1 J);split at J
     ·rename_i cs ty p;refine a1 s g _ p k ?_
      have:∀cs:List C,k∈nL cs->k∈cs.flatMap C.ids:=by
       intro cs
       induction cs with
       | nil=>exact fun h=>nomatch h
       | cons c r ih=>
        intro h;rw [List.flatMap_cons,List.mem_append]
        cases c<;>simp only [nL,List.mem_cons] at h<;>first
         | exact .inr (ih h)
         | (rcases h with h|h
            ·left;simp [C.ids,h]
            ·exact .inr (ih h))
      exact this cs J
     ·cases J
    have RU:∀k,k∈kQ xs->k∈L:=by
     intro k J
     have:∀xs:List SV,k∈kQ xs->∃x∈xs,k∈x.ids:=by
      intro xs
      induction xs with
      | nil=>exact fun h=>nomatch h
      | cons x r ih=>
       intro h;unfold kQ at h;split at h
       ·rename_i heq;cases heq
       ·rename_i s n c r' heq;cases heq;exact ⟨.c (.gD s n c),List.mem_cons_self,h⟩
       ·rename_i s n c r' heq;cases heq;exact ⟨.c (.lu s 0 n c),List.mem_cons_self,h⟩
       ·rename_i heq;cases heq;obtain ⟨y,hy,J⟩:=ih h;exact ⟨y,by simp [hy],J⟩
     obtain ⟨x,u,J⟩:=this xs J;exact Q3 x u k J
    split at hv
    ·exact hv.elim
    ·exact hv.elim
    ·
     split at hv
     ·split at hv
      ·exact hv.elim
      ·rename_i q;exact a0 rfl (fun k J=>by cases J) q hv
     ·rename_i d N k _ b7 _;split at hv
      ·split at hv
       ·exact hv.elim
       ·rename_i q;exact a0 rfl (fun j hj=>by cases hj;exact RU k (by rw [b7];simp)) q hv
      ·split at hv
       ·exact hv.elim
       ·rename_i q;split at hv
        ·exact hv.elim
        ·
         rename_i B;rw [List.all_eq_true] at B;let Vr:View:=⟨w,fun b=>(b<w.heap.size/\∀o,¬V.aS b o)/\¬∃s∈L,∃M,st.boxes s=some M/\M.live/\β s=b,fun _=>False,fun _ h=>h.1.1,fun _ h=>h.elim⟩;have a2:V.Le Vr:=fun b o p=>⟨fun h=>h.1.2 o p,(hM.nu b o p).1⟩
         have B0:Mod n V0 bh β0 (di st L 0) β a w Vr:=by
          have DD:=hM.F7 (L:=L) (ty:=0);refine ⟨DD.defers,DD.size,DD.ao,DD.wG,DD.wF,DD.boxes,DD.inj,?_,?_,DD.ext,DD.own,DD.ku,DD.jz,hM.small⟩
          ·rintro b o ⟨D,G⟩;refine ⟨G,fun hH=>?_⟩;have U:=ar G;apply D;refine ⟨⟨U,fun o' W=>(hM.nu b o' W).2 hH⟩,fun hm=>?_⟩;obtain ⟨s,g,M,I,l0,rfl⟩:=hm;rcases hM.own s M I l0 with h|h
           ·have:=V0.hH _ hH;omega
           ·have:=Nat.le_of_ble_eq_true (B s g);omega
          ·rintro s b p l o ⟨D,-⟩;rw [aU] at p;split at p
           ·cases p;exact absurd l eQ
           ·rename_i a7;refine D ⟨⟨ar (hM.boxes s b p l),hM.sw s b p l⟩,fun hm=>?_⟩;obtain ⟨s',a3,bs,a8,ls,he⟩:=hm;exact a7 (hM.inj s' s bs b a8 ls p l he▸a3)
         have O:=iu (hv (bT Vr w) (a2.trans (ry B0))) β;generalize hγ:(fun t=>if t∈L then β t else (fun _=>0) t)=γ at O;have F:∀s∈L,γ s=β s:=fun s g=>by rw [←hγ];simp [g]
         obtain ⟨z,hc,X⟩:=iz O (by
          intro s g b p l;rw [F s g,aF.cz fun t S=>F t (fq a4 g p t S)];exact ry B0 _ _ ⟨fun h=>h.2 ⟨s,g,b,p,l,rfl⟩,hM.boxes s b p l⟩)
         refine ⟨hc,?_⟩
         have E:aE γ xs=aE β xs:=by
          unfold aE;rw [List.map_congr_left fun x u=>SV.br fun s g=>F s (Q3 x u s g)]
         rw [E] at X;refine Calls.mono X ?_;rintro e' w' ⟨r,rfl,u,Y⟩;have A:eK (fun b=>b∈([]:List Nat).map (cR (di st L 0).boxes (fun _=>0) w.heap.size)/\(bT Vr w).H b) w w':=u.mono fun _ h=>h.elim
         have a6:bH T true sh [] Option.none d N (fun _=>0) (di st L 0) (bT Vr w) K r (((bT Vr w).lend (([]:List Nat).map (cR (di st L 0).boxes (fun _=>0) w.heap.size))).to w' A.size):=by
          unfold bH Cl at Y ⊢;exact Y
         obtain ⟨st',β',V',D,G⟩:=lZ (T:=T) (give:=true) (m:=Option.none) B0 (fun s g=>absurd g (by simp)) (fun s g=>absurd g (by simp)) (fun s g=>absurd g (by simp)) (hd d rfl) (fun k J=>by cases J) q A a6;exact hK _ _ _ _ _ D G
     ·exact hv.elim
    ·
     split at hv
     ·obtain ⟨γ,F,z,hc,X⟩:=PV (R:=fun γ r' eF=>sh.ex fun x=>r'=x.den (fun _=>0)/\dK T Option.none γ eF L st fun st'=>K (st'.put dst x) eF.shut) (hv (bT V w) hle);refine ⟨hc,Calls.mono X ?_⟩;rintro e w' ⟨r,rfl,u,Y⟩;obtain ⟨x,A,rfl,Z⟩:=Sh.dW sh Y;have u:eK (fun b=>b∈L.map (cR st.boxes γ w.heap.size)/\(bT V w).H b) w w':=u;generalize hV1:(((bT V w).lend (L.map (cR st.boxes γ w.heap.size))).to w' u.size)=V2 at Z;have SC:V2.w=w':=by rw [←hV1];rfl
      have O9:∀b,(b∈L.map (cR st.boxes γ w.heap.size)/\(bT V w).H b)->∃s∈L,∃M,st.boxes s=some M/\M.live/\β s=b:=by
       rintro b ⟨D,G⟩;obtain ⟨s,g,M,I,l0,he⟩:=uN z D G.1;exact ⟨s,g,M,I,l0,by rw [←F s g];exact he⟩
      have GC:∀b o,V2.shut.aS b o->w'.heap[b]?=some o/\¬(b<w.heap.size/\∀o,¬V.aS b o):=by
       rintro b o ⟨D,G⟩;rw [←hV1] at D G;exact ⟨G,D⟩
      have qE:∀s b,st.boxes s=some b->b.live->∀o,¬V2.shut.aS (β s) o:=fun s b p l o ho=>
       (GC _ o ho).2 ⟨ar (hM.boxes s b p l),hM.sw s b p l⟩
      have DD:Mod n V0 bh β0 (di st L 0) β a w' V2.shut:=by
       refine (hM.F7 (L:=L) (ty:=0)).later u ?_ ?_ ?_ ?_
       ·intro t b p l hX;rw [aU] at p;split at p
        ·cases p;exact eQ l
        ·rename_i S;obtain ⟨s,g,M,I,l0,he⟩:=O9 _ hX;exact S (hM.inj s t M b I l0 p l he▸g)
       ·intro i hi hX;obtain ⟨s,g,M,I,l0,rfl⟩:=O9 _ hX;rcases hM.own s M I l0 with h|h
        ·omega
        ·exact hM.jz _ h.2
       ·intro b o h;obtain ⟨D,G⟩:=GC b o h;refine ⟨D,fun hH=>?_⟩;by_cases U:b<w.heap.size
        ·exact G ⟨U,fun o' W=>(hM.nu b o' W).2 hH⟩
        ·have:=V0.hH b hH;omega
       ·intro t b p l;rw [aU] at p;split at p
        ·cases p;exact absurd l eQ
        ·exact qE t b p l
      have iN:=uO Z
      obtain ⟨st',g1,g2,g3,g4⟩:=kP (a:=a) (w:=w') (V:=V2.shut) (γ:=γ) (β:=β) SC F
       (by
        intro s g s' a3 he;obtain ⟨b1,e1,l1⟩:=iN s g;obtain ⟨b2,e2,l2⟩:=iN s' a3;exact hM.inj s s' b1 b2 e1 l1 e2 l2 he)
       (by intro s g;obtain ⟨b1,e1,l1⟩:=iN s g;exact qE s b1 e1 l1)
       (by intro s g;obtain ⟨b1,e1,l1⟩:=iN s g;exact hM.own s b1 e1 l1)
       L st (di st L 0) (fun _ h=>h) DD jx.symm (by intro t S;rw [aU,if_neg S])
       (by intro s g;rw [aU,if_pos g];exact ⟨_,rfl⟩)
       (by
        intro t b S l KW s g he;rw [aU,if_neg KW] at S;obtain ⟨b1,e1,l1⟩:=iN s g;exact KW (hM.inj t s b b1 S l e1 l1 he▸g))
       (by
        intro s g b p t S;have LZ:=a1 s g b p t S;exact ⟨by rw [aU,if_pos LZ];exact ⟨_,rfl⟩,F t LZ⟩)
       (fun m nb e=>by cases e) Z
      exact hK _ _ _ _ _ (g1.Ej hd (jo A _ _) (bI A)) g4
     ·rename_i k b8;split at hv
      ·rename_i d N _;split at hv
       ·exact hv.elim
       ·rename_i q;exact a0 rfl (fun j hj=>by cases hj;exact Tv k (by rw [b8];simp)) q hv
      ·exact hv.elim
     ·exact hv.elim
    ·
     split at hv
     ·exact hv.elim
     ·rename_i B;rw [List.all_eq_true] at B;let Vr:View:=⟨w,fun b=>(b<w.heap.size/\∀o,¬V.aS b o)/\¬∃s∈L,∃M,st.boxes s=some M/\M.live/\β s=b,fun _=>False,fun _ h=>h.1.1,fun _ h=>h.elim⟩;have a2:V.Le Vr:=fun b o p=>⟨fun h=>h.1.2 o p,(hM.nu b o p).1⟩;have O:=iu (hv Vr a2) β;generalize hγ:(fun t=>if t∈L then β t else (fun _=>0) t)=γ at O;have F:∀s∈L,γ s=β s:=fun s g=>by rw [←hγ];simp [g]
      obtain ⟨z,hc,X⟩:=iz O (by
       intro s g b p l;rw [F s g,aF.cz fun t S=>F t (fq a4 g p t S)];exact ⟨fun h=>h.2 ⟨s,g,b,p,l,rfl⟩,hM.boxes s b p l⟩)
      refine ⟨hc,?_⟩
      have E:aE γ xs=aE β xs:=by
       unfold aE;rw [List.map_congr_left fun x u=>SV.br fun s g=>F s (Q3 x u s g)]
      rw [E] at X;refine Calls.mono X ?_;rintro e w' ⟨r,rfl,u,Y⟩;obtain ⟨x,A,rfl,Z⟩:=Sh.dW sh Y;have u:eK (fun _=>False) w w':=u;refine hK ((st.rel L γ (C.den β)).put dst x) β _ _ _ ?_ (Z (C.den β));have B0:=hM.rel (L:=L) (β':=γ) F
      have b9:Mod n V0 bh β0 (st.rel L γ (C.den β)) β a w' (Vr.to w' u.size):=by
       refine B0.later u (fun _ _ _ _ h=>h) (fun _ _ h=>h.elim) ?_ ?_
       ·rintro b o ⟨D,G⟩;refine ⟨G,fun hH=>?_⟩;by_cases U:b<w.heap.size
        ·apply D;refine ⟨⟨U,fun o' W=>(hM.nu b o' W).2 hH⟩,fun hm=>?_⟩;obtain ⟨s,g,M,I,l0,rfl⟩:=hm;rcases hM.own s M I l0 with h|h
         ·have:=V0.hH _ hH;omega
         ·have:=Nat.le_of_ble_eq_true (B s g);omega
        ·have:=V0.hH b hH;omega
       ·rintro s b p l o ⟨D,-⟩;obtain ⟨a7,y,hy,rfl⟩:=fD p;have ly:=aF.eU l;refine D ⟨⟨ar (hM.boxes s y hy ly),hM.sw s y hy ly⟩,fun hm=>?_⟩;obtain ⟨s',a3,bs,a8,ls,he⟩:=hm;exact a7 (hM.inj s' s bs y a8 ls hy ly he▸a3)
      exact b9.Ej hd (jo A _ _) (bI A)
theorem Mod.release (hM:Mod n V0 bh β0 st β a w V){l:List Nat}{K:St->View->Prop}(hv:F6 l st V K):∃st' V',Mod n V0 bh β0 st' β a w V'/\V.Le V'/\K st' V':=by
 unfold F6 at hv;split at hv
 ·exact ⟨st,V,hM,fun _ _ h=>h,hv⟩
 ·rename_i G H;split at hv
  ·exact hv.elim
  ·rename_i k;generalize hL:G::H=L at hv k;rw [Bool.and_eq_true,List.all_eq_true] at k;obtain ⟨m,d⟩:=k;let Vr:View:=⟨w,fun b=>(b<w.heap.size/\∀o,¬V.aS b o)/\¬∃s∈L,∃j,st.boxes s=some j/\j.live/\β s=b,fun _=>False,fun _ h=>h.1.1,fun _ h=>h.elim⟩;have e:V.Le Vr:=fun b o f=>⟨fun h=>h.1.2 o f,(hM.nu b o f).1⟩;have i:=iu (hv Vr e) β;generalize hγ:(fun t=>if t∈L then β t else (fun _=>0) t)=γ at i;have p:∀s∈L,γ s=β s:=fun s g=>by rw [←hγ];simp [g]
   obtain ⟨q,I⟩:=iz i (by
    intro s g b f l;rw [p s g,aF.cz fun t J=>p t (fq m g f t J)];exact ⟨fun h=>h.2 ⟨s,g,b,f,l,rfl⟩,hM.boxes s b f l⟩)
   have c:=hM.rel (L:=L) (β':=γ) p;refine ⟨_,Vr,?_,e,I (C.den β)⟩;refine ⟨c.defers,c.size,c.ao,c.wG,c.wF,c.boxes,c.inj,?_,?_,c.ext,c.own,c.ku,c.jz,hM.small⟩
   ·rintro b o ⟨r,F⟩;refine ⟨F,fun hH=>?_⟩;have u:=ar F;apply r;refine ⟨⟨u,fun M v=>(hM.nu b M v).2 hH⟩,fun hm=>?_⟩;obtain ⟨s,g,j,x,N,rfl⟩:=hm;rcases hM.own s j x N with h|h
    ·have:=V0.hH _ hH;omega
    ·have:=Nat.le_of_ble_eq_true (d s g);omega
   ·rintro s b f l o ⟨r,-⟩;obtain ⟨z,y,A,rfl⟩:=fD f;have B:=aF.eU l;refine r ⟨⟨ar (hM.boxes s y A B),hM.sw s y A B⟩,fun hm=>?_⟩;obtain ⟨O,D,P,E,ls,he⟩:=hm;exact z (hM.inj O s P y E ls A B he▸D)
theorem vE {bx:Nat->Option aF}{β:Nat->Nat}:∀{xs xs':List SV} {vs:List Value} {c:Nat},kZ bx xs=some (vs,c,xs')->c=0->xs'.map (SV.den β)=xs.map (SV.den β)
 | [],_,_,_,h,_=>nomatch h
 | x::r,xs',vs,c,h,hc=>by
  simp only [kZ] at h;split at h
  ·split at h
   ·cases h;subst hc;simp [SV.den,C.den,mA]
   ·cases h
  ·split at h
   ·rename_i e;cases h;rw [List.map_cons,List.map_cons,vE e hc]
   ·cases h
theorem vF {bx:Nat->Option aF}:∀{xs xs':List SV} {vs:List Value} {c:Nat},kZ bx xs=some (vs,c,xs')->∀t∈xs'.flatMap SV.ids,t∈xs.flatMap SV.ids
 | [],_,_,_,h=>nomatch h
 | x::r,xs',vs,c,h=>by
  simp only [kZ] at h;split at h
  ·split at h
   ·cases h;intro t ht;simp only [List.flatMap_cons,SV.ids,C.ids,List.mem_append] at ht ⊢;right;simpa using ht
   ·cases h
  ·split at h
   ·rename_i e;cases h;intro t ht;rw [List.flatMap_cons,List.mem_append] at ht ⊢;exact ht.imp_right (vF e t)
   ·cases h
theorem pK {bx bx':Nat->Option aF}:∀{xs:List SV},(∀s∈xs.flatMap SV.ids,bx' s=bx s)->kZ bx' xs=kZ bx xs
 | [],_=>rfl
 | x::r,h=>by
  have ih:=pK (xs:=r) fun s a=>h s (by rw [List.flatMap_cons];exact List.mem_append_right _ a);simp only [kZ];rw [ih];split
  ·rename_i s n c;rw [h s (by rw [List.flatMap_cons];exact List.mem_append_left _ (by simp [SV.ids,C.ids]))]
  ·rfl
theorem ue (hM:Mod n V0 bh β0 st β a w V){m:CM}{f:FuncId}{xs:List SV}{ty:TypeId}{dst:Option Nat}{K:St->View->Prop}{next:Act->World->Prop}{Q:Exit->Act->World->Prop}
  (hd:∀d,dst=some d->d<n)(hv:jI P T m f xs ty dst st V K)
  (hK:∀st' β' a' w' V',Mod n V0 bh β0 st' β' a' w' V'->K st' V'->next a' w') :
  jN P f/\Calls P f (aE β xs) w fun
   | .returned v,w''=>next (a.put dst v) w''
   | .panicked chain,w''=>Q (.panic chain) a w''
   | .outgrown,_=>LetsOut Q:=by
 unfold jI at hv;split at hv
 ·split at hv
  ·rename_i b c g e;by_cases h:b=[]
   ·obtain ⟨i,j⟩:=hv.1 h;have:=jm (Q:=Q) hM hd j hK;unfold aE at this ⊢;rw [vE e i] at this;exact this
   ·exact jm hM hd (hv.2 h) hK
  ·exact jm hM hd hv hK
 ·exact jm hM hd hv hK
end Go.Eng
namespace Go.Eng
variable {P:Program} {T:cI} {n:Nat} {V0:View} {bh:DF} {β0:Nat->Nat} {st:St} {β:Nat->Nat} {a:Act} {w:World} {V:View}
theorem Eg {t:TypeId}{name:String}{f:FuncId}(h:Ef P t name=some f)(k:Nat)(v:Value)(w:World):(Go.method (k+1) t v name).run P w=.ok (f,v) w:=by
 unfold Ef at h;split at h
 ·rename_i i d b c;split at h
  ·rename_i m hm;split at h
   ·rename_i j l e g;cases h;have a:m.path=#[]:=by apply Array.ext';exact e
    simp only [Go.method,typeInfo,Sem.run_bind,run_program,Result.andThen_ok,b,hm,Sem.run_pure,a,follow,g,receiverAt,ag c,Place.get]
   ·cases h
  ·cases h
 ·cases h
theorem rD (hT:cI.ok P T)(hM:Mod n V0 bh β0 st β a w V){m:CM}{o:Oper}{K:St->View->Prop}{next:Act->World->Prop}{Q:Exit->Act->World->Prop}
  (hd:∀d,o.dst=some d->d<n)(hv:cE P T m o st V K)
  (hK:∀st' β' a' w' V',Mod n V0 bh β0 st' β' a' w' V'->K st' V'->next a' w'):o.wp P a w next Q:=by
 unfold cE at hv;split at hv
 ·rename_i z args q e;split at hv
  ·rename_i xs g;obtain ⟨h,r⟩:=fB hM _ _ g;split at hv
   ·rename_i f ss i;obtain ⟨j,k⟩:=ue (Q:=Q) hM hd hv hK;have l:args.map a.eval=(xs.map (SV.den β)).toArray:=by apply Array.ext';rw [Array.toList_map];exact h
    have p:aE β (xs++uj ss)=(xs.map (SV.den β)).toArray++(ss.map fun s=>Value.pointer (some ⟨β s,0,none⟩)).toArray:=by
     unfold aE uj;rw [List.map_append,List.map_map];apply Array.ext';simp [Function.comp_def,SV.den,C.den]
    have b:(execOp a.eval o).run P w=.ok (.enter f (aE β (xs++uj ss))) w:=by
     rw [p];simp only [execOp,e,resolve,hM.eval i,SV.den,C.den,Deferred.ofValue,pure_bind,invoke,l,Array.empty_append];exact j.run _
    unfold Oper.wp;rw [b];exact k
   ·exact hv.elim
  ·exact hv.elim
 ·rename_i recv name args q e;split at hv
  ·rename_i xs g;obtain ⟨h,r⟩:=fB hM _ _ g;split at hv
   ·rename_i t v i;split at hv
    ·rename_i f u;obtain ⟨j,k⟩:=ue (Q:=Q) hM hd hv hK;have l:args.map a.eval=(xs.map (SV.den β)).toArray:=by apply Array.ext';rw [Array.toList_map];exact h
     have p:aE β (.c (.w v)::xs)=#[v]++(xs.map (SV.den β)).toArray:=by
      unfold aE;apply Array.ext';simp [SV.den,C.den]
     have b:(execOp a.eval o).run P w=.ok (.enter f (aE β (.c (.w v)::xs))) w:=by
      rw [p]
      have x:(#[Value.iface t v]++(xs.map (SV.den β)).toArray).extract 1 (#[Value.iface t v]++(xs.map (SV.den β)).toArray).size=(xs.map (SV.den β)).toArray:=by
       apply Array.ext';simp;exact List.take_of_length_le (by simp)
      have y:(#[Value.iface t v]++(xs.map (SV.den β)).toArray)[0]?=some (Value.iface t v):=by simp
      simp only [execOp,e,resolve,hM.eval i,SV.den,C.den,pure_bind,invoke,l,y,x,callMethod,Sem.run_bind,run_program,Result.andThen_ok,Made.depth];rw [Eg u];exact j.run _
     unfold Oper.wp;rw [b];exact k
    ·exact hv.elim
   ·exact hv.elim
  ·exact hv.elim
 ·exact CG hT hM hd hv hK
theorem iC (hT:cI.ok P T)(hM:Mod n V0 bh β0 st β a w V){m:CM}{h:Hint}{o:Oper}{K:St->View->Prop}{next:Act->World->Prop}{Q:Exit->Act->World->Prop}
  (hd:∀d,o.dst=some d->d<n)(hv:cx P T m h o st V K)
  (hK:∀st' β' a' w' V',Mod n V0 bh β0 st' β' a' w' V'->K st' V'->next a' w'):o.wp P a w next Q:=by
 unfold cx at hv;split at hv
 ·exact rD hT hM hd hv hK
 ·split at hv
  ·split at hv
   ·exact rD hT hM hd hv hK
   ·exact hv.elim
  ·exact hv.elim
theorem Mod.refine (hM:Mod n V0 bh β0 st β a w V){g:Nat}{x y:SV}(hx:st.ao g=some x)(he:x.den β=y.den β)(hy:y.ids=[]):Mod n V0 bh β0 (st.put (some g) y) β a w V:=by
 refine ⟨hM.defers,hM.size,?_,?_,hM.wF,hM.boxes,hM.inj,hM.nu,hM.sw,hM.ext,hM.own,hM.ku,hM.jz,hM.small⟩
 ·intro t z b;rw [cS] at b;split at b
  ·rename_i e;simp only [Option.some.injEq] at b;rw [e,←b,←he];exact hM.ao g x hx
  ·exact hM.ao t z b
 ·intro t z b;rw [cS] at b;split at b
  ·simp only [Option.some.injEq] at b;rw [←b,hy];exact fun s c=>(nomatch c)
  ·exact hM.wG t z b
theorem E4 {ops:Array Oper}{tmps:Array Value}{j g:Nat}(hg:(ops[j]?).bind (·.dst)=some g):yielded ops tmps j=match tmps.getD g undef with|.bool b=>some b|_=>none:=by
 unfold yielded;rw [hg];simp only [Option.bind_some];by_cases h:g<tmps.size
 ·have a:tmps[g]?=some tmps[g]:=getElem?_pos tmps g h;have c:tmps.getD g undef=tmps[g]:=by simp [h]
  rw [a,c];generalize tmps[g]=v;cases v<;>rfl
 ·simp [h,undef]
theorem Cy (hT:cI.ok P T)(hM:Mod n V0 bh β0 st β a w V){m:CM}{h:Hint}{ops:Array Oper}{o:Oper}{K:St->View->Prop}{next:Act->World->Prop}{Q:Exit->Act->World->Prop}
  (hd:∀d,o.dst=some d->d<n)(hv:pR P T m h ops o st V K)
  (hK:∀st' β' a' w' V',Mod n V0 bh β0 st' β' a' w' V'->K st' V'->next a' w') :
  if Region.wanted o (yielded ops a.tmps) then o.wp P a w next Q else next (a.put o.dst undef) w:=by
 unfold pR at hv;split at hv
 ·rename_i q;rw [if_pos (by simp [Region.wanted,q])];exact iC hT hM hd hv hK
 ·rename_i j b q;split at hv
  ·exact hv.elim
  ·rename_i g p;have t:=E4 (tmps:=a.tmps) p
   have i:∀c:Bool,a.tmps.getD g undef=.bool c->(Region.wanted o (yielded ops a.tmps)=true↔c=b):=by
    intro c x;simp only [Region.wanted,q];rw [t,x];simp
   have skip:∀{l:St},Mod n V0 bh β0 l β a w V->K (l.put o.dst iZ) V->next (a.put o.dst undef) w:=by
    intro l r s;exact hK _ _ _ _ _ (r.Ej hd rfl (bI rfl)) s
   split at hv
   ·rename_i k;have f:=hM.ao g _ k;split at hv
    ·rw [if_pos ((i true f).2 rfl)];exact iC hT hM hd hv hK
    ·rw [if_neg (fun h=>by have:=(i true f).1 h;cases this)];exact skip hM hv
   ·rename_i k;have f:=hM.ao g _ k;split at hv
    ·rw [if_neg (fun h=>by have:=(i false f).1 h;cases this)];exact skip hM hv
    ·rw [if_pos ((i false f).2 rfl)];exact iC hT hM hd hv hK
   ·rename_i c k;have f:=hM.ao g _ k;have u:c=true->Mod n V0 bh β0 (st.put (some g) (.c .tt)) β a w V:=fun e=>hM.refine k (by rw [e];rfl) rfl;have v:c=false->Mod n V0 bh β0 (st.put (some g) (.c .ff)) β a w V:=fun e=>hM.refine k (by rw [e];rfl) rfl;split at hv
    ·cases c with
     | true=>rw [if_pos ((i true f).2 rfl)];exact iC hT (u rfl) hd (hv.1 rfl) hK
     | false=>rw [if_neg (fun h=>by have:=(i false f).1 h;cases this)];exact skip (v rfl) (hv.2 rfl)
    ·cases c with
     | true=>rw [if_neg (fun h=>by have:=(i true f).1 h;cases this)];exact skip (u rfl) (hv.1 rfl)
     | false=>rw [if_pos ((i false f).2 rfl)];exact iC hT (v rfl) hd (hv.2 rfl) hK
   ·rename_i xs k;have f:=hM.ao g _ k
    have:Region.wanted o (yielded ops a.tmps)=false:=by
     simp only [Region.wanted,q];rw [t,f];simp [SV.den]
    rw [if_neg (by rw [this];simp)];exact skip hM hv
   ·exact hv.elim
theorem yW (hT:cI.ok P T){m:Nat->CM}{hint:Nat->Hint}{ops:Array Oper}(hd:∀(i:Nat)(o:Oper),ops[i]?=some o->∀d,o.dst=some d->d<n){Q:Exit->Act->World->Prop}{K:St->View->Prop}
  (hK:∀st' β' a' w' V',Mod n V0 bh β0 st' β' a' w' V'->K st' V'->Q .normal a' w') :
  ∀(l:List Nat)(st:St)(β:Nat->Nat)(a:Act)(w:World)(V:View),Mod n V0 bh β0 st β a w V->JX P T m hint ops l st V K->wpOps P ops Q l a w
 | [],st,β,a,w,V,hM,hv=>hK _ _ _ _ _ hM hv
 | i::r,st,β,a,w,V,hM,hv=>by
  simp only [JX] at hv;simp only [wpOps];split at hv
  ·rename_i o ho;rw [ho];dsimp only;have:=Cy (Q:=Q) (next:=wpOps P ops Q r) hT hM (hd i o ho) hv (fun st' β' a' w' V' b c=>yW hT hd hK r st' β' a' w' V' b c);split at this
   ·rename_i hw;rw [if_pos hw];exact .inl this
   ·rename_i hw;rw [if_neg hw];exact this
  ·exact hv.elim
end Go.Eng
namespace Go.Eng
def ov (p:Nat->Option SV)(q:Nat->Option aF)(st:St):St:=
 ⟨fun t=>match p t with|some x=>some x|none=>st.ao t,fun t=>match q t with|some x=>some x|none=>st.boxes t⟩
theorem cU {a b:Nat}(h:a≠b):Nat.beq a b=false:=by
 cases hb:Nat.beq a b
 ·rfl
 ·exact absurd (beq_eq.1 hb) h
section
variable {p:Nat->Option SV} {q:Nat->Option aF} {st:St}
theorem jE {d:Option Nat}{x:SV}(h:∀k,d=some k->p k=none):(ov p q st).put d x=ov p q (st.put d x):=by
 cases d with
 | none=>rfl
 | some d=>
  have a:=h d rfl;simp only [ov,St.put];congr 1;funext t;by_cases e:t=d
  ·subst e;simp [a,Nat.beq_refl]
  ·simp [cU e]
theorem jD {s:Nat}{b:aF}(h:q s=none):(ov p q st).box s b=ov p q (st.box s b):=by
 simp only [ov,St.box];congr 1;funext t;by_cases e:t=s
 ·subst e;simp [h,Nat.beq_refl]
 ·simp [cU e]
theorem bS {s:Nat}(h:q s=none):(ov p q st).boxes s=st.boxes s:=by simp [ov,h]
theorem Ld {x:Operand}(h:∀t,x=.tmp t->p t=none):(ov p q st).aQ x=st.aQ x:=by
 cases x with
 | tmp t=>simp [St.aQ,ov,h t rfl]
 | _=>rfl
def one {α:Type}(d:Option Nat)(x:α):Nat->Option α:=fun t=>match d with|some k=>cond (Nat.beq t k) (some x) none|none=>none
theorem dg {α:Type}{d:Option Nat}{x:α}{t:Nat}(h:d≠some t):one d x t=none:=by
 cases d with
 | none=>rfl
 | some k=>simp [one,cU (fun e:t=k=>h (by rw [e]))]
theorem eJ (d:Option Nat)(x:SV):st.put d x=ov (one d x) (fun _=>none) st:=by
 cases d with
 | none=>rfl
 | some d=>
  simp only [ov,St.put,one];congr 1;funext t;by_cases e:t=d
  ·subst e;simp [Nat.beq_refl]
  ·simp [cU e]
theorem DJ (s:Nat)(b:aF):st.box s b=ov (fun _=>none) (one (some s) b) st:=by
 simp only [ov,St.box,one];congr 1;funext t;by_cases e:t=s
 ·subst e;simp [Nat.beq_refl]
 ·simp [cU e]
theorem yr (s:Nat)(b:aF)(d:Option Nat)(x:SV):(st.box s b).put d x=ov (one d x) (one (some s) b) st:=by
 rw [eJ,DJ];rfl
end
theorem dL {ρ ρ':Operand->Option SV}:∀l:List Operand,(∀x∈l,ρ x=ρ' x)->bL ρ l=bL ρ' l
 | [],_=>rfl
 | o::r,h=>by simp only [bL];rw [h o (by simp),dL r fun x hx=>h x (by simp [hx])]
theorem jF {ρ ρ':Operand->Option SV}:∀l:List (Nat×Operand),(∀x∈l.map (·.2),ρ x=ρ' x)->partsOf ρ l=partsOf ρ' l
 | [],_=>rfl
 | (i,o)::r,h=>by simp only [partsOf];rw [h o (by simp),jF r fun x hx=>h x (by simp only [List.map_cons,List.mem_cons];exact .inr hx)]
theorem nN {ρ ρ':Operand->Option SV}:∀l:Option Operand,(∀x,l=some x->ρ x=ρ' x)->An ρ l=An ρ' l
 | none,_=>rfl
 | some o,h=>by simp only [An];rw [h o rfl]
theorem l_ {T:cI}{ρ ρ':Operand->Option SV}{bx:Nat->Option aF}{op:Op}(h:∀x∈op.operands.toList,ρ x=ρ' x):aC T ρ bx op=aC T ρ' bx op:=by
 cases op with
 | move x=>simp only [aC];rw [h x (by simp [Op.operands])]
 | assign x=>simp only [aC];rw [h x (by simp [Op.operands])]
 | pick c a b=>simp only [aC];rw [h c (by simp [Op.operands]),h a (by simp [Op.operands]),h b (by simp [Op.operands])]
 | box t x=>simp only [aC];rw [h x (by simp [Op.operands])]
 | build t ps=>simp only [aC];rw [jF _ fun x g=>h x (by simpa [Op.operands] using g)]
 | buildSlice t n ps=>simp only [aC];rw [jF _ fun x g=>h x (by simpa [Op.operands] using g)]
 | load t a=>simp only [aC];rw [h a (by simp [Op.operands])]
 | store t a x=>simp only [aC];rw [h a (by simp [Op.operands]),h x (by simp [Op.operands])]
 | nilCheck x=>simp only [aC];rw [h x (by simp [Op.operands])]
 | binOp o xt x y yt=>simp only [aC];rw [h x (by simp [Op.operands]),h y (by simp [Op.operands])]
 | unOp o xt x=>cases o<;>simp only [aC]<;>rw [h x (by simp [Op.operands])]
 | convert s d x=>simp only [aC];rw [h x (by simp [Op.operands])]
 | makeFunc fn first caps=>
  cases fn with
  | func f=>simp only [aC];rw [dL _ fun x g=>h x (by simp [Op.operands];exact .inr (by simpa using g))]
  | _=>rfl
 | makeSlice t a b=>simp only [aC];rw [h a (by simp [Op.operands]),h b (by simp [Op.operands])]
 | slice t x lo hi mx=>
  simp only [aC];rw [h x (by simp [Op.operands]),nN lo fun y k=>h y (by simp [Op.operands,k]),nN hi fun y k=>h y (by simp [Op.operands,k]),nN mx fun y k=>h y (by simp [Op.operands,k])]
 | fieldAddr t x f=>simp only [aC];rw [h x (by simp [Op.operands])]
 | field t x f=>simp only [aC];rw [h x (by simp [Op.operands])]
 | indexAddr t x i=>simp only [aC];rw [h x (by simp [Op.operands]),h i (by simp [Op.operands])]
 | extract x j=>simp only [aC];rw [h x (by simp [Op.operands])]
 | index t x i=>simp only [aC];rw [h x (by simp [Op.operands]),h i (by simp [Op.operands])]
 | makeInterface t x=>simp only [aC];rw [h x (by simp [Op.operands])]
 | call c=>
  obtain ⟨l,args,m⟩:=c
  cases l with
  | builtin b=>
   have e:bL ρ args.toList=bL ρ' args.toList:=dL _ fun x g=>h x (by simpa [Op.operands,Call.operands] using g);cases b<;>simp only [aC]<;>rw [e]
  | _=>rfl
 | _=>rfl
theorem Jw {T:cI}{LF RF:List Nat}{ρ:Operand->Option SV}{bx bx':Nat->Option aF}{op:Op}(h:aT LF RF op=.pure\/aT LF RF op=.alloc):aC T ρ bx op=aC T ρ bx' op:=by
 cases op with
 | load t a=>rcases h with h|h<;>cases h
 | store t a x=>rcases h with h|h<;>cases h
 | unOp o xt x=>cases o<;>rfl
 | makeFunc fn first caps=>cases fn<;>rfl
 | call c=>
  obtain ⟨d,args,e⟩:=c
  cases d with
  | builtin b=>cases b<;>first|rfl|(rcases h with h|h<;>cases h)
  | _=>rfl
 | _=>rfl
theorem Jy {bx bx':Nat->Option aF}{i:TI}{x:SV}(h:∀s∈x.ids,bx' s=bx s):iW bx i x=iW bx' i x:=by
 unfold iW;split
 ·rename_i b o;rw [h b (by simp [SV.ids,C.ids])]
 ·rfl
 ·rfl
theorem G_ {bx bx':Nat->Option aF}{i:TI}{x y:SV}(h:∀s∈x.ids,bx' s=bx s):gj bx i x y=gj bx' i x y:=by
 unfold gj;split
 ·rename_i b o;rw [h b (by simp [SV.ids,C.ids])]
 ·rfl
theorem Er {bx:Nat->Option aF}{i:TI}{x y:SV}{sc:List Prop}{s:Nat}{b:aF}(h:gj bx i x y=.sG sc s b):s∈x.ids:=by
 unfold gj at h;split at h
 ·split at h
  ·split at h
   ·split at h
    ·cases h;simp [SV.ids,C.ids]
    ·cases h
   ·split at h
    ·cases h;simp [SV.ids,C.ids]
    ·cases h
   ·split at h
    ·cases h
    ·split at h
     ·cases h;simp [SV.ids,C.ids]
     ·cases h
   ·cases h
  ·cases h
 ·cases h
theorem Az {V:View}{p:Addr}:∀(cs:List C) (i:Nat) {k:Prop},V.Lm p i cs k↔V.Lm p i cs True/\k
 | [],_,k=>by simp [View.Lm]
 | c::r,i,k=>by
  simp only [View.Lm];rw [Az r (i+1),and_assoc]
theorem JB {V V':View}(h:V.Le V'){p:Addr}:∀(cs:List C) (i:Nat) {k:Prop},V.Lm p i cs k->V'.Lm p i cs k
 | [],_,_,hk=>hk
 | c::r,i,_,hk=>⟨h.at hk.1,JB h r (i+1) hk.2⟩
theorem pt {V:View}{p:OA}{x:SV}{k:Prop}:V.Kq p x k↔V.Kq p x True/\k:=by
 cases x with
 | c c=>simp [View.Kq]
 | agg cs=>
  simp only [View.Kq];constructor
  ·rintro ⟨a,d,b⟩;rw [Az] at b;exact ⟨⟨a,d,b.1⟩,b.2⟩
  ·rintro ⟨⟨a,d,b⟩,e⟩;exact ⟨a,d,by rw [Az];exact ⟨b,e⟩⟩
 | oB xs=>simp [View.Kq]
theorem NU {V V':View}(h:V.Le V'){p:OA}{x:SV}{k:Prop}(hk:V.Kq p x k):V'.Kq p x k:=by
 cases x with
 | c c=>obtain ⟨⟨a,b,d⟩,e⟩:=hk;exact ⟨⟨a,b,h.at d⟩,e⟩
 | agg cs=>obtain ⟨a,b,d⟩:=hk;exact ⟨a,b,JB h _ _ d⟩
 | oB xs=>exact hk
theorem wD.split:∀(s:wD) {F:C->Prop},s.ex F->∃x,F x/\∀G:C->Prop,G x->s.ex G
 | .int _,_,⟨_,h⟩=>⟨_,h,fun _ g=>⟨_,g⟩⟩
 | .bool,_,⟨_,h⟩=>⟨_,h,fun _ g=>⟨_,g⟩⟩
 | .slice,_,⟨_,_,_,h⟩=>⟨_,h,fun _ g=>⟨_,_,_,g⟩⟩
 | .ptr,_,⟨_,h⟩=>⟨_,h,fun _ g=>⟨_,g⟩⟩
 | .str,_,⟨_,h⟩=>⟨_,h,fun _ g=>⟨_,g⟩⟩
 | .any,_,⟨_,h⟩=>⟨_,h,fun _ g=>⟨_,g⟩⟩
theorem mG:∀(l:List wD) {F:List C->Prop},MX l F->∃x,F x/\∀G:List C->Prop,G x->MX l G
 | [],_,h=>⟨_,h,fun _ g=>g⟩
 | s::r,_,h=>by
  obtain ⟨c,h1,h2⟩:=wD.split s h;obtain ⟨cs,a,b⟩:=mG r h1;exact ⟨c::cs,a,fun G g=>h2 _ (b _ g)⟩
theorem tJ.split:∀(s:tJ) {F:SV->Prop},s.ex F->∃x,F x/\∀G:SV->Prop,G x->s.ex G
 | .one s,_,h=>by obtain ⟨c,h1,h2⟩:=wD.split s h;exact ⟨.c c,h1,fun G g=>h2 _ g⟩
 | .agg l,_,h=>by obtain ⟨c,h1,h2⟩:=mG l h;exact ⟨.agg c,h1,fun G g=>h2 _ g⟩
theorem qw:∀(l:List tJ) {F:List (Bool×List C)->Prop},Of l F->∃x,F x/\∀G:List (Bool×List C)->Prop,G x->Of l G
 | [],_,h=>⟨_,h,fun _ g=>g⟩
 | .one s::r,_,h=>by
  obtain ⟨c,h1,h2⟩:=wD.split s h;obtain ⟨cs,a,b⟩:=qw r h1;exact ⟨_,a,fun G g=>h2 _ (b _ g)⟩
 | .agg l::r,_,h=>by
  obtain ⟨c,h1,h2⟩:=mG l h;obtain ⟨cs,a,b⟩:=qw r h1;exact ⟨_,a,fun G g=>h2 _ (b _ g)⟩
theorem Sh.split:∀(s:Sh) {F:SV->Prop},s.ex F->∃x,F x/\∀G:SV->Prop,G x->s.ex G
 | .val s,_,h=>tJ.split s h
 | .oB l,_,h=>by obtain ⟨x,h1,h2⟩:=qw l h;exact ⟨_,h1,fun G g=>h2 _ g⟩
 | .none,_,h=>⟨_,h,fun _ g=>g⟩
theorem Sh.mono {s:Sh}{F G:SV->Prop}(h:s.ex F)(k:∀x,F x->G x):s.ex G:=by
 obtain ⟨x,a,b⟩:=s.split h;exact b G (k x a)
theorem vH {l m:List Nat}:JU l m=true↔∀x∈l,x∈m:=by
 simp only [JU,List.all_eq_true,cf]
theorem uX {op:Op}{x:Operand}(h:x∈op.operands.toList){t:Nat}(e:x=.tmp t):t∈gX op:=by
 subst e;exact List.mem_filterMap.2 ⟨_,h,rfl⟩
theorem mL {st st2:St}{op:Op}(h:∀t∈gX op,st2.ao t=st.ao t){x:Operand}(hx:x∈op.operands.toList):st2.aQ x=st.aQ x:=by
 cases x with
 | tmp t=>exact h t (uX hx rfl)
 | _=>rfl
theorem uW {op:Op}{x:Operand}(h:x∈gW op):x∈op.operands.toList:=by
 unfold gW at h;split at h
 ·simpa [Op.operands] using h
 ·simp at h;subst h;simp [Op.operands]
 ·simp only [Op.operands,Call.operands];simp at h ⊢;rcases h with h|h
  ·exact .inr h
  ·exact .inl h
 ·simpa [Op.operands,Call.operands] using h
 ·cases h
theorem qO {ρ:Operand->Option SV}:∀{l:List Operand} {xs:List SV},bL ρ l=some xs->∀x∈l,∃v,ρ x=some v/\v∈xs
 | [],_,_,_,hx=>nomatch hx
 | o::r,xs,h,x,hx=>by
  simp only [bL] at h;split at h
  ·rename_i v l h1 h2;cases h;rcases List.mem_cons.1 hx with e|hx
   ·exact ⟨v,by rw [e];exact h1,by simp⟩
   ·obtain ⟨u,hu,hm⟩:=qO h2 x hx;exact ⟨u,hu,by simp [hm]⟩
  ·cases h
structure Outcome (P:Program) (T:cI) (m:CM) (h:Hint) (o:Oper) (st:St) (V:View) (R W:List Nat) (K:St->View->Prop) (p:Nat->Option SV) (q:Nat->Option aF):Prop where
 pd:∀t,t∉dJ o->p t=none
 qd:∀s,s∉W->q s=none
 next:K (ov p q st) V
 again:∀(st2:St)(V2:View)(K2:St->View->Prop),V.Le V2->(∀t∈gX o.op,st2.ao t=st.ao t)->(∀s∈R,st2.boxes s=st.boxes s)->K2 (ov p q st2) V2->cx P T m h o st2 V2 K2
variable {P:Program} {T:cI} {LF RF:List Nat} {m:CM}
theorem zW {o:Oper}{t:Nat}(h:t∉dJ o):o.dst≠some t:=by
 intro e;apply h;simp [dJ,e]
theorem LB {o:Oper}{st:St}{V:View}{K:St->View->Prop}{R W:List Nat}{Q0:Q}
  (hnew:∀sc b x,Q0=.new sc b x->dJ o=W/\dJ o=R)(S4:∀sc s b,Q0=.sG sc s b->s∈W)(happ:cO Q0≠6)
  (hv:sH Q0 o.dst st V K) :
  ∃p q,(∀t,t∉dJ o->p t=none)/\(∀s,s∉W->q s=none)/\K (ov p q st) V /\
   ∀(st2:St)(V2:View)(K2:St->View->Prop),V.Le V2->(∀s∈R,st2.boxes s=st.boxes s)->K2 (ov p q st2) V2->sH Q0 o.dst st2 V2 K2:=by
 cases Q0 with
 | fail=>exact hv.elim
 | ret sc x=>
  obtain ⟨h,k⟩:=(df sc _).1 hv;refine ⟨one o.dst x,fun _=>none,fun t l=>dg (zW l),fun _ _=>rfl,by rw [←eJ];exact k,?_⟩;intro st2 V2 K2 _ _ m;exact (df sc _).2 ⟨h,by rw [eJ];exact m⟩
 | new sc b x=>
  obtain ⟨r,u⟩:=hnew _ _ _ rfl;simp only [sH] at hv ⊢
  cases hd:o.dst with
  | none=>rw [hd] at hv;exact hv.elim
  | some d=>
   have n:dJ o=[d]:=by simp [dJ,hd]
   rw [hd] at hv;dsimp only at hv ⊢;split at hv
   ·rename_i v;obtain ⟨h,k⟩:=(df sc _).1 hv;refine ⟨one (some d) (x d),one (some d) b,fun t l=>dg (by intro e;apply l;rw [n];simpa using e.symm),fun s w=>dg (by intro e;apply w;rw [←r,n];simpa using e.symm),by rw [←yr];exact k,?_⟩;intro st2 V2 K2 _ y m;rw [y d (by rw [←u,n];simp),v];exact (df sc _).2 ⟨h,by rw [yr];exact m⟩
   ·exact hv.elim
 | sG sc s b=>
  simp only [sH] at hv ⊢
  cases hd:o.dst with
  | some d=>rw [hd] at hv;exact hv.elim
  | none=>
   rw [hd] at hv;dsimp only at hv ⊢;obtain ⟨h,k⟩:=(df sc _).1 hv;refine ⟨fun _=>none,one (some s) b,fun _ _=>rfl,fun t l=>dg (by intro e;apply l;have:=S4 _ _ _ rfl;simp at e;rw [←e];exact this),by rw [←DJ];exact k,?_⟩;intro st2 V2 K2 _ _ m;exact (df sc _).2 ⟨h,by rw [DJ];exact m⟩
 | rd a sh=>
  obtain ⟨x,h,k⟩:=sh.split hv;obtain ⟨z,A⟩:=pt.1 h;refine ⟨one o.dst x,fun _=>none,fun t l=>dg (zW l),fun _ _=>rfl,by rw [←eJ];exact A,?_⟩;intro st2 V2 K2 hle _ m;exact k _ (pt.2 ⟨NU hle z,by rw [eJ];exact m⟩)
 | ni vs of size sh=>
  obtain ⟨x,h,k⟩:=sh.split hv;refine ⟨one o.dst x,fun _=>none,fun t l=>dg (zW l),fun _ _=>rfl,by rw [←eJ];exact h.2,?_⟩;intro st2 V2 K2 hle _ m;exact k _ ⟨h.1,by rw [eJ];exact m⟩
 | app a b c d e f g i j=>exact absurd rfl happ
 | qK a b c d e f g i=>exact absurd rfl happ
theorem vo {o:Oper}(h:ma (aT LF RF o.op)=true)(st:St)(V:View)(K:St->View->Prop):cE P T m o st V K=sH (aC T st.aQ st.boxes o.op) o.dst st V K:=by
 unfold cE;split
 ·rename_i f args b a;rw [a] at h;exfalso
  cases f with
  | func f=>
   simp only [aT] at h;split at h
   ·split at h<;>cases h
   ·split at h
    ·cases h
    ·split at h<;>cases h
  | _=>cases h
 ·rename_i recv name args b a;rw [a] at h;cases h
 ·rfl
theorem nT {ρ:Operand->Option SV}{bx:Nat->Option aF}{op:Op}:cO (aC T ρ bx op)=2->aT LF RF op=.alloc:=by
 have eN:∀{q:Q} {X:Prop},cO q<=1->cO q=2->X:=by intro q X h h';omega
 unfold aC;split
 case h_8=>
  split
  ·intro h;rcases qU (bx:=bx) with h'|h'|h'|h'<;>(rw [h'] at h;cases h)
  ·exact eN (Nat.zero_le _)
 case h_9=>
  split
  ·intro h;rcases nW (bx:=bx) with h'|h'<;>(rw [h'] at h;cases h)
  ·exact eN (Nat.zero_le _)
 case h_11=>
  split
  ·split
   ·split
    ·exact eN pL
    ·exact eN (Nat.zero_le _)
   ·exact eN pL
  ·exact eN (Nat.zero_le _)
 case h_17=>exact fun _=>rfl
 case h_18=>
  split
  ·split
   ·split
    ·exact eN vI
    ·exact eN (Nat.zero_le _)
   ·exact eN (Nat.zero_le _)
  ·exact eN (Nat.zero_le _)
 case h_21=>
  split
  ·exact eN mo
  ·exact eN (Nat.zero_le _)
 case h_23 c=>
  split
  ·intro h;exfalso;split at h<;>(try split at h)<;>(try split at h)<;>(try split at h)<;>first|(rcases mj (bx:=bx) with h'|h'<;>(rw [h'] at h;cases h))|cases h
  ·split
   ·intro h;rcases nV (T:=T) (bx:=bx) with h'|h'<;>(rw [h'] at h;cases h)
   ·exact eN (Nat.zero_le _)
  ·split
   ·split
    ·exact eN pM
    ·exact eN (Nat.zero_le _)
   ·exact eN (Nat.zero_le _)
  ·exact eN (Nat.zero_le _)
 all_goals
  first
  | exact fun _=>rfl
  | exact eN (Nat.zero_le _)
  | ((repeat' split)<;>first|exact eN (Nat.zero_le _)|exact eN (Nat.le_refl _)|exact eN nk|(unfold vk;(repeat' split)<;>first|exact eN (Nat.zero_le _)|exact eN (Nat.le_refl _)))
theorem yP {st st2:St}{op:Op}(h:∀t∈gX op,st2.ao t=st.ao t):bL st2.aQ (gW op)=bL st.aQ (gW op):=
 dL _ fun _ a=>mL h (uW a)
theorem mO {h:Hint}{o:Oper}{st:St}{V:View}{K:St->View->Prop}{R W:List Nat}(hq:ma (aT LF RF o.op)=true)(hrw:pD (aT LF RF o.op) h (dJ o)=some (R,W))
  (hv:cx P T m h o st V K):∃p q,Outcome P T m h o st V R W K p q:=by
 have core:(∀g:St,(∀t∈gX o.op,g.ao t=st.ao t)->(∀s∈R,g.boxes s=st.boxes s)->aC T g.aQ g.boxes o.op=aC T st.aQ st.boxes o.op) ->
   (∀C b x,aC T st.aQ st.boxes o.op=.new C b x->dJ o=W/\dJ o=R)->(∀C s b,aC T st.aQ st.boxes o.op=.sG C s b->s∈W) ->
   (∀(g:St)(V2:View)(D:St->View->Prop),(∀t∈gX o.op,g.ao t=st.ao t)->cE P T m o g V2 D->cx P T m h o g V2 D) ->
   cE P T m o st V K->∃p q,Outcome P T m h o st V R W K p q:=by
  intro he U hu A hv;rw [vo hq] at hv
  obtain ⟨p,q,X,Y,Z,h4⟩:=LB (R:=R) (W:=W) U hu (fun n=>by
   obtain ⟨cl,d,F⟩:=(fC (T:=T) (ρ:=st.aQ) (bx:=st.boxes) (op:=o.op)).2.2 n;rw [d] at hq;obtain ⟨G,args,N⟩:=cl;dsimp only at F;subst F;cases hq) hv
  refine ⟨p,q,X,Y,Z,fun g V2 D hle H I hK=>?_⟩;refine A g V2 D H ?_;rw [vo hq,he g H I];exact h4 g V2 D hle I hK
 have O:aT LF RF o.op=.pure\/aT LF RF o.op=.alloc->h=.free->(aT LF RF o.op=.alloc->R=dJ o/\W=dJ o)->∃p q,Outcome P T m h o st V R W K p q:=by
  intro j hf hd;subst hf;refine core (fun g r _=>?_) (fun C b x n=>?_) (fun C s b n=>?_) (fun _ _ _ _ A=>A) hv
  ·rw [Jw (bx':=st.boxes) j];exact l_ fun x J=>mL r J
  ·have:=hd (nT (by rw [n];rfl));exact ⟨this.2.symm,this.1.symm⟩
  ·rcases (fC (T:=T) (ρ:=st.aQ) (bx:=st.boxes) (op:=o.op)).1 (by rw [n];rfl) with ⟨t,y,x,d⟩|⟨⟨G,args,N⟩,d,F⟩
   ·rw [d] at j;rcases j with j|j<;>cases j
   ·dsimp only at F;subst F;rw [d] at j;rcases j with j|j<;>cases j
 generalize j:aT LF RF o.op=c at hrw hq O
 cases c with
 | pure=>
  cases h with
  | free=>exact O (.inl rfl) rfl (fun e=>by cases e)
  | own l=>cases hrw
 | alloc=>
  cases h with
  | free=>
   simp only [pD,Option.some.injEq,Prod.mk.injEq] at hrw;exact O (.inr rfl) rfl (fun _=>⟨hrw.1.symm,hrw.2.symm⟩)
  | own l=>cases hrw
 | load=>
  cases h with
  | free=>cases hrw
  | own l=>
   simp only [pD,Option.some.injEq,Prod.mk.injEq] at hrw;obtain ⟨rfl,rfl⟩:=hrw
   have d:∃t a,o.op=.load t a:=by
    generalize o.op=op at j
    cases op with
    | load t a=>exact ⟨t,a,rfl⟩
    | call c=>obtain ⟨G,args,N⟩:=c;cases G with
     | builtin b=>cases b<;>cases j
     | value f=>cases f with
      | func f=>simp only [aT] at j;split at j<;>(try split at j)<;>(try split at j)<;>(try split at j)<;>cases j
      | _=>cases j
     | _=>cases j
    | _=>cases j
   obtain ⟨t,a,d⟩:=d;unfold cx at hv;dsimp only at hv;split at hv
   ·rename_i xs z;split at hv
    ·rename_i k
     have M:∀v,st.aQ a=some v->∀s∈v.ids,s∈l:=by
      intro v Q s r;rw [vH] at k;apply k;rw [d] at z;obtain ⟨u,hu,hm⟩:=qO z a (by simp [gW]);rw [d];simp only [dX];rw [Q] at hu;cases hu;exact List.mem_flatMap.2 ⟨_,hm,r⟩
     refine core (fun g r A=>?_) (fun C b x n=>?_) (fun C s b n=>?_) (fun g V2 D r A=>?_) hv
     ·rw [d] at r ⊢;rw [l_ (ρ':=st.aQ) fun x J=>mL r J];simp only [aC];split
      ·rename_i i v S L;exact (Jy fun s E=>A s (M v L s E)).symm
      ·rfl
     ·have:=nT (LF:=LF) (RF:=RF) (op:=o.op) (T:=T) (ρ:=st.aQ) (bx:=st.boxes) (by rw [n];rfl);rw [d] at this;cases this
     ·rcases (fC (T:=T) (ρ:=st.aQ) (bx:=st.boxes) (op:=o.op)).1 (by rw [n];rfl) with ⟨t,y,x,B⟩|⟨c,B,-⟩<;>(rw [d] at B;cases B)
     ·unfold cx;dsimp only;rw [yP r,z];dsimp only;have:dX g.boxes o.op (xs.flatMap SV.ids)=dX st.boxes o.op (xs.flatMap SV.ids):=by rw [d];rfl
      rw [this,k];exact A
    ·exact hv.elim
   ·exact hv.elim
 | store=>
  cases h with
  | free=>cases hrw
  | own l=>
   simp only [pD,Option.some.injEq,Prod.mk.injEq] at hrw;obtain ⟨rfl,rfl⟩:=hrw
   have d:∃t a x,o.op=.store t a x:=by
    generalize o.op=op at j
    cases op with
    | store t a x=>exact ⟨t,a,x,rfl⟩
    | call c=>obtain ⟨G,args,N⟩:=c;cases G with
     | builtin b=>cases b<;>cases j
     | value f=>cases f with
      | func f=>simp only [aT] at j;split at j<;>(try split at j)<;>(try split at j)<;>(try split at j)<;>cases j
      | _=>cases j
     | _=>cases j
    | _=>cases j
   obtain ⟨t,a,y,d⟩:=d;unfold cx at hv;dsimp only at hv;split at hv
   ·rename_i xs z;split at hv
    ·rename_i k
     have M:∀v,st.aQ a=some v->∀s∈v.ids,s∈l:=by
      intro v Q s r;rw [vH] at k;apply k;rw [d] at z;obtain ⟨u,hu,hm⟩:=qO z a (by simp [gW]);rw [d];simp only [dX];rw [Q] at hu;cases hu;exact List.mem_flatMap.2 ⟨_,hm,r⟩
     refine core (fun g r A=>?_) (fun C b x n=>?_) (fun C s b n=>?_) (fun g V2 D r A=>?_) hv
     ·rw [d] at r ⊢;rw [l_ (ρ':=st.aQ) fun x J=>mL r J];simp only [aC];split
      ·rename_i i v w S L hw;exact (G_ fun s E=>A s (M v L s E)).symm
      ·rfl
     ·have:=nT (LF:=LF) (RF:=RF) (op:=o.op) (T:=T) (ρ:=st.aQ) (bx:=st.boxes) (by rw [n];rfl);rw [d] at this;cases this
     ·rw [d] at n;simp only [aC] at n;split at n
      ·rename_i i v w S L hw;exact M v L s (Er n)
      ·cases n
     ·unfold cx;dsimp only;rw [yP r,z];dsimp only;have:dX g.boxes o.op (xs.flatMap SV.ids)=dX st.boxes o.op (xs.flatMap SV.ids):=by rw [d];rfl
      rw [this,k];exact A
    ·exact hv.elim
   ·exact hv.elim
 | _=>cases hq
end Go.Eng
