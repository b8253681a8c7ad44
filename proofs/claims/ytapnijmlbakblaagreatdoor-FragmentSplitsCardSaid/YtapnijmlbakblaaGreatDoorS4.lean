import Derived.Test.YtapnijmlbakblaaGreatDoorS3
set_option linter.unusedVariables false
open Go.IntKind (i64 u64 u32)
namespace Go.Eng
variable {P:Program} {T:cO} {n:Nat} {V0:View} {bA:Em} {β0:Nat->Nat} {st:St} {β:Nat->Nat} {a:Act} {w:World} {V:View}
def b_ (V:View)(w:World):View:=⟨w,fun b=>b<w.heap.size/\∀o,¬V.bw b o,fun _=>False,fun _ h=>h.1,fun _ h=>h.elim⟩
theorem sj (hM:Mod n V0 bA β0 st β a w V):V.Le (b_ V w):=fun b o c=>⟨fun h=>h.2 o c,(hM.ot b o c).1⟩
theorem j7.run {f:FuncId}(h:j7 P f)(xs:Array Value):(callFunc f xs).run P w=.ok (.enter f xs) w:=by
 obtain ⟨fn,a,b,c⟩:=h;simp only [callFunc,Sem.run_bind,run_program,Result.andThen_ok,a,c,b,Bool.false_eq_true,if_false,Sem.run_pure]
theorem bO {x:Nat}:∀{l:List Nat},x∈dedup l↔x∈l
 | []=>by simp [dedup]
 | y::r=>by
  simp only [dedup]
  cases h:eI y (dedup r) with
  | true=>
   simp only [cond_true,List.mem_cons];rw [bO];constructor
   ·exact .inr
   ·rintro (rfl|h')
    ·exact bO.1 (ct.1 h)
    ·exact h'
  | false=>simp only [cond_false,List.mem_cons];rw [bO]
theorem ew {bx:Nat->Option aO}:∀(k:Nat)(l:List Nat),∀x∈l,x∈reach bx k l
 | 0,_,x,hx=>hx
 | k+1,l,x,hx=>by simp only [reach];exact ew k _ x (bO.2 (List.mem_append_left _ hx))
theorem fG {bx:Nat->Option aO}{l:List Nat}(h:gO bx l=true){s:Nat}(hs:s∈l){b:aO}(hb:bx s=some b):∀t∈b.cs.ids,t∈l:=by
 unfold gO at h;rw [List.all_eq_true] at h;have:=h s hs;unfold KQ kN at this;rw [hb,List.all_eq_true] at this;exact fun t a=>ct.1 (this t a)
theorem iF {L:List Nat}:∀{γ:Nat->Nat} {k:(Nat->Nat)->Prop},kL L γ k->∀β:Nat->Nat,k (fun t=>if t∈L then β t else γ t):=by
 induction L with
 | nil=>
  intro γ k h β;have e:(fun t=>if t∈([]:List Nat) then β t else γ t)=γ:=by funext t;simp
  rw [e];exact h
 | cons s r ih=>
  intro γ k h β;have:=ih (h (β s)) β
  have e:(fun t=>if t∈r then β t else cU γ s (β s) t)=fun t=>if t∈s::r then β t else γ t:=by
   funext t;by_cases a:t∈r
   ·simp [a]
   ·by_cases b:t=s
    ·subst b;simp [a,aQ]
    ·simp [a,b,gi]
  rw [e] at this;exact this
theorem vV {bx:Nat->Option aO}{b:aO}{γ:Nat->Nat}{s:Nat}:∀{r:List Nat} {k:Prop},NV bx b γ s r k->(∀t∈r,∀b',bx t=some b'->b.live->b'.live->γ s=γ t->s=t)->(∀t∈r,∃b',bx t=some b')->k
 | [],_,h,_,_=>h
 | t::r,k,h,hi,hl=>by
  simp only [NV] at h
  cases hb:Nat.beq s t with
  | true=>rw [hb] at h;exact vV h (fun t ht=>hi t (List.mem_cons_of_mem _ ht)) (fun t ht=>hl t (List.mem_cons_of_mem _ ht))
  | false=>
   rw [hb] at h;obtain ⟨b',hb'⟩:=hl t (by simp);simp only [hb',cond_false] at h;refine vV (h ?_) (fun t ht=>hi t (List.mem_cons_of_mem _ ht)) (fun t ht=>hl t (List.mem_cons_of_mem _ ht));rw [sJ,fu];intro l;rw [fu];intro a e;have:=hi t (by simp) b' hb' l a e;rw [this,Nat.beq_refl] at hb;cases hb
theorem vL {bx:Nat->Option aO}{γ:Nat->Nat}{V':View}:∀{L:List Nat} {k:Prop},ij bx γ V' L k->(∀s∈L,∀b,bx s=some b->b.live->V'.w.heap[γ s]?=some (b.obj γ)/\V'.H (γ s)) ->
  (∀s∈L,∀t∈L,∀b b',bx s=some b->b.live->bx t=some b'->b'.live->γ s=γ t->s=t)->(∀s∈L,∃b,bx s=some b)/\k
 | [],k,h,_,_=>⟨fun s hs=>(nomatch hs),h⟩
 | s::r,k,h,hf,hi=>by
  simp only [ij] at h;split at h
  ·rename_i b hb
   obtain ⟨h3,h5⟩:=vL (h (fu.2 fun l=>(hf s (by simp) b hb l).1) (fu.2 fun l=>(hf s (by simp) b hb l).2)) (fun c a=>hf c (List.mem_cons_of_mem _ a))
    (fun c a t d=>hi c (List.mem_cons_of_mem _ a) t (List.mem_cons_of_mem _ d))
   have f:=vV h5 (fun t d b' e l g=>hi s (by simp) t (List.mem_cons_of_mem _ d) b b' hb l e g) h3;exact ⟨fun c a=>by rcases List.mem_cons.1 a with rfl|a;exact ⟨b,hb⟩;exact h3 c a,f⟩
  ·exact h.elim
theorem iH {bx:Nat->Option aO}{γ:Nat->Nat}{V':View}:∀{L:List Nat} {k:Prop},qj bx γ V' L k->(∀s∈L,∀b,bx s=some b->b.live->V'.bw (γ s) (b.obj γ))->(∀s∈L,∃b,bx s=some b)/\k
 | [],k,h,_=>⟨fun s hs=>(nomatch hs),h⟩
 | s::r,k,h,hf=>by
  simp only [qj] at h;split at h
  ·rename_i b hb;obtain ⟨h3,h4⟩:=iH (h (fu.2 (hf s (by simp) b hb))) (fun c a=>hf c (List.mem_cons_of_mem _ a));exact ⟨fun c a=>by rcases List.mem_cons.1 a with rfl|a;exact ⟨b,hb⟩;exact h3 c a,h4⟩
  ·exact h.elim
theorem gV {mv:Option (Nat×Nat)}:∀(cs zs:List C) {K:List C->Prop},kZ mv cs zs K->∃cs',K cs'/\∀s∈cs'.flatMap C.ids,s∈cs.flatMap C.ids\/∃m,mv=some (m,s)
 | [],_,_,h=>⟨[],h,fun s hs=>(nomatch hs)⟩
 | c::r,[],_,h=>h.elim
 | c::r,z::zr,K,h=>by
  simp only [kZ] at h;split at h
  ·split at h
   ·rename_i m nb;split at h
    ·obtain ⟨n,c,h⟩:=h;obtain ⟨cs',a,b⟩:=gV r zr h;refine ⟨_,a,fun s hs=>?_⟩;simp only [List.flatMap_cons,List.mem_append] at hs ⊢;rcases hs with hs|hs
     ·simp only [C.ids,List.mem_singleton] at hs;subst hs;exact .inr ⟨m,rfl⟩
     ·exact (b s hs).imp .inr id
    ·exact h.elim
   ·exact h.elim
  ·split at h
   ·obtain ⟨v,d,e⟩:=xu.dY _ h;obtain ⟨cs',a,b⟩:=gV r zr e
    exact ⟨v::cs',a,fun s hs=>by
     simp only [List.flatMap_cons,d,List.nil_append,List.mem_append] at hs ⊢;exact (b s hs).imp .inr id⟩
   ·obtain ⟨cs',a,b⟩:=gV r zr h
    exact ⟨c::cs',a,fun s hs=>by
     simp only [List.flatMap_cons,List.mem_append] at hs ⊢;rcases hs with hs|hs
     ·exact .inl (.inl hs)
     ·exact (b s hs).imp .inr id⟩
theorem Mod.fill (h:Mod n V0 bA β0 st β a w V){s:Nat}{b0 b:aO}(hs:st.boxes s=some b0)(fO:∀t∈b.cs.ids,∃b',st.boxes t=some b')
  (hg:∀t b',st.boxes t=some b'->b'.live->t≠s->β t≠β s)(hV:∀o,¬V.bw (β s) o)(hown:V0.w.heap.size<=β s\/(100000<=s/\bA.B (β s)))(hw:w.heap[β s]?=some (b.obj β)) :
  Mod n V0 bA β0 (st.box s b) β a w V:=by
 have j:∀t,(∃b',st.boxes t=some b')->∃b',(st.box s b).boxes t=some b':=by
  rintro t ⟨b',c⟩;rw [ao];split
  ·exact ⟨_,rfl⟩
  ·exact ⟨b',c⟩
 refine ⟨h.defers,h.size,h.ar,fun t x q u hu=>j u (h.xC t x q u hu),?_,?_,?_,h.ot,?_,h.ext,?_,h.kM,h.jK,h.small⟩
 ·intro t b' c u hu;rw [ao] at c;split at c
  ·simp only [Option.some.injEq] at c;exact j u (fO u (c▸hu))
  ·exact j u (h.xB t b' c u hu)
 ·intro t b' c l;rw [ao] at c;split at c
  ·rename_i e;simp only [Option.some.injEq] at c;rw [e,←c];exact hw
  ·exact h.boxes t b' c l
 ·intro t k b1 b2 g m i p he;rw [ao] at g i;split at g<;>split at i
  ·rename_i d f;rw [d,f]
  ·rename_i d f;rw [d] at he;exact absurd he.symm (hg k b2 i p f)
  ·rename_i d f;rw [f] at he;exact absurd he (hg t b1 g m d)
  ·exact h.inj t k b1 b2 g m i p he
 ·intro t b' c l;rw [ao] at c;split at c
  ·rename_i e;rw [e];exact hV
  ·exact h.tE t b' c l
 ·intro t b' c l;rw [ao] at c;split at c
  ·rename_i e;rw [e];exact hown
  ·exact h.own t b' c l
theorem Mod.later (hM:Mod n V0 bA β0 st β a w V){X:Nat->Prop}{w':World}(hx:il X w w')(hX:∀t b,st.boxes t=some b->b.live->¬X (β t))(hX0:∀i,i<V0.w.heap.size->X i->V0.X i){V1:View}
  (Pf:∀b o,V1.bw b o->w'.heap[b]?=some o/\¬V0.H b)(rB:∀t b,st.boxes t=some b->b.live->∀o,¬V1.bw (β t) o):Mod n V0 bA β0 st β a w' V1:=by
 refine ⟨hM.defers,hM.size,hM.ar,hM.xC,hM.xB,?_,hM.inj,Pf,rB,?_,hM.own,hM.kM,hM.jK,hM.small⟩
 ·intro t b d l;have:=hM.boxes t b d l;rw [hx.bw _ (ax this) (hX t b d l)];exact this
 ·refine ⟨Nat.le_trans hM.ext.size hx.size,fun i c e=>?_,hx.os.trans hM.ext.os,hx.tape.trans hM.ext.tape,hx.out.trans hM.ext.out⟩;rw [hx.bw i (Nat.lt_of_lt_of_le c hM.ext.size) (fun h=>e (hX0 i c h))];exact hM.ext.bw i c e
theorem Mod.beta (hM:Mod n V0 bA β0 st β a w V){d g:Nat}(hd:d<n\/200000<=d)(hn:st.boxes d=none):Mod n V0 bA β0 st (cU β d g) a w V:=by
 have m:∀s f,st.boxes s=some f->s≠d:=fun s f j e=>by rw [e,hn] at j;cases j
 have hβ:∀s f,st.boxes s=some f->cU β d g s=β s:=fun s f j=>gi _ _ (m s f j);refine ⟨hM.defers,hM.size,?_,hM.xC,hM.xB,?_,?_,hM.ot,?_,hM.ext,?_,?_,hM.jK,hM.small⟩
 ·intro t x q;rw [hM.ar t x q];exact SV.bL fun s j=>by obtain ⟨f,i⟩:=hM.xC t x q s j;exact (hβ s f i).symm
 ·intro s b c l;rw [hβ s b c,hM.boxes s b c l];congr 1;exact aO.cI fun k o=>by obtain ⟨p,r⟩:=hM.xB s b c k o;exact (hβ k p r).symm
 ·intro s k b f c l i u he;rw [hβ s b c,hβ k f i] at he;exact hM.inj s k b f c l i u he
 ·intro s b c l;rw [hβ s b c];exact hM.tE s b c l
 ·intro s b c l;rw [hβ s b c];exact hM.own s b c l
 ·intro s j;obtain ⟨v,y⟩:=hM.kM s j;exact ⟨v,by rw [gi _ _ (by have:=hM.small;omega)];exact y⟩
theorem jH {ty:TypeId}:∀{L:List Nat} {st:St},(dk st L ty).ar=st.ar
 | [],_=>rfl
 | s::r,st=>by unfold dk;rw [List.foldl_cons];exact jH (L:=r)
theorem bj {ty:TypeId}:∀{L:List Nat} {st:St} (t:Nat),(dk st L ty).boxes t=if t∈L then some ⟨.aP [],ty⟩ else st.boxes t
 | [],st,t=>by simp [dk]
 | s::r,st,t=>by
  have:=bj (ty:=ty) (L:=r) (st:=st.box s ⟨.aP [],ty⟩) t;unfold dk at this ⊢;rw [List.foldl_cons,this,ao];by_cases a:t∈r
  ·simp [a]
  ·by_cases b:t=s
   ·simp [b]
   ·simp [a,b]
theorem Mod.G5 {ty:TypeId}:∀{L:List Nat} {st:St},Mod n V0 bA β0 st β a w V->Mod n V0 bA β0 (dk st L ty) β a w V
 | [],_,h=>h
 | s::r,st,h=>by unfold dk;rw [List.foldl_cons];exact Mod.G5 (L:=r) h.void
theorem k_ {mv:Option (Nat×Nat)}{γ:Nat->Nat}{V2:View}{A:List Nat}(hV2:V2.w=w)(VC:∀s∈A,γ s=β s)(hinj:∀s∈A,∀s'∈A,β s=β s'->s=s')(rB:∀s∈A,∀o,¬V.bw (β s) o)
  (hown:∀s∈A,V0.w.heap.size<=β s\/(100000<=s/\bA.B (β s))) :
  ∀(L:List Nat) (KO yj:St) {k:St->Prop},(∀s∈L,s∈A)->Mod n V0 bA β0 yj β a w V->KO.ar=yj.ar->(∀t,t∉L->KO.boxes t=yj.boxes t)->(∀s∈L,∃b,yj.boxes s=some b) ->
   (∀t b,yj.boxes t=some b->b.live->t∉A->∀s∈A,β t≠β s)->(∀s∈L,∀b,KO.boxes s=some b->∀t∈b.cs.ids,(∃b',yj.boxes t=some b')/\γ t=β t)->(∀m nb,mv=some (m,nb)->(∃b',yj.boxes nb=some b')/\γ nb=β nb) ->
   dL T mv γ V2 L KO k->∃st',Mod n V0 bA β0 st' β a w V/\st'.ar=yj.ar/\(∀t,(∃b,yj.boxes t=some b)->∃b,st'.boxes t=some b)/\k st'
 | [],KO,yj,k,_,hM,hsl,hag,_,_,_,_,h=>by
  have:KO=yj:=by
   obtain ⟨s1,b1⟩:=KO;obtain ⟨s2,b2⟩:=yj;dsimp only at hsl hag;subst hsl;congr 1;funext t;exact hag t (by simp)
  exact ⟨yj,hM,rfl,fun _ h=>h,this▸h⟩
 | s::r,KO,yj,k,hA,hM,hsl,hag,hb,hd,hw,hmv,h=>by
  have g:=hA s (by simp);obtain ⟨P,z⟩:=hb s (by simp)
  have step:∀b1:aO,(∀t∈b1.cs.ids,(∃b',yj.boxes t=some b')/\γ t=β t)->w.heap[γ s]?=some (b1.obj γ)->dL T mv γ V2 r (KO.box s b1) k ->
    ∃st',Mod n V0 bA β0 st' β a w V/\st'.ar=yj.ar/\(∀t,(∃b,yj.boxes t=some b)->∃b,st'.boxes t=some b)/\k st':=by
   intro b1 u H h;rw [VC s g,aO.cI fun t c=>(u t c).2] at H;by_cases C:s∈r
   ·
    refine k_ hV2 VC hinj rB hown r (KO.box s b1) yj (fun s' d=>hA s' (List.mem_cons_of_mem _ d)) hM hsl ?_ (fun s' d=>hb s' (List.mem_cons_of_mem _ d)) hd ?_ hmv h
    ·intro t c;have:t≠s:=fun e=>c (e▸C);rw [ao,if_neg this];exact hag t (by simp [this,c])
    ·intro s' d b' f t c;rw [ao] at f;split at f
     ·cases f;exact u t c
     ·exact hw s' (List.mem_cons_of_mem _ d) b' f t c
   ·have D:=hM.fill (b:=b1) z (fun t c=>(u t c).1) (by
     intro t b' c l E he;by_cases v:t∈A
     ·exact E (hinj t v s g he)
     ·exact hd t b' c l v s g he) (rB s g) (hown s g) H
    have x:∀t,(∃b,yj.boxes t=some b)->∃b,(yj.box s b1).boxes t=some b:=by
     rintro t ⟨b,c⟩;rw [ao];split
     ·exact ⟨_,rfl⟩
     ·exact ⟨b,c⟩
    obtain ⟨st',I,J,K,M⟩:=k_ hV2 VC hinj rB hown r (KO.box s b1) (yj.box s b1) (fun s' d=>hA s' (List.mem_cons_of_mem _ d)) D hsl
     (by
      intro t c;rw [ao,ao];split
      ·rfl
      ·rename_i e;exact hag t (by simp [e,c]))
     (fun s' d=>x s' (hb s' (List.mem_cons_of_mem _ d)))
     (by
      intro t b' c l v;rw [ao] at c;split at c
      ·rename_i e;exact absurd (e▸g) v
      ·exact hd t b' c l v)
     (by
      intro s' d b' f t c;rw [ao] at f;split at f
      ·cases f;exact ⟨x t (u t c).1,(u t c).2⟩
      ·have:=hw s' (List.mem_cons_of_mem _ d) b' f t c;exact ⟨x t this.1,this.2⟩)
     (fun m nb e=>⟨x nb (hmv m nb e).1,(hmv m nb e).2⟩) h
    exact ⟨st',I,J,fun t c=>K t (x t c),M⟩
  simp only [dL] at h;split at h
  ·rename_i cs ty p;split at h
   ·rename_i i Q;obtain ⟨F,⟨j,y⟩,N⟩:=gV _ _ h;rw [hV2] at j;refine step ⟨.lit F,ty⟩ (fun t c=>?_) j y;rcases N t c with G|⟨m,G⟩
    ·exact hw s (by simp) _ p t G
    ·exact hmv m t G
   ·exact h.elim
  ·rename_i O ty p;obtain ⟨q,j,y⟩:=h;rw [hV2] at j;exact step ⟨.row q,ty⟩ (fun t c=>(nomatch c)) j y
  ·rename_i O ty p;obtain ⟨-,q,-,j,y⟩:=h;rw [hV2] at j;exact step ⟨.aP q,ty⟩ (fun t c=>(nomatch c)) j y
  ·exact h.elim
theorem vK {mv:Option (Nat×Nat)}{V2:View}:∀{L:List Nat} {st:St} {k:St->Prop},dL T mv β V2 L st k->∀s∈L,∃b,st.boxes s=some b/\b.live
 | [],_,_,_,s,hs=>nomatch hs
 | s::r,st,k,h,t,ht=>by
  have core:∀b1:aO,(∃b,st.boxes s=some b/\b.live)->dL T mv β V2 r (st.box s b1) k->∃b,st.boxes t=some b/\b.live:=by
   intro b1 hs h;by_cases e:t=s
   ·rw [e];exact hs
   ·have:=vK h t (by simpa [e] using ht);rw [ao,if_neg e] at this;exact this
  simp only [dL] at h;split at h
  ·rename_i cs ty a;split at h
   ·obtain ⟨i,⟨g,c⟩,l⟩:=gV _ _ h;exact core _ ⟨_,a,cD⟩ c
   ·exact h.elim
  ·rename_i j ty a;obtain ⟨d,g,c⟩:=h;exact core _ ⟨_,a,cq⟩ c
  ·rename_i j ty a;obtain ⟨f,d,-,g,c⟩:=h;exact core _ ⟨_,a,fun _ e=>by cases e;exact f⟩ c
  ·exact h.elim
theorem vJ {bx:Nat->Option aO}{γ:Nat->Nat}{N b:Nat}{L:List Nat}(hl:∀s∈L,∃b,bx s=some b)(hb:b∈L.map (cS bx γ N))(hlt:b<N):∃s∈L,∃b0,bx s=some b0/\b0.live/\γ s=b:=by
 obtain ⟨s,c,he⟩:=List.mem_map.1 hb;obtain ⟨b0,a⟩:=hl s c;unfold cS at he;rw [a] at he;obtain ⟨cs,ty⟩:=b0
 cases cs with
 | lit cs=>exact ⟨s,c,_,a,cD,he⟩
 | row cs=>exact ⟨s,c,_,a,cq,he⟩
 | aP vs=>
  cases vs with
  | nil=>simp only [vb] at he;omega
  | cons v r=>exact ⟨s,c,_,a,eg (by simp),he⟩
theorem sI {nb:Nat}:∀{xs:List (Bool×List C)},(xs.flatMap fun x=>x.2.flatMap C.ids)=[]->∀s∈((uq nb xs).flatMap fun x=>x.2.flatMap C.ids),s=nb
 | [],_,s,hs=>nomatch hs
 | x::r,h,s,hs=>by
  simp only [List.flatMap_cons,List.append_eq_nil_iff] at h;unfold uq at hs;split at hs
  ·rename_i heq;cases heq
  ·rename_i heq;cases heq;simp only [List.flatMap_cons,h.2,List.flatMap_nil,List.append_nil] at hs;simpa [C.ids] using hs
  ·rename_i heq;cases heq;simp only [List.flatMap_cons,List.mem_append,h.1,List.not_mem_nil,false_or] at hs;exact sI h.2 s hs
theorem vA {nb:Nat}:∀{cs:List C},(cs.flatMap C.ids)=[]->∀s∈(A0 nb cs).flatMap C.ids,s=nb
 | [],_,s,hs=>nomatch hs
 | x::r,h,s,hs=>by
  simp only [List.flatMap_cons,List.append_eq_nil_iff] at h;unfold A0 at hs;split at hs
  ·rename_i heq;cases heq
  ·rename_i heq;cases heq;simp only [List.flatMap_cons,h.2,List.append_nil] at hs;simpa [C.ids] using hs
  ·rename_i heq;cases heq;simp only [List.flatMap_cons,List.mem_append,h.1,List.not_mem_nil,false_or] at hs;exact vA h.2 s hs
theorem ET {nb:Nat}{x:SV}(h:x.ids=[]):∀s∈(rz nb x).ids,s=nb:=by
 intro s a;unfold rz at a;split at a
 ·simpa [SV.ids,C.ids] using a
 ·exact vA h s a
 ·exact sI h s a
 ·rw [h] at a;cases a
theorem Cx {xs:List SV}(h:∀x∈xs,x.ids=[])(γ δ:Nat->Nat):aL γ xs=aL δ xs:=by
 unfold aL;rw [List.map_congr_left fun x a=>jz (h x a) γ δ]
theorem Mod.Oz {w0:World}{V':View}(hM:Mod n V0 bA β0 st β a w V')(hlt:∀s b,st.boxes s=some b->b.live->β s<w0.heap.size)(hsz:V0.w.heap.size<=w0.heap.size){d b:Nat}{cs:List C}{e:TypeId}(hd:d<n)(hn:st.boxes d=none)
  (hb:w0.heap.size<=b)(hw:V'.w=w)(hblk:V'.bw b (.cells (cs.map (C.den fun _=>0)).toArray e (0,0)))(fO:cs.flatMap C.ids=[]) :
  Mod n V0 bA β0 ((st.box d ⟨.lit cs,e⟩).put (some d) (.c (.ptr d 0))) (cU β d b) (a.put (some d) (.pointer (some ⟨b,0,none⟩))) w (V'.Jq b):=by
 have r:∀s g,st.boxes s=some g->s≠d:=fun s g f e=>by rw [e,hn] at f;cases f
 have hβ:∀s g,st.boxes s=some g->cU β d b s=β s:=fun s g f=>gi _ _ (r s g f);have u:w.heap[b]?=some (.cells (cs.map (C.den fun _=>0)).toArray e (0,0)):=(hM.ot b _ hblk).1
 have F:(⟨.lit cs,e⟩:aO).obj (cU β d b)=.cells (cs.map (C.den fun _=>0)).toArray e (0,0):=by
  simp only [aO.obj,Cells.den];rw [kX (β':=fun _=>0) fun s f=>by rw [fO] at f;cases f]
 have G:Mod n V0 bA β0 (st.box d ⟨.lit cs,e⟩) (cU β d b) a w (V'.Jq b):=by
  refine ⟨hM.defers,hM.size,?_,?_,?_,?_,?_,?_,?_,hM.ext,?_,?_,hM.jK,hM.small⟩
  ·intro t x y;rw [hM.ar t x y];exact SV.bL fun s f=>by obtain ⟨g,p⟩:=hM.xC t x y s f;exact (hβ s g p).symm
  ·intro t x y s f;obtain ⟨g,p⟩:=hM.xC t x y s f;exact ⟨g,by rw [ao,if_neg (r s g p)];exact p⟩
  ·intro s g f m i;rw [ao] at f;split at f
   ·simp only [Option.some.injEq] at f;rw [←f] at i;simp only [Cells.ids] at i;rw [fO] at i;cases i
   ·obtain ⟨q,z⟩:=hM.xB s g f m i;exact ⟨q,by rw [ao,if_neg (r m q z)];exact z⟩
  ·intro s g f l;rw [ao] at f;split at f
   ·rename_i v;simp only [Option.some.injEq] at f;rw [v,aQ,←f,F];exact u
   ·rw [hβ s g f,hM.boxes s g f l];congr 1;exact aO.cI fun m i=>by obtain ⟨q,z⟩:=hM.xB s g f m i;exact (hβ m q z).symm
  ·intro s m b1 b2 j D k E he;rw [ao] at j k;split at j<;>split at k
   ·rename_i A B;rw [A,B]
   ·rename_i A B;rw [A,aQ,hβ m b2 k] at he;have:=hlt m b2 k E;omega
   ·rename_i A B;rw [B,aQ,hβ s b1 j] at he;have:=hlt s b1 j D;omega
   ·rw [hβ s b1 j,hβ m b2 k] at he;exact hM.inj s m b1 b2 j D k E he
  ·rintro x o ⟨j,k⟩;exact hM.ot x o ⟨fun h=>j (.inl h),k⟩
  ·rintro s g f l o ⟨j,k⟩;rw [ao] at f;split at f
   ·rename_i v;rw [v,aQ] at j;exact j (.inr ⟨rfl,by rw [hw];exact ax u⟩)
   ·rw [hβ s g f] at j k;exact hM.tE s g f l o ⟨fun h=>j (.inl h),k⟩
  ·intro s g f l;rw [ao] at f;split at f
   ·rename_i v;rw [v,aQ];exact .inl (Nat.le_trans hsz hb)
   ·rw [hβ s g f];exact hM.own s g f l
  ·intro s f;obtain ⟨j,k⟩:=hM.kM s f;exact ⟨j,by rw [gi _ _ (by have:=hM.small;omega)];exact k⟩
 refine G.put hd ?_ ?_
 ·simp only [SV.den,C.den,aQ]
 ·intro s f;simp [SV.ids,C.ids] at f;subst f;exact ⟨_,by rw [ao,if_pos rfl]⟩
theorem vS {L:List Nat}{m s:Nat}:s∈(L.filter fun s=>!(Nat.beq s m))↔s∈L/\s≠m:=by
 rw [List.mem_filter];constructor
 ·rintro ⟨b,a⟩;refine ⟨b,fun e=>?_⟩;subst e;rw [Nat.beq_refl] at a;cases a
 ·rintro ⟨b,a⟩;refine ⟨b,?_⟩
  cases h:Nat.beq s m with
  | false=>rfl
  | true=>exact absurd (beq_eq.1 h) a
theorem mw (hM:Mod n V0 bA β0 st β a w V){L:List Nat}{γ:Nat->Nat}(ig:∀s∈L,γ s=β s)(hcl:∀s∈L,∀b,st.boxes s=some b->∀t∈b.cs.ids,t∈L)(hlive:∀s∈L,∃b,st.boxes s=some b)
  {give:Bool}{sh:Sh}{m:Option Nat}{d:Nat}(hd:d<n){ety:TypeId}{K:St->View->Prop}{w':World}{r:Value}(hm:∀k,m=some k->k∈L)(hfree:ja st m d=true)
  (hx:il (fun b=>b∈L.map (cS st.boxes γ w.heap.size)/\(b_ V w).H b) w w')
  (hr:bP T give sh L m d ety γ st (b_ V w) K r (((b_ V w).aF (L.map (cS st.boxes γ w.heap.size))).to w' hx.size)) :
  ∃st' β' V',Mod n V0 bA β0 st' β' (a.put (some d) r) w' V'/\K st' V':=by
 have a4:V0.w.heap.size<=w.heap.size:=hM.ext.size;unfold bP at hr;generalize hnb:eU m d=nb at hr;obtain ⟨C,p,J,Pg,M⟩:=hr;obtain ⟨x,N,rfl,hr⟩:=Sh.dY sh M;clear M
 have X:st.boxes nb=none:=by
  unfold ja at hfree;rw [hnb] at hfree;split at hfree
  ·cases hfree
  ·assumption
 have NA:nb<n\/200000<=nb:=by
  rw [←hnb]
  cases m with
  | none=>exact .inl hd
  | some m=>exact Bc hd
 generalize hV1:((((b_ V w).aF (L.map (cS st.boxes γ w.heap.size))).to w' hx.size).shut.gX (p≠[]) C)=V1 at hr;have U_:V1.w=w':=by rw [←hV1];rfl
 have Y:∀b o,V1.bw b o->w'.heap[b]?=some o/\¬(b<w.heap.size/\∀o,¬V.bw b o)/\¬(p≠[]/\b=C/\b<w'.heap.size):=by
  rintro b o ⟨z,D⟩;rw [U_] at D;rw [←hV1] at z;refine ⟨D,fun h=>z (.inl h),fun h=>z (.inr ⟨h.1,h.2.1,by rw [←h.2.1];exact h.2.2⟩)⟩
 have Pf:∀b o,V1.bw b o->w'.heap[b]?=some o/\¬V0.H b:=by
  intro b o h;obtain ⟨z,D,-⟩:=Y b o h;refine ⟨z,fun hH=>?_⟩;by_cases Z:b<w.heap.size
  ·exact D ⟨Z,fun o' a0=>(hM.ot b o' a0).2 hH⟩
  ·have:=V0.hH b hH;omega
 have rB:∀s b,st.boxes s=some b->b.live->∀o,¬V1.bw (β s) o:=fun s b g l o ho=>
  (Y _ o ho).2.1 ⟨ax (hM.boxes s b g l),hM.tE s b g l⟩
 have Q7:∀b,(b∈L.map (cS st.boxes γ w.heap.size)/\(b_ V w).H b)->∃s∈L,∃q,st.boxes s=some q/\q.live/\β s=b:=by
  rintro b ⟨z,D⟩;obtain ⟨s,c,q,f,B,he⟩:=vJ hlive z D.1;exact ⟨s,c,q,f,B,by rw [←ig s c];exact he⟩
 have Ej:Mod n V0 bA β0 (dk st L ety) β a w' V1:=by
  refine (hM.G5 (L:=L) (ty:=ety)).later hx ?_ ?_ Pf ?_
  ·intro t b g l hX;rw [bj] at g;split at g
   ·cases g;exact eW l
   ·rename_i v;obtain ⟨s,c,q,f,B,he⟩:=Q7 _ hX;exact v (hM.inj s t q b f B g l he▸c)
  ·intro i hi hX;obtain ⟨s,c,q,f,B,rfl⟩:=Q7 _ hX;rcases hM.own s q f B with h|h
   ·omega
   ·exact hM.jK _ h.2
  ·intro t b g l;rw [bj] at g;split at g
   ·cases g;exact absurd l eW
   ·exact rB t b g l
 have Rb:(dk st L ety).boxes nb=none:=by
  rw [bj,if_neg]
  ·exact X
  ·intro h;obtain ⟨b,g⟩:=hlive nb h;rw [X] at g;cases g
 have EY:p≠[]->w.heap.size<=C\/∃k q,m=some k/\st.boxes k=some q/\q.live/\C=β k:=by
  intro u;rcases Pg u with h|h
  ·exact .inl h
  ·right
   cases m with
   | none=>exact h.elim
   | some k=>
    have U:=hm k rfl;obtain ⟨q,f⟩:=hlive k U;simp only [xl,f] at h;obtain ⟨cs,ty⟩:=q
    cases cs with
    | lit cs=>exact ⟨k,_,rfl,f,cD,by rw [←ig k U];exact h⟩
    | row cs=>exact ⟨k,_,rfl,f,cq,by rw [←ig k U];exact h⟩
    | aP cs=>exact ⟨k,_,rfl,f,eg h.1,by rw [←ig k U];exact h.2⟩
 have a1:Mod n V0 bA β0 ((dk st L ety).box nb ⟨.aP p,ety⟩) (cU β nb C) a w' V1:=by
  by_cases u:p=[]
  ·subst u;exact (Ej.beta NA Rb).void
  ·have Q8:w'.heap[C]?=some (.cells p.toArray ety (0,0)):=J u;refine Ej.ie NA Rb rfl ?_ ?_ ?_ Q8 (fun _ _ _=>rfl) (Nat.le_refl _) rfl rfl rfl
   ·intro s b g l he;rw [bj] at g;split at g
    ·cases g;exact eW l
    ·rename_i a2;rcases EY u with h|⟨k,q,O,f,B,h⟩
     ·have:=ax (hM.boxes s b g l);omega
     ·exact a2 (hM.inj k s q b f B g l (h▸he.symm)▸hm k O)
   ·intro o ho;exact (Y _ o ho).2.2 ⟨u,rfl,ax Q8⟩
   ·rcases EY u with h|⟨k,q,O,f,B,h⟩
    ·left;omega
    ·rcases hM.own k q f B with W|W
     ·left;rw [h];exact W
     ·right;refine ⟨?_,by rw [h];exact W.2⟩;rw [←hnb,O];exact GD W.1
 have EW:∀s,(∃b,st.boxes s=some b)->s≠nb:=by rintro s ⟨b,g⟩ rfl;rw [X] at g;cases g
 generalize hA:C0 m L=A at hr
 have E:∀s∈A,s∈L/\∀k,m=some k->s≠k:=by
  intro s c;rw [←hA] at c
  cases m with
  | none=>exact ⟨c,fun k h=>nomatch h⟩
  | some k=>obtain ⟨z,D⟩:=vS.1 c;exact ⟨z,fun j hj=>by cases hj;exact D⟩
 have Yr:∀s∈L,(∀k,m=some k->s≠k)->s∈A:=by
  intro s c h;rw [←hA]
  cases m with
  | none=>exact c
  | some k=>exact vS.2 ⟨c,h k rfl⟩
 have I:∀s,(∃b,st.boxes s=some b)->cU γ nb C s=γ s/\cU β nb C s=β s:=fun s c=>⟨gi _ _ (EW s c),gi _ _ (EW s c)⟩
 have Ri:∀s∈A,((pQ m ety st).box nb ⟨.aP p,ety⟩).boxes s=st.boxes s:=by
  intro s c;obtain ⟨z,D⟩:=E s c;rw [ao,if_neg (EW s (hlive s z))]
  cases m with
  | none=>rfl
  | some k=>simp only [pQ];rw [ao,if_neg (D k rfl)]
 have P:∀s∈A,∃b,st.boxes s=some b/\b.live:=by
  intro s c;have:=vK hr s c;rw [Ri s c] at this;exact this
 obtain ⟨st',g1,g2,g3,g4⟩:=k_ (a:=a) (w:=w') (V:=V1) (γ:=cU γ nb C) (β:=cU β nb C) (by rfl) (fun s c=>by
   have:=I s (hlive s (E s c).1);rw [this.1,this.2];exact ig s (E s c).1)
  (by
   intro s c Q R he;rw [(I s (hlive s (E s c).1)).2,(I Q (hlive Q (E Q R).1)).2] at he;obtain ⟨b1,y,F⟩:=P s c;obtain ⟨b2,e2,l2⟩:=P Q R;exact hM.inj s Q b1 b2 y F e2 l2 he)
  (by
   intro s c;obtain ⟨b1,y,F⟩:=P s c;rw [(I s ⟨b1,y⟩).2];exact rB s b1 y F)
  (by
   intro s c;obtain ⟨b1,y,F⟩:=P s c;rw [(I s ⟨b1,y⟩).2];exact hM.own s b1 y F)
  A _ ((dk st L ety).box nb ⟨.aP p,ety⟩) (fun _ h=>h) a1
  (by
   show _=(dk st L ety).ar;rw [jH];cases m<;>rfl)
  (by
   intro t v;rw [ao,ao];split
   ·rfl
   ·rw [bj]
    cases m with
    | none=>
     simp only [pQ];rw [if_neg fun h=>v (Yr t h fun k e=>nomatch e)]
    | some k=>
     simp only [pQ];rw [ao];split
     ·rename_i e;rw [if_pos (e▸hm k rfl)]
     ·rename_i e;rw [if_neg fun h=>v (Yr t h fun j hj=>by cases hj;exact e)])
  (by
   intro s c;rw [ao];split
   ·exact ⟨_,rfl⟩
   ·rw [bj,if_pos (E s c).1];exact ⟨_,rfl⟩)
  (by
   intro t b v l Md s c;obtain ⟨b1,y,F⟩:=P s c;rw [(I s ⟨b1,y⟩).2];rw [ao] at v;split at v
   ·rename_i e;simp only [Option.some.injEq] at v;rw [e,aQ];have u:p≠[]:=fun e0=>by rw [←v,e0] at l;exact eW l
    rcases EY u with h|⟨k,q,O,f,B,h⟩
    ·have:=ax (hM.boxes s b1 y F);omega
    ·intro he;exact (E s c).2 k O (hM.inj k s q b1 f B y F (h▸he)).symm
   ·rw [bj] at v;split at v
    ·cases v;exact absurd l eW
    ·rename_i S;intro he;rw [(I t ⟨b,v⟩).2] at he;exact S (hM.inj t s b b1 v l y F he▸(E s c).1))
  (by
   intro s c b g t v;rw [Ri s c] at g;have S:=hcl s (E s c).1 b g t v;have G:=I t (hlive t S);refine ⟨?_,by rw [G.1,G.2];exact ig t S⟩;rw [ao];split
   ·exact ⟨_,rfl⟩
   ·rw [bj,if_pos S];exact ⟨_,rfl⟩)
  (by
   intro k a3 e
   have:a3=nb:=by
    cases m with
    | none=>cases e
    | some m=>cases e;rfl
   subst this;exact ⟨⟨_,by rw [ao,if_pos rfl]⟩,by rw [aQ,aQ]⟩)
  hr
 obtain ⟨b2,G⟩:=g3 nb ⟨_,by rw [ao,if_pos rfl]⟩
 have fO:∀s∈(cond give (rz nb x) x).ids,s=nb:=by
  cases give with
  | true=>exact ET N
  | false=>intro s c;rw [cond_false,N] at c;cases c
 refine ⟨_,_,_,g1.put (x:=cond give (rz nb x) x) hd ?_ ?_,g4⟩
 ·exact SV.bL fun s c=>by rw [fO s c,aQ,aQ]
 ·intro s c;rw [fO s c];exact ⟨b2,G⟩
theorem jy (hM:Mod n V0 bA β0 st β a w V){m:CM}{f:FuncId}{xs:List SV}{ty:TypeId}{dst:Option Nat}{K:St->View->Prop}{next:Act->World->Prop}{Q:Exit->Act->World->Prop}
  (hd:∀d,dst=some d->d<n)(hv:fy P T m f xs ty dst st V K)
  (hK:∀st' β' a' w' V',Mod n V0 bA β0 st' β' a' w' V'->K st' V'->next a' w') :
  j7 P f/\Calls P f (aL β xs) w fun
   | .returned v,w''=>next (a.put dst v) w''
   | .panicked chain,w''=>Q (.panic chain) a w''
   | .outgrown,_=>LetsOut Q:=by
 have hle:=sj hM;have a9:V0.w.heap.size<=w.heap.size:=hM.ext.size;unfold fy at hv;split at hv
 ·exact hv.elim
 ·rename_i sh c2;split at hv
  ·
   rename_i fO
   have b5:∀x∈xs,x.ids=[]:=by
    intro x u;rcases hx':x.ids with _|⟨s,r⟩
    ·rfl
    ·exfalso;have:s∈reach st.boxes 3 (dedup (xs.flatMap SV.ids)):=ew 3 _ s (bO.2 (List.mem_flatMap.2 ⟨x,u,by rw [hx'];simp⟩));rw [fO] at this;cases this
   have Ys:∀(w':World)(u:il (fun _=>False) w w'),Mod n V0 bA β0 st β a w' ((b_ V w).to w' u.size):=by
    intro w' u;refine hM.later u (fun _ _ _ _ h=>h) (fun _ _ h=>h.elim) ?_ ?_
    ·rintro b o ⟨D,G⟩;refine ⟨G,fun hH=>?_⟩;by_cases U:b<w.heap.size
     ·apply D;refine ⟨U,fun o' W=>(hM.ot b o' W).2 hH⟩
     ·have:=V0.hH b hH;omega
    ·rintro s b p l o ⟨D,-⟩;exact D ⟨ax (hM.boxes s b p l),hM.tE s b p l⟩
   rw [Cx b5 β fun _=>0];split at hv
   ·
    split at hv
    ·rename_i d N c3;split at hv
     ·exact hv.elim
     ·rename_i q;obtain ⟨hc,X⟩:=hv (b_ V w) hle;refine ⟨hc,Calls.mono X ?_⟩;rintro e' w' ⟨r,rfl,u,Y⟩;have A:il (fun b=>b∈([]:List Nat).map (cS st.boxes (fun _=>0) w.heap.size)/\(b_ V w).H b) w w':=u.mono fun _ h=>h.elim
      have a6:bP T true sh [] Option.none d N (fun _=>0) st (b_ V w) K r (((b_ V w).aF (([]:List Nat).map (cS st.boxes (fun _=>0) w.heap.size))).to w' A.size):=by
       unfold bP C0 at Y ⊢;exact Y
      obtain ⟨st',β',V',D,G⟩:=mw (T:=T) (give:=true) (m:=Option.none) hM (fun s g=>absurd g (by simp)) (fun s g=>absurd g (by simp)) (fun s g=>absurd g (by simp)) (hd d rfl) (fun k J=>by cases J) q A a6;exact hK _ _ _ _ _ D G
    ·exact hv.elim
   ·split at hv
    ·rename_i d;split at hv
     ·exact hv.elim
     ·rename_i hn;split at hv
      ·rename_i ti c4;split at hv
       ·rename_i e he;split at hv
        ·rename_i ei CL;obtain ⟨hc,X⟩:=hv (b_ V w) hle;refine ⟨hc,Calls.mono X ?_⟩;rintro e' w' ⟨r,rfl,u,b,Y⟩;obtain ⟨cs,D,G,rfl,h4,h5,h6⟩:=pO _ Y;exact hK _ _ _ _ _ ((Ys w' u).Oz (w0:=w) (fun s b p l=>ax (hM.boxes s b p l)) a9 (hd d rfl) hn h4 rfl h5 D) h6
        ·exact hv.elim
       ·exact hv.elim
      ·exact hv.elim
    ·exact hv.elim
   ·obtain ⟨hc,X⟩:=hv (b_ V w) hle;refine ⟨hc,Calls.mono X ?_⟩;rintro e w' ⟨r,rfl,u,Y⟩;obtain ⟨x,A,rfl,Z⟩:=Sh.dY sh Y;have u:il (fun _=>False) w w':=u;exact hK (st.put dst x) β _ _ _ ((Ys w' u).Fl hd (jz A _ _) (bQ A)) Z
  ·rename_i s0 r0 fO;split at hv
   ·exact hv.elim
   ·rename_i a4;generalize hL:s0::r0=L at hv fO a4
    have Tv:∀x∈xs,∀s∈x.ids,s∈L:=by
     intro x u s g;rw [←fO];exact ew 3 _ s (bO.2 (List.mem_flatMap.2 ⟨x,u,g⟩))
    have a1:∀s∈L,∀b,st.boxes s=some b->∀t∈b.cs.ids,t∈L:=fun s g b p=>fG a4 g p
    have RY:∀{R:(Nat->Nat)->Value->View->Prop},(kL L (fun _=>0) fun γ=>ij st.boxes γ (b_ V w) L (ae P f (aL γ xs) ((b_ V w).aF (L.map (cS st.boxes γ w.heap.size))) (R γ))) ->
      ∃γ,(∀s∈L,γ s=β s)/\(∀s∈L,∃b,st.boxes s=some b)/\ae P f (aL β xs) ((b_ V w).aF (L.map (cS st.boxes γ w.heap.size))) (R γ):=by
     intro R hv;have O:=iF hv β;generalize hγ:(fun t=>if t∈L then β t else (fun _=>0) t)=γ at O;have F:∀s∈L,γ s=β s:=fun s g=>by rw [←hγ];simp [g]
     have vB:∀s∈L,∀b,st.boxes s=some b->b.obj γ=b.obj β:=fun s g b p=>aO.cI fun t S=>F t (a1 s g b p t S)
     obtain ⟨z,b6⟩:=vL O (by
      intro s g b p l;rw [F s g,vB s g b p];exact ⟨hM.boxes s b p l,ax (hM.boxes s b p l),hM.tE s b p l⟩) (by
      intro s g t S b b' p l b7 l' e;rw [F s g,F t S] at e;exact hM.inj s t b b' p l b7 l' e)
     refine ⟨γ,F,z,?_⟩
     have E:aL γ xs=aL β xs:=by
      unfold aL;rw [List.map_congr_left fun x u=>SV.bL fun s g=>F s (Tv x u s g)]
     rw [←E];exact b6
    have a0:∀{give:Bool} {mm:Option Nat} {d:Nat} {N:TypeId},dst=some d->(∀k,mm=some k->k∈L)->ja st mm d=true ->
      (∀V':View,V.Le V'->kL L (fun _=>0) fun γ=>ij st.boxes γ V' L (ae P f (aL γ xs) (V'.aF (L.map (cS st.boxes γ V'.w.heap.size))) (bP T give sh L mm d N γ st V' K))) ->
      j7 P f/\Calls P f (aL β xs) w fun
       | .returned v,w''=>next (a.put dst v) w''
       | .panicked chain,w''=>Q (.panic chain) a w''
       | .outgrown,_=>LetsOut Q:=by
     intro give mm d N a5 b8 q hv;obtain ⟨γ,F,z,hc,X⟩:=RY (R:=fun γ=>bP T give sh L mm d N γ st (b_ V w) K) (hv (b_ V w) hle);refine ⟨hc,Calls.mono X ?_⟩;rintro e w' ⟨r,rfl,u,Y⟩;obtain ⟨st',β',V',D,G⟩:=mw hM F a1 z (hd d a5) b8 q u Y;rw [a5];exact hK _ _ _ _ _ D G
    have VT:∀k,k∈pY st.boxes L->k∈L:=by
     intro k J;unfold pY at J;obtain ⟨s,g,J⟩:=List.mem_flatMap.1 (bO.1 J);split at J
     ·rename_i cs ty p;refine a1 s g _ p k ?_
      have:∀cs:List C,k∈oL cs->k∈cs.flatMap C.ids:=by
       intro cs
       induction cs with
       | nil=>exact fun h=>nomatch h
       | cons c r ih=>
        intro h;rw [List.flatMap_cons,List.mem_append]
        cases c<;>simp only [oL,List.mem_cons] at h<;>first
         | exact .inr (ih h)
         | (rcases h with h|h
            ·left;simp [C.ids,h]
            ·exact .inr (ih h))
      exact this cs J
     ·cases J
    have UD:∀k,k∈ld xs->k∈L:=by
     intro k J
     have:∀xs:List SV,k∈ld xs->∃x∈xs,k∈x.ids:=by
      intro xs
      induction xs with
      | nil=>exact fun h=>nomatch h
      | cons x r ih=>
       intro h;unfold ld at h;split at h
       ·rename_i heq;cases heq
       ·rename_i s n c r' heq;cases heq;exact ⟨.c (.gQ s n c),List.mem_cons_self,h⟩
       ·rename_i s n c r' heq;cases heq;exact ⟨.c (.kI s 0 n c),List.mem_cons_self,h⟩
       ·rename_i heq;cases heq;obtain ⟨y,hy,J⟩:=ih h;exact ⟨y,by simp [hy],J⟩
     obtain ⟨x,u,J⟩:=this xs J;exact Tv x u k J
    split at hv
    ·exact hv.elim
    ·exact hv.elim
    ·
     split at hv
     ·split at hv
      ·exact hv.elim
      ·rename_i q;exact a0 rfl (fun k J=>by cases J) q hv
     ·rename_i d N k _ b9 _;split at hv
      ·split at hv
       ·exact hv.elim
       ·rename_i q;exact a0 rfl (fun j hj=>by cases hj;exact UD k (by rw [b9];simp)) q hv
      ·split at hv
       ·exact hv.elim
       ·rename_i q;split at hv
        ·exact hv.elim
        ·
         rename_i B;rw [List.all_eq_true] at B;let Vr:View:=⟨w,fun b=>(b<w.heap.size/\∀o,¬V.bw b o)/\¬∃s∈L,∃M,st.boxes s=some M/\M.live/\β s=b,fun _=>False,fun _ h=>h.1.1,fun _ h=>h.elim⟩;have a2:V.Le Vr:=fun b o p=>⟨fun h=>h.1.2 o p,(hM.ot b o p).1⟩
         have CJ:Mod n V0 bA β0 (dk st L 0) β a w Vr:=by
          have Ej:=hM.G5 (L:=L) (ty:=0);refine ⟨Ej.defers,Ej.size,Ej.ar,Ej.xC,Ej.xB,Ej.boxes,Ej.inj,?_,?_,Ej.ext,Ej.own,Ej.kM,Ej.jK,hM.small⟩
          ·rintro b o ⟨D,G⟩;refine ⟨G,fun hH=>?_⟩;have U:=ax G;apply D;refine ⟨⟨U,fun o' W=>(hM.ot b o' W).2 hH⟩,fun hm=>?_⟩;obtain ⟨s,g,M,I,l0,rfl⟩:=hm;rcases hM.own s M I l0 with h|h
           ·have:=V0.hH _ hH;omega
           ·have:=Nat.le_of_ble_eq_true (B s g);omega
          ·rintro s b p l o ⟨D,-⟩;rw [bj] at p;split at p
           ·cases p;exact absurd l eW
           ·rename_i a7;refine D ⟨⟨ax (hM.boxes s b p l),hM.tE s b p l⟩,fun hm=>?_⟩;obtain ⟨s',a3,bs,a8,ls,he⟩:=hm;exact a7 (hM.inj s' s bs b a8 ls p l he▸a3)
         have O:=iF (hv (b_ Vr w) (a2.trans (sj CJ))) β;generalize hγ:(fun t=>if t∈L then β t else (fun _=>0) t)=γ at O;have F:∀s∈L,γ s=β s:=fun s g=>by rw [←hγ];simp [g]
         obtain ⟨z,hc,X⟩:=iH O (by
          intro s g b p l;rw [F s g,aO.cI fun t S=>F t (fG a4 g p t S)];exact sj CJ _ _ ⟨fun h=>h.2 ⟨s,g,b,p,l,rfl⟩,hM.boxes s b p l⟩)
         refine ⟨hc,?_⟩
         have E:aL γ xs=aL β xs:=by
          unfold aL;rw [List.map_congr_left fun x u=>SV.bL fun s g=>F s (Tv x u s g)]
         rw [E] at X;refine Calls.mono X ?_;rintro e' w' ⟨r,rfl,u,Y⟩;have A:il (fun b=>b∈([]:List Nat).map (cS (dk st L 0).boxes (fun _=>0) w.heap.size)/\(b_ Vr w).H b) w w':=u.mono fun _ h=>h.elim
         have a6:bP T true sh [] Option.none d N (fun _=>0) (dk st L 0) (b_ Vr w) K r (((b_ Vr w).aF (([]:List Nat).map (cS (dk st L 0).boxes (fun _=>0) w.heap.size))).to w' A.size):=by
          unfold bP C0 at Y ⊢;exact Y
         obtain ⟨st',β',V',D,G⟩:=mw (T:=T) (give:=true) (m:=Option.none) CJ (fun s g=>absurd g (by simp)) (fun s g=>absurd g (by simp)) (fun s g=>absurd g (by simp)) (hd d rfl) (fun k J=>by cases J) q A a6;exact hK _ _ _ _ _ D G
     ·exact hv.elim
    ·
     split at hv
     ·obtain ⟨γ,F,z,hc,X⟩:=RY (R:=fun γ r' eH=>sh.ex fun x=>r'=x.den (fun _=>0)/\dL T Option.none γ eH L st fun st'=>K (st'.put dst x) eH.shut) (hv (b_ V w) hle);refine ⟨hc,Calls.mono X ?_⟩;rintro e w' ⟨r,rfl,u,Y⟩;obtain ⟨x,A,rfl,Z⟩:=Sh.dY sh Y;have u:il (fun b=>b∈L.map (cS st.boxes γ w.heap.size)/\(b_ V w).H b) w w':=u;generalize hV1:(((b_ V w).aF (L.map (cS st.boxes γ w.heap.size))).to w' u.size)=V2 at Z;have Va:V2.w=w':=by rw [←hV1];rfl
      have Q7:∀b,(b∈L.map (cS st.boxes γ w.heap.size)/\(b_ V w).H b)->∃s∈L,∃M,st.boxes s=some M/\M.live/\β s=b:=by
       rintro b ⟨D,G⟩;obtain ⟨s,g,M,I,l0,he⟩:=vJ z D G.1;exact ⟨s,g,M,I,l0,by rw [←F s g];exact he⟩
      have HE:∀b o,V2.shut.bw b o->w'.heap[b]?=some o/\¬(b<w.heap.size/\∀o,¬V.bw b o):=by
       rintro b o ⟨D,G⟩;rw [←hV1] at D G;exact ⟨G,D⟩
      have rB:∀s b,st.boxes s=some b->b.live->∀o,¬V2.shut.bw (β s) o:=fun s b p l o ho=>
       (HE _ o ho).2 ⟨ax (hM.boxes s b p l),hM.tE s b p l⟩
      have Ej:Mod n V0 bA β0 (dk st L 0) β a w' V2.shut:=by
       refine (hM.G5 (L:=L) (ty:=0)).later u ?_ ?_ ?_ ?_
       ·intro t b p l hX;rw [bj] at p;split at p
        ·cases p;exact eW l
        ·rename_i S;obtain ⟨s,g,M,I,l0,he⟩:=Q7 _ hX;exact S (hM.inj s t M b I l0 p l he▸g)
       ·intro i hi hX;obtain ⟨s,g,M,I,l0,rfl⟩:=Q7 _ hX;rcases hM.own s M I l0 with h|h
        ·omega
        ·exact hM.jK _ h.2
       ·intro b o h;obtain ⟨D,G⟩:=HE b o h;refine ⟨D,fun hH=>?_⟩;by_cases U:b<w.heap.size
        ·exact G ⟨U,fun o' W=>(hM.ot b o' W).2 hH⟩
        ·have:=V0.hH b hH;omega
       ·intro t b p l;rw [bj] at p;split at p
        ·cases p;exact absurd l eW
        ·exact rB t b p l
      have iX:=vK Z
      obtain ⟨st',g1,g2,g3,g4⟩:=k_ (a:=a) (w:=w') (V:=V2.shut) (γ:=γ) (β:=β) Va F
       (by
        intro s g s' a3 he;obtain ⟨b1,e1,l1⟩:=iX s g;obtain ⟨b2,e2,l2⟩:=iX s' a3;exact hM.inj s s' b1 b2 e1 l1 e2 l2 he)
       (by intro s g;obtain ⟨b1,e1,l1⟩:=iX s g;exact rB s b1 e1 l1)
       (by intro s g;obtain ⟨b1,e1,l1⟩:=iX s g;exact hM.own s b1 e1 l1)
       L st (dk st L 0) (fun _ h=>h) Ej jH.symm (by intro t S;rw [bj,if_neg S])
       (by intro s g;rw [bj,if_pos g];exact ⟨_,rfl⟩)
       (by
        intro t b S l Md s g he;rw [bj,if_neg Md] at S;obtain ⟨b1,e1,l1⟩:=iX s g;exact Md (hM.inj t s b b1 S l e1 l1 he▸g))
       (by
        intro s g b p t S;have ND:=a1 s g b p t S;exact ⟨by rw [bj,if_pos ND];exact ⟨_,rfl⟩,F t ND⟩)
       (fun m nb e=>by cases e) Z
      exact hK _ _ _ _ _ (g1.Fl hd (jz A _ _) (bQ A)) g4
     ·rename_i k c0;split at hv
      ·rename_i d N _;split at hv
       ·exact hv.elim
       ·rename_i q;exact a0 rfl (fun j hj=>by cases hj;exact VT k (by rw [c0];simp)) q hv
      ·exact hv.elim
     ·exact hv.elim
    ·
     split at hv
     ·exact hv.elim
     ·rename_i B;rw [List.all_eq_true] at B;let Vr:View:=⟨w,fun b=>(b<w.heap.size/\∀o,¬V.bw b o)/\¬∃s∈L,∃M,st.boxes s=some M/\M.live/\β s=b,fun _=>False,fun _ h=>h.1.1,fun _ h=>h.elim⟩;have a2:V.Le Vr:=fun b o p=>⟨fun h=>h.1.2 o p,(hM.ot b o p).1⟩;have O:=iF (hv Vr a2) β;generalize hγ:(fun t=>if t∈L then β t else (fun _=>0) t)=γ at O;have F:∀s∈L,γ s=β s:=fun s g=>by rw [←hγ];simp [g]
      obtain ⟨z,hc,X⟩:=iH O (by
       intro s g b p l;rw [F s g,aO.cI fun t S=>F t (fG a4 g p t S)];exact ⟨fun h=>h.2 ⟨s,g,b,p,l,rfl⟩,hM.boxes s b p l⟩)
      refine ⟨hc,?_⟩
      have E:aL γ xs=aL β xs:=by
       unfold aL;rw [List.map_congr_left fun x u=>SV.bL fun s g=>F s (Tv x u s g)]
      rw [E] at X;refine Calls.mono X ?_;rintro e w' ⟨r,rfl,u,Y⟩;obtain ⟨x,A,rfl,Z⟩:=Sh.dY sh Y;have u:il (fun _=>False) w w':=u;refine hK ((st.rel L γ (C.den β)).put dst x) β _ _ _ ?_ (Z (C.den β));have CJ:=hM.rel (L:=L) (β':=γ) F
      have c1:Mod n V0 bA β0 (st.rel L γ (C.den β)) β a w' (Vr.to w' u.size):=by
       refine CJ.later u (fun _ _ _ _ h=>h) (fun _ _ h=>h.elim) ?_ ?_
       ·rintro b o ⟨D,G⟩;refine ⟨G,fun hH=>?_⟩;by_cases U:b<w.heap.size
        ·apply D;refine ⟨⟨U,fun o' W=>(hM.ot b o' W).2 hH⟩,fun hm=>?_⟩;obtain ⟨s,g,M,I,l0,rfl⟩:=hm;rcases hM.own s M I l0 with h|h
         ·have:=V0.hH _ hH;omega
         ·have:=Nat.le_of_ble_eq_true (B s g);omega
        ·have:=V0.hH b hH;omega
       ·rintro s b p l o ⟨D,-⟩;obtain ⟨a7,y,hy,rfl⟩:=fM p;have ly:=aO.eY l;refine D ⟨⟨ax (hM.boxes s y hy ly),hM.tE s y hy ly⟩,fun hm=>?_⟩;obtain ⟨s',a3,bs,a8,ls,he⟩:=hm;exact a7 (hM.inj s' s bs y a8 ls hy ly he▸a3)
      exact c1.Fl hd (jz A _ _) (bQ A)
theorem Mod.release (hM:Mod n V0 bA β0 st β a w V){l:List Nat}{K:St->View->Prop}(hv:G4 l st V K):∃st' V',Mod n V0 bA β0 st' β a w V'/\V.Le V'/\K st' V':=by
 unfold G4 at hv;split at hv
 ·exact ⟨st,V,hM,fun _ _ h=>h,hv⟩
 ·rename_i G H;split at hv
  ·exact hv.elim
  ·rename_i k;generalize hL:G::H=L at hv k;rw [Bool.and_eq_true,List.all_eq_true] at k;obtain ⟨m,d⟩:=k;let Vr:View:=⟨w,fun b=>(b<w.heap.size/\∀o,¬V.bw b o)/\¬∃s∈L,∃j,st.boxes s=some j/\j.live/\β s=b,fun _=>False,fun _ h=>h.1.1,fun _ h=>h.elim⟩;have e:V.Le Vr:=fun b o f=>⟨fun h=>h.1.2 o f,(hM.ot b o f).1⟩;have i:=iF (hv Vr e) β;generalize hγ:(fun t=>if t∈L then β t else (fun _=>0) t)=γ at i;have p:∀s∈L,γ s=β s:=fun s g=>by rw [←hγ];simp [g]
   obtain ⟨q,I⟩:=iH i (by
    intro s g b f l;rw [p s g,aO.cI fun t J=>p t (fG m g f t J)];exact ⟨fun h=>h.2 ⟨s,g,b,f,l,rfl⟩,hM.boxes s b f l⟩)
   have c:=hM.rel (L:=L) (β':=γ) p;refine ⟨_,Vr,?_,e,I (C.den β)⟩;refine ⟨c.defers,c.size,c.ar,c.xC,c.xB,c.boxes,c.inj,?_,?_,c.ext,c.own,c.kM,c.jK,hM.small⟩
   ·rintro b o ⟨r,F⟩;refine ⟨F,fun hH=>?_⟩;have u:=ax F;apply r;refine ⟨⟨u,fun M v=>(hM.ot b M v).2 hH⟩,fun hm=>?_⟩;obtain ⟨s,g,j,x,N,rfl⟩:=hm;rcases hM.own s j x N with h|h
    ·have:=V0.hH _ hH;omega
    ·have:=Nat.le_of_ble_eq_true (d s g);omega
   ·rintro s b f l o ⟨r,-⟩;obtain ⟨z,y,A,rfl⟩:=fM f;have B:=aO.eY l;refine r ⟨⟨ax (hM.boxes s y A B),hM.tE s y A B⟩,fun hm=>?_⟩;obtain ⟨O,D,P,E,ls,he⟩:=hm;exact z (hM.inj O s P y E ls A B he▸D)
theorem wC {bx:Nat->Option aO}{β:Nat->Nat}:∀{xs xs':List SV} {vs:List Value} {c:Nat},lC bx xs=some (vs,c,xs')->c=0->xs'.map (SV.den β)=xs.map (SV.den β)
 | [],_,_,_,h,_=>nomatch h
 | x::r,xs',vs,c,h,hc=>by
  simp only [lC] at h;split at h
  ·split at h
   ·cases h;subst hc;simp [SV.den,C.den,mA]
   ·cases h
  ·split at h
   ·rename_i e;cases h;rw [List.map_cons,List.map_cons,wC e hc]
   ·cases h
theorem wD {bx:Nat->Option aO}:∀{xs xs':List SV} {vs:List Value} {c:Nat},lC bx xs=some (vs,c,xs')->∀t∈xs'.flatMap SV.ids,t∈xs.flatMap SV.ids
 | [],_,_,_,h=>nomatch h
 | x::r,xs',vs,c,h=>by
  simp only [lC] at h;split at h
  ·split at h
   ·cases h;intro t ht;simp only [List.flatMap_cons,SV.ids,C.ids,List.mem_append] at ht ⊢;right;simpa using ht
   ·cases h
  ·split at h
   ·rename_i e;cases h;intro t ht;rw [List.flatMap_cons,List.mem_append] at ht ⊢;exact ht.imp_right (wD e t)
   ·cases h
theorem qv {bx bx':Nat->Option aO}:∀{xs:List SV},(∀s∈xs.flatMap SV.ids,bx' s=bx s)->lC bx' xs=lC bx xs
 | [],_=>rfl
 | x::r,h=>by
  have ih:=qv (xs:=r) fun s a=>h s (by rw [List.flatMap_cons];exact List.mem_append_right _ a);simp only [lC];rw [ih];split
  ·rename_i s n c;rw [h s (by rw [List.flatMap_cons];exact List.mem_append_left _ (by simp [SV.ids,C.ids]))]
  ·rfl
theorem va (hM:Mod n V0 bA β0 st β a w V){m:CM}{f:FuncId}{xs:List SV}{ty:TypeId}{dst:Option Nat}{K:St->View->Prop}{next:Act->World->Prop}{Q:Exit->Act->World->Prop}
  (hd:∀d,dst=some d->d<n)(hv:jU P T m f xs ty dst st V K)
  (hK:∀st' β' a' w' V',Mod n V0 bA β0 st' β' a' w' V'->K st' V'->next a' w') :
  j7 P f/\Calls P f (aL β xs) w fun
   | .returned v,w''=>next (a.put dst v) w''
   | .panicked chain,w''=>Q (.panic chain) a w''
   | .outgrown,_=>LetsOut Q:=by
 unfold jU at hv;split at hv
 ·split at hv
  ·rename_i b c g e;by_cases h:b=[]
   ·obtain ⟨i,j⟩:=hv.1 h;have:=jy (Q:=Q) hM hd j hK;unfold aL at this ⊢;rw [wC e i] at this;exact this
   ·exact jy hM hd (hv.2 h) hK
  ·exact jy hM hd hv hK
 ·exact jy hM hd hv hK
end Go.Eng
namespace Go.Eng
variable {P:Program} {T:cO} {n:Nat} {V0:View} {bA:Em} {β0:Nat->Nat} {st:St} {β:Nat->Nat} {a:Act} {w:World} {V:View}
theorem Ff {t:TypeId}{name:String}{f:FuncId}(h:Fe P t name=some f)(k:Nat)(v:Value)(w:World):(Go.method (k+1) t v name).run P w=.ok (f,v) w:=by
 unfold Fe at h;split at h
 ·rename_i i d b c;split at h
  ·rename_i m hm;split at h
   ·rename_i j l e g;cases h;have a:m.path=#[]:=by apply Array.ext';exact e
    simp only [Go.method,typeInfo,Sem.run_bind,run_program,Result.andThen_ok,b,hm,Sem.run_pure,a,follow,g,receiverAt,aj c,Place.get]
   ·cases h
  ·cases h
 ·cases h
theorem sB (hT:cO.ok P T)(hM:Mod n V0 bA β0 st β a w V){m:CM}{o:Oper}{K:St->View->Prop}{next:Act->World->Prop}{Q:Exit->Act->World->Prop}
  (hd:∀d,o.dst=some d->d<n)(hv:cL P T m o st V K)
  (hK:∀st' β' a' w' V',Mod n V0 bA β0 st' β' a' w' V'->K st' V'->next a' w'):o.wp P a w next Q:=by
 unfold cL at hv;split at hv
 ·rename_i z args q e;split at hv
  ·rename_i xs g;obtain ⟨h,r⟩:=fK hM _ _ g;split at hv
   ·rename_i f ss i;obtain ⟨j,k⟩:=va (Q:=Q) hM hd hv hK;have l:args.map a.eval=(xs.map (SV.den β)).toArray:=by apply Array.ext';rw [Array.toList_map];exact h
    have p:aL β (xs++ve ss)=(xs.map (SV.den β)).toArray++(ss.map fun s=>Value.pointer (some ⟨β s,0,none⟩)).toArray:=by
     unfold aL ve;rw [List.map_append,List.map_map];apply Array.ext';simp [Function.comp_def,SV.den,C.den]
    have b:(execOp a.eval o).run P w=.ok (.enter f (aL β (xs++ve ss))) w:=by
     rw [p];simp only [execOp,e,resolve,hM.eval i,SV.den,C.den,Deferred.ofValue,pure_bind,invoke,l,Array.empty_append];exact j.run _
    unfold Oper.wp;rw [b];exact k
   ·exact hv.elim
  ·exact hv.elim
 ·rename_i recv name args q e;split at hv
  ·rename_i xs g;obtain ⟨h,r⟩:=fK hM _ _ g;split at hv
   ·rename_i t v i;split at hv
    ·rename_i f u;obtain ⟨j,k⟩:=va (Q:=Q) hM hd hv hK;have l:args.map a.eval=(xs.map (SV.den β)).toArray:=by apply Array.ext';rw [Array.toList_map];exact h
     have p:aL β (.c (.w v)::xs)=#[v]++(xs.map (SV.den β)).toArray:=by
      unfold aL;apply Array.ext';simp [SV.den,C.den]
     have b:(execOp a.eval o).run P w=.ok (.enter f (aL β (.c (.w v)::xs))) w:=by
      rw [p]
      have x:(#[Value.iface t v]++(xs.map (SV.den β)).toArray).extract 1 (#[Value.iface t v]++(xs.map (SV.den β)).toArray).size=(xs.map (SV.den β)).toArray:=by
       apply Array.ext';simp;exact List.take_of_length_le (by simp)
      have y:(#[Value.iface t v]++(xs.map (SV.den β)).toArray)[0]?=some (Value.iface t v):=by simp
      simp only [execOp,e,resolve,hM.eval i,SV.den,C.den,pure_bind,invoke,l,y,x,callMethod,Sem.run_bind,run_program,Result.andThen_ok,Made.depth];rw [Ff u];exact j.run _
     unfold Oper.wp;rw [b];exact k
    ·exact hv.elim
   ·exact hv.elim
  ·exact hv.elim
 ·exact Dj hT hM hd hv hK
theorem iL (hT:cO.ok P T)(hM:Mod n V0 bA β0 st β a w V){m:CM}{h:Hint}{o:Oper}{K:St->View->Prop}{next:Act->World->Prop}{Q:Exit->Act->World->Prop}
  (hd:∀d,o.dst=some d->d<n)(hv:cG P T m h o st V K)
  (hK:∀st' β' a' w' V',Mod n V0 bA β0 st' β' a' w' V'->K st' V'->next a' w'):o.wp P a w next Q:=by
 unfold cG at hv;split at hv
 ·exact sB hT hM hd hv hK
 ·split at hv
  ·split at hv
   ·exact sB hT hM hd hv hK
   ·exact hv.elim
  ·exact hv.elim
theorem Mod.refine (hM:Mod n V0 bA β0 st β a w V){g:Nat}{x y:SV}(hx:st.ar g=some x)(he:x.den β=y.den β)(hy:y.ids=[]):Mod n V0 bA β0 (st.put (some g) y) β a w V:=by
 refine ⟨hM.defers,hM.size,?_,?_,hM.xB,hM.boxes,hM.inj,hM.ot,hM.tE,hM.ext,hM.own,hM.kM,hM.jK,hM.small⟩
 ·intro t z b;rw [cT] at b;split at b
  ·rename_i e;simp only [Option.some.injEq] at b;rw [e,←b,←he];exact hM.ar g x hx
  ·exact hM.ar t z b
 ·intro t z b;rw [cT] at b;split at b
  ·simp only [Option.some.injEq] at b;rw [←b,hy];exact fun s c=>(nomatch c)
  ·exact hM.xC t z b
theorem F8 {ops:Array Oper}{tmps:Array Value}{j g:Nat}(hg:(ops[j]?).bind (·.dst)=some g):yielded ops tmps j=match tmps.getD g undef with|.bool b=>some b|_=>none:=by
 unfold yielded;rw [hg];simp only [Option.bind_some];by_cases h:g<tmps.size
 ·have a:tmps[g]?=some tmps[g]:=getElem?_pos tmps g h;have c:tmps.getD g undef=tmps[g]:=by simp [h]
  rw [a,c];generalize tmps[g]=v;cases v<;>rfl
 ·simp [h,undef]
theorem Db (hT:cO.ok P T)(hM:Mod n V0 bA β0 st β a w V){m:CM}{h:Hint}{ops:Array Oper}{o:Oper}{K:St->View->Prop}{next:Act->World->Prop}{Q:Exit->Act->World->Prop}
  (hd:∀d,o.dst=some d->d<n)(hv:qE P T m h ops o st V K)
  (hK:∀st' β' a' w' V',Mod n V0 bA β0 st' β' a' w' V'->K st' V'->next a' w') :
  if Region.wanted o (yielded ops a.tmps) then o.wp P a w next Q else next (a.put o.dst undef) w:=by
 unfold qE at hv;split at hv
 ·rename_i q;rw [if_pos (by simp [Region.wanted,q])];exact iL hT hM hd hv hK
 ·rename_i j b q;split at hv
  ·exact hv.elim
  ·rename_i g p;have t:=F8 (tmps:=a.tmps) p
   have i:∀c:Bool,a.tmps.getD g undef=.bool c->(Region.wanted o (yielded ops a.tmps)=true↔c=b):=by
    intro c x;simp only [Region.wanted,q];rw [t,x];simp
   have skip:∀{l:St},Mod n V0 bA β0 l β a w V->K (l.put o.dst jk) V->next (a.put o.dst undef) w:=by
    intro l r s;exact hK _ _ _ _ _ (r.Fl hd rfl (bQ rfl)) s
   split at hv
   ·rename_i k;have f:=hM.ar g _ k;split at hv
    ·rw [if_pos ((i true f).2 rfl)];exact iL hT hM hd hv hK
    ·rw [if_neg (fun h=>by have:=(i true f).1 h;cases this)];exact skip hM hv
   ·rename_i k;have f:=hM.ar g _ k;split at hv
    ·rw [if_neg (fun h=>by have:=(i false f).1 h;cases this)];exact skip hM hv
    ·rw [if_pos ((i false f).2 rfl)];exact iL hT hM hd hv hK
   ·rename_i c k;have f:=hM.ar g _ k;have u:c=true->Mod n V0 bA β0 (st.put (some g) (.c .tt)) β a w V:=fun e=>hM.refine k (by rw [e];rfl) rfl;have v:c=false->Mod n V0 bA β0 (st.put (some g) (.c .ff)) β a w V:=fun e=>hM.refine k (by rw [e];rfl) rfl;split at hv
    ·cases c with
     | true=>rw [if_pos ((i true f).2 rfl)];exact iL hT (u rfl) hd (hv.1 rfl) hK
     | false=>rw [if_neg (fun h=>by have:=(i false f).1 h;cases this)];exact skip (v rfl) (hv.2 rfl)
    ·cases c with
     | true=>rw [if_neg (fun h=>by have:=(i true f).1 h;cases this)];exact skip (u rfl) (hv.1 rfl)
     | false=>rw [if_pos ((i false f).2 rfl)];exact iL hT (v rfl) hd (hv.2 rfl) hK
   ·rename_i xs k;have f:=hM.ar g _ k
    have:Region.wanted o (yielded ops a.tmps)=false:=by
     simp only [Region.wanted,q];rw [t,f];simp [SV.den]
    rw [if_neg (by rw [this];simp)];exact skip hM hv
   ·exact hv.elim
theorem Ac (hT:cO.ok P T){m:Nat->CM}{hint:Nat->Hint}{ops:Array Oper}(hd:∀(i:Nat)(o:Oper),ops[i]?=some o->∀d,o.dst=some d->d<n){Q:Exit->Act->World->Prop}{K:St->View->Prop}
  (hK:∀st' β' a' w' V',Mod n V0 bA β0 st' β' a' w' V'->K st' V'->Q .normal a' w') :
  ∀(l:List Nat)(st:St)(β:Nat->Nat)(a:Act)(w:World)(V:View),Mod n V0 bA β0 st β a w V->KY P T m hint ops l st V K->wpOps P ops Q l a w
 | [],st,β,a,w,V,hM,hv=>hK _ _ _ _ _ hM hv
 | i::r,st,β,a,w,V,hM,hv=>by
  simp only [KY] at hv;simp only [wpOps];split at hv
  ·rename_i o ho;rw [ho];dsimp only;have:=Db (Q:=Q) (next:=wpOps P ops Q r) hT hM (hd i o ho) hv (fun st' β' a' w' V' b c=>Ac hT hd hK r st' β' a' w' V' b c);split at this
   ·rename_i hw;rw [if_pos hw];exact .inl this
   ·rename_i hw;rw [if_neg hw];exact this
  ·exact hv.elim
end Go.Eng
namespace Go.Eng
def ov (p:Nat->Option SV)(q:Nat->Option aO)(st:St):St:=
 ⟨fun t=>match p t with|some x=>some x|none=>st.ar t,fun t=>match q t with|some x=>some x|none=>st.boxes t⟩
theorem cV {a b:Nat}(h:a≠b):Nat.beq a b=false:=by
 cases hb:Nat.beq a b
 ·rfl
 ·exact absurd (beq_eq.1 hb) h
section
variable {p:Nat->Option SV} {q:Nat->Option aO} {st:St}
theorem jQ {d:Option Nat}{x:SV}(h:∀k,d=some k->p k=none):(ov p q st).put d x=ov p q (st.put d x):=by
 cases d with
 | none=>rfl
 | some d=>
  have a:=h d rfl;simp only [ov,St.put];congr 1;funext t;by_cases e:t=d
  ·subst e;simp [a,Nat.beq_refl]
  ·simp [cV e]
theorem jP {s:Nat}{b:aO}(h:q s=none):(ov p q st).box s b=ov p q (st.box s b):=by
 simp only [ov,St.box];congr 1;funext t;by_cases e:t=s
 ·subst e;simp [h,Nat.beq_refl]
 ·simp [cV e]
theorem bY {s:Nat}(h:q s=none):(ov p q st).boxes s=st.boxes s:=by simp [ov,h]
theorem Mt {x:Operand}(h:∀t,x=.tmp t->p t=none):(ov p q st).a_ x=st.a_ x:=by
 cases x with
 | tmp t=>simp [St.a_,ov,h t rfl]
 | _=>rfl
def one {α:Type}(d:Option Nat)(x:α):Nat->Option α:=fun t=>match d with|some k=>cond (Nat.beq t k) (some x) none|none=>none
theorem di {α:Type}{d:Option Nat}{x:α}{t:Nat}(h:d≠some t):one d x t=none:=by
 cases d with
 | none=>rfl
 | some k=>simp [one,cV (fun e:t=k=>h (by rw [e]))]
theorem eJ (d:Option Nat)(x:SV):st.put d x=ov (one d x) (fun _=>none) st:=by
 cases d with
 | none=>rfl
 | some d=>
  simp only [ov,St.put,one];congr 1;funext t;by_cases e:t=d
  ·subst e;simp [Nat.beq_refl]
  ·simp [cV e]
theorem Eu (s:Nat)(b:aO):st.box s b=ov (fun _=>none) (one (some s) b) st:=by
 simp only [ov,St.box,one];congr 1;funext t;by_cases e:t=s
 ·subst e;simp [Nat.beq_refl]
 ·simp [cV e]
theorem zo (s:Nat)(b:aO)(d:Option Nat)(x:SV):(st.box s b).put d x=ov (one d x) (one (some s) b) st:=by
 rw [eJ,Eu];rfl
end
theorem dM {ρ ρ':Operand->Option SV}:∀l:List Operand,(∀x∈l,ρ x=ρ' x)->bU ρ l=bU ρ' l
 | [],_=>rfl
 | o::r,h=>by simp only [bU];rw [h o (by simp),dM r fun x hx=>h x (by simp [hx])]
theorem jR {ρ ρ':Operand->Option SV}:∀l:List (Nat×Operand),(∀x∈l.map (·.2),ρ x=ρ' x)->partsOf ρ l=partsOf ρ' l
 | [],_=>rfl
 | (i,o)::r,h=>by simp only [partsOf];rw [h o (by simp),jR r fun x hx=>h x (by simp only [List.map_cons,List.mem_cons];exact .inr hx)]
theorem oN {ρ ρ':Operand->Option SV}:∀l:Option Operand,(∀x,l=some x->ρ x=ρ' x)->Bi ρ l=Bi ρ' l
 | none,_=>rfl
 | some o,h=>by simp only [Bi];rw [h o rfl]
theorem mB {T:cO}{ρ ρ':Operand->Option SV}{bx:Nat->Option aO}{op:Op}(h:∀x∈op.operands.toList,ρ x=ρ' x):aH T ρ bx op=aH T ρ' bx op:=by
 cases op with
 | move x=>simp only [aH];rw [h x (by simp [Op.operands])]
 | assign x=>simp only [aH];rw [h x (by simp [Op.operands])]
 | pick c a b=>simp only [aH];rw [h c (by simp [Op.operands]),h a (by simp [Op.operands]),h b (by simp [Op.operands])]
 | box t x=>simp only [aH];rw [h x (by simp [Op.operands])]
 | build t ps=>simp only [aH];rw [jR _ fun x g=>h x (by simpa [Op.operands] using g)]
 | buildSlice t n ps=>simp only [aH];rw [jR _ fun x g=>h x (by simpa [Op.operands] using g)]
 | load t a=>simp only [aH];rw [h a (by simp [Op.operands])]
 | store t a x=>simp only [aH];rw [h a (by simp [Op.operands]),h x (by simp [Op.operands])]
 | nilCheck x=>simp only [aH];rw [h x (by simp [Op.operands])]
 | binOp o xt x y yt=>simp only [aH];rw [h x (by simp [Op.operands]),h y (by simp [Op.operands])]
 | unOp o xt x=>cases o<;>simp only [aH]<;>rw [h x (by simp [Op.operands])]
 | convert s d x=>simp only [aH];rw [h x (by simp [Op.operands])]
 | makeFunc fn first caps=>
  cases fn with
  | func f=>simp only [aH];rw [dM _ fun x g=>h x (by simp [Op.operands];exact .inr (by simpa using g))]
  | _=>rfl
 | makeSlice t a b=>simp only [aH];rw [h a (by simp [Op.operands]),h b (by simp [Op.operands])]
 | slice t x lo hi mx=>
  simp only [aH];rw [h x (by simp [Op.operands]),oN lo fun y k=>h y (by simp [Op.operands,k]),oN hi fun y k=>h y (by simp [Op.operands,k]),oN mx fun y k=>h y (by simp [Op.operands,k])]
 | fieldAddr t x f=>simp only [aH];rw [h x (by simp [Op.operands])]
 | field t x f=>simp only [aH];rw [h x (by simp [Op.operands])]
 | indexAddr t x i=>simp only [aH];rw [h x (by simp [Op.operands]),h i (by simp [Op.operands])]
 | extract x j=>simp only [aH];rw [h x (by simp [Op.operands])]
 | index t x i=>simp only [aH];rw [h x (by simp [Op.operands]),h i (by simp [Op.operands])]
 | makeInterface t x=>simp only [aH];rw [h x (by simp [Op.operands])]
 | call c=>
  obtain ⟨l,args,m⟩:=c
  cases l with
  | builtin b=>
   have e:bU ρ args.toList=bU ρ' args.toList:=dM _ fun x g=>h x (by simpa [Op.operands,Call.operands] using g);cases b<;>simp only [aH]<;>rw [e]
  | _=>rfl
 | _=>rfl
theorem Kp {T:cO}{LF RF:List Nat}{ρ:Operand->Option SV}{bx bx':Nat->Option aO}{op:Op}(h:bh LF RF op=.pure\/bh LF RF op=.alloc):aH T ρ bx op=aH T ρ bx' op:=by
 cases op with
 | load t a=>rcases h with h|h<;>cases h
 | store t a x=>rcases h with h|h<;>cases h
 | unOp o xt x=>cases o<;>rfl
 | makeFunc fn first caps=>cases fn<;>rfl
 | call c=>
  obtain ⟨d,args,e⟩:=c
  cases d with
  | builtin b=>cases b<;>first|rfl|(rcases h with h|h<;>cases h)
  | _=>rfl
 | _=>rfl
theorem Kr {bx bx':Nat->Option aO}{i:TI}{x:SV}(h:∀s∈x.ids,bx' s=bx s):jf bx i x=jf bx' i x:=by
 unfold jf;split
 ·rename_i b o;rw [h b (by simp [SV.ids,C.ids])]
 ·rfl
 ·rfl
theorem HW {bx bx':Nat->Option aO}{i:TI}{x y:SV}(h:∀s∈x.ids,bx' s=bx s):gH bx i x y=gH bx' i x y:=by
 unfold gH;split
 ·rename_i b o;rw [h b (by simp [SV.ids,C.ids])]
 ·rfl
theorem Fu {bx:Nat->Option aO}{i:TI}{x y:SV}{sc:List Prop}{s:Nat}{b:aO}(h:gH bx i x y=.tI sc s b):s∈x.ids:=by
 unfold gH at h;split at h
 ·split at h
  ·split at h
   ·split at h
    ·cases h;simp [SV.ids,C.ids]
    ·cases h
   ·split at h
    ·cases h;simp [SV.ids,C.ids]
    ·cases h
   ·split at h
    ·cases h
    ·split at h
     ·cases h;simp [SV.ids,C.ids]
     ·cases h
   ·cases h
  ·cases h
 ·cases h
theorem Bp {V:View}{p:Addr}:∀(cs:List C) (i:Nat) {k:Prop},V.MD p i cs k↔V.MD p i cs True/\k
 | [],_,k=>by simp [View.MD]
 | c::r,i,k=>by
  simp only [View.MD];rw [Bp r (i+1),and_assoc]
theorem Ku {V V':View}(h:V.Le V'){p:Addr}:∀(cs:List C) (i:Nat) {k:Prop},V.MD p i cs k->V'.MD p i cs k
 | [],_,_,hk=>hk
 | c::r,i,_,hk=>⟨h.at hk.1,Ku h r (i+1) hk.2⟩
theorem qg {V:View}{p:OA}{x:SV}{k:Prop}:V.Lm p x k↔V.Lm p x True/\k:=by
 cases x with
 | c c=>simp [View.Lm]
 | agg cs=>
  simp only [View.Lm];constructor
  ·rintro ⟨a,d,b⟩;rw [Bp] at b;exact ⟨⟨a,d,b.1⟩,b.2⟩
  ·rintro ⟨⟨a,d,b⟩,e⟩;exact ⟨a,d,by rw [Bp];exact ⟨b,e⟩⟩
 | pt xs=>simp [View.Lm]
theorem PL {V V':View}(h:V.Le V'){p:OA}{x:SV}{k:Prop}(hk:V.Lm p x k):V'.Lm p x k:=by
 cases x with
 | c c=>obtain ⟨⟨a,b,d⟩,e⟩:=hk;exact ⟨⟨a,b,h.at d⟩,e⟩
 | agg cs=>obtain ⟨a,b,d⟩:=hk;exact ⟨a,b,Ku h _ _ d⟩
 | pt xs=>exact hk
theorem xu.split:∀(s:xu) {F:C->Prop},s.ex F->∃x,F x/\∀G:C->Prop,G x->s.ex G
 | .int _,_,⟨_,h⟩=>⟨_,h,fun _ g=>⟨_,g⟩⟩
 | .bool,_,⟨_,h⟩=>⟨_,h,fun _ g=>⟨_,g⟩⟩
 | .slice,_,⟨_,_,_,h⟩=>⟨_,h,fun _ g=>⟨_,_,_,g⟩⟩
 | .ptr,_,⟨_,h⟩=>⟨_,h,fun _ g=>⟨_,g⟩⟩
 | .str,_,⟨_,h⟩=>⟨_,h,fun _ g=>⟨_,g⟩⟩
 | .any,_,⟨_,h⟩=>⟨_,h,fun _ g=>⟨_,g⟩⟩
theorem mY:∀(l:List xu) {F:List C->Prop},OS l F->∃x,F x/\∀G:List C->Prop,G x->OS l G
 | [],_,h=>⟨_,h,fun _ g=>g⟩
 | s::r,_,h=>by
  obtain ⟨c,h1,h2⟩:=xu.split s h;obtain ⟨cs,a,b⟩:=mY r h1;exact ⟨c::cs,a,fun G g=>h2 _ (b _ g)⟩
theorem uB.split:∀(s:uB) {F:SV->Prop},s.ex F->∃x,F x/\∀G:SV->Prop,G x->s.ex G
 | .one s,_,h=>by obtain ⟨c,h1,h2⟩:=xu.split s h;exact ⟨.c c,h1,fun G g=>h2 _ g⟩
 | .agg l,_,h=>by obtain ⟨c,h1,h2⟩:=mY l h;exact ⟨.agg c,h1,fun G g=>h2 _ g⟩
theorem ru:∀(l:List uB) {F:List (Bool×List C)->Prop},Qa l F->∃x,F x/\∀G:List (Bool×List C)->Prop,G x->Qa l G
 | [],_,h=>⟨_,h,fun _ g=>g⟩
 | .one s::r,_,h=>by
  obtain ⟨c,h1,h2⟩:=xu.split s h;obtain ⟨cs,a,b⟩:=ru r h1;exact ⟨_,a,fun G g=>h2 _ (b _ g)⟩
 | .agg l::r,_,h=>by
  obtain ⟨c,h1,h2⟩:=mY l h;obtain ⟨cs,a,b⟩:=ru r h1;exact ⟨_,a,fun G g=>h2 _ (b _ g)⟩
theorem Sh.split:∀(s:Sh) {F:SV->Prop},s.ex F->∃x,F x/\∀G:SV->Prop,G x->s.ex G
 | .val s,_,h=>uB.split s h
 | .pt l,_,h=>by obtain ⟨x,h1,h2⟩:=ru l h;exact ⟨_,h1,fun G g=>h2 _ g⟩
 | .none,_,h=>⟨_,h,fun _ g=>g⟩
theorem Sh.mono {s:Sh}{F G:SV->Prop}(h:s.ex F)(k:∀x,F x->G x):s.ex G:=by
 obtain ⟨x,a,b⟩:=s.split h;exact b G (k x a)
theorem wF {l m:List Nat}:KQ l m=true↔∀x∈l,x∈m:=by
 simp only [KQ,List.all_eq_true,ct]
theorem vQ {op:Op}{x:Operand}(h:x∈op.operands.toList){t:Nat}(e:x=.tmp t):t∈h_ op:=by
 subst e;exact List.mem_filterMap.2 ⟨_,h,rfl⟩
theorem ng {st st2:St}{op:Op}(h:∀t∈h_ op,st2.ar t=st.ar t){x:Operand}(hx:x∈op.operands.toList):st2.a_ x=st.a_ x:=by
 cases x with
 | tmp t=>exact h t (vQ hx rfl)
 | _=>rfl
theorem vP {op:Op}{x:Operand}(h:x∈hZ op):x∈op.operands.toList:=by
 unfold hZ at h;split at h
 ·simpa [Op.operands] using h
 ·simp at h;subst h;simp [Op.operands]
 ·simp only [Op.operands,Call.operands];simp at h ⊢;rcases h with h|h
  ·exact .inr h
  ·exact .inl h
 ·simpa [Op.operands,Call.operands] using h
 ·cases h
theorem rK {ρ:Operand->Option SV}:∀{l:List Operand} {xs:List SV},bU ρ l=some xs->∀x∈l,∃v,ρ x=some v/\v∈xs
 | [],_,_,_,hx=>nomatch hx
 | o::r,xs,h,x,hx=>by
  simp only [bU] at h;split at h
  ·rename_i v l h1 h2;cases h;rcases List.mem_cons.1 hx with e|hx
   ·exact ⟨v,by rw [e];exact h1,by simp⟩
   ·obtain ⟨u,hu,hm⟩:=rK h2 x hx;exact ⟨u,hu,by simp [hm]⟩
  ·cases h
structure Outcome (P:Program) (T:cO) (m:CM) (h:Hint) (o:Oper) (st:St) (V:View) (R W:List Nat) (K:St->View->Prop) (p:Nat->Option SV) (q:Nat->Option aO):Prop where
 pd:∀t,t∉dK o->p t=none
 qd:∀s,s∉W->q s=none
 next:K (ov p q st) V
 again:∀(st2:St)(V2:View)(K2:St->View->Prop),V.Le V2->(∀t∈h_ o.op,st2.ar t=st.ar t)->(∀s∈R,st2.boxes s=st.boxes s)->K2 (ov p q st2) V2->cG P T m h o st2 V2 K2
variable {P:Program} {T:cO} {LF RF:List Nat} {m:CM}
theorem AY {o:Oper}{t:Nat}(h:t∉dK o):o.dst≠some t:=by
 intro e;apply h;simp [dK,e]
theorem M5 {o:Oper}{st:St}{V:View}{K:St->View->Prop}{R W:List Nat}{Q0:Q}
  (hnew:∀sc b x,Q0=.new sc b x->dK o=W/\dK o=R)(Vw:∀sc s b,Q0=.tI sc s b->s∈W)(happ:cR Q0≠6)
  (hv:tJ Q0 o.dst st V K) :
  ∃p q,(∀t,t∉dK o->p t=none)/\(∀s,s∉W->q s=none)/\K (ov p q st) V /\
   ∀(st2:St)(V2:View)(K2:St->View->Prop),V.Le V2->(∀s∈R,st2.boxes s=st.boxes s)->K2 (ov p q st2) V2->tJ Q0 o.dst st2 V2 K2:=by
 cases Q0 with
 | fail=>exact hv.elim
 | ret sc x=>
  obtain ⟨h,k⟩:=(dg sc _).1 hv;refine ⟨one o.dst x,fun _=>none,fun t l=>di (AY l),fun _ _=>rfl,by rw [←eJ];exact k,?_⟩;intro st2 V2 K2 _ _ m;exact (dg sc _).2 ⟨h,by rw [eJ];exact m⟩
 | new sc b x=>
  obtain ⟨r,u⟩:=hnew _ _ _ rfl;simp only [tJ] at hv ⊢
  cases hd:o.dst with
  | none=>rw [hd] at hv;exact hv.elim
  | some d=>
   have n:dK o=[d]:=by simp [dK,hd]
   rw [hd] at hv;dsimp only at hv ⊢;split at hv
   ·rename_i v;obtain ⟨h,k⟩:=(dg sc _).1 hv;refine ⟨one (some d) (x d),one (some d) b,fun t l=>di (by intro e;apply l;rw [n];simpa using e.symm),fun s w=>di (by intro e;apply w;rw [←r,n];simpa using e.symm),by rw [←zo];exact k,?_⟩;intro st2 V2 K2 _ y m;rw [y d (by rw [←u,n];simp),v];exact (dg sc _).2 ⟨h,by rw [zo];exact m⟩
   ·exact hv.elim
 | tI sc s b=>
  simp only [tJ] at hv ⊢
  cases hd:o.dst with
  | some d=>rw [hd] at hv;exact hv.elim
  | none=>
   rw [hd] at hv;dsimp only at hv ⊢;obtain ⟨h,k⟩:=(dg sc _).1 hv;refine ⟨fun _=>none,one (some s) b,fun _ _=>rfl,fun t l=>di (by intro e;apply l;have:=Vw _ _ _ rfl;simp at e;rw [←e];exact this),by rw [←Eu];exact k,?_⟩;intro st2 V2 K2 _ _ m;exact (dg sc _).2 ⟨h,by rw [Eu];exact m⟩
 | rd a sh=>
  obtain ⟨x,h,k⟩:=sh.split hv;obtain ⟨z,A⟩:=qg.1 h;refine ⟨one o.dst x,fun _=>none,fun t l=>di (AY l),fun _ _=>rfl,by rw [←eJ];exact A,?_⟩;intro st2 V2 K2 hle _ m;exact k _ (qg.2 ⟨PL hle z,by rw [eJ];exact m⟩)
 | nY vs of size sh=>
  obtain ⟨x,h,k⟩:=sh.split hv;refine ⟨one o.dst x,fun _=>none,fun t l=>di (AY l),fun _ _=>rfl,by rw [←eJ];exact h.2,?_⟩;intro st2 V2 K2 hle _ m;exact k _ ⟨h.1,by rw [eJ];exact m⟩
 | app a b c d e f g i j=>exact absurd rfl happ
 | rF a b c d e f g i=>exact absurd rfl happ
theorem wm {o:Oper}(h:mC (bh LF RF o.op)=true)(st:St)(V:View)(K:St->View->Prop):cL P T m o st V K=tJ (aH T st.a_ st.boxes o.op) o.dst st V K:=by
 unfold cL;split
 ·rename_i f args b a;rw [a] at h;exfalso
  cases f with
  | func f=>
   simp only [bh] at h;split at h
   ·split at h<;>cases h
   ·split at h
    ·cases h
    ·split at h<;>cases h
  | _=>cases h
 ·rename_i recv name args b a;rw [a] at h;cases h
 ·rfl
theorem oR {ρ:Operand->Option SV}{bx:Nat->Option aO}{op:Op}:cR (aH T ρ bx op)=2->bh LF RF op=.alloc:=by
 have eT:∀{q:Q} {X:Prop},cR q<=1->cR q=2->X:=by intro q X h h';omega
 unfold aH;split
 case h_8=>
  split
  ·intro h;rcases rQ (bx:=bx) with h'|h'|h'|h'<;>(rw [h'] at h;cases h)
  ·exact eT (Nat.zero_le _)
 case h_9=>
  split
  ·intro h;rcases oU (bx:=bx) with h'|h'<;>(rw [h'] at h;cases h)
  ·exact eT (Nat.zero_le _)
 case h_11=>
  split
  ·split
   ·split
    ·exact eT qw
    ·exact eT (Nat.zero_le _)
   ·exact eT qw
  ·exact eT (Nat.zero_le _)
 case h_17=>exact fun _=>rfl
 case h_18=>
  split
  ·split
   ·split
    ·exact eT wG
    ·exact eT (Nat.zero_le _)
   ·exact eT (Nat.zero_le _)
  ·exact eT (Nat.zero_le _)
 case h_21=>
  split
  ·exact eT mJ
  ·exact eT (Nat.zero_le _)
 case h_23 c=>
  split
  ·intro h;exfalso;split at h<;>(try split at h)<;>(try split at h)<;>(try split at h)<;>first|(rcases mI (bx:=bx) with h'|h'<;>(rw [h'] at h;cases h))|cases h
  ·split
   ·intro h;rcases oT (T:=T) (bx:=bx) with h'|h'<;>(rw [h'] at h;cases h)
   ·exact eT (Nat.zero_le _)
  ·split
   ·split
    ·exact eT qA
    ·exact eT (Nat.zero_le _)
   ·exact eT (Nat.zero_le _)
  ·exact eT (Nat.zero_le _)
 all_goals
  first
  | exact fun _=>rfl
  | exact eT (Nat.zero_le _)
  | ((repeat' split)<;>first|exact eT (Nat.zero_le _)|exact eT (Nat.le_refl _)|exact eT n_|(unfold wh;(repeat' split)<;>first|exact eT (Nat.zero_le _)|exact eT (Nat.le_refl _)))
theorem zT {st st2:St}{op:Op}(h:∀t∈h_ op,st2.ar t=st.ar t):bU st2.a_ (hZ op)=bU st.a_ (hZ op):=
 dM _ fun _ a=>ng h (vP a)
theorem ni {h:Hint}{o:Oper}{st:St}{V:View}{K:St->View->Prop}{R W:List Nat}(hq:mC (bh LF RF o.op)=true)(hrw:qn (bh LF RF o.op) h (dK o)=some (R,W))
  (hv:cG P T m h o st V K):∃p q,Outcome P T m h o st V R W K p q:=by
 have core:(∀g:St,(∀t∈h_ o.op,g.ar t=st.ar t)->(∀s∈R,g.boxes s=st.boxes s)->aH T g.a_ g.boxes o.op=aH T st.a_ st.boxes o.op) ->
   (∀C b x,aH T st.a_ st.boxes o.op=.new C b x->dK o=W/\dK o=R)->(∀C s b,aH T st.a_ st.boxes o.op=.tI C s b->s∈W) ->
   (∀(g:St)(V2:View)(D:St->View->Prop),(∀t∈h_ o.op,g.ar t=st.ar t)->cL P T m o g V2 D->cG P T m h o g V2 D) ->
   cL P T m o st V K->∃p q,Outcome P T m h o st V R W K p q:=by
  intro he U hu A hv;rw [wm hq] at hv
  obtain ⟨p,q,X,Y,Z,h4⟩:=M5 (R:=R) (W:=W) U hu (fun n=>by
   obtain ⟨cl,d,F⟩:=(fL (T:=T) (ρ:=st.a_) (bx:=st.boxes) (op:=o.op)).2.2 n;rw [d] at hq;obtain ⟨G,args,N⟩:=cl;dsimp only at F;subst F;cases hq) hv
  refine ⟨p,q,X,Y,Z,fun g V2 D hle H I hK=>?_⟩;refine A g V2 D H ?_;rw [wm hq,he g H I];exact h4 g V2 D hle I hK
 have O:bh LF RF o.op=.pure\/bh LF RF o.op=.alloc->h=.free->(bh LF RF o.op=.alloc->R=dK o/\W=dK o)->∃p q,Outcome P T m h o st V R W K p q:=by
  intro j hf hd;subst hf;refine core (fun g r _=>?_) (fun C b x n=>?_) (fun C s b n=>?_) (fun _ _ _ _ A=>A) hv
  ·rw [Kp (bx':=st.boxes) j];exact mB fun x J=>ng r J
  ·have:=hd (oR (by rw [n];rfl));exact ⟨this.2.symm,this.1.symm⟩
  ·rcases (fL (T:=T) (ρ:=st.a_) (bx:=st.boxes) (op:=o.op)).1 (by rw [n];rfl) with ⟨t,y,x,d⟩|⟨⟨G,args,N⟩,d,F⟩
   ·rw [d] at j;rcases j with j|j<;>cases j
   ·dsimp only at F;subst F;rw [d] at j;rcases j with j|j<;>cases j
 generalize j:bh LF RF o.op=c at hrw hq O
 cases c with
 | pure=>
  cases h with
  | free=>exact O (.inl rfl) rfl (fun e=>by cases e)
  | own l=>cases hrw
 | alloc=>
  cases h with
  | free=>
   simp only [qn,Option.some.injEq,Prod.mk.injEq] at hrw;exact O (.inr rfl) rfl (fun _=>⟨hrw.1.symm,hrw.2.symm⟩)
  | own l=>cases hrw
 | load=>
  cases h with
  | free=>cases hrw
  | own l=>
   simp only [qn,Option.some.injEq,Prod.mk.injEq] at hrw;obtain ⟨rfl,rfl⟩:=hrw
   have d:∃t a,o.op=.load t a:=by
    generalize o.op=op at j
    cases op with
    | load t a=>exact ⟨t,a,rfl⟩
    | call c=>obtain ⟨G,args,N⟩:=c;cases G with
     | builtin b=>cases b<;>cases j
     | value f=>cases f with
      | func f=>simp only [bh] at j;split at j<;>(try split at j)<;>(try split at j)<;>(try split at j)<;>cases j
      | _=>cases j
     | _=>cases j
    | _=>cases j
   obtain ⟨t,a,d⟩:=d;unfold cG at hv;dsimp only at hv;split at hv
   ·rename_i xs z;split at hv
    ·rename_i k
     have M:∀v,st.a_ a=some v->∀s∈v.ids,s∈l:=by
      intro v Q s r;rw [wF] at k;apply k;rw [d] at z;obtain ⟨u,hu,hm⟩:=rK z a (by simp [hZ]);rw [d];simp only [dZ];rw [Q] at hu;cases hu;exact List.mem_flatMap.2 ⟨_,hm,r⟩
     refine core (fun g r A=>?_) (fun C b x n=>?_) (fun C s b n=>?_) (fun g V2 D r A=>?_) hv
     ·rw [d] at r ⊢;rw [mB (ρ':=st.a_) fun x J=>ng r J];simp only [aH];split
      ·rename_i i v S L;exact (Kr fun s E=>A s (M v L s E)).symm
      ·rfl
     ·have:=oR (LF:=LF) (RF:=RF) (op:=o.op) (T:=T) (ρ:=st.a_) (bx:=st.boxes) (by rw [n];rfl);rw [d] at this;cases this
     ·rcases (fL (T:=T) (ρ:=st.a_) (bx:=st.boxes) (op:=o.op)).1 (by rw [n];rfl) with ⟨t,y,x,B⟩|⟨c,B,-⟩<;>(rw [d] at B;cases B)
     ·unfold cG;dsimp only;rw [zT r,z];dsimp only;have:dZ g.boxes o.op (xs.flatMap SV.ids)=dZ st.boxes o.op (xs.flatMap SV.ids):=by rw [d];rfl
      rw [this,k];exact A
    ·exact hv.elim
   ·exact hv.elim
 | store=>
  cases h with
  | free=>cases hrw
  | own l=>
   simp only [qn,Option.some.injEq,Prod.mk.injEq] at hrw;obtain ⟨rfl,rfl⟩:=hrw
   have d:∃t a x,o.op=.store t a x:=by
    generalize o.op=op at j
    cases op with
    | store t a x=>exact ⟨t,a,x,rfl⟩
    | call c=>obtain ⟨G,args,N⟩:=c;cases G with
     | builtin b=>cases b<;>cases j
     | value f=>cases f with
      | func f=>simp only [bh] at j;split at j<;>(try split at j)<;>(try split at j)<;>(try split at j)<;>cases j
      | _=>cases j
     | _=>cases j
    | _=>cases j
   obtain ⟨t,a,y,d⟩:=d;unfold cG at hv;dsimp only at hv;split at hv
   ·rename_i xs z;split at hv
    ·rename_i k
     have M:∀v,st.a_ a=some v->∀s∈v.ids,s∈l:=by
      intro v Q s r;rw [wF] at k;apply k;rw [d] at z;obtain ⟨u,hu,hm⟩:=rK z a (by simp [hZ]);rw [d];simp only [dZ];rw [Q] at hu;cases hu;exact List.mem_flatMap.2 ⟨_,hm,r⟩
     refine core (fun g r A=>?_) (fun C b x n=>?_) (fun C s b n=>?_) (fun g V2 D r A=>?_) hv
     ·rw [d] at r ⊢;rw [mB (ρ':=st.a_) fun x J=>ng r J];simp only [aH];split
      ·rename_i i v w S L hw;exact (HW fun s E=>A s (M v L s E)).symm
      ·rfl
     ·have:=oR (LF:=LF) (RF:=RF) (op:=o.op) (T:=T) (ρ:=st.a_) (bx:=st.boxes) (by rw [n];rfl);rw [d] at this;cases this
     ·rw [d] at n;simp only [aH] at n;split at n
      ·rename_i i v w S L hw;exact M v L s (Fu n)
      ·cases n
     ·unfold cG;dsimp only;rw [zT r,z];dsimp only;have:dZ g.boxes o.op (xs.flatMap SV.ids)=dZ st.boxes o.op (xs.flatMap SV.ids):=by rw [d];rfl
      rw [this,k];exact A
    ·exact hv.elim
   ·exact hv.elim
 | _=>cases hq
end Go.Eng
