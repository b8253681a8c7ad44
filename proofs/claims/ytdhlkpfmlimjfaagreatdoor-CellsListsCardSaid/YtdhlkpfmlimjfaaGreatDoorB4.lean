import Derived.Test.YtdhlkpfmlimjfaaGreatDoorB3
set_option linter.unusedVariables false
open Go.IntKind (i64 u64 u32)
namespace Go.Eng
variable {P:Program} {T:cD} {n:Nat} {V0:View} {bf:Ce} {β0:Nat->Nat} {st:St} {β:Nat->Nat} {a:Act} {w:World} {V:View}
def bQ (V:View)(w:World):View:=⟨w,fun b=>b<w.heap.size/\∀o,¬V.aZ b o,fun _=>False,fun _ h=>h.1,fun _ h=>h.elim⟩
theorem pW (hM:Mod n V0 bf β0 st β a w V):V.Le (bQ V w):=fun b o hb=>⟨fun h=>h.2 o hb,(hM.my b o hb).1⟩
theorem jj.run {f:FuncId}(h:jj P f)(xs:Array Value):(callFunc f xs).run P w=.ok (.enter f xs) w:=by
 obtain ⟨fn,h1,h2,h3⟩:=h
 simp only [callFunc,Sem.run_bind,run_program,Result.andThen_ok,h1,h3,h2,Bool.false_eq_true,if_false,Sem.run_pure]
theorem bD {x:Nat}:∀{l:List Nat},x∈dedup l↔x∈l
 | []=>by simp [dedup]
 | y::r=>by
  simp only [dedup]
  cases h:dP y (dedup r) with
  | true=>
   simp only [cond_true,List.mem_cons]
   rw [bD]
   constructor
   ·exact .inr
   ·rintro (rfl|h')
    ·exact bD.1 (bW.1 h)
    ·exact h'
  | false=>simp only [cond_false,List.mem_cons];rw [bD]
theorem dL {bx:Nat->Option aH}:∀(k:Nat)(l:List Nat),∀x∈l,x∈reach bx k l
 | 0,_,x,hx=>hx
 | k+1,l,x,hx=>by simp only [reach];exact dL k _ x (bD.2 (List.mem_append_left _ hx))
theorem eL {bx:Nat->Option aH}{l:List Nat}(h:fM bx l=true){s:Nat}(hs:s∈l){b:aH}(hb:bx s=some b):∀t∈b.cs.ids,t∈l:=by
 unfold fM at h
 rw [List.all_eq_true] at h
 have:=h s hs
 unfold HX jR at this
 rw [hb,List.all_eq_true] at this
 exact fun t ht=>bW.1 (this t ht)
theorem gH {L:List Nat}:∀{γ:Nat->Nat} {k:(Nat->Nat)->Prop},jP L γ k->∀β:Nat->Nat,k (fun t=>if t∈L then β t else γ t):=by
 induction L with
 | nil=>
  intro γ k h β
  have e:(fun t=>if t∈([]:List Nat) then β t else γ t)=γ:=by funext t;simp
  rw [e];exact h
 | cons s r ih=>
  intro γ k h β
  have:=ih (h (β s)) β
  have e:(fun t=>if t∈r then β t else cW γ s (β s) t)=fun t=>if t∈s::r then β t else γ t:=by
   funext t
   by_cases h1:t∈r
   ·simp [h1]
   ·by_cases h2:t=s
    ·subst h2;simp [h1,aK]
    ·simp [h1,h2,fu]
  rw [e] at this
  exact this
theorem tV {bx:Nat->Option aH}{b:aH}{γ:Nat->Nat}{s:Nat}:∀{r:List Nat} {k:Prop},KB bx b γ s r k->(∀t∈r,∀b',bx t=some b'->b.live->b'.live->γ s=γ t->s=t)->(∀t∈r,∃b',bx t=some b')->k
 | [],_,h,_,_=>h
 | t::r,k,h,hi,hl=>by
  simp only [KB] at h
  cases hb:Nat.beq s t with
  | true=>rw [hb] at h;exact tV h (fun t ht=>hi t (List.mem_cons_of_mem _ ht)) (fun t ht=>hl t (List.mem_cons_of_mem _ ht))
  | false=>
   rw [hb] at h
   obtain ⟨b',hb'⟩:=hl t (by simp)
   simp only [hb',cond_false] at h
   refine tV (h ?_) (fun t ht=>hi t (List.mem_cons_of_mem _ ht)) (fun t ht=>hl t (List.mem_cons_of_mem _ ht))
   rw [qo,eu]
   intro l
   rw [eu]
   intro l' e
   have:=hi t (by simp) b' hb' l l' e
   rw [this,Nat.beq_refl] at hb;cases hb
theorem tK {bx:Nat->Option aH}{γ:Nat->Nat}{V':View}:∀{L:List Nat} {k:Prop},gk bx γ V' L k->(∀s∈L,∀b,bx s=some b->b.live->V'.w.heap[γ s]?=some (b.obj γ)/\V'.H (γ s)) ->
  (∀s∈L,∀t∈L,∀b b',bx s=some b->b.live->bx t=some b'->b'.live->γ s=γ t->s=t)->(∀s∈L,∃b,bx s=some b)/\k
 | [],k,h,_,_=>⟨fun s hs=>(nomatch hs),h⟩
 | s::r,k,h,hf,hi=>by
  simp only [gk] at h
  split at h
  ·rename_i b hb
   obtain ⟨h3,h5⟩:=tK (h (eu.2 fun l=>(hf s (by simp) b hb l).1) (eu.2 fun l=>(hf s (by simp) b hb l).2)) (fun s' hs'=>hf s' (List.mem_cons_of_mem _ hs'))
    (fun s' hs' t ht=>hi s' (List.mem_cons_of_mem _ hs') t (List.mem_cons_of_mem _ ht))
   have h4:=tV h5 (fun t ht b' hb' l l'=>hi s (by simp) t (List.mem_cons_of_mem _ ht) b b' hb l hb' l') h3
   exact ⟨fun s' hs'=>by rcases List.mem_cons.1 hs' with rfl|hs';exact ⟨b,hb⟩;exact h3 s' hs',h4⟩
  ·exact h.elim
theorem gJ {bx:Nat->Option aH}{γ:Nat->Nat}{V':View}:∀{L:List Nat} {k:Prop},oo bx γ V' L k->(∀s∈L,∀b,bx s=some b->b.live->V'.aZ (γ s) (b.obj γ))->(∀s∈L,∃b,bx s=some b)/\k
 | [],k,h,_=>⟨fun s hs=>(nomatch hs),h⟩
 | s::r,k,h,hf=>by
  simp only [oo] at h
  split at h
  ·rename_i b hb
   obtain ⟨h3,h4⟩:=gJ (h (eu.2 (hf s (by simp) b hb))) (fun s' hs'=>hf s' (List.mem_cons_of_mem _ hs'))
   exact ⟨fun s' hs'=>by rcases List.mem_cons.1 hs' with rfl|hs';exact ⟨b,hb⟩;exact h3 s' hs',h4⟩
  ·exact h.elim
theorem fR {mv:Option (Nat×Nat)}:∀(cs zs:List C) {K:List C->Prop},kd mv cs zs K->∃cs',K cs'/\∀s∈cs'.flatMap C.ids,s∈cs.flatMap C.ids\/∃m,mv=some (m,s)
 | [],_,_,h=>⟨[],h,fun s hs=>(nomatch hs)⟩
 | c::r,[],_,h=>h.elim
 | c::r,z::zr,K,h=>by
  simp only [kd] at h
  split at h
  ·split at h
   ·rename_i m nb
    split at h
    ·obtain ⟨n,c,h⟩:=h
     obtain ⟨cs',h1,h2⟩:=fR r zr h
     refine ⟨_,h1,fun s hs=>?_⟩
     simp only [List.flatMap_cons,List.mem_append] at hs ⊢
     rcases hs with hs|hs
     ·simp only [C.ids,List.mem_singleton] at hs
      subst hs
      exact .inr ⟨m,rfl⟩
     ·exact (h2 s hs).imp .inr id
    ·exact h.elim
   ·exact h.elim
  ·split at h
   ·obtain ⟨v,hv,h'⟩:=vd.dI _ h
    obtain ⟨cs',h1,h2⟩:=fR r zr h'
    exact ⟨v::cs',h1,fun s hs=>by
     simp only [List.flatMap_cons,hv,List.nil_append,List.mem_append] at hs ⊢
     exact (h2 s hs).imp .inr id⟩
   ·obtain ⟨cs',h1,h2⟩:=fR r zr h
    exact ⟨c::cs',h1,fun s hs=>by
     simp only [List.flatMap_cons,List.mem_append] at hs ⊢
     rcases hs with hs|hs
     ·exact .inl (.inl hs)
     ·exact (h2 s hs).imp .inr id⟩
theorem Mod.fill (h:Mod n V0 bf β0 st β a w V){s:Nat}{b0 b:aH}(hs:st.boxes s=some b0)(eX:∀t∈b.cs.ids,∃b',st.boxes t=some b')
  (hg:∀t b',st.boxes t=some b'->b'.live->t≠s->β t≠β s)(hV:∀o,¬V.aZ (β s) o)(hown:V0.w.heap.size<=β s\/(100000<=s/\bf.B (β s)))(hw:w.heap[β s]?=some (b.obj β)) :
  Mod n V0 bf β0 (st.box s b) β a w V:=by
 have hl:∀t,(∃b',st.boxes t=some b')->∃b',(st.box s b).boxes t=some b':=by
  rintro t ⟨b',ht⟩
  rw [ah]
  split
  ·exact ⟨_,rfl⟩
  ·exact ⟨b',ht⟩
 refine ⟨h.defers,h.size,h.ao,fun t x hx u hu=>hl u (h.vh t x hx u hu),?_,?_,?_,h.my,?_,h.ext,?_,h.jQ,h.iT,h.small⟩
 ·intro t b' ht u hu
  rw [ah] at ht
  split at ht
  ·simp only [Option.some.injEq] at ht;exact hl u (eX u (ht▸hu))
  ·exact hl u (h.vg t b' ht u hu)
 ·intro t b' ht l
  rw [ah] at ht
  split at ht
  ·rename_i e;simp only [Option.some.injEq] at ht;rw [e,←ht];exact hw
  ·exact h.boxes t b' ht l
 ·intro t t' b1 b2 h1 l1 h2 l2 he
  rw [ah] at h1 h2
  split at h1<;>split at h2
  ·rename_i e1 e2;rw [e1,e2]
  ·rename_i e1 e2;rw [e1] at he;exact absurd he.symm (hg t' b2 h2 l2 e2)
  ·rename_i e1 e2;rw [e2] at he;exact absurd he (hg t b1 h1 l1 e1)
  ·exact h.inj t t' b1 b2 h1 l1 h2 l2 he
 ·intro t b' ht l
  rw [ah] at ht
  split at ht
  ·rename_i e;rw [e];exact hV
  ·exact h.qS t b' ht l
 ·intro t b' ht l
  rw [ah] at ht
  split at ht
  ·rename_i e;rw [e];exact hown
  ·exact h.own t b' ht l
theorem Mod.later (hM:Mod n V0 bf β0 st β a w V){X:Nat->Prop}{w':World}(hx:dU X w w')(hX:∀t b,st.boxes t=some b->b.live->¬X (β t))(hX0:∀i,i<V0.w.heap.size->X i->V0.X i){V1:View}
  (Ly:∀b o,V1.aZ b o->w'.heap[b]?=some o/\¬V0.H b)(pC:∀t b,st.boxes t=some b->b.live->∀o,¬V1.aZ (β t) o):Mod n V0 bf β0 st β a w' V1:=by
 refine ⟨hM.defers,hM.size,hM.ao,hM.vh,hM.vg,?_,hM.inj,Ly,pC,?_,hM.own,hM.jQ,hM.iT,hM.small⟩
 ·intro t b hb l
  have:=hM.boxes t b hb l
  rw [hx.aZ _ (ar this) (hX t b hb l)]
  exact this
 ·refine ⟨Nat.le_trans hM.ext.size hx.size,fun i hi Uf=>?_,hx.os.trans hM.ext.os,hx.tape.trans hM.ext.tape,hx.out.trans hM.ext.out⟩
  rw [hx.aZ i (Nat.lt_of_lt_of_le hi hM.ext.size) (fun h=>Uf (hX0 i hi h))]
  exact hM.ext.aZ i hi Uf
theorem Mod.beta (hM:Mod n V0 bf β0 st β a w V){d g:Nat}(hd:d<n\/200000<=d)(hn:st.boxes d=none):Mod n V0 bf β0 st (cW β d g) a w V:=by
 have hne:∀s b',st.boxes s=some b'->s≠d:=fun s b' hs e=>by rw [e,hn] at hs;cases hs
 have hβ:∀s b',st.boxes s=some b'->cW β d g s=β s:=fun s b' hs=>fu _ _ (hne s b' hs)
 refine ⟨hM.defers,hM.size,?_,hM.vh,hM.vg,?_,?_,hM.my,?_,hM.ext,?_,?_,hM.iT,hM.small⟩
 ·intro t x hx
  rw [hM.ao t x hx]
  exact SV.bw fun s hs=>by obtain ⟨b',hb'⟩:=hM.vh t x hx s hs;exact (hβ s b' hb').symm
 ·intro s b hb l
  rw [hβ s b hb,hM.boxes s b hb l]
  congr 1
  exact aH.cj fun s' hs'=>by obtain ⟨b'',jy⟩:=hM.vg s b hb s' hs';exact (hβ s' b'' jy).symm
 ·intro s s' b b' hb l hb' l' he
  rw [hβ s b hb,hβ s' b' hb'] at he
  exact hM.inj s s' b b' hb l hb' l' he
 ·intro s b hb l
  rw [hβ s b hb]
  exact hM.qS s b hb l
 ·intro s b hb l
  rw [hβ s b hb]
  exact hM.own s b hb l
 ·intro s hs
  obtain ⟨h1,h2⟩:=hM.jQ s hs
  exact ⟨h1,by rw [fu _ _ (by have:=hM.small;omega)];exact h2⟩
theorem iR {ty:TypeId}:∀{L:List Nat} {st:St},(cX st L ty).ao=st.ao
 | [],_=>rfl
 | s::r,st=>by unfold cX;rw [List.foldl_cons];exact iR (L:=r)
theorem aV {ty:TypeId}:∀{L:List Nat} {st:St} (t:Nat),(cX st L ty).boxes t=if t∈L then some ⟨.aO [],ty⟩ else st.boxes t
 | [],st,t=>by simp [cX]
 | s::r,st,t=>by
  have:=aV (ty:=ty) (L:=r) (st:=st.box s ⟨.aO [],ty⟩) t
  unfold cX at this ⊢
  rw [List.foldl_cons,this,ah]
  by_cases h1:t∈r
  ·simp [h1]
  ·by_cases h2:t=s
   ·simp [h2]
   ·simp [h1,h2]
theorem Mod.Ew {ty:TypeId}:∀{L:List Nat} {st:St},Mod n V0 bf β0 st β a w V->Mod n V0 bf β0 (cX st L ty) β a w V
 | [],_,h=>h
 | s::r,st,h=>by unfold cX;rw [List.foldl_cons];exact Mod.Ew (L:=r) h.void
theorem ke {mv:Option (Nat×Nat)}{γ:Nat->Nat}{V2:View}{A:List Nat}(hV2:V2.w=w)(Rp:∀s∈A,γ s=β s)(hinj:∀s∈A,∀s'∈A,β s=β s'->s=s')(pC:∀s∈A,∀o,¬V.aZ (β s) o)
  (hown:∀s∈A,V0.w.heap.size<=β s\/(100000<=s/\bf.B (β s))) :
  ∀(L:List Nat) (HV vK:St) {k:St->Prop},(∀s∈L,s∈A)->Mod n V0 bf β0 vK β a w V->HV.ao=vK.ao->(∀t,t∉L->HV.boxes t=vK.boxes t)->(∀s∈L,∃b,vK.boxes s=some b) ->
   (∀t b,vK.boxes t=some b->b.live->t∉A->∀s∈A,β t≠β s)->(∀s∈L,∀b,HV.boxes s=some b->∀t∈b.cs.ids,(∃b',vK.boxes t=some b')/\γ t=β t)->(∀m nb,mv=some (m,nb)->(∃b',vK.boxes nb=some b')/\γ nb=β nb) ->
   dC T mv γ V2 L HV k->∃st',Mod n V0 bf β0 st' β a w V/\st'.ao=vK.ao/\(∀t,(∃b,vK.boxes t=some b)->∃b,st'.boxes t=some b)/\k st'
 | [],HV,vK,k,_,hM,hsl,hag,_,_,_,_,h=>by
  have:HV=vK:=by
   obtain ⟨s1,b1⟩:=HV
   obtain ⟨s2,b2⟩:=vK
   dsimp only at hsl hag
   subst hsl
   congr 1
   funext t
   exact hag t (by simp)
  exact ⟨vK,hM,rfl,fun _ h=>h,this▸h⟩
 | s::r,HV,vK,k,hA,hM,hsl,hag,hb,hd,hw,hmv,h=>by
  have hsA:=hA s (by simp)
  obtain ⟨b0,hb0⟩:=hb s (by simp)
  have step:∀b1:aH,(∀t∈b1.cs.ids,(∃b',vK.boxes t=some b')/\γ t=β t)->w.heap[γ s]?=some (b1.obj γ)->dC T mv γ V2 r (HV.box s b1) k ->
    ∃st',Mod n V0 bf β0 st' β a w V/\st'.ao=vK.ao/\(∀t,(∃b,vK.boxes t=some b)->∃b,st'.boxes t=some b)/\k st':=by
   intro b1 eX tD h
   rw [Rp s hsA,aH.cj fun t ht=>(eX t ht).2] at tD
   by_cases hsr:s∈r
   ·
    refine ke hV2 Rp hinj pC hown r (HV.box s b1) vK (fun s' hs'=>hA s' (List.mem_cons_of_mem _ hs')) hM hsl ?_ (fun s' hs'=>hb s' (List.mem_cons_of_mem _ hs')) hd ?_ hmv h
    ·intro t ht
     have:t≠s:=fun e=>ht (e▸hsr)
     rw [ah,if_neg this]
     exact hag t (by simp [this,ht])
    ·intro s' hs' b' hb' t ht
     rw [ah] at hb'
     split at hb'
     ·cases hb';exact eX t ht
     ·exact hw s' (List.mem_cons_of_mem _ hs') b' hb' t ht
   ·have hM':=hM.fill (b:=b1) hb0 (fun t ht=>(eX t ht).1) (by
     intro t b' ht l hts he
     by_cases I6:t∈A
     ·exact hts (hinj t I6 s hsA he)
     ·exact hd t b' ht l I6 s hsA he) (pC s hsA) (hown s hsA) tD
    have hl:∀t,(∃b,vK.boxes t=some b)->∃b,(vK.box s b1).boxes t=some b:=by
     rintro t ⟨b,ht⟩
     rw [ah]
     split
     ·exact ⟨_,rfl⟩
     ·exact ⟨b,ht⟩
    obtain ⟨st',g1,g2,g3,g4⟩:=ke hV2 Rp hinj pC hown r (HV.box s b1) (vK.box s b1) (fun s' hs'=>hA s' (List.mem_cons_of_mem _ hs')) hM' hsl
     (by
      intro t ht
      rw [ah,ah]
      split
      ·rfl
      ·rename_i e;exact hag t (by simp [e,ht]))
     (fun s' hs'=>hl s' (hb s' (List.mem_cons_of_mem _ hs')))
     (by
      intro t b' ht l I6
      rw [ah] at ht
      split at ht
      ·rename_i e;exact absurd (e▸hsA) I6
      ·exact hd t b' ht l I6)
     (by
      intro s' hs' b' hb' t ht
      rw [ah] at hb'
      split at hb'
      ·cases hb';exact ⟨hl t (eX t ht).1,(eX t ht).2⟩
      ·have:=hw s' (List.mem_cons_of_mem _ hs') b' hb' t ht;exact ⟨hl t this.1,this.2⟩)
     (fun m nb e=>⟨hl nb (hmv m nb e).1,(hmv m nb e).2⟩) h
    exact ⟨st',g1,g2,fun t ht=>g3 t (hl t ht),g4⟩
  simp only [dC] at h
  split at h
  ·rename_i cs ty hcs
   split at h
   ·rename_i i hi
    obtain ⟨cs',⟨h1,h2⟩,h3⟩:=fR _ _ h
    rw [hV2] at h1
    refine step ⟨.lit cs',ty⟩ (fun t ht=>?_) h1 h2
    rcases h3 t ht with h4|⟨m,h4⟩
    ·exact hw s (by simp) _ hcs t h4
    ·exact hmv m t h4
   ·exact h.elim
  ·rename_i vs ty hcs
   obtain ⟨vs',h1,h2⟩:=h
   rw [hV2] at h1
   exact step ⟨.row vs',ty⟩ (fun t ht=>(nomatch ht)) h1 h2
  ·rename_i vs ty hcs
   obtain ⟨-,vs',-,h1,h2⟩:=h
   rw [hV2] at h1
   exact step ⟨.aO vs',ty⟩ (fun t ht=>(nomatch ht)) h1 h2
  ·exact h.elim
theorem tJ {mv:Option (Nat×Nat)}{V2:View}:∀{L:List Nat} {st:St} {k:St->Prop},dC T mv β V2 L st k->∀s∈L,∃b,st.boxes s=some b/\b.live
 | [],_,_,_,s,hs=>nomatch hs
 | s::r,st,k,h,t,ht=>by
  have core:∀b1:aH,(∃b,st.boxes s=some b/\b.live)->dC T mv β V2 r (st.box s b1) k->∃b,st.boxes t=some b/\b.live:=by
   intro b1 hs h
   by_cases e:t=s
   ·rw [e];exact hs
   ·have:=tJ h t (by simpa [e] using ht)
    rw [ah,if_neg e] at this
    exact this
  simp only [dC] at h
  split at h
  ·rename_i cs ty hcs
   split at h
   ·obtain ⟨cs',⟨h1,h2⟩,h3⟩:=fR _ _ h
    exact core _ ⟨_,hcs,ck⟩ h2
   ·exact h.elim
  ·rename_i vs ty hcs
   obtain ⟨vs',h1,h2⟩:=h
   exact core _ ⟨_,hcs,bV⟩ h2
  ·rename_i vs ty hcs
   obtain ⟨hne,vs',-,h1,h2⟩:=h
   exact core _ ⟨_,hcs,fun _ e=>by cases e;exact hne⟩ h2
  ·exact h.elim
theorem tI {bx:Nat->Option aH}{γ:Nat->Nat}{N b:Nat}{L:List Nat}(hl:∀s∈L,∃b,bx s=some b)(hb:b∈L.map (cI bx γ N))(hlt:b<N):∃s∈L,∃b0,bx s=some b0/\b0.live/\γ s=b:=by
 obtain ⟨s,hs,he⟩:=List.mem_map.1 hb
 obtain ⟨b0,hb0⟩:=hl s hs
 unfold cI at he
 rw [hb0] at he
 obtain ⟨cs,ty⟩:=b0
 cases cs with
 | lit cs=>exact ⟨s,hs,_,hb0,ck,he⟩
 | row cs=>exact ⟨s,hs,_,hb0,bV,he⟩
 | aO vs=>
  cases vs with
  | nil=>simp only [vb] at he;omega
  | cons v r=>exact ⟨s,hs,_,hb0,dK (by simp),he⟩
theorem qn {nb:Nat}:∀{xs:List (Bool×List C)},(xs.flatMap fun x=>x.2.flatMap C.ids)=[]->∀s∈((rM nb xs).flatMap fun x=>x.2.flatMap C.ids),s=nb
 | [],_,s,hs=>nomatch hs
 | x::r,h,s,hs=>by
  simp only [List.flatMap_cons,List.append_eq_nil_iff] at h
  unfold rM at hs
  split at hs
  ·rename_i heq;cases heq
  ·rename_i heq
   cases heq
   simp only [List.flatMap_cons,h.2,List.flatMap_nil,List.append_nil] at hs
   simpa [C.ids] using hs
  ·rename_i heq
   cases heq
   simp only [List.flatMap_cons,List.mem_append,h.1,List.not_mem_nil,false_or] at hs
   exact qn h.2 s hs
theorem tC {nb:Nat}:∀{cs:List C},(cs.flatMap C.ids)=[]->∀s∈(yH nb cs).flatMap C.ids,s=nb
 | [],_,s,hs=>nomatch hs
 | x::r,h,s,hs=>by
  simp only [List.flatMap_cons,List.append_eq_nil_iff] at h
  unfold yH at hs
  split at hs
  ·rename_i heq;cases heq
  ·rename_i heq
   cases heq
   simp only [List.flatMap_cons,h.2,List.append_nil] at hs
   simpa [C.ids] using hs
  ·rename_i heq
   cases heq
   simp only [List.flatMap_cons,List.mem_append,h.1,List.not_mem_nil,false_or] at hs
   exact tC h.2 s hs
theorem CF {nb:Nat}{x:SV}(h:x.ids=[]):∀s∈(pB nb x).ids,s=nb:=by
 intro s hs
 unfold pB at hs
 split at hs
 ·simpa [SV.ids,C.ids] using hs
 ·exact tC h s hs
 ·exact qn h s hs
 ·rw [h] at hs;cases hs
theorem An {xs:List SV}(h:∀x∈xs,x.ids=[])(γ δ:Nat->Nat):aG γ xs=aG δ xs:=by
 unfold aG
 rw [List.map_congr_left fun x hx=>iF (h x hx) γ δ]
theorem Mod.KX {w0:World}{V':View}(hM:Mod n V0 bf β0 st β a w V')(hlt:∀s b,st.boxes s=some b->b.live->β s<w0.heap.size)(hsz:V0.w.heap.size<=w0.heap.size){d b:Nat}{cs:List C}{e:TypeId}(hd:d<n)(hn:st.boxes d=none)
  (hb:w0.heap.size<=b)(hw:V'.w=w)(hblk:V'.aZ b (.cells (cs.map (C.den fun _=>0)).toArray e (0,0)))(eX:cs.flatMap C.ids=[]) :
  Mod n V0 bf β0 ((st.box d ⟨.lit cs,e⟩).put (some d) (.c (.ptr d 0))) (cW β d b) (a.put (some d) (.pointer (some ⟨b,0,none⟩))) w (V'.I2 b):=by
 have hne:∀s b',st.boxes s=some b'->s≠d:=fun s b' hs e=>by rw [e,hn] at hs;cases hs
 have hβ:∀s b',st.boxes s=some b'->cW β d b s=β s:=fun s b' hs=>fu _ _ (hne s b' hs)
 have hbw:w.heap[b]?=some (.cells (cs.map (C.den fun _=>0)).toArray e (0,0)):=(hM.my b _ hblk).1
 have tD:(⟨.lit cs,e⟩:aH).obj (cW β d b)=.cells (cs.map (C.den fun _=>0)).toArray e (0,0):=by
  simp only [aH.obj,Cells.den]
  rw [kb (β':=fun _=>0) fun s hs=>by rw [eX] at hs;cases hs]
 have Nw:Mod n V0 bf β0 (st.box d ⟨.lit cs,e⟩) (cW β d b) a w (V'.I2 b):=by
  refine ⟨hM.defers,hM.size,?_,?_,?_,?_,?_,?_,?_,hM.ext,?_,?_,hM.iT,hM.small⟩
  ·intro t x hx
   rw [hM.ao t x hx]
   exact SV.bw fun s hs=>by obtain ⟨b',hb'⟩:=hM.vh t x hx s hs;exact (hβ s b' hb').symm
  ·intro t x hx s hs
   obtain ⟨b',hb'⟩:=hM.vh t x hx s hs
   exact ⟨b',by rw [ah,if_neg (hne s b' hb')];exact hb'⟩
  ·intro s b' hs s' hs'
   rw [ah] at hs
   split at hs
   ·simp only [Option.some.injEq] at hs
    rw [←hs] at hs'
    simp only [Cells.ids] at hs'
    rw [eX] at hs';cases hs'
   ·obtain ⟨b'',jy⟩:=hM.vg s b' hs s' hs'
    exact ⟨b'',by rw [ah,if_neg (hne s' b'' jy)];exact jy⟩
  ·intro s b' hs l
   rw [ah] at hs
   split at hs
   ·rename_i e'
    simp only [Option.some.injEq] at hs
    rw [e',aK,←hs,tD]
    exact hbw
   ·rw [hβ s b' hs,hM.boxes s b' hs l]
    congr 1
    exact aH.cj fun s' hs'=>by obtain ⟨b'',jy⟩:=hM.vg s b' hs s' hs';exact (hβ s' b'' jy).symm
  ·intro s s' b1 b2 h1 l1 h2 l2 he
   rw [ah] at h1 h2
   split at h1<;>split at h2
   ·rename_i e1 e2;rw [e1,e2]
   ·rename_i e1 e2;rw [e1,aK,hβ s' b2 h2] at he;have:=hlt s' b2 h2 l2;omega
   ·rename_i e1 e2;rw [e2,aK,hβ s b1 h1] at he;have:=hlt s b1 h1 l1;omega
   ·rw [hβ s b1 h1,hβ s' b2 h2] at he;exact hM.inj s s' b1 b2 h1 l1 h2 l2 he
  ·rintro x o ⟨h1,h2⟩
   exact hM.my x o ⟨fun h=>h1 (.inl h),h2⟩
  ·rintro s b' hs l o ⟨h1,h2⟩
   rw [ah] at hs
   split at hs
   ·rename_i e'
    rw [e',aK] at h1
    exact h1 (.inr ⟨rfl,by rw [hw];exact ar hbw⟩)
   ·rw [hβ s b' hs] at h1 h2
    exact hM.qS s b' hs l o ⟨fun h=>h1 (.inl h),h2⟩
  ·intro s b' hs l
   rw [ah] at hs
   split at hs
   ·rename_i e';rw [e',aK];exact .inl (Nat.le_trans hsz hb)
   ·rw [hβ s b' hs];exact hM.own s b' hs l
  ·intro s hs
   obtain ⟨h1,h2⟩:=hM.jQ s hs
   exact ⟨h1,by rw [fu _ _ (by have:=hM.small;omega)];exact h2⟩
 refine Nw.put hd ?_ ?_
 ·simp only [SV.den,C.den,aK]
 ·intro s hs
  simp [SV.ids,C.ids] at hs
  subst hs
  exact ⟨_,by rw [ah,if_pos rfl]⟩
theorem tS {L:List Nat}{m s:Nat}:s∈(L.filter fun s=>!(Nat.beq s m))↔s∈L/\s≠m:=by
 rw [List.mem_filter]
 constructor
 ·rintro ⟨h1,h2⟩
  refine ⟨h1,fun e=>?_⟩
  subst e
  rw [Nat.beq_refl] at h2;cases h2
 ·rintro ⟨h1,h2⟩
  refine ⟨h1,?_⟩
  cases h:Nat.beq s m with
  | false=>rfl
  | true=>exact absurd (beq_eq.1 h) h2
theorem kV (hM:Mod n V0 bf β0 st β a w V){L:List Nat}{γ:Nat->Nat}(gj:∀s∈L,γ s=β s)(hcl:∀s∈L,∀b,st.boxes s=some b->∀t∈b.cs.ids,t∈L)(hlive:∀s∈L,∃b,st.boxes s=some b)
  {give:Bool}{sh:Sh}{m:Option Nat}{d:Nat}(hd:d<n){ety:TypeId}{K:St->View->Prop}{w':World}{r:Value}(hm:∀k,m=some k->k∈L)(hfree:hE st m d=true)
  (hx:dU (fun b=>b∈L.map (cI st.boxes γ w.heap.size)/\(bQ V w).H b) w w')
  (hr:bF T give sh L m d ety γ st (bQ V w) K r (((bQ V w).lend (L.map (cI st.boxes γ w.heap.size))).to w' hx.size)) :
  ∃st' β' V',Mod n V0 bf β0 st' β' (a.put (some d) r) w' V'/\K st' V':=by
 have hsz0:V0.w.heap.size<=w.heap.size:=hM.ext.size
 unfold bF at hr
 generalize hnb:dY m d=nb at hr
 obtain ⟨b',vs',hcont,Lz,hr1⟩:=hr
 obtain ⟨x,hx1,rfl,hr⟩:=Sh.dI sh hr1
 clear hr1
 have Lr:st.boxes nb=none:=by
  unfold hE at hfree
  rw [hnb] at hfree
  split at hfree
  ·cases hfree
  ·assumption
 have Ko:nb<n\/200000<=nb:=by
  rw [←hnb]
  cases m with
  | none=>exact .inl hd
  | some m=>exact yN hd
 generalize hV1:((((bQ V w).lend (L.map (cI st.boxes γ w.heap.size))).to w' hx.size).shut.hideG (vs'≠[]) b')=V1 at hr
 have QY:V1.w=w':=by rw [←hV1];rfl
 have E0:∀b o,V1.aZ b o->w'.heap[b]?=some o/\¬(b<w.heap.size/\∀o,¬V.aZ b o)/\¬(vs'≠[]/\b=b'/\b<w'.heap.size):=by
  rintro b o ⟨h1,h2⟩
  rw [QY] at h2
  rw [←hV1] at h1
  refine ⟨h2,fun h=>h1 (.inl h),fun h=>h1 (.inr ⟨h.1,h.2.1,by rw [←h.2.1];exact h.2.2⟩)⟩
 have Ly:∀b o,V1.aZ b o->w'.heap[b]?=some o/\¬V0.H b:=by
  intro b o h
  obtain ⟨h1,h2,-⟩:=E0 b o h
  refine ⟨h1,fun hH=>?_⟩
  by_cases hlt:b<w.heap.size
  ·exact h2 ⟨hlt,fun o' ho'=>(hM.my b o' ho').2 hH⟩
  ·have:=V0.hH b hH;omega
 have pC:∀s b,st.boxes s=some b->b.live->∀o,¬V1.aZ (β s) o:=fun s b hb l o ho=>
  (E0 _ o ho).2.1 ⟨ar (hM.boxes s b hb l),hM.qS s b hb l⟩
 have NA:∀b,(b∈L.map (cI st.boxes γ w.heap.size)/\(bQ V w).H b)->∃s∈L,∃b0,st.boxes s=some b0/\b0.live/\β s=b:=by
  rintro b ⟨h1,h2⟩
  obtain ⟨s,hs,b0,hb0,l0,he⟩:=tI hlive h1 h2.1
  exact ⟨s,hs,b0,hb0,l0,by rw [←gj s hs];exact he⟩
 have Cc:Mod n V0 bf β0 (cX st L ety) β a w' V1:=by
  refine (hM.Ew (L:=L) (ty:=ety)).later hx ?_ ?_ Ly ?_
  ·intro t b hb l hX
   rw [aV] at hb
   split at hb
   ·cases hb;exact d_ l
   ·rename_i ht
    obtain ⟨s,hs,b0,hb0,l0,he⟩:=NA _ hX
    exact ht (hM.inj s t b0 b hb0 l0 hb l he▸hs)
  ·intro i hi hX
   obtain ⟨s,hs,b0,hb0,l0,rfl⟩:=NA _ hX
   rcases hM.own s b0 hb0 l0 with h|h
   ·omega
   ·exact hM.iT _ h.2
  ·intro t b hb l
   rw [aV] at hb
   split at hb
   ·cases hb;exact absurd l d_
   ·exact pC t b hb l
 have NH:(cX st L ety).boxes nb=none:=by
  rw [aV,if_neg]
  ·exact Lr
  ·intro h;obtain ⟨b,hb⟩:=hlive nb h;rw [Lr] at hb;cases hb
 have CL:vs'≠[]->w.heap.size<=b'\/∃k b0,m=some k/\st.boxes k=some b0/\b0.live/\b'=β k:=by
  intro hne
  rcases Lz hne with h|h
  ·exact .inl h
  ·right
   cases m with
   | none=>exact h.elim
   | some k=>
    have Lo:=hm k rfl
    obtain ⟨b0,hb0⟩:=hlive k Lo
    simp only [u_,hb0] at h
    obtain ⟨cs,ty⟩:=b0
    cases cs with
    | lit cs=>exact ⟨k,_,rfl,hb0,ck,by rw [←gj k Lo];exact h⟩
    | row cs=>exact ⟨k,_,rfl,hb0,bV,by rw [←gj k Lo];exact h⟩
    | aO cs=>exact ⟨k,_,rfl,hb0,dK h.1,by rw [←gj k Lo];exact h.2⟩
 have Wr:Mod n V0 bf β0 ((cX st L ety).box nb ⟨.aO vs',ety⟩) (cW β nb b') a w' V1:=by
  by_cases hne:vs'=[]
  ·subst hne
   exact (Cc.beta Ko NH).void
  ·have NB:w'.heap[b']?=some (.cells vs'.toArray ety (0,0)):=hcont hne
   refine Cc.gi Ko NH rfl ?_ ?_ ?_ NB (fun _ _ _=>rfl) (Nat.le_refl _) rfl rfl rfl
   ·intro s b hb l he
    rw [aV] at hb
    split at hb
    ·cases hb;exact d_ l
    ·rename_i hsL
     rcases CL hne with h|⟨k,b0,hk,hb0,l0,h⟩
     ·have:=ar (hM.boxes s b hb l);omega
     ·exact hsL (hM.inj k s b0 b hb0 l0 hb l (h▸he.symm)▸hm k hk)
   ·intro o ho
    exact (E0 _ o ho).2.2 ⟨hne,rfl,ar NB⟩
   ·rcases CL hne with h|⟨k,b0,hk,hb0,l0,h⟩
    ·left;omega
    ·rcases hM.own k b0 hb0 l0 with h'|h'
     ·left;rw [h];exact h'
     ·right
      refine ⟨?_,by rw [h];exact h'.2⟩
      rw [←hnb,hk]
      exact D7 h'.1
 have CJ:∀s,(∃b,st.boxes s=some b)->s≠nb:=by rintro s ⟨b,hb⟩ rfl;rw [Lr] at hb;cases hb
 generalize hA:AM m L=A at hr
 have IW:∀s∈A,s∈L/\∀k,m=some k->s≠k:=by
  intro s hs
  rw [←hA] at hs
  cases m with
  | none=>exact ⟨hs,fun k h=>nomatch h⟩
  | some k=>obtain ⟨h1,h2⟩:=tS.1 hs;exact ⟨h1,fun j hj=>by cases hj;exact h2⟩
 have T_:∀s∈L,(∀k,m=some k->s≠k)->s∈A:=by
  intro s hs h
  rw [←hA]
  cases m with
  | none=>exact hs
  | some k=>exact tS.2 ⟨hs,h k rfl⟩
 have Ks:∀s,(∃b,st.boxes s=some b)->cW γ nb b' s=γ s/\cW β nb b' s=β s:=fun s hs=>⟨fu _ _ (CJ s hs),fu _ _ (CJ s hs)⟩
 have NO:∀s∈A,((nS m ety st).box nb ⟨.aO vs',ety⟩).boxes s=st.boxes s:=by
  intro s hs
  obtain ⟨h1,h2⟩:=IW s hs
  rw [ah,if_neg (CJ s (hlive s h1))]
  cases m with
  | none=>rfl
  | some k=>simp only [nS];rw [ah,if_neg (h2 k rfl)]
 have gX:∀s∈A,∃b,st.boxes s=some b/\b.live:=by
  intro s hs
  have:=tJ hr s hs
  rw [NO s hs] at this
  exact this
 obtain ⟨st',g1,g2,g3,g4⟩:=ke (a:=a) (w:=w') (V:=V1) (γ:=cW γ nb b') (β:=cW β nb b') (by rfl) (fun s hs=>by
   have:=Ks s (hlive s (IW s hs).1);rw [this.1,this.2];exact gj s (IW s hs).1)
  (by
   intro s hs s' hs' he
   rw [(Ks s (hlive s (IW s hs).1)).2,(Ks s' (hlive s' (IW s' hs').1)).2] at he
   obtain ⟨b1,e1,l1⟩:=gX s hs
   obtain ⟨b2,e2,l2⟩:=gX s' hs'
   exact hM.inj s s' b1 b2 e1 l1 e2 l2 he)
  (by
   intro s hs
   obtain ⟨b1,e1,l1⟩:=gX s hs
   rw [(Ks s ⟨b1,e1⟩).2]
   exact pC s b1 e1 l1)
  (by
   intro s hs
   obtain ⟨b1,e1,l1⟩:=gX s hs
   rw [(Ks s ⟨b1,e1⟩).2]
   exact hM.own s b1 e1 l1)
  A _ ((cX st L ety).box nb ⟨.aO vs',ety⟩) (fun _ h=>h) Wr
  (by
   show _=(cX st L ety).ao
   rw [iR]
   cases m<;>rfl)
  (by
   intro t ht
   rw [ah,ah]
   split
   ·rfl
   ·rw [aV]
    cases m with
    | none=>
     simp only [nS]
     rw [if_neg fun h=>ht (T_ t h fun k e=>nomatch e)]
    | some k=>
     simp only [nS]
     rw [ah]
     split
     ·rename_i e;rw [if_pos (e▸hm k rfl)]
     ·rename_i e;rw [if_neg fun h=>ht (T_ t h fun j hj=>by cases hj;exact e)])
  (by
   intro s hs
   rw [ah]
   split
   ·exact ⟨_,rfl⟩
   ·rw [aV,if_pos (IW s hs).1];exact ⟨_,rfl⟩)
  (by
   intro t b ht l I6 s hs
   obtain ⟨b1,e1,l1⟩:=gX s hs
   rw [(Ks s ⟨b1,e1⟩).2]
   rw [ah] at ht
   split at ht
   ·rename_i e
    simp only [Option.some.injEq] at ht
    rw [e,aK]
    have hne:vs'≠[]:=fun e0=>by rw [←ht,e0] at l;exact d_ l
    rcases CL hne with h|⟨k,b0,hk,hb0,l0,h⟩
    ·have:=ar (hM.boxes s b1 e1 l1);omega
    ·intro he
     exact (IW s hs).2 k hk (hM.inj k s b0 b1 hb0 l0 e1 l1 (h▸he)).symm
   ·rw [aV] at ht
    split at ht
    ·cases ht;exact absurd l d_
    ·rename_i Kr
     intro he
     rw [(Ks t ⟨b,ht⟩).2] at he
     exact Kr (hM.inj t s b b1 ht l e1 l1 he▸(IW s hs).1))
  (by
   intro s hs b hb t ht
   rw [NO s hs] at hb
   have Kr:=hcl s (IW s hs).1 b hb t ht
   have hb2:=Ks t (hlive t Kr)
   refine ⟨?_,by rw [hb2.1,hb2.2];exact gj t Kr⟩
   rw [ah]
   split
   ·exact ⟨_,rfl⟩
   ·rw [aV,if_pos Kr];exact ⟨_,rfl⟩)
  (by
   intro k nb' e
   have:nb'=nb:=by
    cases m with
    | none=>cases e
    | some m=>cases e;rfl
   subst this
   exact ⟨⟨_,by rw [ah,if_pos rfl]⟩,by rw [aK,aK]⟩)
  hr
 obtain ⟨b2,hb2⟩:=g3 nb ⟨_,by rw [ah,if_pos rfl]⟩
 have eX:∀s∈(cond give (pB nb x) x).ids,s=nb:=by
  cases give with
  | true=>exact CF hx1
  | false=>intro s hs;rw [cond_false,hx1] at hs;cases hs
 refine ⟨_,_,_,g1.put (x:=cond give (pB nb x) x) hd ?_ ?_,g4⟩
 ·exact SV.bw fun s hs=>by rw [eX s hs,aK,aK]
 ·intro s hs
  rw [eX s hs]
  exact ⟨b2,hb2⟩
theorem iC (hM:Mod n V0 bf β0 st β a w V){m:CM}{f:FuncId}{xs:List SV}{ty:TypeId}{dst:Option Nat}{K:St->View->Prop}{next:Act->World->Prop}{Q:Exit->Act->World->Prop}
  (hd:∀d,dst=some d->d<n)(hv:ew P T m f xs ty dst st V K)
  (hK:∀st' β' a' w' V',Mod n V0 bf β0 st' β' a' w' V'->K st' V'->next a' w') :
  jj P f/\Calls P f (aG β xs) w fun
   | .returned v,w''=>next (a.put dst v) w''
   | .panicked chain,w''=>Q (.panic chain) a w''
   | .outgrown,_=>LetsOut Q:=by
 have hle:=pW hM
 have hsz0:V0.w.heap.size<=w.heap.size:=hM.ext.size
 unfold ew at hv
 split at hv
 ·exact hv.elim
 ·rename_i sh hsh
  split at hv
  ·
   rename_i eX
   have hnil:∀x∈xs,x.ids=[]:=by
    intro x hx
    rcases hx':x.ids with _|⟨s,r⟩
    ·rfl
    ·exfalso
     have:s∈reach st.boxes 3 (dedup (xs.flatMap SV.ids)):=dL 3 _ s (bD.2 (List.mem_flatMap.2 ⟨x,hx,by rw [hx'];simp⟩))
     rw [eX] at this
     cases this
   have Ua:∀(w':World)(hx:dU (fun _=>False) w w'),Mod n V0 bf β0 st β a w' ((bQ V w).to w' hx.size):=by
    intro w' hx
    refine hM.later hx (fun _ _ _ _ h=>h) (fun _ _ h=>h.elim) ?_ ?_
    ·rintro b o ⟨h1,h2⟩
     refine ⟨h2,fun hH=>?_⟩
     by_cases hlt:b<w.heap.size
     ·apply h1
      refine ⟨hlt,fun o' ho'=>(hM.my b o' ho').2 hH⟩
     ·have:=V0.hH b hH;omega
    ·rintro s b hb l o ⟨h1,-⟩
     exact h1 ⟨ar (hM.boxes s b hb l),hM.qS s b hb l⟩
   rw [An hnil β fun _=>0]
   split at hv
   ·
    split at hv
    ·rename_i d ety hgt
     split at hv
     ·exact hv.elim
     ·rename_i hfree
      obtain ⟨hc,cg⟩:=hv (bQ V w) hle
      refine ⟨hc,Calls.mono cg ?_⟩
      rintro e' w' ⟨r,rfl,hx,hr⟩
      have hx1:dU (fun b=>b∈([]:List Nat).map (cI st.boxes (fun _=>0) w.heap.size)/\(bQ V w).H b) w w':=hx.mono fun _ h=>h.elim
      have hr1:bF T true sh [] Option.none d ety (fun _=>0) st (bQ V w) K r (((bQ V w).lend (([]:List Nat).map (cI st.boxes (fun _=>0) w.heap.size))).to w' hx1.size):=by
       unfold bF AM at hr ⊢
       exact hr
      obtain ⟨st',β',V',h1,h2⟩:=kV (T:=T) (give:=true) (m:=Option.none) hM (fun s hs=>absurd hs (by simp)) (fun s hs=>absurd hs (by simp)) (fun s hs=>absurd hs (by simp)) (hd d rfl) (fun k hk=>by cases hk) hfree hx1 hr1
      exact hK _ _ _ _ _ h1 h2
    ·exact hv.elim
   ·split at hv
    ·rename_i d
     split at hv
     ·exact hv.elim
     ·rename_i hn
      split at hv
      ·rename_i ti hti
       split at hv
       ·rename_i e he
        split at hv
        ·rename_i ei Az
         obtain ⟨hc,cg⟩:=hv (bQ V w) hle
         refine ⟨hc,Calls.mono cg ?_⟩
         rintro e' w' ⟨r,rfl,hx,b,hr⟩
         obtain ⟨cs,h1,h2,rfl,h4,h5,h6⟩:=nQ _ hr
         exact hK _ _ _ _ _ ((Ua w' hx).KX (w0:=w) (fun s b hb l=>ar (hM.boxes s b hb l)) hsz0 (hd d rfl) hn h4 rfl h5 h1) h6
        ·exact hv.elim
       ·exact hv.elim
      ·exact hv.elim
    ·exact hv.elim
   ·obtain ⟨hc,cg⟩:=hv (bQ V w) hle
    refine ⟨hc,Calls.mono cg ?_⟩
    rintro e w' ⟨r,rfl,hx,hr⟩
    obtain ⟨x,hx1,rfl,hx3⟩:=Sh.dI sh hr
    have hx:dU (fun _=>False) w w':=hx
    exact hK (st.put dst x) β _ _ _ ((Ua w' hx).C5 hd (iF hx1 _ _) (bG hx1)) hx3
  ·rename_i s0 r0 eX
   split at hv
   ·exact hv.elim
   ·rename_i hcl
    generalize hL:s0::r0=L at hv eX hcl
    have PE:∀x∈xs,∀s∈x.ids,s∈L:=by
     intro x hx s hs
     rw [←eX]
     exact dL 3 _ s (bD.2 (List.mem_flatMap.2 ⟨x,hx,hs⟩))
    have hcl':∀s∈L,∀b,st.boxes s=some b->∀t∈b.cs.ids,t∈L:=fun s hs b hb=>eL hcl hs hb
    have Ot:∀{R:(Nat->Nat)->Value->View->Prop},(jP L (fun _=>0) fun γ=>gk st.boxes γ (bQ V w) L (Acts P f (aG γ xs) ((bQ V w).lend (L.map (cI st.boxes γ w.heap.size))) (R γ))) ->
      ∃γ,(∀s∈L,γ s=β s)/\(∀s∈L,∃b,st.boxes s=some b)/\Acts P f (aG β xs) ((bQ V w).lend (L.map (cI st.boxes γ w.heap.size))) (R γ):=by
     intro R hv
     have hv1:=gH hv β
     generalize hγ:(fun t=>if t∈L then β t else (fun _=>0) t)=γ at hv1
     have gj:∀s∈L,γ s=β s:=fun s hs=>by rw [←hγ];simp [hs]
     have tD:∀s∈L,∀b,st.boxes s=some b->b.obj γ=b.obj β:=fun s hs b hb=>aH.cj fun t ht=>gj t (hcl' s hs b hb t ht)
     obtain ⟨hlive,hact⟩:=tK hv1 (by
      intro s hs b hb l
      rw [gj s hs,tD s hs b hb]
      exact ⟨hM.boxes s b hb l,ar (hM.boxes s b hb l),hM.qS s b hb l⟩) (by
      intro s hs t ht b b' hb l hb' l' e
      rw [gj s hs,gj t ht] at e
      exact hM.inj s t b b' hb l hb' l' e)
     refine ⟨γ,gj,hlive,?_⟩
     have hargs:aG γ xs=aG β xs:=by
      unfold aG
      rw [List.map_congr_left fun x hx=>SV.bw fun s hs=>gj s (PE x hx s hs)]
     rw [←hargs]
     exact hact
    have moved:∀{give:Bool} {mm:Option Nat} {d:Nat} {ety:TypeId},dst=some d->(∀k,mm=some k->k∈L)->hE st mm d=true ->
      (∀V':View,V.Le V'->jP L (fun _=>0) fun γ=>gk st.boxes γ V' L (Acts P f (aG γ xs) (V'.lend (L.map (cI st.boxes γ V'.w.heap.size))) (bF T give sh L mm d ety γ st V' K))) ->
      jj P f/\Calls P f (aG β xs) w fun
       | .returned v,w''=>next (a.put dst v) w''
       | .panicked chain,w''=>Q (.panic chain) a w''
       | .outgrown,_=>LetsOut Q:=by
     intro give mm d ety hdst hmm hfree hv
     obtain ⟨γ,gj,hlive,hc,cg⟩:=Ot (R:=fun γ=>bF T give sh L mm d ety γ st (bQ V w) K) (hv (bQ V w) hle)
     refine ⟨hc,Calls.mono cg ?_⟩
     rintro e w' ⟨r,rfl,hx,hr⟩
     obtain ⟨st',β',V',h1,h2⟩:=kV hM gj hcl' hlive (hd d hdst) hmm hfree hx hr
     rw [hdst]
     exact hK _ _ _ _ _ h1 h2
    have RM:∀k,k∈nZ st.boxes L->k∈L:=by
     intro k hk
     unfold nZ at hk
     obtain ⟨s,hs,hk⟩:=List.mem_flatMap.1 (bD.1 hk)
     split at hk
     ·rename_i cs ty hb
      refine hcl' s hs _ hb k ?_
      have:∀cs:List C,k∈mS cs->k∈cs.flatMap C.ids:=by
       intro cs
       induction cs with
       | nil=>exact fun h=>nomatch h
       | cons c r ih=>
        intro h
        rw [List.flatMap_cons,List.mem_append]
        cases c<;>simp only [mS,List.mem_cons] at h<;>first
         | exact .inr (ih h)
         | (rcases h with h|h
            ·left;simp [C.ids,h]
            ·exact .inr (ih h))
      exact this cs hk
     ·cases hk
    have Qr:∀k,k∈kf xs->k∈L:=by
     intro k hk
     have:∀xs:List SV,k∈kf xs->∃x∈xs,k∈x.ids:=by
      intro xs
      induction xs with
      | nil=>exact fun h=>nomatch h
      | cons x r ih=>
       intro h
       unfold kf at h
       split at h
       ·rename_i heq;cases heq
       ·rename_i s n c r' heq;cases heq;exact ⟨.c (.ir s n c),List.mem_cons_self,h⟩
       ·rename_i s n c r' heq;cases heq;exact ⟨.c (.kD s 0 n c),List.mem_cons_self,h⟩
       ·rename_i heq;cases heq
        obtain ⟨y,hy,hk⟩:=ih h
        exact ⟨y,by simp [hy],hk⟩
     obtain ⟨x,hx,hk⟩:=this xs hk
     exact PE x hx k hk
    split at hv
    ·exact hv.elim
    ·exact hv.elim
    ·
     split at hv
     ·split at hv
      ·exact hv.elim
      ·rename_i hfree;exact moved rfl (fun k hk=>by cases hk) hfree hv
     ·rename_i d ety k _ hfs _
      split at hv
      ·split at hv
       ·exact hv.elim
       ·rename_i hfree;exact moved rfl (fun j hj=>by cases hj;exact Qr k (by rw [hfs];simp)) hfree hv
      ·split at hv
       ·exact hv.elim
       ·rename_i hfree
        split at hv
        ·exact hv.elim
        ·
         rename_i hsmall
         rw [List.all_eq_true] at hsmall
         let Vr:View:=⟨w,fun b=>(b<w.heap.size/\∀o,¬V.aZ b o)/\¬∃s∈L,∃b0,st.boxes s=some b0/\b0.live/\β s=b,fun _=>False,fun _ h=>h.1.1,fun _ h=>h.elim⟩
         have hle':V.Le Vr:=fun b o hb=>⟨fun h=>h.1.2 o hb,(hM.my b o hb).1⟩
         have Ax:Mod n V0 bf β0 (cX st L 0) β a w Vr:=by
          have Cc:=hM.Ew (L:=L) (ty:=0)
          refine ⟨Cc.defers,Cc.size,Cc.ao,Cc.vh,Cc.vg,Cc.boxes,Cc.inj,?_,?_,Cc.ext,Cc.own,Cc.jQ,Cc.iT,hM.small⟩
          ·rintro b o ⟨h1,h2⟩
           refine ⟨h2,fun hH=>?_⟩
           have hlt:=ar h2
           apply h1
           refine ⟨⟨hlt,fun o' ho'=>(hM.my b o' ho').2 hH⟩,fun hm=>?_⟩
           obtain ⟨s,hs,b0,hb0,l0,rfl⟩:=hm
           rcases hM.own s b0 hb0 l0 with h|h
           ·have:=V0.hH _ hH;omega
           ·have:=Nat.le_of_ble_eq_true (hsmall s hs);omega
          ·rintro s b hb l o ⟨h1,-⟩
           rw [aV] at hb
           split at hb
           ·cases hb;exact absurd l d_
           ·rename_i hsL
            refine h1 ⟨⟨ar (hM.boxes s b hb l),hM.qS s b hb l⟩,fun hm=>?_⟩
            obtain ⟨s',hs',bs,hbs,ls,he⟩:=hm
            exact hsL (hM.inj s' s bs b hbs ls hb l he▸hs')
         have hv1:=gH (hv (bQ Vr w) (hle'.trans (pW Ax))) β
         generalize hγ:(fun t=>if t∈L then β t else (fun _=>0) t)=γ at hv1
         have gj:∀s∈L,γ s=β s:=fun s hs=>by rw [←hγ];simp [hs]
         obtain ⟨hlive,hc,cg⟩:=gJ hv1 (by
          intro s hs b hb l
          rw [gj s hs,aH.cj fun t ht=>gj t (eL hcl hs hb t ht)]
          exact pW Ax _ _ ⟨fun h=>h.2 ⟨s,hs,b,hb,l,rfl⟩,hM.boxes s b hb l⟩)
         refine ⟨hc,?_⟩
         have hargs:aG γ xs=aG β xs:=by
          unfold aG
          rw [List.map_congr_left fun x hx=>SV.bw fun s hs=>gj s (PE x hx s hs)]
         rw [hargs] at cg
         refine Calls.mono cg ?_
         rintro e' w' ⟨r,rfl,hx,hr⟩
         have hx1:dU (fun b=>b∈([]:List Nat).map (cI (cX st L 0).boxes (fun _=>0) w.heap.size)/\(bQ Vr w).H b) w w':=hx.mono fun _ h=>h.elim
         have hr1:bF T true sh [] Option.none d ety (fun _=>0) (cX st L 0) (bQ Vr w) K r (((bQ Vr w).lend (([]:List Nat).map (cI (cX st L 0).boxes (fun _=>0) w.heap.size))).to w' hx1.size):=by
          unfold bF AM at hr ⊢
          exact hr
         obtain ⟨st',β',V',h1,h2⟩:=kV (T:=T) (give:=true) (m:=Option.none) Ax (fun s hs=>absurd hs (by simp)) (fun s hs=>absurd hs (by simp)) (fun s hs=>absurd hs (by simp)) (hd d rfl) (fun k hk=>by cases hk) hfree hx1 hr1
         exact hK _ _ _ _ _ h1 h2
     ·exact hv.elim
    ·
     split at hv
     ·obtain ⟨γ,gj,hlive,hc,cg⟩:=Ot (R:=fun γ r' dO=>sh.ex fun x=>r'=x.den (fun _=>0)/\dC T Option.none γ dO L st fun st'=>K (st'.put dst x) dO.shut) (hv (bQ V w) hle)
      refine ⟨hc,Calls.mono cg ?_⟩
      rintro e w' ⟨r,rfl,hx,hr⟩
      obtain ⟨x,hx1,rfl,hx3⟩:=Sh.dI sh hr
      have hx:dU (fun b=>b∈L.map (cI st.boxes γ w.heap.size)/\(bQ V w).H b) w w':=hx
      generalize hV1:(((bQ V w).lend (L.map (cI st.boxes γ w.heap.size))).to w' hx.size)=V2 at hx3
      have QZ:V2.w=w':=by rw [←hV1];rfl
      have NA:∀b,(b∈L.map (cI st.boxes γ w.heap.size)/\(bQ V w).H b)->∃s∈L,∃b0,st.boxes s=some b0/\b0.live/\β s=b:=by
       rintro b ⟨h1,h2⟩
       obtain ⟨s,hs,b0,hb0,l0,he⟩:=tI hlive h1 h2.1
       exact ⟨s,hs,b0,hb0,l0,by rw [←gj s hs];exact he⟩
      have E0:∀b o,V2.shut.aZ b o->w'.heap[b]?=some o/\¬(b<w.heap.size/\∀o,¬V.aZ b o):=by
       rintro b o ⟨h1,h2⟩
       rw [←hV1] at h1 h2
       exact ⟨h2,h1⟩
      have pC:∀s b,st.boxes s=some b->b.live->∀o,¬V2.shut.aZ (β s) o:=fun s b hb l o ho=>
       (E0 _ o ho).2 ⟨ar (hM.boxes s b hb l),hM.qS s b hb l⟩
      have Cc:Mod n V0 bf β0 (cX st L 0) β a w' V2.shut:=by
       refine (hM.Ew (L:=L) (ty:=0)).later hx ?_ ?_ ?_ ?_
       ·intro t b hb l hX
        rw [aV] at hb
        split at hb
        ·cases hb;exact d_ l
        ·rename_i ht
         obtain ⟨s,hs,b0,hb0,l0,he⟩:=NA _ hX
         exact ht (hM.inj s t b0 b hb0 l0 hb l he▸hs)
       ·intro i hi hX
        obtain ⟨s,hs,b0,hb0,l0,rfl⟩:=NA _ hX
        rcases hM.own s b0 hb0 l0 with h|h
        ·omega
        ·exact hM.iT _ h.2
       ·intro b o h
        obtain ⟨h1,h2⟩:=E0 b o h
        refine ⟨h1,fun hH=>?_⟩
        by_cases hlt:b<w.heap.size
        ·exact h2 ⟨hlt,fun o' ho'=>(hM.my b o' ho').2 hH⟩
        ·have:=V0.hH b hH;omega
       ·intro t b hb l
        rw [aV] at hb
        split at hb
        ·cases hb;exact absurd l d_
        ·exact pC t b hb l
      have gX:=tJ hx3
      obtain ⟨st',g1,g2,g3,g4⟩:=ke (a:=a) (w:=w') (V:=V2.shut) (γ:=γ) (β:=β) QZ gj
       (by
        intro s hs s' hs' he
        obtain ⟨b1,e1,l1⟩:=gX s hs
        obtain ⟨b2,e2,l2⟩:=gX s' hs'
        exact hM.inj s s' b1 b2 e1 l1 e2 l2 he)
       (by intro s hs;obtain ⟨b1,e1,l1⟩:=gX s hs;exact pC s b1 e1 l1)
       (by intro s hs;obtain ⟨b1,e1,l1⟩:=gX s hs;exact hM.own s b1 e1 l1)
       L st (cX st L 0) (fun _ h=>h) Cc iR.symm (by intro t ht;rw [aV,if_neg ht])
       (by intro s hs;rw [aV,if_pos hs];exact ⟨_,rfl⟩)
       (by
        intro t b ht l I6 s hs he
        rw [aV,if_neg I6] at ht
        obtain ⟨b1,e1,l1⟩:=gX s hs
        exact I6 (hM.inj t s b b1 ht l e1 l1 he▸hs))
       (by
        intro s hs b hb t ht
        have Kr:=hcl' s hs b hb t ht
        exact ⟨by rw [aV,if_pos Kr];exact ⟨_,rfl⟩,gj t Kr⟩)
       (fun m nb e=>by cases e) hx3
      exact hK _ _ _ _ _ (g1.C5 hd (iF hx1 _ _) (bG hx1)) g4
     ·rename_i k hmv
      split at hv
      ·rename_i d ety _
       split at hv
       ·exact hv.elim
       ·rename_i hfree;exact moved rfl (fun j hj=>by cases hj;exact RM k (by rw [hmv];simp)) hfree hv
      ·exact hv.elim
     ·exact hv.elim
    ·
     split at hv
     ·exact hv.elim
     ·rename_i hsmall
      rw [List.all_eq_true] at hsmall
      let Vr:View:=⟨w,fun b=>(b<w.heap.size/\∀o,¬V.aZ b o)/\¬∃s∈L,∃b0,st.boxes s=some b0/\b0.live/\β s=b,fun _=>False,fun _ h=>h.1.1,fun _ h=>h.elim⟩
      have hle':V.Le Vr:=fun b o hb=>⟨fun h=>h.1.2 o hb,(hM.my b o hb).1⟩
      have hv1:=gH (hv Vr hle') β
      generalize hγ:(fun t=>if t∈L then β t else (fun _=>0) t)=γ at hv1
      have gj:∀s∈L,γ s=β s:=fun s hs=>by rw [←hγ];simp [hs]
      obtain ⟨hlive,hc,cg⟩:=gJ hv1 (by
       intro s hs b hb l
       rw [gj s hs,aH.cj fun t ht=>gj t (eL hcl hs hb t ht)]
       exact ⟨fun h=>h.2 ⟨s,hs,b,hb,l,rfl⟩,hM.boxes s b hb l⟩)
      refine ⟨hc,?_⟩
      have hargs:aG γ xs=aG β xs:=by
       unfold aG
       rw [List.map_congr_left fun x hx=>SV.bw fun s hs=>gj s (PE x hx s hs)]
      rw [hargs] at cg
      refine Calls.mono cg ?_
      rintro e w' ⟨r,rfl,hx,hr⟩
      obtain ⟨x,hx1,rfl,hx3⟩:=Sh.dI sh hr
      have hx:dU (fun _=>False) w w':=hx
      refine hK ((st.rel L γ (C.den β)).put dst x) β _ _ _ ?_ (hx3 (C.den β))
      have Ax:=hM.rel (L:=L) (β':=γ) gj
      have hM':Mod n V0 bf β0 (st.rel L γ (C.den β)) β a w' (Vr.to w' hx.size):=by
       refine Ax.later hx (fun _ _ _ _ h=>h) (fun _ _ h=>h.elim) ?_ ?_
       ·rintro b o ⟨h1,h2⟩
        refine ⟨h2,fun hH=>?_⟩
        by_cases hlt:b<w.heap.size
        ·apply h1
         refine ⟨⟨hlt,fun o' ho'=>(hM.my b o' ho').2 hH⟩,fun hm=>?_⟩
         obtain ⟨s,hs,b0,hb0,l0,rfl⟩:=hm
         rcases hM.own s b0 hb0 l0 with h|h
         ·have:=V0.hH _ hH;omega
         ·have:=Nat.le_of_ble_eq_true (hsmall s hs);omega
        ·have:=V0.hH b hH;omega
       ·rintro s b hb l o ⟨h1,-⟩
        obtain ⟨hsL,y,hy,rfl⟩:=eV hb
        have ly:=aH.eh l
        refine h1 ⟨⟨ar (hM.boxes s y hy ly),hM.qS s y hy ly⟩,fun hm=>?_⟩
        obtain ⟨s',hs',bs,hbs,ls,he⟩:=hm
        exact hsL (hM.inj s' s bs y hbs ls hy ly he▸hs')
      exact hM'.C5 hd (iF hx1 _ _) (bG hx1)
theorem Mod.release (hM:Mod n V0 bf β0 st β a w V){l:List Nat}{K:St->View->Prop}(hv:Ev l st V K):∃st' V',Mod n V0 bf β0 st' β a w V'/\V.Le V'/\K st' V':=by
 unfold Ev at hv
 split at hv
 ·exact ⟨st,V,hM,fun _ _ h=>h,hv⟩
 ·rename_i s0 r0
  split at hv
  ·exact hv.elim
  ·rename_i E2
   generalize hL:s0::r0=L at hv E2
   rw [Bool.and_eq_true,List.all_eq_true] at E2
   obtain ⟨hcl,hsmall⟩:=E2
   let Vr:View:=⟨w,fun b=>(b<w.heap.size/\∀o,¬V.aZ b o)/\¬∃s∈L,∃b0,st.boxes s=some b0/\b0.live/\β s=b,fun _=>False,fun _ h=>h.1.1,fun _ h=>h.elim⟩
   have hle':V.Le Vr:=fun b o hb=>⟨fun h=>h.1.2 o hb,(hM.my b o hb).1⟩
   have hv1:=gH (hv Vr hle') β
   generalize hγ:(fun t=>if t∈L then β t else (fun _=>0) t)=γ at hv1
   have gj:∀s∈L,γ s=β s:=fun s hs=>by rw [←hγ];simp [hs]
   obtain ⟨hlive,hk⟩:=gJ hv1 (by
    intro s hs b hb l
    rw [gj s hs,aH.cj fun t ht=>gj t (eL hcl hs hb t ht)]
    exact ⟨fun h=>h.2 ⟨s,hs,b,hb,l,rfl⟩,hM.boxes s b hb l⟩)
   have Ax:=hM.rel (L:=L) (β':=γ) gj
   refine ⟨_,Vr,?_,hle',hk (C.den β)⟩
   refine ⟨Ax.defers,Ax.size,Ax.ao,Ax.vh,Ax.vg,Ax.boxes,Ax.inj,?_,?_,Ax.ext,Ax.own,Ax.jQ,Ax.iT,hM.small⟩
   ·rintro b o ⟨h1,h2⟩
    refine ⟨h2,fun hH=>?_⟩
    have hlt:=ar h2
    apply h1
    refine ⟨⟨hlt,fun o' ho'=>(hM.my b o' ho').2 hH⟩,fun hm=>?_⟩
    obtain ⟨s,hs,b0,hb0,l0,rfl⟩:=hm
    rcases hM.own s b0 hb0 l0 with h|h
    ·have:=V0.hH _ hH;omega
    ·have:=Nat.le_of_ble_eq_true (hsmall s hs);omega
   ·rintro s b hb l o ⟨h1,-⟩
    obtain ⟨hsL,y,hy,rfl⟩:=eV hb
    have ly:=aH.eh l
    refine h1 ⟨⟨ar (hM.boxes s y hy ly),hM.qS s y hy ly⟩,fun hm=>?_⟩
    obtain ⟨s',hs',bs,hbs,ls,he⟩:=hm
    exact hsL (hM.inj s' s bs y hbs ls hy ly he▸hs')
theorem uq {bx:Nat->Option aH}{β:Nat->Nat}:∀{xs xs':List SV} {vs:List Value} {c:Nat},kr bx xs=some (vs,c,xs')->c=0->xs'.map (SV.den β)=xs.map (SV.den β)
 | [],_,_,_,h,_=>nomatch h
 | x::r,xs',vs,c,h,hc=>by
  simp only [kr] at h
  split at h
  ·split at h
   ·cases h
    subst hc
    simp [SV.den,C.den,mA]
   ·cases h
  ·split at h
   ·rename_i e
    cases h
    rw [List.map_cons,List.map_cons,uq e hc]
   ·cases h
theorem ur {bx:Nat->Option aH}:∀{xs xs':List SV} {vs:List Value} {c:Nat},kr bx xs=some (vs,c,xs')->∀t∈xs'.flatMap SV.ids,t∈xs.flatMap SV.ids
 | [],_,_,_,h=>nomatch h
 | x::r,xs',vs,c,h=>by
  simp only [kr] at h
  split at h
  ·split at h
   ·cases h
    intro t ht
    simp only [List.flatMap_cons,SV.ids,C.ids,List.mem_append] at ht ⊢
    right
    simpa using ht
   ·cases h
  ·split at h
   ·rename_i e
    cases h
    intro t ht
    rw [List.flatMap_cons,List.mem_append] at ht ⊢
    exact ht.imp_right (ur e t)
   ·cases h
theorem oB {bx bx':Nat->Option aH}:∀{xs:List SV},(∀s∈xs.flatMap SV.ids,bx' s=bx s)->kr bx' xs=kr bx xs
 | [],_=>rfl
 | x::r,h=>by
  have ih:=oB (xs:=r) fun s hs=>h s (by rw [List.flatMap_cons];exact List.mem_append_right _ hs)
  simp only [kr]
  rw [ih]
  split
  ·rename_i s n c
   rw [h s (by rw [List.flatMap_cons];exact List.mem_append_left _ (by simp [SV.ids,C.ids]))]
  ·rfl
theorem sP (hM:Mod n V0 bf β0 st β a w V){m:CM}{f:FuncId}{xs:List SV}{ty:TypeId}{dst:Option Nat}{K:St->View->Prop}{next:Act->World->Prop}{Q:Exit->Act->World->Prop}
  (hd:∀d,dst=some d->d<n)(hv:je P T m f xs ty dst st V K)
  (hK:∀st' β' a' w' V',Mod n V0 bf β0 st' β' a' w' V'->K st' V'->next a' w') :
  jj P f/\Calls P f (aG β xs) w fun
   | .returned v,w''=>next (a.put dst v) w''
   | .panicked chain,w''=>Q (.panic chain) a w''
   | .outgrown,_=>LetsOut Q:=by
 unfold je at hv
 split at hv
 ·split at hv
  ·rename_i vs c xs' e
   by_cases h:vs=[]
   ·obtain ⟨hc,h1⟩:=hv.1 h
    have:=iC (Q:=Q) hM hd h1 hK
    unfold aG at this ⊢
    rw [uq e hc] at this
    exact this
   ·exact iC hM hd (hv.2 h) hK
  ·exact iC hM hd hv hK
 ·exact iC hM hd hv hK
end Go.Eng
namespace Go.Eng
variable {P:Program} {T:cD} {n:Nat} {V0:View} {bf:Ce} {β0:Nat->Nat} {st:St} {β:Nat->Nat} {a:Act} {w:World} {V:View}
theorem CW {t:TypeId}{name:String}{f:FuncId}(h:CV P t name=some f)(k:Nat)(v:Value)(w:World):(Go.method (k+1) t v name).run P w=.ok (f,v) w:=by
 unfold CV at h
 split at h
 ·rename_i i d h1 h2
  split at h
  ·rename_i m hm
   split at h
   ·rename_i f' fs hp hf
    cases h
    have hp':m.path=#[]:=by apply Array.ext';exact hp
    simp only [Go.method,typeInfo,Sem.run_bind,run_program,Result.andThen_ok,h1,hm,Sem.run_pure,hp',follow,hf,receiverAt,ag h2,Place.get]
   ·cases h
  ·cases h
 ·cases h
theorem qc (hT:cD.ok P T)(hM:Mod n V0 bf β0 st β a w V){m:CM}{o:Oper}{K:St->View->Prop}{next:Act->World->Prop}{Q:Exit->Act->World->Prop}
  (hd:∀d,o.dst=some d->d<n)(hv:cw P T m o st V K)
  (hK:∀st' β' a' w' V',Mod n V0 bf β0 st' β' a' w' V'->K st' V'->next a' w'):o.wp P a w next Q:=by
 unfold cw at hv
 split at hv
 ·rename_i Ik args ts hop
  split at hv
  ·rename_i xs hxs
   obtain ⟨h1,h2⟩:=eT hM _ _ hxs
   split at hv
   ·rename_i f ss hf
    obtain ⟨hc,cg⟩:=sP (Q:=Q) hM hd hv hK
    have e1:args.map a.eval=(xs.map (SV.den β)).toArray:=by apply Array.ext';rw [Array.toList_map];exact h1
    have e2:aG β (xs++sS ss)=(xs.map (SV.den β)).toArray++(ss.map fun s=>Value.pointer (some ⟨β s,0,none⟩)).toArray:=by
     unfold aG sS
     rw [List.map_append,List.map_map]
     apply Array.ext'
     simp [Function.comp_def,SV.den,C.den]
    have hrun:(execOp a.eval o).run P w=.ok (.enter f (aG β (xs++sS ss))) w:=by
     rw [e2]
     simp only [execOp,hop,resolve,hM.eval hf,SV.den,C.den,Deferred.ofValue,pure_bind,invoke,e1,Array.empty_append]
     exact hc.run _
    unfold Oper.wp
    rw [hrun]
    exact cg
   ·exact hv.elim
  ·exact hv.elim
 ·rename_i recv name args ts hop
  split at hv
  ·rename_i xs hxs
   obtain ⟨h1,h2⟩:=eT hM _ _ hxs
   split at hv
   ·rename_i t v hf
    split at hv
    ·rename_i f GH
     obtain ⟨hc,cg⟩:=sP (Q:=Q) hM hd hv hK
     have e1:args.map a.eval=(xs.map (SV.den β)).toArray:=by apply Array.ext';rw [Array.toList_map];exact h1
     have e2:aG β (.c (.w v)::xs)=#[v]++(xs.map (SV.den β)).toArray:=by
      unfold aG
      apply Array.ext'
      simp [SV.den,C.den]
     have hrun:(execOp a.eval o).run P w=.ok (.enter f (aG β (.c (.w v)::xs))) w:=by
      rw [e2]
      have e3:(#[Value.iface t v]++(xs.map (SV.den β)).toArray).extract 1 (#[Value.iface t v]++(xs.map (SV.den β)).toArray).size=(xs.map (SV.den β)).toArray:=by
       apply Array.ext'
       simp
       exact List.take_of_length_le (by simp)
      have e4:(#[Value.iface t v]++(xs.map (SV.den β)).toArray)[0]?=some (Value.iface t v):=by simp
      simp only [execOp,hop,resolve,hM.eval hf,SV.den,C.den,pure_bind,invoke,e1,e4,e3,callMethod,Sem.run_bind,run_program,Result.andThen_ok,Made.depth]
      rw [CW GH]
      exact hc.run _
     unfold Oper.wp
     rw [hrun]
     exact cg
    ·exact hv.elim
   ·exact hv.elim
  ·exact hv.elim
 ·exact Bj hT hM hd hv hK
theorem gO (hT:cD.ok P T)(hM:Mod n V0 bf β0 st β a w V){m:CM}{h:Hint}{o:Oper}{K:St->View->Prop}{next:Act->World->Prop}{Q:Exit->Act->World->Prop}
  (hd:∀d,o.dst=some d->d<n)(hv:ch P T m h o st V K)
  (hK:∀st' β' a' w' V',Mod n V0 bf β0 st' β' a' w' V'->K st' V'->next a' w'):o.wp P a w next Q:=by
 unfold ch at hv
 split at hv
 ·exact qc hT hM hd hv hK
 ·split at hv
  ·split at hv
   ·exact qc hT hM hd hv hK
   ·exact hv.elim
  ·exact hv.elim
theorem Mod.refine (hM:Mod n V0 bf β0 st β a w V){g:Nat}{x y:SV}(hx:st.ao g=some x)(he:x.den β=y.den β)(hy:y.ids=[]):Mod n V0 bf β0 (st.put (some g) y) β a w V:=by
 refine ⟨hM.defers,hM.size,?_,?_,hM.vg,hM.boxes,hM.inj,hM.my,hM.qS,hM.ext,hM.own,hM.jQ,hM.iT,hM.small⟩
 ·intro t z hz
  rw [cK] at hz
  split at hz
  ·rename_i e;simp only [Option.some.injEq] at hz;rw [e,←hz,←he];exact hM.ao g x hx
  ·exact hM.ao t z hz
 ·intro t z hz
  rw [cK] at hz
  split at hz
  ·simp only [Option.some.injEq] at hz;rw [←hz,hy];exact fun s hs=>(nomatch hs)
  ·exact hM.vh t z hz
theorem DF {ops:Array Oper}{tmps:Array Value}{j g:Nat}(hg:(ops[j]?).bind (·.dst)=some g):yielded ops tmps j=match tmps.getD g undef with|.bool b=>some b|_=>none:=by
 unfold yielded
 rw [hg]
 simp only [Option.bind_some]
 by_cases h:g<tmps.size
 ·have h1:tmps[g]?=some tmps[g]:=getElem?_pos tmps g h
  have h2:tmps.getD g undef=tmps[g]:=by simp [h]
  rw [h1,h2]
  generalize tmps[g]=v
  cases v<;>rfl
 ·simp [h,undef]
theorem A_ (hT:cD.ok P T)(hM:Mod n V0 bf β0 st β a w V){m:CM}{h:Hint}{ops:Array Oper}{o:Oper}{K:St->View->Prop}{next:Act->World->Prop}{Q:Exit->Act->World->Prop}
  (hd:∀d,o.dst=some d->d<n)(hv:oJ P T m h ops o st V K)
  (hK:∀st' β' a' w' V',Mod n V0 bf β0 st' β' a' w' V'->K st' V'->next a' w') :
  if Region.wanted o (yielded ops a.tmps) then o.wp P a w next Q else next (a.put o.dst undef) w:=by
 unfold oJ at hv
 split at hv
 ·rename_i hg
  rw [if_pos (by simp [Region.wanted,hg])]
  exact gO hT hM hd hv hK
 ·rename_i j b hg
  split at hv
  ·exact hv.elim
  ·rename_i g hdst
   have hy:=DF (tmps:=a.tmps) hdst
   have hwant:∀c:Bool,a.tmps.getD g undef=.bool c->(Region.wanted o (yielded ops a.tmps)=true↔c=b):=by
    intro c hc
    simp only [Region.wanted,hg]
    rw [hy,hc]
    simp
   have skip:∀{st2:St},Mod n V0 bf β0 st2 β a w V->K (st2.put o.dst ib) V->next (a.put o.dst undef) w:=by
    intro st2 hM2 hK2
    exact hK _ _ _ _ _ (hM2.C5 hd rfl (bG rfl)) hK2
   split at hv
   ·rename_i hs
    have hval:=hM.ao g _ hs
    split at hv
    ·rw [if_pos ((hwant true hval).2 rfl)];exact gO hT hM hd hv hK
    ·rw [if_neg (fun h=>by have:=(hwant true hval).1 h;cases this)];exact skip hM hv
   ·rename_i hs
    have hval:=hM.ao g _ hs
    split at hv
    ·rw [if_neg (fun h=>by have:=(hwant false hval).1 h;cases this)];exact skip hM hv
    ·rw [if_pos ((hwant false hval).2 rfl)];exact gO hT hM hd hv hK
   ·rename_i c hs
    have hval:=hM.ao g _ hs
    have ht:c=true->Mod n V0 bf β0 (st.put (some g) (.c .tt)) β a w V:=fun e=>hM.refine hs (by rw [e];rfl) rfl
    have hf:c=false->Mod n V0 bf β0 (st.put (some g) (.c .ff)) β a w V:=fun e=>hM.refine hs (by rw [e];rfl) rfl
    split at hv
    ·cases c with
     | true=>rw [if_pos ((hwant true hval).2 rfl)];exact gO hT (ht rfl) hd (hv.1 rfl) hK
     | false=>rw [if_neg (fun h=>by have:=(hwant false hval).1 h;cases this)];exact skip (hf rfl) (hv.2 rfl)
    ·cases c with
     | true=>rw [if_neg (fun h=>by have:=(hwant true hval).1 h;cases this)];exact skip (ht rfl) (hv.1 rfl)
     | false=>rw [if_pos ((hwant false hval).2 rfl)];exact gO hT (hf rfl) hd (hv.2 rfl) hK
   ·rename_i xs hs
    have hval:=hM.ao g _ hs
    have:Region.wanted o (yielded ops a.tmps)=false:=by
     simp only [Region.wanted,hg]
     rw [hy,hval]
     simp [SV.den]
    rw [if_neg (by rw [this];simp)]
    exact skip hM hv
   ·exact hv.elim
theorem xC (hT:cD.ok P T){m:Nat->CM}{hint:Nat->Hint}{ops:Array Oper}(hd:∀(i:Nat)(o:Oper),ops[i]?=some o->∀d,o.dst=some d->d<n){Q:Exit->Act->World->Prop}{K:St->View->Prop}
  (hK:∀st' β' a' w' V',Mod n V0 bf β0 st' β' a' w' V'->K st' V'->Q .normal a' w') :
  ∀(l:List Nat)(st:St)(β:Nat->Nat)(a:Act)(w:World)(V:View),Mod n V0 bf β0 st β a w V->H5 P T m hint ops l st V K->wpOps P ops Q l a w
 | [],st,β,a,w,V,hM,hv=>hK _ _ _ _ _ hM hv
 | i::r,st,β,a,w,V,hM,hv=>by
  simp only [H5] at hv
  simp only [wpOps]
  split at hv
  ·rename_i o ho
   rw [ho]
   dsimp only
   have:=A_ (Q:=Q) (next:=wpOps P ops Q r) hT hM (hd i o ho) hv (fun st' β' a' w' V' hM' l_=>xC hT hd hK r st' β' a' w' V' hM' l_)
   split at this
   ·rename_i hw;rw [if_pos hw];exact .inl this
   ·rename_i hw;rw [if_neg hw];exact this
  ·exact hv.elim
end Go.Eng
namespace Go.Eng
def ov (p:Nat->Option SV)(q:Nat->Option aH)(st:St):St:=
 ⟨fun t=>match p t with|some x=>some x|none=>st.ao t,fun t=>match q t with|some x=>some x|none=>st.boxes t⟩
theorem cN {a b:Nat}(h:a≠b):Nat.beq a b=false:=by
 cases hb:Nat.beq a b
 ·rfl
 ·exact absurd (beq_eq.1 hb) h
section
variable {p:Nat->Option SV} {q:Nat->Option aH} {st:St}
theorem iY {d:Option Nat}{x:SV}(h:∀k,d=some k->p k=none):(ov p q st).put d x=ov p q (st.put d x):=by
 cases d with
 | none=>rfl
 | some d=>
  have hd:=h d rfl
  simp only [ov,St.put]
  congr 1
  funext t
  by_cases e:t=d
  ·subst e;simp [hd,Nat.beq_refl]
  ·simp [cN e]
theorem iX {s:Nat}{b:aH}(h:q s=none):(ov p q st).box s b=ov p q (st.box s b):=by
 simp only [ov,St.box]
 congr 1
 funext t
 by_cases e:t=s
 ·subst e;simp [h,Nat.beq_refl]
 ·simp [cN e]
theorem bP {s:Nat}(h:q s=none):(ov p q st).boxes s=st.boxes s:=by simp [ov,h]
theorem Jm {x:Operand}(h:∀t,x=.tmp t->p t=none):(ov p q st).aR x=st.aR x:=by
 cases x with
 | tmp t=>simp [St.aR,ov,h t rfl]
 | _=>rfl
def one {α:Type}(d:Option Nat)(x:α):Nat->Option α:=fun t=>match d with|some k=>cond (Nat.beq t k) (some x) none|none=>none
theorem cV {α:Type}{d:Option Nat}{x:α}{t:Nat}(h:d≠some t):one d x t=none:=by
 cases d with
 | none=>rfl
 | some k=>simp [one,cN (fun e:t=k=>h (by rw [e]))]
theorem dR (d:Option Nat)(x:SV):st.put d x=ov (one d x) (fun _=>none) st:=by
 cases d with
 | none=>rfl
 | some d=>
  simp only [ov,St.put,one]
  congr 1
  funext t
  by_cases e:t=d
  ·subst e;simp [Nat.beq_refl]
  ·simp [cN e]
theorem Cl (s:Nat)(b:aH):st.box s b=ov (fun _=>none) (one (some s) b) st:=by
 simp only [ov,St.box,one]
 congr 1
 funext t
 by_cases e:t=s
 ·subst e;simp [Nat.beq_refl]
 ·simp [cN e]
theorem wP (s:Nat)(b:aH)(d:Option Nat)(x:SV):(st.box s b).put d x=ov (one d x) (one (some s) b) st:=by
 rw [dR,Cl];rfl
end
theorem dD {ρ ρ':Operand->Option SV}:∀l:List Operand,(∀x∈l,ρ x=ρ' x)->bJ ρ l=bJ ρ' l
 | [],_=>rfl
 | o::r,h=>by simp only [bJ];rw [h o (by simp),dD r fun x hx=>h x (by simp [hx])]
theorem iZ {ρ ρ':Operand->Option SV}:∀l:List (Nat×Operand),(∀x∈l.map (·.2),ρ x=ρ' x)->partsOf ρ l=partsOf ρ' l
 | [],_=>rfl
 | (i,o)::r,h=>by simp only [partsOf];rw [h o (by simp),iZ r fun x hx=>h x (by simp only [List.map_cons,List.mem_cons];exact .inr hx)]
theorem mT {ρ ρ':Operand->Option SV}:∀l:Option Operand,(∀x,l=some x->ρ x=ρ' x)->yQ ρ l=yQ ρ' l
 | none,_=>rfl
 | some o,h=>by simp only [yQ];rw [h o rfl]
theorem kX {T:cD}{ρ ρ':Operand->Option SV}{bx:Nat->Option aH}{op:Op}(h:∀x∈op.operands.toList,ρ x=ρ' x):aE T ρ bx op=aE T ρ' bx op:=by
 cases op with
 | move x=>simp only [aE];rw [h x (by simp [Op.operands])]
 | assign x=>simp only [aE];rw [h x (by simp [Op.operands])]
 | pick c a b=>simp only [aE];rw [h c (by simp [Op.operands]),h a (by simp [Op.operands]),h b (by simp [Op.operands])]
 | box t x=>simp only [aE];rw [h x (by simp [Op.operands])]
 | build t ps=>simp only [aE];rw [iZ _ fun x hx=>h x (by simpa [Op.operands] using hx)]
 | buildSlice t n ps=>simp only [aE];rw [iZ _ fun x hx=>h x (by simpa [Op.operands] using hx)]
 | load t a=>simp only [aE];rw [h a (by simp [Op.operands])]
 | store t a x=>simp only [aE];rw [h a (by simp [Op.operands]),h x (by simp [Op.operands])]
 | nilCheck x=>simp only [aE];rw [h x (by simp [Op.operands])]
 | binOp o xt x y yt=>simp only [aE];rw [h x (by simp [Op.operands]),h y (by simp [Op.operands])]
 | unOp o xt x=>cases o<;>simp only [aE]<;>rw [h x (by simp [Op.operands])]
 | convert s d x=>simp only [aE];rw [h x (by simp [Op.operands])]
 | makeFunc fn first caps=>
  cases fn with
  | func f=>simp only [aE];rw [dD _ fun x hx=>h x (by simp [Op.operands];exact .inr (by simpa using hx))]
  | _=>rfl
 | makeSlice t a b=>simp only [aE];rw [h a (by simp [Op.operands]),h b (by simp [Op.operands])]
 | slice t x lo hi mx=>
  simp only [aE]
  rw [h x (by simp [Op.operands]),mT lo fun y hy=>h y (by simp [Op.operands,hy]),mT hi fun y hy=>h y (by simp [Op.operands,hy]),mT mx fun y hy=>h y (by simp [Op.operands,hy])]
 | fieldAddr t x f=>simp only [aE];rw [h x (by simp [Op.operands])]
 | field t x f=>simp only [aE];rw [h x (by simp [Op.operands])]
 | indexAddr t x i=>simp only [aE];rw [h x (by simp [Op.operands]),h i (by simp [Op.operands])]
 | extract x j=>simp only [aE];rw [h x (by simp [Op.operands])]
 | index t x i=>simp only [aE];rw [h x (by simp [Op.operands]),h i (by simp [Op.operands])]
 | makeInterface t x=>simp only [aE];rw [h x (by simp [Op.operands])]
 | call c=>
  obtain ⟨DP,args,ts⟩:=c
  cases DP with
  | builtin b=>
   have e:bJ ρ args.toList=bJ ρ' args.toList:=dD _ fun x hx=>h x (by simpa [Op.operands,Call.operands] using hx)
   cases b<;>simp only [aE]<;>rw [e]
  | _=>rfl
 | _=>rfl
theorem HB {T:cD}{LF RF:List Nat}{ρ:Operand->Option SV}{bx bx':Nat->Option aH}{op:Op}(h:aU LF RF op=.pure\/aU LF RF op=.alloc):aE T ρ bx op=aE T ρ bx' op:=by
 cases op with
 | load t a=>rcases h with h|h<;>cases h
 | store t a x=>rcases h with h|h<;>cases h
 | unOp o xt x=>cases o<;>rfl
 | makeFunc fn first caps=>cases fn<;>rfl
 | call c=>
  obtain ⟨DP,args,ts⟩:=c
  cases DP with
  | builtin b=>cases b<;>first|rfl|(rcases h with h|h<;>cases h)
  | _=>rfl
 | _=>rfl
theorem HD {bx bx':Nat->Option aH}{i:TI}{x:SV}(h:∀s∈x.ids,bx' s=bx s):hZ bx i x=hZ bx' i x:=by
 unfold hZ
 split
 ·rename_i b o
  rw [h b (by simp [SV.ids,C.ids])]
 ·rfl
 ·rfl
theorem Fl {bx bx':Nat->Option aH}{i:TI}{x y:SV}(h:∀s∈x.ids,bx' s=bx s):fI bx i x y=fI bx' i x y:=by
 unfold fI
 split
 ·rename_i b o
  rw [h b (by simp [SV.ids,C.ids])]
 ·rfl
theorem Db {bx:Nat->Option aH}{i:TI}{x y:SV}{sc:List Prop}{s:Nat}{b:aH}(h:fI bx i x y=.qV sc s b):s∈x.ids:=by
 unfold fI at h
 split at h
 ·split at h
  ·split at h
   ·split at h
    ·cases h;simp [SV.ids,C.ids]
    ·cases h
   ·split at h
    ·cases h;simp [SV.ids,C.ids]
    ·cases h
   ·split at h
    ·cases h
    ·split at h
     ·cases h;simp [SV.ids,C.ids]
     ·cases h
   ·cases h
  ·cases h
 ·cases h
theorem zb {V:View}{p:Addr}:∀(cs:List C) (i:Nat) {k:Prop},V.Jw p i cs k↔V.Jw p i cs True/\k
 | [],_,k=>by simp [View.Jw]
 | c::r,i,k=>by
  simp only [View.Jw]
  rw [zb r (i+1),and_assoc]
theorem HH {V V':View}(h:V.Le V'){p:Addr}:∀(cs:List C) (i:Nat) {k:Prop},V.Jw p i cs k->V'.Jw p i cs k
 | [],_,_,hk=>hk
 | c::r,i,_,hk=>⟨h.at hk.1,HH h r (i+1) hk.2⟩
theorem oe {V:View}{p:OA}{x:SV}{k:Prop}:V.Is p x k↔V.Is p x True/\k:=by
 cases x with
 | c c=>simp [View.Is]
 | agg cs=>
  simp only [View.Is]
  constructor
  ·rintro ⟨a,h1,h2⟩;rw [zb] at h2;exact ⟨⟨a,h1,h2.1⟩,h2.2⟩
  ·rintro ⟨⟨a,h1,h2⟩,hk⟩;exact ⟨a,h1,by rw [zb];exact ⟨h2,hk⟩⟩
 | nC xs=>simp [View.Is]
theorem Mh {V V':View}(h:V.Le V'){p:OA}{x:SV}{k:Prop}(hk:V.Is p x k):V'.Is p x k:=by
 cases x with
 | c c=>obtain ⟨⟨a,h1,h2⟩,h3⟩:=hk;exact ⟨⟨a,h1,h.at h2⟩,h3⟩
 | agg cs=>obtain ⟨a,h1,h2⟩:=hk;exact ⟨a,h1,HH h _ _ h2⟩
 | nC xs=>exact hk
theorem vd.split:∀(s:vd) {F:C->Prop},s.ex F->∃x,F x/\∀G:C->Prop,G x->s.ex G
 | .int _,_,⟨_,h⟩=>⟨_,h,fun _ g=>⟨_,g⟩⟩
 | .bool,_,⟨_,h⟩=>⟨_,h,fun _ g=>⟨_,g⟩⟩
 | .slice,_,⟨_,_,_,h⟩=>⟨_,h,fun _ g=>⟨_,_,_,g⟩⟩
 | .ptr,_,⟨_,h⟩=>⟨_,h,fun _ g=>⟨_,g⟩⟩
 | .str,_,⟨_,h⟩=>⟨_,h,fun _ g=>⟨_,g⟩⟩
 | .any,_,⟨_,h⟩=>⟨_,h,fun _ g=>⟨_,g⟩⟩
theorem lO:∀(l:List vd) {F:List C->Prop},Lf l F->∃x,F x/\∀G:List C->Prop,G x->Lf l G
 | [],_,h=>⟨_,h,fun _ g=>g⟩
 | s::r,_,h=>by
  obtain ⟨c,h1,h2⟩:=vd.split s h
  obtain ⟨cs,h3,h4⟩:=lO r h1
  exact ⟨c::cs,h3,fun G g=>h2 _ (h4 _ g)⟩
theorem rW.split:∀(s:rW) {F:SV->Prop},s.ex F->∃x,F x/\∀G:SV->Prop,G x->s.ex G
 | .one s,_,h=>by obtain ⟨c,h1,h2⟩:=vd.split s h;exact ⟨.c c,h1,fun G g=>h2 _ g⟩
 | .agg l,_,h=>by obtain ⟨c,h1,h2⟩:=lO l h;exact ⟨.agg c,h1,fun G g=>h2 _ g⟩
theorem pt:∀(l:List rW) {F:List (Bool×List C)->Prop},MD l F->∃x,F x/\∀G:List (Bool×List C)->Prop,G x->MD l G
 | [],_,h=>⟨_,h,fun _ g=>g⟩
 | .one s::r,_,h=>by
  obtain ⟨c,h1,h2⟩:=vd.split s h
  obtain ⟨cs,h3,h4⟩:=pt r h1
  exact ⟨_,h3,fun G g=>h2 _ (h4 _ g)⟩
 | .agg l::r,_,h=>by
  obtain ⟨c,h1,h2⟩:=lO l h
  obtain ⟨cs,h3,h4⟩:=pt r h1
  exact ⟨_,h3,fun G g=>h2 _ (h4 _ g)⟩
theorem Sh.split:∀(s:Sh) {F:SV->Prop},s.ex F->∃x,F x/\∀G:SV->Prop,G x->s.ex G
 | .val s,_,h=>rW.split s h
 | .nC l,_,h=>by obtain ⟨x,h1,h2⟩:=pt l h;exact ⟨_,h1,fun G g=>h2 _ g⟩
 | .none,_,h=>⟨_,h,fun _ g=>g⟩
theorem Sh.mono {s:Sh}{F G:SV->Prop}(h:s.ex F)(k:∀x,F x->G x):s.ex G:=by
 obtain ⟨x,h1,h2⟩:=s.split h
 exact h2 G (k x h1)
theorem uu {l m:List Nat}:HX l m=true↔∀x∈l,x∈m:=by
 simp only [HX,List.all_eq_true,bW]
theorem tQ {op:Op}{x:Operand}(h:x∈op.operands.toList){t:Nat}(e:x=.tmp t):t∈f_ op:=by
 subst e
 exact List.mem_filterMap.2 ⟨_,h,rfl⟩
theorem lR {st st2:St}{op:Op}(h:∀t∈f_ op,st2.ao t=st.ao t){x:Operand}(hx:x∈op.operands.toList):st2.aR x=st.aR x:=by
 cases x with
 | tmp t=>exact h t (tQ hx rfl)
 | _=>rfl
theorem tP {op:Op}{x:Operand}(h:x∈fZ op):x∈op.operands.toList:=by
 unfold fZ at h
 split at h
 ·simpa [Op.operands] using h
 ·simp at h;subst h;simp [Op.operands]
 ·simp only [Op.operands,Call.operands]
  simp at h ⊢
  rcases h with h|h
  ·exact .inr h
  ·exact .inl h
 ·simpa [Op.operands,Call.operands] using h
 ·cases h
theorem pJ {ρ:Operand->Option SV}:∀{l:List Operand} {xs:List SV},bJ ρ l=some xs->∀x∈l,∃v,ρ x=some v/\v∈xs
 | [],_,_,_,hx=>nomatch hx
 | o::r,xs,h,x,hx=>by
  simp only [bJ] at h
  split at h
  ·rename_i v l h1 h2
   cases h
   rcases List.mem_cons.1 hx with e|hx
   ·exact ⟨v,by rw [e];exact h1,by simp⟩
   ·obtain ⟨u,hu,hm⟩:=pJ h2 x hx
    exact ⟨u,hu,by simp [hm]⟩
  ·cases h
structure Outcome (P:Program) (T:cD) (m:CM) (h:Hint) (o:Oper) (st:St) (V:View) (R W:List Nat) (K:St->View->Prop) (p:Nat->Option SV) (q:Nat->Option aH):Prop where
 pd:∀t,t∉dz o->p t=none
 qd:∀s,s∉W->q s=none
 next:K (ov p q st) V
 again:∀(st2:St)(V2:View)(K2:St->View->Prop),V.Le V2->(∀t∈f_ o.op,st2.ao t=st.ao t)->(∀s∈R,st2.boxes s=st.boxes s)->K2 (ov p q st2) V2->ch P T m h o st2 V2 K2
variable {P:Program} {T:cD} {LF RF:List Nat} {m:CM}
theorem yD {o:Oper}{t:Nat}(h:t∉dz o):o.dst≠some t:=by
 intro e;apply h;simp [dz,e]
theorem JO {o:Oper}{st:St}{V:View}{K:St->View->Prop}{R W:List Nat}{Q0:Q}
  (hnew:∀sc b x,Q0=.new sc b x->dz o=W/\dz o=R)(Rj:∀sc s b,Q0=.qV sc s b->s∈W)(happ:cE Q0≠6)
  (hv:qW Q0 o.dst st V K) :
  ∃p q,(∀t,t∉dz o->p t=none)/\(∀s,s∉W->q s=none)/\K (ov p q st) V /\
   ∀(st2:St)(V2:View)(K2:St->View->Prop),V.Le V2->(∀s∈R,st2.boxes s=st.boxes s)->K2 (ov p q st2) V2->qW Q0 o.dst st2 V2 K2:=by
 cases Q0 with
 | fail=>exact hv.elim
 | ret sc x=>
  obtain ⟨h1,h2⟩:=(cT sc _).1 hv
  refine ⟨one o.dst x,fun _=>none,fun t ht=>cV (yD ht),fun _ _=>rfl,by rw [←dR];exact h2,?_⟩
  intro st2 V2 K2 _ _ hK
  exact (cT sc _).2 ⟨h1,by rw [dR];exact hK⟩
 | new sc b x=>
  obtain ⟨e1,e2⟩:=hnew _ _ _ rfl
  simp only [qW] at hv ⊢
  cases hd:o.dst with
  | none=>rw [hd] at hv;exact hv.elim
  | some d=>
   have hdl:dz o=[d]:=by simp [dz,hd]
   rw [hd] at hv
   dsimp only at hv ⊢
   split at hv
   ·rename_i hn
    obtain ⟨h1,h2⟩:=(cT sc _).1 hv
    refine ⟨one (some d) (x d),one (some d) b,fun t ht=>cV (by intro e;apply ht;rw [hdl];simpa using e.symm),fun s hs=>cV (by intro e;apply hs;rw [←e1,hdl];simpa using e.symm),by rw [←wP];exact h2,?_⟩
    intro st2 V2 K2 _ hR hK
    rw [hR d (by rw [←e2,hdl];simp),hn]
    exact (cT sc _).2 ⟨h1,by rw [wP];exact hK⟩
   ·exact hv.elim
 | qV sc s b=>
  simp only [qW] at hv ⊢
  cases hd:o.dst with
  | some d=>rw [hd] at hv;exact hv.elim
  | none=>
   rw [hd] at hv
   dsimp only at hv ⊢
   obtain ⟨h1,h2⟩:=(cT sc _).1 hv
   refine ⟨fun _=>none,one (some s) b,fun _ _=>rfl,fun t ht=>cV (by intro e;apply ht;have:=Rj _ _ _ rfl;simp at e;rw [←e];exact this),by rw [←Cl];exact h2,?_⟩
   intro st2 V2 K2 _ _ hK
   exact (cT sc _).2 ⟨h1,by rw [Cl];exact hK⟩
 | rd a sh=>
  obtain ⟨x,h1,h2⟩:=sh.split hv
  obtain ⟨h3,h4⟩:=oe.1 h1
  refine ⟨one o.dst x,fun _=>none,fun t ht=>cV (yD ht),fun _ _=>rfl,by rw [←dR];exact h4,?_⟩
  intro st2 V2 K2 hle _ hK
  exact h2 _ (oe.2 ⟨Mh hle h3,by rw [dR];exact hK⟩)
 | mj vs of size sh=>
  obtain ⟨x,h1,h2⟩:=sh.split hv
  refine ⟨one o.dst x,fun _=>none,fun t ht=>cV (yD ht),fun _ _=>rfl,by rw [←dR];exact h1.2,?_⟩
  intro st2 V2 K2 hle _ hK
  exact h2 _ ⟨h1.1,by rw [dR];exact hK⟩
 | app a b c d e f g i j=>exact absurd rfl happ
 | pH a b c d e f g i=>exact absurd rfl happ
theorem ue {o:Oper}(h:kY (aU LF RF o.op)=true)(st:St)(V:View)(K:St->View->Prop):cw P T m o st V K=qW (aE T st.aR st.boxes o.op) o.dst st V K:=by
 unfold cw
 split
 ·rename_i f args ts hop
  rw [hop] at h
  exfalso
  cases f with
  | func f=>
   simp only [aU] at h
   split at h
   ·split at h<;>cases h
   ·split at h
    ·cases h
    ·split at h<;>cases h
  | _=>cases h
 ·rename_i recv name args ts hop
  rw [hop] at h
  cases h
 ·rfl
theorem mX {ρ:Operand->Option SV}{bx:Nat->Option aH}{op:Op}:cE (aE T ρ bx op)=2->aU LF RF op=.alloc:=by
 have eY:∀{q:Q} {X:Prop},cE q<=1->cE q=2->X:=by intro q X h h';omega
 unfold aE
 split
 case h_8=>
  split
  ·intro h;rcases pO (bx:=bx) with h'|h'|h'|h'<;>(rw [h'] at h;cases h)
  ·exact eY (Nat.zero_le _)
 case h_9=>
  split
  ·intro h;rcases m_ (bx:=bx) with h'|h'<;>(rw [h'] at h;cases h)
  ·exact eY (Nat.zero_le _)
 case h_11=>
  split
  ·split
   ·split
    ·exact eY oD
    ·exact eY (Nat.zero_le _)
   ·exact eY oD
  ·exact eY (Nat.zero_le _)
 case h_17=>exact fun _=>rfl
 case h_18=>
  split
  ·split
   ·split
    ·exact eY uv
    ·exact eY (Nat.zero_le _)
   ·exact eY (Nat.zero_le _)
  ·exact eY (Nat.zero_le _)
 case h_21=>
  split
  ·exact eY lq
  ·exact eY (Nat.zero_le _)
 case h_23 c=>
  split
  ·intro h
   exfalso
   split at h<;>(try split at h)<;>(try split at h)<;>(try split at h)<;>first|(rcases ll (bx:=bx) with h'|h'<;>(rw [h'] at h;cases h))|cases h
  ·split
   ·intro h;rcases mZ (T:=T) (bx:=bx) with h'|h'<;>(rw [h'] at h;cases h)
   ·exact eY (Nat.zero_le _)
  ·split
   ·split
    ·exact eY oE
    ·exact eY (Nat.zero_le _)
   ·exact eY (Nat.zero_le _)
  ·exact eY (Nat.zero_le _)
 all_goals
  first
  | exact fun _=>rfl
  | exact eY (Nat.zero_le _)
  | ((repeat' split)<;>first|exact eY (Nat.zero_le _)|exact eY (Nat.le_refl _)|exact eY mo|(unfold ub;(repeat' split)<;>first|exact eY (Nat.zero_le _)|exact eY (Nat.le_refl _)))
theorem xo {st st2:St}{op:Op}(h:∀t∈f_ op,st2.ao t=st.ao t):bJ st2.aR (fZ op)=bJ st.aR (fZ op):=
 dD _ fun _ hx=>lR h (tP hx)
theorem lT {h:Hint}{o:Oper}{st:St}{V:View}{K:St->View->Prop}{R W:List Nat}(hq:kY (aU LF RF o.op)=true)(hrw:ot (aU LF RF o.op) h (dz o)=some (R,W))
  (hv:ch P T m h o st V K):∃p q,Outcome P T m h o st V R W K p q:=by
 have core:(∀st2:St,(∀t∈f_ o.op,st2.ao t=st.ao t)->(∀s∈R,st2.boxes s=st.boxes s)->aE T st2.aR st2.boxes o.op=aE T st.aR st.boxes o.op) ->
   (∀sc b x,aE T st.aR st.boxes o.op=.new sc b x->dz o=W/\dz o=R)->(∀sc s b,aE T st.aR st.boxes o.op=.qV sc s b->s∈W) ->
   (∀(st2:St)(V2:View)(K2:St->View->Prop),(∀t∈f_ o.op,st2.ao t=st.ao t)->cw P T m o st2 V2 K2->ch P T m h o st2 V2 K2) ->
   cw P T m o st V K->∃p q,Outcome P T m h o st V R W K p q:=by
  intro he hn hu hb hv
  rw [ue hq] at hv
  obtain ⟨p,q,h1,h2,h3,h4⟩:=JO (R:=R) (W:=W) hn hu (fun hQ=>by
   obtain ⟨cl,hop,nT⟩:=(eU (T:=T) (ρ:=st.aR) (bx:=st.boxes) (op:=o.op)).2.2 hQ
   rw [hop] at hq
   obtain ⟨DP,args,ts⟩:=cl
   dsimp only at nT
   subst nT
   cases hq) hv
  refine ⟨p,q,h1,h2,h3,fun st2 V2 K2 hle hsl hbx hK=>?_⟩
  refine hb st2 V2 K2 hsl ?_
  rw [ue hq,he st2 hsl hbx]
  exact h4 st2 V2 K2 hle hbx hK
 have yX:aU LF RF o.op=.pure\/aU LF RF o.op=.alloc->h=.free->(aU LF RF o.op=.alloc->R=dz o/\W=dz o)->∃p q,Outcome P T m h o st V R W K p q:=by
  intro hc hf hd
  subst hf
  refine core (fun st2 hs _=>?_) (fun sc b x hQ=>?_) (fun sc s b hQ=>?_) (fun _ _ _ _ hb=>hb) hv
  ·rw [HB (bx':=st.boxes) hc]
   exact kX fun x hx=>lR hs hx
  ·have:=hd (mX (by rw [hQ];rfl));exact ⟨this.2.symm,this.1.symm⟩
  ·rcases (eU (T:=T) (ρ:=st.aR) (bx:=st.boxes) (op:=o.op)).1 (by rw [hQ];rfl) with ⟨t,y,x,hop⟩|⟨⟨DP,args,ts⟩,hop,nT⟩
   ·rw [hop] at hc
    rcases hc with hc|hc<;>cases hc
   ·dsimp only at nT
    subst nT
    rw [hop] at hc
    rcases hc with hc|hc<;>cases hc
 generalize hc:aU LF RF o.op=c at hrw hq yX
 cases c with
 | pure=>
  cases h with
  | free=>exact yX (.inl rfl) rfl (fun e=>by cases e)
  | own l=>cases hrw
 | alloc=>
  cases h with
  | free=>
   simp only [ot,Option.some.injEq,Prod.mk.injEq] at hrw
   exact yX (.inr rfl) rfl (fun _=>⟨hrw.1.symm,hrw.2.symm⟩)
  | own l=>cases hrw
 | load=>
  cases h with
  | free=>cases hrw
  | own l=>
   simp only [ot,Option.some.injEq,Prod.mk.injEq] at hrw
   obtain ⟨rfl,rfl⟩:=hrw
   have hop:∃t a,o.op=.load t a:=by
    generalize o.op=op at hc
    cases op with
    | load t a=>exact ⟨t,a,rfl⟩
    | call c=>obtain ⟨DP,args,ts⟩:=c;cases DP with
     | builtin b=>cases b<;>cases hc
     | value f=>cases f with
      | func f=>simp only [aU] at hc;split at hc<;>(try split at hc)<;>(try split at hc)<;>(try split at hc)<;>cases hc
      | _=>cases hc
     | _=>cases hc
    | _=>cases hc
   obtain ⟨t,a,hop⟩:=hop
   unfold ch at hv
   dsimp only at hv
   split at hv
   ·rename_i xs hxs
    split at hv
    ·rename_i hsub
     have eX:∀v,st.aR a=some v->∀s∈v.ids,s∈l:=by
      intro v l_ s hs
      rw [uu] at hsub
      apply hsub
      rw [hop] at hxs
      obtain ⟨u,hu,hm⟩:=pJ hxs a (by simp [fZ])
      rw [hop]
      simp only [dJ]
      rw [l_] at hu
      cases hu
      exact List.mem_flatMap.2 ⟨_,hm,hs⟩
     refine core (fun st2 hs hb=>?_) (fun sc b x hQ=>?_) (fun sc s b hQ=>?_) (fun st2 V2 K2 hs hb=>?_) hv
     ·rw [hop] at hs ⊢
      rw [kX (ρ':=st.aR) fun x hx=>lR hs hx]
      simp only [aE]
      split
      ·rename_i i v hi FH
       exact (HD fun s hs'=>hb s (eX v FH s hs')).symm
      ·rfl
     ·have:=mX (LF:=LF) (RF:=RF) (op:=o.op) (T:=T) (ρ:=st.aR) (bx:=st.boxes) (by rw [hQ];rfl)
      rw [hop] at this;cases this
     ·rcases (eU (T:=T) (ρ:=st.aR) (bx:=st.boxes) (op:=o.op)).1 (by rw [hQ];rfl) with ⟨t,y,x,hop'⟩|⟨c,hop',-⟩<;>(rw [hop] at hop';cases hop')
     ·unfold ch
      dsimp only
      rw [xo hs,hxs]
      dsimp only
      have:dJ st2.boxes o.op (xs.flatMap SV.ids)=dJ st.boxes o.op (xs.flatMap SV.ids):=by rw [hop];rfl
      rw [this,hsub]
      exact hb
    ·exact hv.elim
   ·exact hv.elim
 | store=>
  cases h with
  | free=>cases hrw
  | own l=>
   simp only [ot,Option.some.injEq,Prod.mk.injEq] at hrw
   obtain ⟨rfl,rfl⟩:=hrw
   have hop:∃t a x,o.op=.store t a x:=by
    generalize o.op=op at hc
    cases op with
    | store t a x=>exact ⟨t,a,x,rfl⟩
    | call c=>obtain ⟨DP,args,ts⟩:=c;cases DP with
     | builtin b=>cases b<;>cases hc
     | value f=>cases f with
      | func f=>simp only [aU] at hc;split at hc<;>(try split at hc)<;>(try split at hc)<;>(try split at hc)<;>cases hc
      | _=>cases hc
     | _=>cases hc
    | _=>cases hc
   obtain ⟨t,a,y,hop⟩:=hop
   unfold ch at hv
   dsimp only at hv
   split at hv
   ·rename_i xs hxs
    split at hv
    ·rename_i hsub
     have eX:∀v,st.aR a=some v->∀s∈v.ids,s∈l:=by
      intro v l_ s hs
      rw [uu] at hsub
      apply hsub
      rw [hop] at hxs
      obtain ⟨u,hu,hm⟩:=pJ hxs a (by simp [fZ])
      rw [hop]
      simp only [dJ]
      rw [l_] at hu
      cases hu
      exact List.mem_flatMap.2 ⟨_,hm,hs⟩
     refine core (fun st2 hs hb=>?_) (fun sc b x hQ=>?_) (fun sc s b hQ=>?_) (fun st2 V2 K2 hs hb=>?_) hv
     ·rw [hop] at hs ⊢
      rw [kX (ρ':=st.aR) fun x hx=>lR hs hx]
      simp only [aE]
      split
      ·rename_i i v w hi FH hw
       exact (Fl fun s hs'=>hb s (eX v FH s hs')).symm
      ·rfl
     ·have:=mX (LF:=LF) (RF:=RF) (op:=o.op) (T:=T) (ρ:=st.aR) (bx:=st.boxes) (by rw [hQ];rfl)
      rw [hop] at this;cases this
     ·rw [hop] at hQ
      simp only [aE] at hQ
      split at hQ
      ·rename_i i v w hi FH hw
       exact eX v FH s (Db hQ)
      ·cases hQ
     ·unfold ch
      dsimp only
      rw [xo hs,hxs]
      dsimp only
      have:dJ st2.boxes o.op (xs.flatMap SV.ids)=dJ st.boxes o.op (xs.flatMap SV.ids):=by rw [hop];rfl
      rw [this,hsub]
      exact hb
    ·exact hv.elim
   ·exact hv.elim
 | _=>cases hq
end Go.Eng
