import Derived.Test.YtlhmddanbgcbjaaGreatDoorL4
import Derived.Orders
import Derived.Scope
import Derived.Laws.Sem
import Derived.Test.YtlhmddanbgcbjaaGreatDoorProg
set_option linter.all false
open Go.IntKind (i64 u64 u32)
namespace Go.Eng
variable {P:Program} {T:eu} {LF RF:List Nat} {n:Nat} {V0:View} {bQ:J8} {β0:Nat->Nat}
def E7 (P:Program)(T:eu)(m:Nat->CM)(hint:Nat->Hint)(ops:Array Oper):Nat->Array Bool->St->View->(St->View->Prop)->Prop
 | 0,listed,st,V,K=>Region.ready .any ops listed=[]/\K st V
 | fuel+1,listed,st,V,K=>(Region.ready .any ops listed=[]->K st V) /\
  ∀i∈Region.ready .any ops listed,∀o,ops[i]?=some o->vo P T (m i) (hint i) ops o st V λst' V'=>E7 P T m hint ops fuel (listed.setIfInBounds i true) st' V' K
def xQ (hT:eu.ok P T){m:Nat->CM}{hint:Nat->Hint}{ops:Array Oper}(hd:∀(i:Nat)(o:Oper),ops[i]?=some o->∀d,o.dst=some d->d<n){Q:Exit->Act->World->Prop}{K:St->ut->Prop}
  (hK:∀st' β' a' w' V',Mod n V0 bQ β0 st' β' a' w' V'->K st' V'->Q .normal a' w') :
  ∀(fuel:Nat)(listed:Array md)(st:St)(β:Nat->Nat)(a:Act)(w:World)(V:ut),Mod n V0 bQ β0 st β a w V->E7 P T m hint ops fuel listed st V K->wpAny P .any ops Q fuel listed a w
 | 0,_,_,_,_,_,_,hM,hv=>⟨hv.1,hK _ _ _ _ _ hM hv.2⟩
 | fuel+1,listed,st,β,a,w,V,hM,hv=>by
  refine ⟨λh=>hK _ _ _ _ _ hM (hv.1 h),λi hi=>?_⟩;obtain ⟨-,o,ho,-⟩:=mem_ready.1 hi;have:=IL (Q:=Q) (next:=wpAny P .any ops Q fuel (listed.setIfInBounds i true)) hT hM (hd i o ho) (hv.2 i hi o ho) (λst' β' a' w' V' b c=>xQ hT hd hK fuel _ st' β' a' w' V' b c);unfold wpOp;grind
def vO {sc:pz Prop}{k k':Prop}(h:k->k')(g:Fc sc k):Fc sc k':=by obtain ⟨a,b⟩:=(fG sc _).1 g;exact (fG sc _).2 ⟨a,h b⟩
theorem Nr {s:Nat}{vs:pz un}{k c size bytes:Nat}{ty:TypeId}{d:Nat}{st:St}{V:ut}{K K':St->ut->Prop}{j:Nat}{xs:pz un}(hk:∀s V',V.Le V'->K s V'->K' s V')
  (h:Hk s vs k c size bytes ty d st V K j xs):Hk s vs k c size bytes ty d st V K' j xs:=by unfold Hk at h ⊢;obtain ⟨e,f,g,i,l,a⟩:=h;refine ⟨e,f,g,i,l,?_⟩;split at a;{exact a.elim};{exact λb J spare m n o=>hk _ _ (View.Le.refl V) (a b J spare m n o)}
theorem KR {s:Nat}{vs:pz un}{k c size bytes:Nat}{ty:TypeId}{d:Nat}{st:St}{V:ut}{K K':St->ut->Prop}{j:Nat}{xs:pz un}(hk:∀s V',V.Le V'->K s V'->K' s V')
  (h:xE s vs k c size bytes ty d st V K j xs):xE s vs k c size bytes ty d st V K' j xs:=by unfold xE at h ⊢;obtain ⟨b,e,f,g,i,a⟩:=h;refine ⟨b,e,f,g,i,?_⟩;split at a;{exact a.elim};{exact λspare l m n=>hk _ _ (View.Le.refl V) (a spare l m n)}
theorem Ns {vs:pz un}{k c size bytes:Nat}{ty:TypeId}{d:Nat}{st:St}{V:ut}{K K':St->ut->Prop}{j:Nat}{xs:pz un}(hk:∀s V',V.Le V'->K s V'->K' s V')
  (h:Hl vs k c size bytes ty d st V K j xs):Hl vs k c size bytes ty d st V K' j xs:=by unfold Hl at h ⊢;obtain ⟨b,e,f,g,a⟩:=h;refine ⟨b,e,f,g,?_⟩;split at a;{exact a.elim};{grind [View.Le.refl]}
def S7 {Q0:Q}{dst:Option Nat}{st:St}{V:ut}{K K':St->ut->Prop}(hk:∀s V',V.Le V'->K s V'->K' s V')(h:yx Q0 dst st V K):yx Q0 dst st V K':=by (cases Q0 with|fail=>exact h|ret sc x=>exact vO (hk _ _ (View.Le.refl V)) h|new sc b x=>{simp only [yx] at h ⊢;split at h;{split at h;{rename_i f;exact vO (hk _ _ (View.Le.refl V)) h};{exact h.elim}};{exact h.elim}}|yw sc s b=>{simp only [yx] at h ⊢;split at h;{exact vO (hk _ _ (View.Le.refl V)) h};{exact h.elim}}|rd a sh=>{have ⟨x,d,e⟩:=sh.split h;exact e _ (uJ.2 ⟨(uJ.1 d).1,hk _ _ (View.Le.refl V) (uJ.1 d).2⟩)}|rM vs of size sh=>{have ⟨x,d,e⟩:=sh.split h;exact e _ ⟨d.1,hk _ _ (View.Le.refl V) d.2⟩}|wH s vs a c src size bytes ty=>{simp only [yx] at h ⊢;split at h;{exact h.elim};grind [KR]}|app old ba vs a c src size bytes ty=>{simp only [yx] at h ⊢;split at h;{exact h.elim};{cases old<;>grind [Nr,Ns,View.Le.refl]}})
def qV {bx:Nat->Option aW}{β:Nat->Nat}{V:ut}:∀{L:pz Nat} {k k':Prop},(k->k')->sZ bx β V L k->sZ bx β V L k'
 | [],_,_,h,g=>h g
 | s::r,k,k',h,g=>by
  simp only [sZ] at g ⊢;split at g
  ·exact λh1=>qV h (g h1)
  ·exact g.elim
def sT {give:md}{sh:Sh}{L:pz Nat}{mm:Option Nat}{d:Nat}{ety:TypeId}{β:Nat->Nat}{st:St}{V V' fu:ut}{K K':St->ut->Prop}{r':un}
  (hm:∀k,mm=some k->k∈L)(hV:V.Le V')(hV2:V.Le fu)(hlv:∀s∈L,∃b,st.boxes s=some b/\(b.live->V'.H (β s)))(hk:∀s V',V.Le V'->K s V'->K' s V')
  (h:cI T give sh L mm d ety β st V' K r' fu):cI T give sh L mm d ety β st V' K' r' fu:=by refine oz (p:=λ_=>none) (q:=rL) (W:=gT mm d::L) (D:=[d]) (λs c=>⟨rfl,Qq8 _ c⟩) hm ⟨rfl,by simp⟩ ⟨rfl,by simp⟩ hV hV2 hlv (λs2 V2 a=>?_) h;exact hk _ _ a.1 a.2.2.2
theorem vk {m:CM}{f:FuncId}{xs:pz SV}{ty:TypeId}{dst:Option Nat}{st:St}{V:ut}{K K':St->ut->Prop}(hk:∀s V',V.Le V'->K s V'->K' s V')
  (h:hZ P T m f xs ty dst st V K):hZ P T m f xs ty dst st V K':=by
 unfold hZ at h ⊢;split at h
 ·exact h.elim
 ·split at h
  ·split at h;{split at h;{split at h;{exact h.elim};{exact λV' a=>(h V' a).s λ_ z hle g=>sT (λk hk=>by cases hk) a (a.m hle) (λs r=>absurd r (by simp)) hk g}};{exact λV' a=>(h V' a).s λ_ _ hle g=>Sh.s g λx c=>⟨c.1,hk _ _ (a.m hle) c.2⟩};{exact h.elim}};{split at h;{split at h;{exact h.elim};{split at h;{split at h;{split at h;{refine λV' a=>(h V' a).s λ_ z hle g=>?_;obtain ⟨b,e⟩:=g;obtain ⟨cs,⟨A,B,C,D⟩,E⟩:=qK _ e;refine ⟨b,E _ ⟨A,B,C,hk _ _ ?_ D⟩⟩;intro x o c;obtain ⟨F,G⟩:=(a.m hle) x o c;have ⟨R,H⟩:=a x o c;have:=aG H;exact ⟨λh=>h.elim F λh=>by have:=h.1;omega,G⟩};{exact h.elim}};{exact h.elim}};{exact h.elim}}};{exact h.elim}};{exact λV' a=>(h V' a).s λ_ _ hle g=>Sh.s g λx c=>⟨c.1,hk _ _ (a.m hle) c.2⟩}
  ·split at h
   ·exact h.elim
   ·rename_i I;rename_i S U X Y _
    have u:∀{i:md} {v:Sh} {t:Option Nat} {d:Nat} {l:TypeId} {L:pz Nat},(∀k,t=some k->k∈L) ->
      (∀V':ut,V.Le V'->mP L (λ_=>0) λβ=>jY st.boxes β V' L (aa P f (aH β xs) (V'.ar (L.map (eN st.boxes β V'.w.heap.size))) (cI T i v L t d l β st V' K))) ->
      ∀V':ut,V.Le V'->mP L (λ_=>0) λβ=>jY st.boxes β V' L (aa P f (aH β xs) (V'.ar (L.map (eN st.boxes β V'.w.heap.size))) (cI T i v L t d l β st V' K')):=by
     intro i v t d l L hm h V' a;exact fk (λβ e=>ll (λ_ _=>rfl) (λM n=>n.s λ_ _ hle g=>sT hm a ((a.m (zu V' _)).m hle) M hk g) e) (h V' a)
    split at h
    ·exact h.elim
    ·exact h.elim
    ·split at h;{split at h;{exact h.elim};{exact u (λk hk=>by cases hk) h}};{rename_i d l k Z h2 y;split at h;{split at h;{exact h.elim};{refine u (λj N=>?_) h<;>grind [f_,cA.2,Av]}};{split at h;{exact h.elim};{split at h;{exact h.elim};{exact λV' a=>fk (λβ e=>qV (λn=>n.s λ_ _ hle g=>sT (λk hk=>by cases hk) a (a.m hle) (λs r=>absurd r (by simp)) hk g) e) (h V' a)}}}};{split at h;{exact h.elim};{exact λV' a=>fk (λβ e=>qV (λn=>n.s λ_ _ hle g=>Sh.s g λx c=>⟨c.1,hk _ _ (a.m hle) c.2⟩) e) (h V' a)}};{exact h.elim}
    ·split at h;{exact λV' a=>fk (λβ e=>ll (λ_ _=>rfl) (λ_ n=>n.s λ_ _ hle g=>Sh.s g λx c=>⟨c.1,mj (p:=λ_=>none) (q:=rL) (W:=_) (λs r=>⟨rfl,r⟩) (λO _ _ y=>hk _ _ (((a.m (zu V' _)).m hle).m (MF _)) y) c.2⟩) e) (h V' a)};{rename_i k Q;split at h;{split at h;{exact h.elim};{refine u (λj N=>?_) h<;>grind [Rw]}};{exact h.elim}};{exact h.elim}
    ·split at h;{exact h.elim};{exact λV' a=>fk (λβ e=>qV (λn=>n.s λ_ _ hle g=>Sh.s g λx c=>⟨c.1,λJ=>hk _ _ (a.m hle) (c.2 J)⟩) e) (h V' a)}
def xR {m:CM}{f:FuncId}{xs:pz SV}{ty:TypeId}{dst:Option Nat}{st:St}{V:ut}{K K':St->ut->Prop}(hk:∀s V',V.Le V'->K s V'->K' s V')
  (h:mJ P T m f xs ty dst st V K):mJ P T m f xs ty dst st V K':=by unfold mJ at h ⊢;split at h;{grind [vk]};{exact vk hk h}
def vj {m:CM}{o:Oper}{st:St}{V:ut}{K K':St->ut->Prop}(hk:∀s V',V.Le V'->K s V'->K' s V')(h:dY P T m o st V K):dY P T m o st V K':=by unfold dY at h ⊢;split at h;{split at h;{split at h;{exact xR hk h};{exact h.elim}};{exact h.elim}};{split at h;{split at h;{split at h;{exact xR hk h};{exact h.elim}};{exact h.elim}};{exact h.elim}};{exact S7 hk h}
def Js {m:CM}{hi:Hint}{o:Oper}{st:St}{V:ut}{K K':St->ut->Prop}(hk:∀s V',V.Le V'->K s V'->K' s V')(h:dR P T m hi o st V K):dR P T m hi o st V K':=by unfold dR at h ⊢;split at h;{exact vj hk h};{split at h;{split at h;{exact vj hk h};{exact h.elim}};{exact h.elim}}
def nG {m:CM}{hi:Hint}{ops:Array Oper}{o:Oper}{st:St}{V:ut}{K K':St->ut->Prop}(hk:∀s V',V.Le V'->K s V'->K' s V')(h:vo P T m hi ops o st V K):vo P T m hi ops o st V K':=by rw [GD] at h ⊢;refine qo (λs w a=>?_) h;(cases w with|true=>exact Js hk a|false=>exact hk _ _ (View.Le.refl V) a)
def Rs (LF RF:List Nat)(m:CM)(o:Oper):Prop:=
 pZ (bG LF RF o.op)=true\/(bG LF RF o.op=.call/\m=.none)\/((bG LF RF o.op=.nj/\m=.ar)\/(bG LF RF o.op=.give/\m=.give)\/bG LF RF o.op=.app)
def R5 {m:CM}{h:Hint}{ops:Array Oper}{o:Oper}{st:St}{V:ut}{R W:pz Nat}(hq:pZ (bG LF RF o.op)=true)(hrw:uR (bG LF RF o.op) h (fN o)=some (R,W))
  (hv:vo P T m h ops o st V λ_ _=>False):False:=by rw [GD] at hv;have ⟨p,w,a⟩:=im hv;have:=a.next;(cases w with|true=>{have ⟨p,q,b⟩:=qU hq hrw this;exact b.next}|false=>exact this)
def xy {ops:Array Oper}{h1 h2:Hint}{o1 o2:Oper}(hi:indep LF RF ops h1 h2 o1 o2=true) :
  pZ (bG LF RF o1.op)=true/\(∃R W,uR (bG LF RF o1.op) h1 (fN o1)=some (R,W))/\∃R W,uR (bG LF RF o2.op) h2 (fN o2)=some (R,W):=by unfold indep at hi;simp only [Qx1] at hi;obtain ⟨⟨⟨⟨⟨b,-⟩,-⟩,-⟩,-⟩,a⟩:=hi;split at a;{grind};{cases a}
def OB {ops:Array Oper}{i:Nat}{o:Oper}(ho:ops[i]?=some o){h:Hint}{R W:pz Nat}(hrw:uR (bG LF RF o.op) h (fN o)=some (R,W)):Rs LF RF (mD LF RF ops i) o:=by unfold Rs mD;rw [ho];dsimp only;generalize bG LF RF o.op=c at hrw;(cases c with|odd=>{cases h<;>cases hrw}|jW=>{cases h<;>cases hrw}|call=>exact .inr (.inl ⟨rfl,rfl⟩)|nj=>exact .inr (.inr (.inl ⟨rfl,rfl⟩))|give=>exact .inr (.inr (.inr (.inl ⟨rfl,rfl⟩)))|app=>exact .inr (.inr (.inr (.inr rfl)))|_=>exact .inl rfl)
section
variable {ops:Array Oper} {hint:Nat->Hint} {anc:Nat->Nat->Prop} {K:St->View->Prop}
def Jr (hA:∀j o,ops[j]?=some o->∀i,anc j i->∃e∈o.after,Region.binds .any e=true/\(e.on=i\/anc e.on i)){i:Nat}{oi:Oper}(hi:ops[i]?=some oi) :
  ∀(fuel:Nat)(listed:Array md)(st:St)(V:ut),(∀j,listed.getD j false=true->∀k,anc j k->listed.getD k false=true) ->
   (∀j oj,ops[j]?=some oj->j≠i->listed.getD j true=false->¬anc j i->indep LF RF ops (hint i) (hint j) oi oj=true)->i∈Region.ready .any ops listed ->
   (vo P T (mD LF RF ops i) (hint i) ops oi st V λst' V'=>E7 P T (mD LF RF ops) hint ops fuel (listed.setIfInBounds i true) st' V' K) ->
   E7 P T (mD LF RF ops) hint ops (fuel+1) listed st V K:=by
 have x:∀(listed:Array md)(j:Nat),(∀j,listed.getD j false=true->∀k,anc j k->listed.getD k false=true)->i∈Region.ready .any ops listed->j∈Region.ready .any ops listed->¬anc j i:=by intro listed j g d f B;obtain ⟨p,-⟩:=mem_ready.1 d;have q:listed.getD i false=true->False:=by{grind};grind [mem_ready.1]
 intro fuel
 induction fuel with
 | zero=>
  intro listed st V g a d H;refine ⟨λh=>(by rw [h] at d;cases d),λj f o u=>?_⟩;by_cases b:j=i
  ·subst b;rw [hi] at u;cases u;exact H
  ·exfalso;have t:=a j o u b (mem_ready.1 f).1 (x listed j g d f);obtain ⟨y,⟨R,W,z⟩,-⟩:=xy t;refine R5 y z (nG (λs V' _ h=>?_) H);have:=ready_mono f b;rw [h.1] at this;cases this
 | succ fuel ih=>
  intro listed st V g a d H;refine ⟨λh=>(by rw [h] at d;cases d),λj f oj c=>?_⟩;by_cases b:j=i
  ·subst b;rw [hi] at c;cases c;exact H
  ·have r:=x listed j g d f;have t:=a j oj c b (mem_ready.1 f).1 r;obtain ⟨y,⟨R,W,z⟩,I,J,C⟩:=xy t;have D:=nG (λs V' _ h=>h.2 j (ready_mono f b) oj c) H;have E:=UM t (OB c C) D;refine nG (λs V' _ h=>?_) E;obtain ⟨-,F,n,A⟩:=mem_ready.1 f;rw [c] at n;cases n;have G:j<ops.size:=by{grind};refine ih (listed.setIfInBounds j true) s V' ?_ ?_ (ready_mono d (Ne.symm b)) ?_;{intro k v l L;by_cases m:j=k;{grind [getD_set_true]};{rw [getD_set_ne false m] at v;grind [getD_set_true]}};{intro k ok v w p q;refine a k ok v w ?_ q;by_cases m:j=k;{subst m;exact (mem_ready.1 f).1};{rw [getD_set_ne true m] at p;exact p}};grind [Array.setIfInBounds_comm]
def Nl (hA:∀j o,ops[j]?=some o->∀i,anc j i->∃e∈o.after,Region.binds .any e=true/\(e.on=i\/anc e.on i)) :
  ∀(l done:pz Nat)(listed:Array md)(st:St)(V:ut),listed.size=ops.size->(∀j,listed.getD j false=iQ j done)->(∀j,j<ops.size->j∈done\/j∈l) ->
   (∀j,listed.getD j false=true->∀k,anc j k->listed.getD k false=true)->uK ops done l=true ->
   (∀i r1 r2,l=r1++i::r2->∀j∈r2,anc j i\/∃a b,ops[i]?=some a/\ops[j]?=some b/\indep LF RF ops (hint i) (hint j) a b=true) ->
   S6 P T (mD LF RF ops) hint ops l st V K->E7 P T (mD LF RF ops) hint ops l.length listed st V K
 | [],done,listed,st,V,hs,hrel,Uj,_,_,_,hv=>by
  refine ⟨?_,hv⟩
  cases hr:Region.ready .any ops listed with
  | nil=>rfl
  | cons x xs=>
   exfalso;have hx:x∈Region.ready .any ops listed:=by rw [hr];simp
   obtain ⟨v,o,L,-⟩:=mem_ready.1 hx
   have w:x<ops.size:=by
    rcases Qz3 x ops.size with f|f
    ·exact f
    ·rw [Qh4 f] at L;cases L
   rcases Uj x w with h|h
   ·have m:=hrel x;rw [dW.2 h] at m;simp [hs,w] at v m;rw [v] at m;cases m
   ·cases h
 | i::r,done,listed,st,V,hs,hrel,Uj,hcl,n,Wn,hv=>by
  simp only [uK,Qx1] at n;obtain ⟨y,n⟩:=n;unfold La at y;split at y
  ·rename_i G c;simp only [Qx1,Qz6,Qz4,Qh7] at y;obtain ⟨z,A⟩:=y;have B:i<ops.size:=by{rcases Qz3 i ops.size with f|f;{exact f};{rw [Qh4 f] at c;cases c}};have d:∀e∈G.after,Region.binds .any e=true->listed.getD e.on false=true:=by{intro e he t;rw [hrel];rcases A e (by simpa using he) with h|h;{rw [t] at h;cases h};{exact h}};have Q:i∈Region.ready .any ops listed:=by{refine mem_ready.2 ⟨?_,G,c,d⟩;have:=hrel i;rw [z] at this;simp [hs,B] at this ⊢;exact this};have C:∀j,(listed.setIfInBounds i true).getD j false=true->∀k,anc j k->(listed.setIfInBounds i true).getD k false=true:=by{intro k M l N;by_cases D:i=k;{subst D;have ⟨e,he,t,h⟩:=hA i G c l N;have v:=d e he t;rcases h with h|h;{rw [←h];exact getD_set_true v};{exact getD_set_true (hcl _ v l h)}};{rw [getD_set_ne false D] at M;exact getD_set_true (hcl k M l N)}};refine Jr hA c r.length listed st V hcl (λj S p g E H=>?_) Q ?_;{have F:j<ops.size:=by{rcases Qz3 j ops.size with f|f;{exact f};{rw [Qh4 f] at p;cases p}};have I:j∈r:=by{rcases Uj j F with h|h;{exfalso;have m:=hrel j;rw [dW.2 h] at m;simp [hs,F] at E m;rw [E] at m;cases m};{rcases Qq5.1 h with h|h;{exact absurd h g};{exact h}}};rcases Wn i [] r rfl j I with h|⟨a,b,O,t,h⟩;{exact absurd h H};{rw [c] at O;rw [p] at t;cases O;cases t;exact h}};{simp only [S6,c] at hv;have q:∀s u,S6 P T (mD LF RF ops) hint ops r s u K->E7 P T (mD LF RF ops) hint ops r.length (listed.setIfInBounds i true) s u K:=by{intro s u R;refine Nl hA r (i::done) (listed.setIfInBounds i true) s u (by simp [hs]) ?_ ?_ C n (λk r1 r2 e j J=>Wn k (i::r1) r2 (by rw [e];rfl) j J) R;{intro j;by_cases g:i=j;{subst g;simp [iQ,Qb0,hs,B]};{rw [getD_set_ne false g,hrel j];simp [iQ,ig (Ne.symm g)]}};{intro j J;rcases Uj j J with h|h;{exact .inl (by simp [h])};{rcases Qq5.1 h with h|h;{exact .inl (by simp [h])};{exact .inr h}}}};exact nG (λs u _ h=>q s u h) hv}
  ·cases y
end
def PJ {m i:Nat}:Xq m i=true↔m.testBit i=true:=by unfold Xq;rw [beq_eq,Qg0,decide_eq_true_iff];show Nat.land (m >>> i) 1=1↔_;rw [show Nat.land (m >>> i) 1=(m >>> i) &&& 1 from rfl,Nat.and_one_is_mod,Nat.shiftRight_eq_div_pow]
def Tz (acc:List Nat)(o:Oper):Nat:=o.after.toList.foldl (λs e=>cond (Region.binds .any e) (Nat.lor (Nat.lor (Nat.shiftLeft 1 e.on) (acc.getD e.on 0)) s) s) 0
def Hi {acc:pz Nat}{i:Nat}:∀(es:pz Edge)(s:Nat),(es.foldl (λs e=>cond (Region.binds .any e) (Nat.lor (Nat.lor (Nat.shiftLeft 1 e.on) (acc.getD e.on 0)) s) s) s).testBit i=true ->
  s.testBit i=true\/∃e∈es,Region.binds .any e=true/\(e.on=i\/(acc.getD e.on 0).testBit i=true)
 | [],s,h=>.inl h
 | e::r,s,h=>by
  simp only [Qm5] at h;rcases Hi r _ h with h1|⟨e',h1,h2,h3⟩
  ·cases hb:Region.binds .any e with
   | false=>rw [hb] at h1;exact .inl h1
   | true=>
    rw [hb] at h1;simp only [cond_true] at h1;have h1:(((1 <<< e.on) ||| (acc.getD e.on 0)) ||| s).testBit i=true:=h1;grind [Nat.shiftLeft_eq]
  grind
def D5:∀(l:pz Oper)(acc:pz Nat),∃ext,l.foldl (λacc o=>acc++[Tz acc o]) acc=acc++ext/\∀k o,l[k]?=some o->∃pre suf,ext=pre++suf/\ext.getD k 0=Tz (acc++pre) o
 | [],acc=>⟨[],by simp,λk o h=>by simp at h⟩
 | o::r,acc=>by
  have ⟨ext,h1,h2⟩:=D5 r (acc++[Tz acc o]);refine ⟨Tz acc o::ext,by simp [h1],λk a h=>?_⟩
  cases k with
  | zero=>
   simp at h;subst h;exact ⟨[],_,rfl,by simp⟩
  | succ k=>grind
def Kc {ops:pz Oper}(j:Nat)(o:Oper)(ho:ops[j]?=some o):∀i,((Nq ops).getD j 0).testBit i=true->∃e∈o.after,Region.binds .any e=true/\(e.on=i\/((Nq ops).getD e.on 0).testBit i=true):=by intro i b;have ⟨ext,c,d⟩:=D5 ops [];have he:Nq ops=ext:=(show Nq ops=[]++ext from c).m (Qm1 _);have ⟨pre,f,g,k⟩:=d j o ho;rw [he,k] at b;rcases Hi _ _ b with h|⟨e,l,m,a⟩;{simp at h};{refine ⟨e,by simpa using l,m,?_⟩;rcases a with a|a;{exact .inl a};{right;simp only [Qm1] at a;rw [he,g];rcases Qz3 e.on pre.length with n|n<;>grind}}
def Bj {ops:Array Oper}{hs:pz Hint}{an:pz Nat}:∀{l:pz Nat},zw LF RF ops hs an l=true->∀i r1 r2,l=r1++i::r2->∀j∈r2,(an.getD j 0).testBit i=true\/∃a b,ops[i]?=some a/\ops[j]?=some b/\indep LF RF ops (hs.getD i .free) (hs.getD j .free) a b=true
 | [],_,i,r1,r2,e,_,_=>by simp at e
 | x::l,h,i,r1,r2,e,j,hj=>by
  simp only [zw,Qx1,Qz4] at h
  cases r1 with
  | nil=>grind [PJ.1]
  | cons y r1=>
   simp at e;exact Bj h.2 i r1 r2 e.2 j hj
def Lu {m:Nat->CM}{hint:Nat->Hint}{ops:Array Oper}:∀{l:pz Nat} {st:St} {V:ut} {K K':St->ut->Prop},(∀s V',V.Le V'->K s V'->K' s V')->S6 P T m hint ops l st V K->S6 P T m hint ops l st V K'
 | [],_,V,_,_,hk,h=>hk _ _ (View.Le.refl V) h
 | i::r,st,V,K,K',hk,h=>by
  simp only [S6] at h ⊢;split at h
  ·exact nG (λs V' hle h=>Lu (λs fu hle' h=>hk s fu (hle.m hle') h) h) h
  ·exact h.elim
def uM {st:St}{β:Nat->Nat}{a:Act}{w:World}{V:ut}(hT:eu.ok P T)(hmx:P.follows .mixedOrders=true)(hM:Mod n V0 bQ β0 st β a w V){id:Nat}{ops:Array Oper}{draw:md}
  (hd:∀(i:Nat)(o:Oper),ops[i]?=some o->∀d,o.dst=some d->d<n){Q:Exit->Act->World->Prop}{K:Exit->St->ut->Prop}
  (hv:Jt P T LF RF ops draw st V (K .normal))(hK:∀st' β' a' w' V',Mod n V0 bQ β0 st' β' a' w' V'->V.Le V'->K .normal st' V'->Q .normal a' w'):(Code.region id ops draw).wp P Q a w:=by
 cases draw with
 | false=>
  simp only [Jt] at hv;exact wp_region (EL (K:=λs V'=>V.Le V'/\K .normal s V') hT hd (λst' β' a' w' V' b h=>hK st' β' a' w' V' b h.1 h.2) _ st β a w V hM (Lu (λs V' hle h=>⟨hle,h⟩) hv))
 | true=>
  simp only [Jt] at hv;split at hv
  ·rename_i e;simp only [MQ,Qx1,Qz4,Wk0] at e;obtain ⟨⟨⟨f,g⟩,k⟩,l⟩:=e;refine wp_region_any hmx ?_
   have:=Nl (P:=P) (T:=T) (LF:=LF) (RF:=RF) (ops:=ops) (hint:=λi=>(ops.toList.map (QK LF RF st ops.toList)).getD i .free) (anc:=λj i=>((Nq ops.toList).getD j 0).testBit i=true) (K:=λs V'=>V.Le V'/\K .normal s V')
    (λj o e=>Kc j o (by simpa using e)) (tm LF RF ops) [] (Array.replicate ops.size false) st V (by simp) (λj=>by
     simp only [iQ,Array.getD];split<;>simp) (λj c=>.inr (dW.1 (g j c))) (λj c=>by
     exfalso;simp only [Array.getD] at c;split at c<;>simp at c) k (Bj l) (Lu (λs V' hle h=>⟨hle,h⟩) hv)
   rw [beq_eq.1 f] at this;exact xQ hT hd (λst' β' a' w' V' b h=>hK st' β' a' w' V' b h.1 h.2) _ _ _ β _ _ _ hM.drew this
  ·exact hv.elim
end Go.Eng
namespace Go.Eng
variable {P:Program} {T:eu} {LF RF:List Nat} {n:Nat} {V0:View} {bQ:J8} {β0:Nat->Nat} {β:Nat->Nat}
def di {c:md}{l:pz Prop}(h:∀p∈(cond c l [False]),p):c=true/\∀p∈l,p:=by (cases c with|true=>exact ⟨rfl,h⟩|false=>{exact (h False (by simp)).elim})
def Ev {ρ:pz (Nat×Nat)}{β β':Nat->Nat}:∀{ss ts:pz Nat},(∀s'∈ts,∀s,sH ρ s s'=true->β' s'=β s)->Eu ρ ss ts=true->ss.map β=ts.map β'
 | [],[],_,_=>rfl
 | s::r,s'::r',hβ,h=>by
  simp only [Eu,Qx1] at h;simp only [Qn3];rw [hβ s' (by simp) s h.1,Ev (λu hu=>hβ u (by simp [hu])) h.2]
 | [],_::_,_,h=>by simp [Eu] at h
 | _::_,[],_,h=>by simp [Eu] at h
def Mq {ρ:pz (Nat×Nat)}{β β':Nat->Nat}{a b:C}(hβ:∀s'∈b.ids,∀s,sH ρ s s'=true->β' s'=β s)(h:∀p∈eqC ρ a b,p):a.den β=b.den β':=by unfold eqC at h;split at h;{have ⟨d,i⟩:=di h;have:=EG d;have:=i _ (Qq6.2 rfl);subst_vars;rfl};{have:=h _ (Qq6.2 rfl);subst this;rfl};{have:=h _ (Qq6.2 rfl);subst this;rfl};{have:=h _ (Qq6.2 rfl);subst this;rfl};{rename_i a n c u j k;have d:=h (a=u) (by simp);have i:=h (n=j) (by simp);have l:=h (c=k) (by simp);subst d i l;rfl};{rename_i a n c s' j k;have d:=h (a=none) (by simp);have i:=h (n=j) (by simp);have l:=h (c=k) (by simp);have q:=h (c=0) (by simp);subst d i l q;rfl};{have:=h _ (Qq6.2 rfl);subst this;rfl};{have:=h _ (Qq6.2 rfl);subst this;rfl};{have:=h _ (Qq6.2 rfl);subst this;rfl};{have:=h _ (Qq6.2 rfl);subst this;rfl};{have:=h _ (Qq6.2 rfl);subst this;rfl};{rfl};{rfl};{rename_i s o s' r;have ⟨d,i⟩:=di h;have e:=hβ s' (by simp [C.ids]) s d;have:=i (o=r) (by simp);subst_vars;simp only [C.den,e]};{rename_i s o n c s' r j k;have ⟨m,h⟩:=di h;have e:=hβ s' (by simp [C.ids]) s m;have d:=h (o=r) (by simp);have i:=h (n=j) (by simp);have l:=h (c=k) (by simp);grind [C.den]};{rename_i s o n c s' j k;have ⟨m,h⟩:=di h;have e:=hβ s' (by simp [C.ids]) s m;have d:=h (o=0) (by simp);have i:=h (n=j) (by simp);have l:=h (c=k) (by simp);have q:=h (c≠0) (by simp);subst d i l;simp only [C.den,e,mA,q,if_false]};{rename_i s n c s' j k;have ⟨m,h⟩:=di h;have e:=hβ s' (by simp [C.ids]) s m;have i:=h (n=j) (by simp);have l:=h (c=k) (by simp);subst_vars;simp only [C.den,e]};{rename_i f t g ts;have ⟨m,h⟩:=di h;have d:=h (f=g) (by simp);have e:t.map β=ts.map β':=Ev (β:=β) (β':=β') (ts:=ts) (λs' v=>hβ s' v) m;subst d;have w:(t.map λs=>Value.pointer (some ⟨β s,0,none⟩))=ts.map λs=>Value.pointer (some ⟨β' s,0,none⟩):=by{have:=congrArg (List.map λb=>Value.pointer (some ⟨b,0,none⟩)) e;grind [Function.comp_def]};simp only [C.den,w]};{exact (h False (by simp)).elim}
def As {ρ:pz (Nat×Nat)}{β β':Nat->Nat}:∀{l m:pz C},(∀s'∈m.flatMap C.ids,∀s,sH ρ s s'=true->β' s'=β s)->(∀p∈KA ρ l m,p)->l.map (C.den β)=m.map (C.den β')
 | [],[],_,_=>rfl
 | a::r,b::s,hβ,h=>by
  simp only [KA,Qw3] at h;simp only [Qn3];rw [Mq (λu hu=>hβ u (by simp [hu])) λp hp=>h p (.inl hp),As (λu hu=>hβ u (by rw [Qy0];exact Qk6 _ hu)) λp hp=>h p (.inr hp)]
 | [],_::_,_,h=>(h False (by simp [KA])).elim
 | _::_,[],_,h=>(h False (by simp [KA])).elim
def Qu {ρ:pz (Nat×Nat)}{β β':Nat->Nat}{a b:SV}(hβ:∀s'∈b.ids,∀s,sH ρ s s'=true->β' s'=β s)(h:∀p∈Xy ρ a b,p):a.den β=b.den β':=by unfold Xy at h;split at h;{exact Mq hβ h};{simp only [SV.den];rw [As hβ h]};{exact (h False (by simp)).elim}
def N6 {ρ:pz (Nat×Nat)}{β β':Nat->Nat}{a b:aW}(hβ:∀s'∈b.cs.ids,∀s,sH ρ s s'=true->β' s'=β s)(h:∀p∈Qt ρ a b,p):a.obj β=b.obj β'/\(b.live->a.live):=by unfold Qt at h;obtain ⟨ac,at'⟩:=a;obtain ⟨f,g⟩:=b;dsimp only at h;split at h;{have ⟨d,c⟩:=di h;simp only [aW.obj,Cells.den];rw [As hβ c,beq_eq.1 d];grind [dM]};{have ⟨d,c⟩:=di h;have:=c _ (Qq6.2 rfl);grind [aW.obj,Cells.den,beq_eq.1]};{have ⟨d,c⟩:=di h;have:=c _ (Qq6.2 rfl);grind [aW.obj,Cells.den,beq_eq.1]};{have ⟨d,c⟩:=di h;have:=c _ (Qq6.2 rfl);grind [aW.obj,Cells.den,beq_eq.1,dN]};{split at h;{rename_i ws e;have ⟨d,c⟩:=di h;have:=c _ (Qq6.2 rfl);grind [aW.obj,Cells.den,gj,beq_eq.1,dM]};{exact (h False (by simp)).elim}};{split at h;{rename_i ws e;have ⟨d,c⟩:=di h;have:=c _ (Qq6.2 rfl);grind [aW.obj,Cells.den,gj,beq_eq.1,dM]};{exact (h False (by simp)).elim}};{exact (h False (by simp)).elim}
def c_ {α:Type}:∀{l:pz (Nat×α)} {t:Nat} {x:α},aC l t=some x->(t,x)∈l
 | [],_,_,h=>by cases h
 | (s,y)::r,t,x,h=>by
  simp only [aC] at h;by_cases e:t=s
  ·subst e;rw [Qb0] at h;cases h;simp
  ·rw [ig e] at h;exact Qq8 _ (c_ h)
def iD {α:Type}:∀{l:pz (Nat×α)} {t:Nat},t∈l.map (·.1)->∃x,aC l t=some x
 | [],_,h=>by simp at h
 | (s,y)::r,t,h=>by
  simp only [aC];by_cases e:t=s
  ·subst e;rw [Qb0];exact ⟨_,rfl⟩
  ·rw [ig e];exact iD (by simpa [e] using h)
def Ey {ρ:pz (Nat×Nat)}{β β':Nat->Nat}{st:St}:∀{l:pz (Nat×SV)},(∀t x,(t,x)∈l->∀s'∈x.ids,∀s,sH ρ s s'=true->β' s'=β s)->(∀p∈T6 ρ st l,p)->∀t x,(t,x)∈l->∃y,st.ax t=some y/\y.den β=x.den β'
 | [],_,_,_,_,h=>nomatch h
 | (s,z)::r,hβ,h,t,x,hm=>by
  simp only [T6] at h;split at h
  ·rename_i y hy;simp only [Qw3] at h;rcases Qq5.1 hm with e|hm
   ·cases e;exact ⟨y,hy,Qu (hβ _ _ Qw5) λp hp=>h p (.inl hp)⟩
   ·exact Ey (λt x h=>hβ t x (by simp [h])) (λp hp=>h p (.inr hp)) t x hm
  ·exact (h False (by simp)).elim
def Ex {ρ:pz (Nat×Nat)}{β β':Nat->Nat}{st:St}:∀{l:pz (Nat×aW)},(∀t x,(t,x)∈l->∀s'∈x.cs.ids,∀s,sH ρ s s'=true->β' s'=β s)->(∀p∈N9 ρ st l,p)->∀t x,(t,x)∈l->x.live ->
  t∈qc ρ l/\∃y,st.boxes (I8 ρ t)=some y/\y.obj β=x.obj β'/\y.live
 | [],_,_,_,_,h,_=>nomatch h
 | (s,z)::r,hβ,h,t,x,hm,hl=>by
  have hβr:∀t x,(t,x)∈r->∀s'∈x.cs.ids,∀s,sH ρ s s'=true->β' s'=β s:=λt x h=>hβ t x (by simp [h])
  have tail:(∀p∈N9 ρ st r,p)->(t,x)∈r->t∈qc ρ ((s,z)::r)/\∃y,st.boxes (I8 ρ t)=some y/\y.obj β=x.obj β'/\y.live:=by
   intro h hm;have ⟨c,a⟩:=Ex hβr h t x hm hl;refine ⟨?_,a⟩;unfold qc;grind
  simp only [N9] at h;split at h
  ·rename_i d b f;rcases Qq5.1 hm with e|hm;{cases e;have:=h (d=[]) (by simp);subst this;exact absurd (hl [] b) (by simp)};grind
  ·rename_i g;split at h;{rename_i y i;simp only [Qw3] at h;rcases Qq5.1 hm with e|hm;{cases e;have ⟨c,a⟩:=N6 (hβ _ _ Qw5) λp j=>h p (.inl j);refine ⟨?_,y,i,c,a hl⟩;unfold qc;grind};grind};{exact (h False (by simp)).elim}
def I9 {ρ:pz (Nat×Nat)}:∀{l:pz (Nat×aW)} {t:Nat} {x:aW},(t,x)∈l->(∃s,aC ρ t=some s)->t∈qc ρ l
 | [],_,_,h,_=>nomatch h
 | (s,z)::r,t,x,hm,ha=>by
  rcases Qq5.1 hm with e|hm
  ·cases e;unfold qc;grind
  ·have:=I9 hm ha;unfold qc;grind
def Bv {ρ:pz (Nat×Nat)}:∀{l:pz Nat},EV ρ l=true->(∀t∈l,(t<100000↔I8 ρ t<100000)/\(100000<=t->t<200000->I8 ρ t=t))/\∀t∈l,∀t'∈l,I8 ρ t=I8 ρ t'->t=t'
 | [],_=>⟨λt h=>(nomatch h),λt h=>(nomatch h)⟩
 | t::r,h=>by
  simp only [EV,Qx1,Qz4] at h;obtain ⟨⟨⟨h1,h2⟩,h3⟩,h4⟩:=h;have ⟨i1,i2⟩:=Bv h4;have c:∀a b:Nat,Nat.blt a b=true↔a<b:=λa b=>by rw [Nat.blt_eq]
  have d:t<100000↔I8 ρ t<100000:=by grind
  have e:100000<=t->t<200000->I8 ρ t=t:=by
   intro f g;simp only [Qh7] at h2;rcases h2 with (h2|h2)|h2
   ·rw [c] at h2;omega
   ·have:=Qk0 h2;omega
   ·exact beq_eq.1 h2
  grind [Nat.beq_refl]
def BS {ss:pz (Nat×SV)}{bs:pz (Nat×aW)}(h:qm ss bs=true) :
  (∀t x,aC ss t=some x->∀s∈x.ids,∃b,aC bs s=some b)/\(∀t x,aC bs t=some x->∀s∈x.cs.ids,∃b,aC bs s=some b):=by unfold qm at h;simp only [Qx1,Qz4] at h;refine ⟨λt x a s c=>iD (dW.1 (h.1 _ (c_ a) s c)),λt x a s c=>iD (dW.1 (h.2 _ (c_ a) s c))⟩
def D4:∀{l:pz Prop},Xl l->∀p∈l,p
 | [],_,_,h=>nomatch h
 | [q],h,p,hp=>by rw [Qq6.1 hp];exact h
 | q::r::s,h,p,hp=>by
  rcases Qq5.1 hp with e|e
  ·rw [e];exact h.1
  ·exact D4 h.2 p e
theorem kY {st:St}{a:Act}{w:World}{V:ut}(hM:Mod n V0 bQ β0 st β a w V){A:W8}{x:A.τ}{k:Prop}(ht:qm (A.ax x) (A.boxes x)=true)(h:A.fits st x k):(∃β',Mod n V0 bQ β0 (A.st x) β' a w V)/\k:=by unfold W8.fits at h;dsimp only at h;generalize Su st (A.ax x) (A.boxes x)=ρ at h;obtain ⟨o,F⟩:=h;refine ⟨?_,F⟩;replace o:=D4 o;have ⟨t1,t2⟩:=BS ht;have G:EV ρ (qc ρ (A.boxes x))=true:=by{have:=λp q=>o p (Qk6 _ q);unfold fitR at this;(cases hc:EV ρ (qc ρ (A.boxes x)) with|true=>rfl|false=>{rw [hc] at this;exact (this False (by simp)).elim})};obtain ⟨P,Q⟩:=Bv G;let β':Nat->Nat:=λt=>if t∈qc ρ (A.boxes x) then β (I8 ρ t) else β t;have c:∀t,t∈qc ρ (A.boxes x)->β' t=β (I8 ρ t):=λt h=>if_pos h;have hβ:∀i,(∃b,aC (A.boxes x) i=some b)->∀s,sH ρ s i=true->β' i=β s:=by{rintro i ⟨b,d⟩ s he;unfold sH at he;split at he;{rename_i u hu;have e:=beq_eq.1 he;subst e;rw [c i (I9 (c_ d) ⟨_,hu⟩)];simp only [I8,hu]};{rename_i hu;have e:=beq_eq.1 he;subst e;by_cases hm:s∈qc ρ (A.boxes x);{rw [c s hm];simp only [I8,hu]};{exact if_neg hm}}};have r:∀t y,(t,y)∈A.ax x->∀s∈y.ids,∃b,aC (A.boxes x) s=some b:=by{intro t y f s g;unfold qm at ht;simp only [Qx1,Qz4] at ht;exact iD (dW.1 (ht.1 _ f s g))};have v:∀t y,(t,y)∈A.boxes x->∀s∈y.cs.ids,∃b,aC (A.boxes x) s=some b:=by{intro t y f s g;unfold qm at ht;simp only [Qx1,Qz4] at ht;exact iD (dW.1 (ht.2 _ f s g))};have H:=Ey (ρ:=ρ) (β:=β) (β':=β') (st:=st) (l:=A.ax x) (λt y f s g=>hβ s (r t y f s g)) λp q=>o p (Qz5 _ (Qz5 _ q));have B:=Ex (ρ:=ρ) (β:=β) (β':=β') (st:=st) (l:=A.boxes x) (λt y f s g=>hβ s (v t y f s g)) λp q=>o p (Qz5 _ (Qk6 _ q));refine ⟨β',hM.defers,hM.size,?_,t1,t2,?_,?_,hM.qZ,?_,hM.ext,?_,?_,hM.my,hM.small⟩;{intro t y f;have ⟨z,j,m⟩:=H t y (c_ f);rw [hM.ax t z j,m]};{intro s b d l;obtain ⟨C,z,j,m,D⟩:=B s b (c_ d) l;rw [c s C,hM.boxes _ z j D,m]};{intro s i b I d l E J he;obtain ⟨C,z,j,m,D⟩:=B s b (c_ d) l;have ⟨K,R,L,M,N⟩:=B i I (c_ E) J;grind [hM.inj]};{intro s b d l;obtain ⟨C,z,j,m,D⟩:=B s b (c_ d) l;grind [hM.yg]};{intro s b d l;obtain ⟨C,z,j,m,D⟩:=B s b (c_ d) l;rw [c s C];refine (hM.own _ z j D).imp id λh=>⟨?_,h.2⟩<;>grind};{intro s g;have ⟨O,S⟩:=hM.nJ s g;refine ⟨O,?_⟩;by_cases hm:s∈qc ρ (A.boxes x)<;>grind}
def Kw (hT:eu.ok P T)(hmx:P.follows .mixedOrders=true){L J:Hc}:∀(c:Code)(st:St)(β:Nat->Nat)(a:Act)(w:World)(V:ut)(K:Exit->St->ut->Prop)(Q:Exit->Act->World->Prop),
  Mod n V0 bQ β0 st β a w V->jK n c=true->vc P T LF RF L J c st V K->(∀e st' β' a' w' V',Mod n V0 bQ β0 st' β' a' w' V'->V.Le V'->K e st' V'->Q e a' w')->c.wp P Q a w:=by
 intro c
 induction c with
 | skip=>intro st β a w V K Q g _ f k;exact wp_skip (k _ _ _ _ _ _ g (View.Le.refl V) f)
 | region id ops draw=>
  intro st β a w V K Q g p f k
  have Z:∀(i:Nat)(o:Oper),ops[i]?=some o->∀d,o.dst=some d->d<n:=by intro i o ho d Z;simp only [jK,Qz4] at p;grind [Nat.blt_eq]
  simp only [vc] at f;split at f
  ·have ⟨a0,V1,F,u,G⟩:=g.release f;exact uM hT hmx F Z G (λst' β' a' w' V' h hle r=>k _ _ _ _ _ _ h (u.m hle) r)
  ·rename_i A hA;obtain ⟨I,f,Y⟩:=f;have ⟨a0,V1,F,u,G⟩:=g.release f;refine uM (K:=λ_ s V'=>∃x,(A.at st).fits s x (I x V')) hT hmx F Z G (λst' β' a' w' V' h hle r=>?_);obtain ⟨x,v⟩:=r;have hinv:I x V':=v.2;have ⟨O,R⟩:=Y x V' (u.m hle) hinv;obtain ⟨β2,q⟩:=(kY h O v).1;exact k _ _ _ _ _ _ q (u.m hle) R
 | seq x y Wr ihy=>
  intro st β a w V K Q g p f k;simp only [jK,Qx1] at p;refine wp_seq (Wr st β a w V _ _ g p.1 f ?_);intro e st' β' a' w' V' h hle r
  cases e with
  | normal=>exact ihy st' β' a' w' V' K Q h p.2 r (λe s b a w z O R h3=>k e s b a w z O (hle.m R) h3)
  | _=>exact k _ _ _ _ _ _ h hle r
 | cond c x y Wr ihy=>
  intro st β a w V K Q g p f k;simp only [jK,Qx1] at p;simp only [vc] at f;split at f
  ·split at f;{rename_i B;exact wp_cond_true (g.eval B) (Wr st β a w V K Q g p.1 f k)};{rename_i B;exact wp_cond_false (g.eval B) (ihy st β a w V K Q g p.2 f k)};{rename_i t B;exact wp_cond_split (g.eval B) (λH=>Wr st β a w V K Q g p.1 (f.1 H) k) (λH=>ihy st β a w V K Q g p.2 (f.2 H) k)};{exact f.elim}
  ·rename_i A hA;split at f;{rename_i B;exact wp_cond_true (g.eval B) (Wr st β a w V K Q g p.1 f k)};{rename_i B;exact wp_cond_false (g.eval B) (ihy st β a w V K Q g p.2 f k)};{rename_i t B;obtain ⟨I,⟨hx,hy⟩,Y⟩:=f;have join:∀e st' β' a' w' V',Mod n V0 bQ β0 st' β' a' w' V'->V.Le V'->(match e with|.normal=>∃x,(A.at st).fits st' x (I x V')|e=>K e st' V')->Q e a' w':=by{intro e st' β' a' w' V' h hle r;(cases e with|normal=>{obtain ⟨x,v⟩:=r;have hinv:I x V':=v.2;grind [kY]}|_=>exact k _ _ _ _ _ _ h hle r)};exact wp_cond_split (g.eval B) (λH=>Wr st β a w V _ Q g p.1 (hx H) join) (λH=>ihy st β a w V _ Q g p.2 (hy H) join)};{exact f.elim}
 | block id x ih=>
  intro st β a w V K Q g p f k;simp only [vc] at f;split at f
  ·refine wp_block (ih st β a w V _ _ g p f ?_)<;>grind [Exit.inBlock,Nat.beq_refl,ig]
  ·rename_i A hA;obtain ⟨I,f,Y⟩:=f;refine wp_block (ih st β a w V _ _ g p f ?_);intro e st' β' a' w' V' h hle r;have join:(∃x,(A.at st).fits st' x (I x V'))->Q .normal a' w':=by{rintro ⟨x,v⟩;have hinv:I x V':=v.2;have ⟨O,R⟩:=Y x V' hle hinv;obtain ⟨β2,q⟩:=(kY h O v).1;exact k _ _ _ _ _ _ q hle R};grind [Exit.inBlock,Nat.beq_refl,ig]
 | loop x ih=>
  intro st β a w V K Q g p f k;simp only [vc] at f;split at f
  ·refine wp_loop_ghost (λm a w=>∃st β V',Mod n V0 bQ β0 st β a w V'/\V.Le V'/\unr (λst V K=>vc P T LF RF L J x st V K) m st V' K) 3 ⟨st,β,V,g,View.Le.refl V,f⟩ ?_;rintro m a w ⟨st',β',V',h,hle,hu⟩;(cases m with|zero=>exact hu.elim|succ m=>{refine ih st' β' a w V' _ _ h p hu ?_;intro e SM β'' S U z D j r;(cases e with|normal=>exact ⟨m,Nat.lt_succ_self m,SM,β'',z,D,hle.m j,r⟩|_=>exact k _ _ _ _ _ _ D (hle.m j) r)})
  ·rename_i A hA;split at f;{obtain ⟨I,ms,⟨E,C⟩,M⟩:=f;have W:I E V:=C.2;refine wp_loop_ghost (λm a w=>∃x β V',Mod n V0 bQ β0 ((A.at st).st x) β a w V'/\V.Le V'/\I x V'/\ms x=m) (ms E) ?_ ?_;{obtain ⟨β2,q⟩:=(kY g (M E V (View.Le.refl V) W).1 C).1;exact ⟨E,β2,V,q,View.Le.refl V,W,rfl⟩};{rintro m a w ⟨x,β,V',h,hle,hinv,rfl⟩;refine ih ((A.at st).st x) β a w V' _ _ h p (M x V' hle hinv).2 ?_;intro e SM β'' S U z D j r;(cases e with|normal=>{obtain ⟨y,N,v⟩:=r;have X:I y z:=v.2;obtain ⟨β2,q⟩:=(kY D (M y z (hle.m j) X).1 v).1;exact ⟨ms y,N,y,β2,z,q,hle.m j,X,rfl⟩}|_=>exact k _ _ _ _ _ _ D (hle.m j) r)}};{obtain ⟨I,⟨E,k0,C⟩,M⟩:=f;have W:I E k0 V:=C.2;refine wp_loop_ghost (λm a w=>∃x β V',Mod n V0 bQ β0 ((A.at st).st x) β a w V'/\V.Le V'/\I x m V') k0 ?_ ?_;{obtain ⟨β2,q⟩:=(kY g (M E k0 V (View.Le.refl V) W).1 C).1;exact ⟨E,β2,V,q,View.Le.refl V,W⟩};{rintro m a w ⟨x,β,V',h,hle,hinv⟩;refine ih ((A.at st).st x) β a w V' _ _ h p (M x m V' hle hinv).2 ?_;intro e SM β'' S U z D j r;(cases e with|normal=>{obtain ⟨y,k',N,v⟩:=r;have X:I y k' z:=v.2;obtain ⟨β2,q⟩:=(kY D (M y k' z (hle.m j) X).1 v).1;exact ⟨k',N,y,β2,z,q,hle.m j,X⟩}|_=>exact k _ _ _ _ _ _ D (hle.m j) r)}}
 | exit id=>intro st β a w V K Q g _ f k;exact wp_exit (k _ _ _ _ _ _ g (View.Le.refl V) f)
 | scope x ih=>
  intro st β a w V K Q g p f k;simp only [vc] at f;refine wp_scope_straight (ih st β a w V _ _ g p f ?_);intro e st' β' a' w' V' h hle r
  cases e with
  | goto l=>exact r.elim
  | _=>exact k _ _ _ _ _ _ h hle r
 | label l=>intro st β a w V K Q g _ f k;exact wp_label (k _ _ _ _ _ _ g (View.Le.refl V) f)
 | ret=>intro st β a w V K Q g _ f k;exact wp_ret (k _ _ _ _ _ _ g (View.Le.refl V) f)
 | _=>intro st β a w V K Q g _ f k;exact f.elim
end Go.Eng
namespace Go.Eng
variable {P:Program} {T:eu} {LF RF:List Nat} {n:Nat} {V0:View} {bQ:J8} {β0:Nat->Nat} {β:Nat->Nat} {st:St} {a:Act} {w:World} {V:View}
def U9 (tmps:Array Value):ResultVar->Sem Value
 | .tmp t=>pure (tmps.getD t undef)
 | .cell c t=>do loadVar t (←asAddr (tmps.getD c undef))
def Lf (fn:Func)(tmps:Array un):results fn tmps=(do let vs ←fn.results.mapM (U9 tmps);pure (if h:vs.size=1 then vs[0] else .tuple vs)):=by unfold results;congr 1
def qe (hT:eu.ok P T)(hM:Mod n V0 bQ β0 st β a w V):∀{l:pz ResultVar} {xs:pz SV},oH T st l=some xs ->
  (l.mapM (U9 a.tmps)).run P w=.ok (xs.map (SV.den β)) w/\∀x∈xs,Live st x
 | [],xs,h=>by cases h;exact ⟨rfl,λx hx=>nomatch hx⟩
 | .tmp t::r,xs,h=>by
  simp only [oH] at h;split at h
  ·rename_i x l hx hl;cases h;have ⟨h1,h2⟩:=qe hT hM hl;refine ⟨?_,λy b=>?_⟩
   ·grind [U9,Sem.run_bind,Sem.run_pure,Result.andThen_ok,hM.ax]
   ·rcases Qq5.1 b with rfl|b
    ·exact hM.CL t y hx
    ·exact h2 y b
  ·cases h
 | .cell c t::r,xs,h=>by
  simp only [oH] at h;split at h
  ·rename_i s o i l hx d hl;split at h
   ·rename_i g x e;cases h;have ⟨h1,h2⟩:=qe hT hM hl;have ⟨f,j⟩:=ER hM (hT _ _ d) e;have k:(loadVar t ⟨β s,o,none⟩).run P w=.ok (x.den β) w:=f;refine ⟨?_,λy b=>?_⟩
    ·have m:a.tmps.getD c undef=.pointer (some ⟨β s,o,none⟩):=hM.ax c _ hx;have p:asAddr (.pointer (some ⟨β s,o,none⟩))=pure ⟨β s,o,none⟩:=rfl;grind [U9,Sem.run_bind,Result.andThen_ok,Sem.run_pure]
    grind
   ·cases h
  ·cases h
def I_ (hT:eu.ok P T)(hM:Mod n V0 bQ β0 st β a w V){fn:Func}{xs:pz SV}(h:oH T st fn.results.toList=some xs) :
  (results fn a.tmps).run P w=.ok (oG β xs) w/\∀x∈xs,Live st x:=by
 have ⟨b,c⟩:=qe hT hM h;refine ⟨?_,c⟩;rw [Lf,Wx1];simp only [map_eq_pure_bind,bind_assoc,pure_bind,Sem.run_bind];rw [b];simp only [Result.andThen_ok,Sem.run_pure]
 match xs with
 | []=>simp [oG]
 | [x]=>simp [oG]
 | x::y::r=>simp [oG]
def PN (β0:Nat->Nat)(s:Nat)(b:aW):List (Nat×aW)->Prop
 | []=>True
 | (t,b')::r=>uu (Pj b++Pj b') (β0 s≠β0 t)/\PN β0 s b r
def TF (β0:Nat->Nat)(V:View):List (Nat×aW)->Prop
 | []=>True
 | (s,b)::r=>(uu (Pj b) (V.w.heap[β0 s]?=some (b.obj β0))/\uu (Pj b) (V.X (β0 s)))/\PN β0 s b r/\TF β0 V r
def rZ {s:Nat}{b:aW}:∀{r:pz (Nat×aW)},PN β0 s b r->∀t b',aC r t=some b'->b.live->b'.live->β0 s≠β0 t
 | [],_,_,_,h=>by cases h
 | (u,c)::r,h,t,b',ha=>by
  simp only [aC] at ha;by_cases e:t=u
  ·subst e;rw [Qb0] at ha;cases ha;have h1:=h.1;grind [xw,kd.1]
  ·rw [ig e] at ha;exact rZ h.2 t b' ha
def D_:∀{bs:pz (Nat×aW)},TF β0 V bs->(∀s b,aC bs s=some b->b.live->V.w.heap[β0 s]?=some (b.obj β0)/\V.X (β0 s))/\∀s s' b b',aC bs s=some b->b.live->aC bs s'=some b'->b'.live->β0 s=β0 s'->s=s'
 | [],_=>⟨λs b h=>(by cases h),λs s' b b' h=>(by cases h)⟩
 | (s,b)::r,⟨h1,h2,h3⟩=>by
  have ⟨g1,g2⟩:=D_ h3;refine ⟨λt x h l=>?_,λt f x i a l c g he=>?_⟩
  ·simp only [aC] at h;grind [kd.1,ig]
  ·simp only [aC] at a c;by_cases e:t=s<;>by_cases d:f=s
   ·rw [e,d]
   ·subst e;rw [Qb0] at a;cases a;rw [ig d] at c;exact absurd he (rZ h2 f i c l g)
   ·subst d;rw [Qb0] at c;cases c;rw [ig e] at a;exact absurd he.symm (rZ h2 t x a g l)
   grind [ig]
def qh:∀{l:pz (Nat×SV)} {i:Nat},qW i l=true->∀t x,aC l t=some x->∃k,t=i+k/\l[k]?=some (t,x)
 | [],_,_,_,_,h=>by cases h
 | (j,y)::r,i,hs,t,x,h=>by
  simp only [qW,Qx1] at hs;obtain ⟨⟨h1,-⟩,h2⟩:=hs;have h1:=beq_eq.1 h1;simp only [aC] at h;by_cases e:t=j
  ·subst e;rw [Qb0] at h;cases h;exact ⟨0,by omega,rfl⟩
  ·rw [ig e] at h;have ⟨k,b,a⟩:=qh h2 t x h;exact ⟨k+1,by omega,by simpa using a⟩
def vS {bx:Nat->Option aW}{V':ut}:∀{l:pz Nat} {k:Prop},PM bx β V' l k->(∀s∈l,∀b,bx s=some b->b.live->V'.w.heap[β s]?=some (b.obj β))->(∀s∈l,∃b,bx s=some b/\b.live)/\k
 | [],_,h,_=>⟨λs hs=>(nomatch hs),h⟩
 | s::r,k,h,hf=>by
  simp only [PM] at h;split at h
  ·exact h.elim
  ·rename_i b hne hb
   have lb:b.live:=by
    intro c e;obtain ⟨cs,ty⟩:=b;dsimp only at e;subst e;grind
   have ⟨d,f⟩:=vS (h (hf s (by simp) b hb lb)) λt a=>hf t (Qq8 _ a);grind
  ·exact h.elim
def Ez:∀{bs:pz (Nat×aW)} {m:Nat} {b:aW},(m,b)∈bs->(∃vs,b.cs=.aB vs)\/m∈lR bs
 | [],_,_,h=>nomatch h
 | (s,x)::r,m,b,h=>by
  rcases Qq5.1 h with e|h
  ·cases e;unfold lR;grind
  ·refine (Ez h).imp id λh=>?_;unfold lR;grind
def Aw:∀{bs:pz (Nat×aW)} {m:Nat},m∈lR bs->m∈bs.map (·.1)
 | [],_,h=>nomatch h
 | (s,x)::r,m,h=>by
  unfold lR at h;split at h
  ·exact Qq8 _ (Aw h)
  ·rcases Qq5.1 h with rfl|h
   ·simp
   ·exact Qq8 _ (Aw h)
def EJ {b:Nat}{k:Prop}:∀{bs:pz (Nat×aW)} {m:Nat} {vs:pz un} {ty:TypeId},(m,(⟨.aB vs,ty⟩:aW))∈bs->vs≠[]->b=β0 m->Ru bs β0 b k
 | [],_,_,_,h,_,_=>nomatch h
 | (s,x)::r,m,vs,ty,h,hv,he=>by
  rcases Qq5.1 h with e|h
  ·cases e;exact .inl ⟨hv,he⟩
  ·have:=EJ (k:=k) h hv he;unfold Ru;grind
def nr {l m:pz Nat}{s:Nat}:s∈minus l m↔s∈l/\s∉m:=by unfold minus;grind [dW.2,dW.1]
def Nj {bx:Nat->Option aW}{s:Nat}(h:xN T bx s=false):s<100000:=by rcases Qz3 s 100000 with g|g;{exact g};{unfold xN at h;grind [Nat.ble_eq]}
def EW {bs:pz (Nat×aW)}(hT:eu.ok P T)(hM:Mod n V0 ⟨lR bs,λb=>∃m b0,aC bs m=some b0/\b0.live/\b=β0 m⟩ β0 st β a w V){fn:Func}{R:un->ut->Prop}(hv:MZ T fn.results.toList bs β0 V0.w.heap.size R st V) :
  ∃v,(results fn a.tmps).run P w=.ok v w/\R v (V0.to w hM.ext.size):=by
 unfold MZ at hv;split at hv
 ·exact hv.elim
 ·rename_i xs N;have ⟨h1,h2⟩:=I_ hT hM N;dsimp only at hv;split at hv
  ·exact hv.elim
  ·rename_i D;generalize hL:reach st.boxes 3 (dedup (xs.flatMap SV.ids++lR bs))=L at hv D
   have k:∀s,s∈xs.flatMap SV.ids\/s∈lR bs->s∈L:=λs c=>by rw [←hL];exact f_ 3 _ s (cA.2 (Qw3.2 c))
   have hle:V.Le (V0.to w hM.ext.size):=by intro b o d;obtain ⟨B,C⟩:=hM.qZ b o d;exact ⟨C,B⟩
   have γf:∀γ:Nat->Nat,γ=(λt=>if t∈minus L (lR bs) then β t else β0 t)->(∀s∈L,γ s=β s)/\oG γ xs=oG β xs:=by
    intro γ hγ
    have f:∀s∈L,γ s=β s:=by intro s c;rw [hγ];by_cases d:s∈lR bs;{have:s∉minus L (lR bs):=λh=>(nr.1 h).2 d;simp only [this,if_false];exact (hM.nJ s d).2.symm};grind [nr.2]
    refine ⟨f,?_⟩;have i:∀x∈xs,x.den γ=x.den β:=λx i=>SV.bZ λs c=>f s (k s (.inl (Qy1.2 ⟨x,i,c⟩)))
    match xs,i with
    | [],_=>rfl
    | [x],i=>exact i x (by simp)
    | x::y::r,i=>simp only [oG];rw [Qv2 i]
   have K:∀γ:Nat->Nat,(∀s∈L,γ s=β s)->∀s∈L,∀b,st.boxes s=some b->b.live->(V0.to w hM.ext.size).w.heap[γ s]?=some (b.obj γ):=by intro γ f s c b d l;rw [f s c,aW.dG λt p=>f t (fM D c d t p)];exact hM.boxes s b d l
   have j:∀γ:Nat->Nat,(∀s∈L,γ s=β s)->∀s∈L,s<100000->∀b,st.boxes s=some b->b.live->(V0.to w hM.ext.size).bg (γ s) (b.obj γ):=by intro γ f s c E b d l;refine ⟨λhH=>?_,K γ f s c b d l⟩;have hH:V0.H (γ s):=hH;rw [f s c] at hH;rcases hM.own s b d l with h|⟨h,-⟩;{have:=V0.hH _ hH;omega};{omega}
   split at hv
   ·rename_i M;have E:∀s∈minus L (lR bs),s<100000:=by{intro s c;(cases p:xN T st.boxes s with|false=>exact Nj p|true=>{have:s∈(minus L (lR bs)).filter (xN T st.boxes):=Qb7.2 ⟨c,p⟩;rw [M] at this;cases this})};have g:=iU (hv _ hle) β;generalize hγ:(λt=>if t∈minus L (lR bs) then β t else β0 t)=γ at g;have ⟨f,F⟩:=γf γ hγ.symm;obtain ⟨-,q⟩:=vS g (λs c b d l=>K γ f s (k s (.inr c)) b d l);obtain ⟨-,G⟩:=jf q (λs c b d l=>j γ f s (nr.1 c).1 (E s c) b d l);grind
   ·rename_i s M;split at hv
    ·rename_i b d
     have c:s∈minus L (lR bs):=by have:s∈(minus L (lR bs)).filter (xN T st.boxes):=by{rw [M];simp};exact (Qb7.1 this).1
     have ⟨z,O⟩:=nr.1 c;have g:=iU (hv (V0.to w hM.ext.size)) β;generalize hγ:(λt=>if t∈minus L (lR bs) then β t else β0 t)=γ at g;have ⟨f,F⟩:=γf γ hγ.symm
     have I:V.Le ((V0.to w hM.ext.size).bu (gdP b) (γ s)):=by intro x o i;obtain ⟨B,C⟩:=hle x o i;refine ⟨λQ=>?_,C⟩;rcases Q with Q|⟨Y,e,-⟩;{exact B Q};{rw [f s z] at e;exact hM.yg s b d (Ud.1 Y) o (e▸i)}
     have ⟨Z,q⟩:=vS (g I) (λs c b d l=>K γ f s (k s (.inr c)) b d l)
     have G:=q (kd.2 λl=>K γ f s z b d l) (kd.2 λl=>by
      rw [f s z];rcases hM.own s b d l with h|⟨-,m,b0,hm,l0,he⟩
      ·exact .inl h
      ·right;rcases Ez (c_ hm) with ⟨vs,J⟩|A
       ·obtain ⟨cs,ty⟩:=b0;dsimp only at J;subst J;exact EJ (c_ hm) (l0 vs rfl) he
       ·exfalso;have ⟨b1,S,l1⟩:=Z m A;have e:=(hM.nJ m A).2;rw [←e] at he;have:=hM.inj s m b b1 d l S l1 he;exact O (this▸A))
     obtain ⟨-,a0⟩:=jf G (λu hu b' U l'=>by
      obtain ⟨B,C⟩:=Qb7.1 hu;have W:u≠s:=λe=>by subst e;rw [Qb0] at C;cases C
      have X:u<100000:=by (cases p:xN T st.boxes u with|false=>exact Nj p|true=>{have:u∈(minus L (lR bs)).filter (xN T st.boxes):=Qb7.2 ⟨B,p⟩;rw [M] at this;exact absurd (Qq6.1 this) W})
      exact j γ f u (nr.1 B).1 X b' U l')
     grind
    ·exact hv.elim
   ·exact hv.elim
def Qx (hT : eu.ok P T)(hmx : P.follows .mixedOrders = true){L J : Hc}{f : FuncId}{fn : Func}(hf : P.funcs[f]? = some fn)(hn : (fn.name == "runtime.NumGoroutine") = false)
  {ss:pz (Nat×SV)}{bs:pz (Nat×aW)}{args:Array un}{R:un->ut->Prop}(ha:args=(ss.map λx=>x.2.den β0).toArray)(hb:TF β0 V bs)
  (hv:GC P T LF RF L J fn ss bs β0 V R):aa P f args V R:=by
 unfold GC at hv;split at hv
 ·rename_i code c;split at hv
  ·rename_i z;simp only [Qx1,Qz4,Nat.ble_eq] at z;obtain ⟨⟨⟨⟨⟨d,B⟩,hlen⟩,g⟩,C⟩,r⟩:=z
   have i:∀x∈bs,100000<=x.1/\x.1<200000:=λx n=>by
    have ⟨D,E⟩:=C x n;exact ⟨D,Qk0 E⟩
   refine ⟨⟨fn,hf,by rw [c];rfl,hn⟩,calls_of_wp hf c ?_⟩;have ⟨A,F⟩:=D_ hb;have ⟨t1,t2⟩:=BS r;have G:args.size=ss.length:=by rw [ha];simp
   have H:Mod fn.ntmps V ⟨lR bs,λb=>∃m b0,aC bs m=some b0/\b0.live/\b=β0 m⟩ β0 ⟨aC ss,aC bs⟩ β0 { tmps:=args++Array.replicate (fn.ntmps-args.size) undef,defers:=[] } V.w V:=by
    refine ⟨rfl,by simp;omega,?_,t1,t2,λs b h l=>(A s b h l).1,λs I b K h l M N=>F s I b K h l M N,λb o h=>⟨h.2,h.1⟩,λs b h l o O=>O.1 (V.hX _ (A s b h l).2),iP.refl _ _,?_,?_,?_,g⟩
    ·intro t x n;have ⟨k,p,j⟩:=qh B t x n;have q:k<ss.length:=by grind
     have u:t=k:=by omega
     subst u;have:args[t]?=some (x.den β0):=by rw [ha];simp [j]
     have y:t<args.size:=by omega
     show (args++Array.replicate (fn.ntmps-args.size) undef).getD t undef=_;rw [Array.getD_eq_getD_getElem?,Array.getElem?_append_left y,this];rfl
    ·intro s b h l;exact .inr ⟨(i _ (c_ h)).1,s,b,h,l,rfl⟩
    ·intro s Q;obtain ⟨x,n,rfl⟩:=Qz1.1 (Aw Q);grind
    grind
   refine Kw hT hmx code _ β0 _ _ V _ _ H d hv ?_;intro e S β' U W X a hle q
   cases e with
   | normal=>
    have ⟨v,p,j⟩:=EW hT a q;exact ⟨a.defers,v,p,v,rfl,a.ext,j⟩
   | ret=>
    have ⟨v,p,j⟩:=EW hT a q;exact ⟨a.defers,v,p,v,rfl,a.ext,j⟩
   | _=>exact q.elim
  ·exact hv.elim
 ·exact hv.elim
def cV (hT : eu.ok P T)(hmx : P.follows .mixedOrders = true)(L J : Hc){f : FuncId}{fn : Func}(hf : P.funcs[f]? = some fn)(hn : (fn.name == "runtime.NumGoroutine") = false)
  (ss:pz (Nat×SV))(bs:pz (Nat×aW)){args:Array un}{R:un->ut->Prop}(ha:args=(ss.map λx=>x.2.den β0).toArray)(hb:TF β0 V bs)
  {G:Prop}(h:G)(hG:G=GC P T LF RF L J fn ss bs β0 V R):aa P f args V R:=by
 subst hG;exact Qx hT hmx hf hn ha hb h
def WU (h:T.map (λx=>ou P x.1)=T.map λx=>some x.2):eu.ok P T:=by intro t i a;have hm:=c_ a;obtain ⟨k,b⟩:=List.getElem?_of_mem hm;have:=congrArg (λl=>l[k]?) h;grind
end Go.Eng
namespace Go.Proofs.Tryz
open Go.Eng
variable{l:List Value}
abbrev aT:List Nat:=[]
def tab:eu:=[
 (3,⟨.int .i64,1,8,[.v (.int .i64 0)]⟩),
 (0,⟨.tuple [],1,0,[.v (.tuple #[])]⟩),
 (4,⟨.bool,1,1,[.ff]⟩),
 (83,⟨.struct [(30,0),(28,2)],3,56,[.ff,.v (.slice none 0 0),.v (.slice none 0 0)]⟩),
 (95,⟨.struct [(2,0),(2,1),(93,2)],3,24,[.v (.int .i64 0),.v (.int .i64 0),.v (.pointer none)]⟩),
 (85,⟨.struct [(83,0),(83,3)],6,112,[.ff,.v (.slice none 0 0),.v (.slice none 0 0),.ff,.v (.slice none 0 0),.v (.slice none 0 0)]⟩),
 (230,⟨.int .u64,1,8,[.v (.int .u64 0)]⟩),
 (97,⟨.struct [(95,0),(95,3),(95,6)],9,72,[.v (.int .i64 0),.v (.int .i64 0),.v (.pointer none),.v (.int .i64 0),.v (.int .i64 0),.v (.pointer none),.v (.int .i64 0),.v (.int .i64 0),.v (.pointer none)]⟩),
 (47,⟨.slice 231,1,24,[.v (.slice none 0 0)]⟩),
 (32,⟨.struct [(30,0),(30,2),(30,4)],6,96,[.ff,.v (.slice none 0 0),.ff,.v (.slice none 0 0),.ff,.v (.slice none 0 0)]⟩),
 (231,⟨.int .u32,1,4,[.v (.int .u32 0)]⟩),
 (28,⟨.slice 231,1,24,[.v (.slice none 0 0)]⟩),
 (30,⟨.struct [(4,0),(28,1)],2,32,[.ff,.v (.slice none 0 0)]⟩),
 (193,⟨.slice 97,1,24,[.v (.slice none 0 0)]⟩),
 (2,⟨.int .i64,1,8,[.v (.int .i64 0)]⟩),
 (49,⟨.struct [(4,0),(47,1)],2,32,[.ff,.v (.slice none 0 0)]⟩),
 (299,⟨.slice 302,1,24,[.v (.slice none 0 0)]⟩),
 (135,⟨.struct [(95,0),(95,3),(4,6),(4,7)],8,56,[.v (.int .i64 0),.v (.int .i64 0),.v (.pointer none),.v (.int .i64 0),.v (.int .i64 0),.v (.pointer none),.ff,.ff]⟩),
 (302,⟨.struct [(95,0),(3,3),(3,4)],5,40,[.v (.int .i64 0),.v (.int .i64 0),.v (.pointer none),.v (.int .i64 0),.v (.int .i64 0)]⟩),
 (34,⟨.slice 32,1,24,[.v (.slice none 0 0)]⟩),
 (25,⟨.ptr 60,1,8,[.v (.pointer none)]⟩),
 (114,⟨.struct [(83,0),(83,3),(4,6),(4,7)],8,120,[.ff,.v (.slice none 0 0),.v (.slice none 0 0),.ff,.v (.slice none 0 0),.v (.slice none 0 0),.ff,.ff]⟩),
 (128,⟨.slice 137,1,24,[.v (.slice none 0 0)]⟩),
 (137,⟨.struct [(97,0),(135,9)],17,128,[.v (.int .i64 0),.v (.int .i64 0),.v (.pointer none),.v (.int .i64 0),.v (.int .i64 0),.v (.pointer none),.v (.int .i64 0),.v (.int .i64 0),.v (.pointer none),.v (.int .i64 0),.v (.int .i64 0),.v (.pointer none),.v (.int .i64 0),.v (.int .i64 0),.v (.pointer none),.ff,.ff]⟩),
 (100,⟨.ptr 202,1,8,[.v (.pointer none)]⟩),
 (60,⟨.struct [(4,0),(4,1),(32,2),(25,8),(25,9)],10,120,[.ff,.ff,.ff,.v (.slice none 0 0),.ff,.v (.slice none 0 0),.ff,.v (.slice none 0 0),.v (.pointer none),.v (.pointer none)]⟩),
 (68,⟨.struct [(49,0),(47,2)],3,56,[.ff,.v (.slice none 0 0),.v (.slice none 0 0)]⟩),
 (149,⟨.slice 85,1,24,[.v (.slice none 0 0)]⟩),
 (116,⟨.slice 83,1,24,[.v (.slice none 0 0)]⟩),
 (70,⟨.struct [(68,0),(68,3),(4,6),(4,7)],8,120,[.ff,.v (.slice none 0 0),.v (.slice none 0 0),.ff,.v (.slice none 0 0),.v (.slice none 0 0),.ff,.ff]⟩),
 (232,⟨.int .u64,1,8,[.v (.int .u64 0)]⟩),
 (45,⟨.struct [(3,0),(43,1)],2,32,[.v (.int .i64 0),.v (.slice none 0 0)]⟩),
 (93,⟨.ptr 295,1,8,[.v (.pointer none)]⟩),
 (27,⟨.slice 231,1,24,[.v (.slice none 0 0)]⟩),
 (40,⟨.iface,1,16,[.v (.nilIface)]⟩),
 (51,⟨.struct [(49,0),(49,2),(49,4)],6,96,[.ff,.v (.slice none 0 0),.ff,.v (.slice none 0 0),.ff,.v (.slice none 0 0)]⟩),
 (43,⟨.slice 179,1,24,[.v (.slice none 0 0)]⟩),
 (72,⟨.struct [(51,0),(70,6)],14,216,[.ff,.v (.slice none 0 0),.ff,.v (.slice none 0 0),.ff,.v (.slice none 0 0),.ff,.v (.slice none 0 0),.v (.slice none 0 0),.ff,.v (.slice none 0 0),.v (.slice none 0 0),.ff,.ff]⟩),
 (328,⟨.struct [(95,0),(95,3)],6,48,[.v (.int .i64 0),.v (.int .i64 0),.v (.pointer none),.v (.int .i64 0),.v (.int .i64 0),.v (.pointer none)]⟩),
 (61,⟨.slice 72,1,24,[.v (.slice none 0 0)]⟩),
 (56,⟨.slice 114,1,24,[.v (.slice none 0 0)]⟩),
 (218,⟨.slice 225,1,24,[.v (.slice none 0 0)]⟩),
 (23,⟨.ptr 77,1,8,[.v (.pointer none)]⟩),
 (202,⟨.struct [(97,0),(100,9),(100,10),(4,11)],12,96,[.v (.int .i64 0),.v (.int .i64 0),.v (.pointer none),.v (.int .i64 0),.v (.int .i64 0),.v (.pointer none),.v (.int .i64 0),.v (.int .i64 0),.v (.pointer none),.v (.pointer none),.v (.pointer none),.ff]⟩),
 (357,⟨.int .u64,1,8,[.v (.int .u64 0)]⟩),
 (225,⟨.struct [(32,0),(114,6)],14,216,[.ff,.v (.slice none 0 0),.ff,.v (.slice none 0 0),.ff,.v (.slice none 0 0),.ff,.v (.slice none 0 0),.v (.slice none 0 0),.ff,.v (.slice none 0 0),.v (.slice none 0 0),.ff,.ff]⟩),
 (154,⟨.struct [(151,0),(3,1),(34,2)],3,56,[.v (.slice none 0 0),.v (.int .i64 0),.v (.slice none 0 0)]⟩),
 (104,⟨.slice 135,1,24,[.v (.slice none 0 0)]⟩),
 (103,⟨.slice 135,1,24,[.v (.slice none 0 0)]⟩),
 (258,⟨.func,1,8,[.v (.nilFunc)]⟩),
 (304,⟨.func,1,8,[.v (.nilFunc)]⟩),
 (38,⟨.slice 70,1,24,[.v (.slice none 0 0)]⟩),
 (120,⟨.slice 4,1,24,[.v (.slice none 0 0)]⟩),
 (151,⟨.slice 149,1,24,[.v (.slice none 0 0)]⟩),
 (22,⟨.slice 3,1,24,[.v (.slice none 0 0)]⟩),
 (179,⟨.struct [(51,0),(3,6),(3,7)],8,112,[.ff,.v (.slice none 0 0),.ff,.v (.slice none 0 0),.ff,.v (.slice none 0 0),.v (.int .i64 0),.v (.int .i64 0)]⟩),
 (295,⟨.struct [(49,0),(47,2)],3,56,[.ff,.v (.slice none 0 0),.v (.slice none 0 0)]⟩),
 (198,⟨.struct [(43,0),(120,1),(3,2),(4,3)],4,64,[.v (.slice none 0 0),.v (.slice none 0 0),.v (.int .i64 0),.ff]⟩),
 (277,⟨.struct [(68,0),(68,3)],6,112,[.ff,.v (.slice none 0 0),.v (.slice none 0 0),.ff,.v (.slice none 0 0),.v (.slice none 0 0)]⟩),
 (334,⟨.int .i64,1,8,[.v (.int .i64 0)]⟩),
 (305,⟨.slice 100,1,24,[.v (.slice none 0 0)]⟩),
 (211,⟨.func,1,8,[.v (.nilFunc)]⟩),
 (361,⟨.ptr 3,1,8,[.v (.pointer none)]⟩),
 (77,⟨.struct [(22,0),(3,1)],2,32,[.v (.slice none 0 0),.v (.int .i64 0)]⟩),
 (300,⟨.arr 2 3,2,16,[.v (.int .i64 0),.v (.int .i64 0)]⟩),
 (156,⟨.slice 222,1,24,[.v (.slice none 0 0)]⟩),
 (221,⟨.slice 277,1,24,[.v (.slice none 0 0)]⟩),
 (250,⟨.arr 2 103,2,48,[.v (.slice none 0 0),.v (.slice none 0 0)]⟩),
 (204,⟨.func,1,8,[.v (.nilFunc)]⟩),
 (196,⟨.ptr 198,1,8,[.v (.pointer none)]⟩),
 (281,⟨.tuple [230,4],1,0,[.v (.tuple #[.int .u64 0,.bool false])]⟩),
 (315,⟨.arr 2 218,2,48,[.v (.slice none 0 0),.v (.slice none 0 0)]⟩),
 (235,⟨.tuple [28,28],1,0,[.v (.tuple #[.slice none 0 0,.slice none 0 0])]⟩),
 (5,⟨.int .u8,1,1,[.v (.int .u8 0)]⟩),
 (185,⟨.tuple [85,4],1,0,[.v (.tuple #[.agg #[.bool false,.slice none 0 0,.slice none 0 0,.bool false,.slice none 0 0,.slice none 0 0],.bool false])]⟩),
 (289,⟨.tuple [2,4],1,0,[.v (.tuple #[.int .i64 0,.bool false])]⟩),
 (372,⟨.tuple [3,3],1,0,[.v (.tuple #[.int .i64 0,.int .i64 0])]⟩),
 (9,⟨.str,1,16,[.v (.string ByteArray.empty)]⟩),
 (62,⟨.tuple [61,40],1,0,[.v (.tuple #[.slice none 0 0,.nilIface])]⟩),
 (87,⟨.tuple [32,4],1,0,[.v (.tuple #[.agg #[.bool false,.slice none 0 0,.bool false,.slice none 0 0,.bool false,.slice none 0 0],.bool false])]⟩),
 (251,⟨.func,1,8,[.v (.nilFunc)]⟩),
 (98,⟨.tuple [97,4],1,0,[.v (.tuple #[.agg #[.int .i64 0,.int .i64 0,.pointer none,.int .i64 0,.int .i64 0,.pointer none,.int .i64 0,.int .i64 0,.pointer none],.bool false])]⟩),
 (206,⟨.tuple [135,4],1,0,[.v (.tuple #[.agg #[.int .i64 0,.int .i64 0,.pointer none,.int .i64 0,.int .i64 0,.pointer none,.bool false,.bool false],.bool false])]⟩),
 (222,⟨.slice 277,1,24,[.v (.slice none 0 0)]⟩),
 (371,⟨.ptr 357,1,8,[.v (.pointer none)]⟩),
 (391,⟨.struct [(9,0)],1,16,[.v (.string ByteArray.empty)]⟩),
 (107,⟨.tuple [43,3],1,0,[.v (.tuple #[.slice none 0 0,.int .i64 0])]⟩),
 (283,⟨.tuple [231,231],1,0,[.v (.tuple #[.int .u32 0,.int .u32 0])]⟩),
 (287,⟨.tuple [47,47,4],1,0,[.v (.tuple #[.slice none 0 0,.slice none 0 0,.bool false])]⟩),
 (53,⟨.func,1,8,[.v (.nilFunc)]⟩),
 (101,⟨.tuple [100,40],1,0,[.v (.tuple #[.pointer none,.nilIface])]⟩),
 (123,⟨.tuple [4,4],1,0,[.v (.tuple #[.bool false,.bool false])]⟩),
 (130,⟨.tuple [100,4],1,0,[.v (.tuple #[.pointer none,.bool false])]⟩),
 (138,⟨.tuple [137,4],1,0,[.v (.tuple #[.agg #[.int .i64 0,.int .i64 0,.pointer none,.int .i64 0,.int .i64 0,.pointer none,.int .i64 0,.int .i64 0,.pointer none,.int .i64 0,.int .i64 0,.pointer none,.int .i64 0,.int .i64 0,.pointer none,.bool false,.bool false],.bool false])]⟩),
 (262,⟨.tuple [95,4],1,0,[.v (.tuple #[.agg #[.int .i64 0,.int .i64 0,.pointer none],.bool false])]⟩),
 (266,⟨.tuple [114,4],1,0,[.v (.tuple #[.agg #[.bool false,.slice none 0 0,.slice none 0 0,.bool false,.slice none 0 0,.slice none 0 0,.bool false,.bool false],.bool false])]⟩),
 (335,⟨.tuple [3,334],1,0,[.v (.tuple #[.int .i64 0,.int .i64 0])]⟩),
 (339,⟨.tuple [3,4],1,0,[.v (.tuple #[.int .i64 0,.bool false])]⟩),
 (367,⟨.tuple [47,4],1,0,[.v (.tuple #[.slice none 0 0,.bool false])]⟩),
 (256,⟨.func,1,8,[.v (.nilFunc)]⟩),
 (260,⟨.func,1,8,[.v (.nilFunc)]⟩),
 (41,⟨.tuple [38,40],1,0,[.v (.tuple #[.slice none 0 0,.nilIface])]⟩),
 (64,⟨.tuple [45,40],1,0,[.v (.tuple #[.agg #[.int .i64 0,.slice none 0 0],.nilIface])]⟩),
 (73,⟨.tuple [72,40],1,0,[.v (.tuple #[.agg #[.bool false,.slice none 0 0,.bool false,.slice none 0 0,.bool false,.slice none 0 0,.bool false,.slice none 0 0,.slice none 0 0,.bool false,.slice none 0 0,.slice none 0 0,.bool false,.bool false],.nilIface])]⟩),
 (142,⟨.tuple [128,4],1,0,[.v (.tuple #[.slice none 0 0,.bool false])]⟩),
 (174,⟨.tuple [104,104],1,0,[.v (.tuple #[.slice none 0 0,.slice none 0 0])]⟩),
 (215,⟨.tuple [34,4],1,0,[.v (.tuple #[.slice none 0 0,.bool false])]⟩),
 (271,⟨.tuple [225,4],1,0,[.v (.tuple #[.agg #[.bool false,.slice none 0 0,.bool false,.slice none 0 0,.bool false,.slice none 0 0,.bool false,.slice none 0 0,.slice none 0 0,.bool false,.slice none 0 0,.slice none 0 0,.bool false,.bool false],.bool false])]⟩),
 (274,⟨.tuple [218,218],1,0,[.v (.tuple #[.slice none 0 0,.slice none 0 0])]⟩),
 (316,⟨.tuple [56,4],1,0,[.v (.tuple #[.slice none 0 0,.bool false])]⟩),
 (323,⟨.tuple [47,231],1,0,[.v (.tuple #[.slice none 0 0,.int .u32 0])]⟩),
 (325,⟨.tuple [47,47],1,0,[.v (.tuple #[.slice none 0 0,.slice none 0 0])]⟩),
 (364,⟨.tuple [230,230],1,0,[.v (.tuple #[.int .u64 0,.int .u64 0])]⟩),
 (375,⟨.ptr 391,1,8,[.v (.pointer none)]⟩)]
def tabD:eu:=tab++[
 (32,⟨.struct [(30,0),(30,2),(30,4)],6,96,[.ff,.v (.slice none 0 0),.ff,.v (.slice none 0 0),.ff,.v (.slice none 0 0)]⟩),
 (137,⟨.struct [(97,0),(135,9)],17,128,[.v (.int .i64 0),.v (.int .i64 0),.v (.pointer none),.v (.int .i64 0),.v (.int .i64 0),.v (.pointer none),.v (.int .i64 0),.v (.int .i64 0),.v (.pointer none),.v (.int .i64 0),.v (.int .i64 0),.v (.pointer none),.v (.int .i64 0),.v (.int .i64 0),.v (.pointer none),.ff,.ff]⟩),
 (225,⟨.struct [(32,0),(114,6)],14,216,[.ff,.v (.slice none 0 0),.ff,.v (.slice none 0 0),.ff,.v (.slice none 0 0),.ff,.v (.slice none 0 0),.v (.slice none 0 0),.ff,.v (.slice none 0 0),.v (.slice none 0 0),.ff,.ff]⟩)]
def Vq:eu.ok prog tabD:=WU (by kernel_rfl)
def eQ:eu.ok prog tab:=WU (by kernel_rfl)
def mixed:prog.follows .mixedOrders=true:=by kernel_rfl
abbrev VP:=View->Prop
abbrev qr:=Nat×Nat×List Value×Int
abbrev wd:=Int×Int×List Value
abbrev wt:=Int×List Value
abbrev wz:=Nat×Nat×List Value×Int×List Value
abbrev kw:=Bool×OA×Nat×Nat×OA×Nat×Nat×Bool×OA×Nat×Nat×OA×Nat×Nat×Bool×Bool
abbrev jc:=Int×Bool×OA×Nat×Nat×OA×Nat×Nat×Bool×OA×Nat×Nat×OA×Nat×Nat×Bool×Bool
abbrev jk:=Nat×Nat×List Value×Bool×Int×List Value×Int×Int×OA×Int×Int×OA×Bool×Bool
abbrev jp:=Int×Nat×Nat×Nat×Nat×List Value×List Value
abbrev vn:=OA×Nat×Nat×OA×Nat×Nat
abbrev vu:=Nat×Nat×List Value
abbrev vw:=Nat×Nat×List Value×Int×Nat×Nat×Int×OA×Nat×Nat×List Value
abbrev vz:=Int×Bool×OA×Nat×Nat×OA×Nat×Nat
abbrev yi:=Int×Int
abbrev yz:=Nat×Nat×List Value×Nat×Nat×List Value
abbrev qaa:=Nat×Nat×List Value×Int×OA×Nat×Nat×Int
abbrev qab:=Nat×Nat×List Value×Nat×Nat×List Value×Int
abbrev qac:=Int×Int×OA×Int×Int×OA×Bool×Bool
abbrev qad:=Bool×OA×Nat×Nat×Bool×OA×Nat×Nat×Bool×OA×Nat×Nat×OA×Nat×Nat×Int
abbrev qae:=Int×List Value×List Value
abbrev qaf:=OA×Nat×Nat×Int×List Value
abbrev qag:=Nat×Nat×List Value×Int×Int×OA×Int×Int×OA×Bool×Bool
abbrev qah:=Bool×OA×Nat×Nat×Bool×OA×Nat×Nat×Bool×OA×Nat×Nat
abbrev qai:=OA×Nat×Nat×Bool×OA×Nat×Nat
abbrev qaj:=Int×Int×Int×List Value
abbrev qak:=Nat×Nat×List Value×List Value
abbrev qal:=Nat×Nat×List Value×Int×Int
abbrev qam:=Int×OA×Nat×Nat
abbrev qan:=OA×Nat×Nat×Int
abbrev qao:=OA×Nat×Nat
abbrev qap:=Bool×OA×Nat×Nat×Int
abbrev VR:=Value->VP
abbrev Rt (V:View)(R:VR)(x:Value):Prop:=∀v:View,V.Le v->R x v
abbrev s3 {α0 α1 α2:Type}(a:α0)(b:α1)(c:α2)(K:Prop):Prop:=sm a/\sm b/\sm c/\K
abbrev s4 {α0 α1 α2 α3:Type}(a:α0)(b:α1)(c:α2)(d:α3)(K:Prop):Prop:=sm a/\sm b/\sm c/\sm d/\K
abbrev s5 {α0 α1 α2 α3 α4:Type}(a:α0)(b:α1)(c:α2)(d:α3)(e:α4)(K:Prop):Prop:=sm a/\sm b/\sm c/\sm d/\sm e/\K
abbrev s6 {α0 α1 α2 α3 α4 α5:Type}(a:α0)(b:α1)(c:α2)(d:α3)(e:α4)(f:α5)(K:Prop):Prop:=sm a/\sm b/\sm c/\sm d/\sm e/\sm f/\K
abbrev s7 {α0 α1 α2 α3 α4 α5 α6:Type}(a:α0)(b:α1)(c:α2)(d:α3)(e:α4)(f:α5)(g:α6)(K:Prop):Prop:=sm a/\sm b/\sm c/\sm d/\sm e/\sm f/\sm g/\K
abbrev s8 {α0 α1 α2 α3 α4 α5 α6 α7:Type}(a:α0)(b:α1)(c:α2)(d:α3)(e:α4)(f:α5)(g:α6)(h:α7)(K:Prop):Prop:=sm a/\sm b/\sm c/\sm d/\sm e/\sm f/\sm g/\sm h/\K
abbrev s9 {α0 α1 α2 α3 α4 α5 α6 α7 α8:Type}(a:α0)(b:α1)(c:α2)(d:α3)(e:α4)(f:α5)(g:α6)(h:α7)(i:α8)(K:Prop):Prop:=sm a/\sm b/\sm c/\sm d/\sm e/\sm f/\sm g/\sm h/\sm i/\K
abbrev xK {α0 α1 α2 α3 α4 α5 α6 α7 α8 α9:Type}(a:α0)(b:α1)(c:α2)(d:α3)(e:α4)(f:α5)(g:α6)(h:α7)(i:α8)(j:α9)(K:Prop):Prop:=sm a/\sm b/\sm c/\sm d/\sm e/\sm f/\sm g/\sm h/\sm i/\sm j/\K
abbrev vK {α0 α1 α2 α3 α4 α5 α6 α7 α8 α9 α10:Type}(a:α0)(b:α1)(c:α2)(d:α3)(e:α4)(f:α5)(g:α6)(h:α7)(i:α8)(j:α9)(k:α10)(K:Prop):Prop:=sm a/\sm b/\sm c/\sm d/\sm e/\sm f/\sm g/\sm h/\sm i/\sm j/\sm k/\K
abbrev bf {α0 α1 α2 α3 α4 α5 α6 α7 α8 α9 α10 α11:Type}(a:α0)(b:α1)(c:α2)(d:α3)(e:α4)(f:α5)(g:α6)(h:α7)(i:α8)(j:α9)(k:α10)(l:α11)(K:Prop):Prop:=sm a/\sm b/\sm c/\sm d/\sm e/\sm f/\sm g/\sm h/\sm i/\sm j/\sm k/\sm l/\K
abbrev Ca (V:View)(f:Nat)(a:Array Value)(K:VR):Prop:=∀V1:View,V.Le V1->aa prog f a V1 K
def sV:Value->SV
  | .agg l=>.agg (l.toList.map C.v)
  | v=>.c (.v v)
def sA:Nat->List Value->List (Nat×SV)
  | _,[]=>[]
  | n,v::l=>(n,sV v)::sA (n+1) l
def fd {LF RF:pz Nat}(L K:Hc){f:FuncId}{fn:Func}(hf:prog.funcs[f]?=some fn){V:ut}{R:VR}{G:Prop}(h:G)
 (hn:(fn.name=="runtime.NumGoroutine")=false:=by kernel_rfl)(ha:l.toArray=((sA 0 l).map λx=>x.2.den λ_=>0).toArray:=by kernel_rfl)
 (hG:G=GC prog tab LF RF L K fn (sA 0 l) [] (λ_=>0) V R:=by kernel_rfl):aa prog f l.toArray V R:=
  cV (LF:=LF) (RF:=RF) (β0:=λ_=>0) eQ mixed L K hf hn (sA 0 l) [] ha trivial h hG
open Go.Value renaming int→I,pointer→P,slice→S,agg→A,bool→B,tuple→T
open Go.IntKind renaming i64→J,u64→U,u32→W
abbrev Yo (a:OA)(n:Nat)(m:View)(v:Value):Prop:=∃q,ae a n=some q/\m.at q v
abbrev Xh (V:View)(b:Nat)(l:List Value)(t:Nat):Prop:=V.w.heap[b]?=some (.cells l.toArray t (0,0))
abbrev Z0 (r:Value)(K:OA->Nat->Nat->Int->Prop):Prop:=∃(v0:OA)(v1:Nat)(v2:Nat)(v3:Int),r=T #[S v0 v1 v2,I W v3]/\K v0 v1 v2 v3
abbrev Z1 (r:Value)(K:OA->Nat->Nat->OA->Nat->Nat->Prop):Prop:=∃(v0:OA)(v1:Nat)(v2:Nat)(v3:OA)(v4:Nat)(v5:Nat),r=T #[S v0 v1 v2,S v3 v4 v5]/\K v0 v1 v2 v3 v4 v5
abbrev Z2 (r:Value)(K:OA->Nat->Nat->OA->Nat->Nat->Bool->Prop):Prop:=∃(v0:OA)(v1:Nat)(v2:Nat)(v3:OA)(v4:Nat)(v5:Nat)(v6:Bool),r=T #[S v0 v1 v2,S v3 v4 v5,B v6]/\K v0 v1 v2 v3 v4 v5 v6
abbrev Z3 (r:Value)(K:Int->Bool->Prop):Prop:=∃(v0:Int)(v1:Bool),r=T #[I U v0,B v1]/\K v0 v1
abbrev X4 (v0:OA)(v1:Nat)(v2:Nat)(v3:OA)(v4:Nat)(v5:Nat):Value:=T #[S v0 v1 v2,S v3 v4 v5]
abbrev Z5 (r:Value)(K:Bool->OA->Nat->Nat->Prop):Prop:=∃(v0:Bool)(v1:OA)(v2:Nat)(v3:Nat),r=A #[B v0,S v1 v2 v3]/\K v0 v1 v2 v3
abbrev X6 (v0:Bool)(v1:OA)(v2:Nat)(v3:Nat):Value:=A #[B v0,S v1 v2 v3]
abbrev Z7 (r:Value)(K:OA->Nat->Nat->Bool->Prop):Prop:=∃(v0:OA)(v1:Nat)(v2:Nat)(v3:Bool),r=T #[S v0 v1 v2,B v3]/\K v0 v1 v2 v3
abbrev Z8 (r:Value)(K:Int->Int->OA->Prop):Prop:=∃(v0:Int)(v1:Int)(v2:OA),r=A #[I J v0,I J v1,P v2]/\K v0 v1 v2
abbrev X9 (v0:Int)(v1:Int)(v2:OA):Value:=A #[I J v0,I J v1,P v2]
abbrev Tx (r:Value)(K:Int->Bool->Prop):Prop:=∃(v0:Int)(v1:Bool),r=T #[I J v0,B v1]/\K v0 v1
abbrev aD (v0:Bool)(v1:OA)(v2:Nat)(v3:Nat)(v4:OA)(v5:Nat)(v6:Nat):Value:=A #[B v0,S v1 v2 v3,S v4 v5 v6]
abbrev Z12 (r:Value)(K:Int->Int->Prop):Prop:=∃(v0:Int)(v1:Int),r=T #[I U v0,I U v1]/\K v0 v1
abbrev Z13 (r:Value)(K:Int->Int->Prop):Prop:=∃(v0:Int)(v1:Int),r=T #[I W v0,I W v1]/\K v0 v1
abbrev bX (r:Value)(K:Bool->OA->Nat->Nat->OA->Nat->Nat->Prop):Prop:=∃(v0:Bool)(v1:OA)(v2:Nat)(v3:Nat)(v4:OA)(v5:Nat)(v6:Nat),r=A #[B v0,S v1 v2 v3,S v4 v5 v6]/\K v0 v1 v2 v3 v4 v5 v6
abbrev cS (v0:Bool)(v1:OA)(v2:Nat)(v3:Nat)(v4:OA)(v5:Nat)(v6:Nat)(v7:Bool)(v8:OA)(v9:Nat)(v10:Nat)(v11:OA)(v12:Nat)(v13:Nat):Value:=A #[B v0,S v1 v2 v3,S v4 v5 v6,B v7,S v8 v9 v10,S v11 v12 v13]
abbrev kq (r:Value)(K:Bool->OA->Nat->Nat->OA->Nat->Nat->Bool->OA->Nat->Nat->OA->Nat->Nat->Prop):Prop:=∃(v0:Bool)(v1:OA)(v2:Nat)(v3:Nat)(v4:OA)(v5:Nat)(v6:Nat)(v7:Bool)(v8:OA)(v9:Nat)(v10:Nat)(v11:OA)(v12:Nat)(v13:Nat),r=A #[B v0,S v1 v2 v3,S v4 v5 v6,B v7,S v8 v9 v10,S v11 v12 v13]/\K v0 v1 v2 v3 v4 v5 v6 v7 v8 v9 v10 v11 v12 v13
abbrev ew (v0:Bool)(v1:OA)(v2:Nat)(v3:Nat)(v4:Bool)(v5:OA)(v6:Nat)(v7:Nat)(v8:Bool)(v9:OA)(v10:Nat)(v11:Nat):Value:=A #[B v0,S v1 v2 v3,B v4,S v5 v6 v7,B v8,S v9 v10 v11]
abbrev iR (v0:Int)(v1:Int)(v2:OA)(v3:Int)(v4:Int)(v5:OA)(v6:Int)(v7:Int)(v8:OA):Value:=A #[I J v0,I J v1,P v2,I J v3,I J v4,P v5,I J v6,I J v7,P v8]
abbrev Pf (v0:Int)(v1:Int)(v2:OA)(v3:Int)(v4:Int)(v5:OA):Value:=A #[I J v0,I J v1,P v2,I J v3,I J v4,P v5]
abbrev Za (r:Value)(K:Int->Int->OA->Int->Int->OA->Prop):Prop:=∃(v0:Int)(v1:Int)(v2:OA)(v3:Int)(v4:Int)(v5:OA),r=A #[I J v0,I J v1,P v2,I J v3,I J v4,P v5]/\K v0 v1 v2 v3 v4 v5
abbrev Fa (v0:Int)(v1:Int)(v2:OA)(v3:Int)(v4:Int)(v5:OA)(v6:Bool)(v7:Bool):Value:=A #[I J v0,I J v1,P v2,I J v3,I J v4,P v5,B v6,B v7]
abbrev VO (v0:Bool)(v1:OA)(v2:Nat)(v3:Nat)(v4:OA)(v5:Nat)(v6:Nat)(v7:Bool)(v8:OA)(v9:Nat)(v10:Nat)(v11:OA)(v12:Nat)(v13:Nat)(v14:Bool)(v15:Bool):Value:=A #[B v0,S v1 v2 v3,S v4 v5 v6,B v7,S v8 v9 v10,S v11 v12 v13,B v14,B v15]
abbrev Xg (a:OA)(n:Nat)(m:View)(K:Bool->OA->Nat->Nat->OA->Nat->Nat->Bool->OA->Nat->Nat->OA->Nat->Nat->Bool->Bool->Addr->Prop):Prop:=∃(v0:Bool)(v1:OA)(v2:Nat)(v3:Nat)(v4:OA)(v5:Nat)(v6:Nat)(v7:Bool)(v8:OA)(v9:Nat)(v10:Nat)(v11:OA)(v12:Nat)(v13:Nat)(v14:Bool)(v15:Bool)(q:Addr),ae a n=some q/\m.at (q.add 0) (B v0)/\m.at (q.add 1) (S v1 v2 v3)/\m.at (q.add 2) (S v4 v5 v6)/\m.at (q.add 3) (B v7)/\m.at (q.add 4) (S v8 v9 v10)/\m.at (q.add 5) (S v11 v12 v13)/\m.at (q.add 6) (B v14)/\m.at (q.add 7) (B v15)/\K v0 v1 v2 v3 v4 v5 v6 v7 v8 v9 v10 v11 v12 v13 v14 v15 q
abbrev Md (r:Value)(K:Bool->OA->Nat->Nat->Bool->OA->Nat->Nat->Bool->OA->Nat->Nat->Prop):Prop:=∃(v0:Bool)(v1:OA)(v2:Nat)(v3:Nat)(v4:Bool)(v5:OA)(v6:Nat)(v7:Nat)(v8:Bool)(v9:OA)(v10:Nat)(v11:Nat),r=A #[B v0,S v1 v2 v3,B v4,S v5 v6 v7,B v8,S v9 v10 v11]/\K v0 v1 v2 v3 v4 v5 v6 v7 v8 v9 v10 v11
abbrev ZD (r:Value)(K:Bool->OA->Nat->Nat->OA->Nat->Nat->Bool->OA->Nat->Nat->OA->Nat->Nat->Bool->Bool->Prop):Prop:=∃(v0:Bool)(v1:OA)(v2:Nat)(v3:Nat)(v4:OA)(v5:Nat)(v6:Nat)(v7:Bool)(v8:OA)(v9:Nat)(v10:Nat)(v11:OA)(v12:Nat)(v13:Nat)(v14:Bool)(v15:Bool),r=A #[B v0,S v1 v2 v3,S v4 v5 v6,B v7,S v8 v9 v10,S v11 v12 v13,B v14,B v15]/\K v0 v1 v2 v3 v4 v5 v6 v7 v8 v9 v10 v11 v12 v13 v14 v15
abbrev X26 (v0:Bool)(v1:OA)(v2:Nat)(v3:Nat)(v4:Bool)(v5:OA)(v6:Nat)(v7:Nat)(v8:Bool)(v9:OA)(v10:Nat)(v11:Nat)(v12:Bool)(v13:OA)(v14:Nat)(v15:Nat)(v16:OA)(v17:Nat)(v18:Nat)(v19:Bool)(v20:OA)(v21:Nat)(v22:Nat)(v23:OA)(v24:Nat)(v25:Nat)(v26:Bool)(v27:Bool):Value:=A #[B v0,S v1 v2 v3,B v4,S v5 v6 v7,B v8,S v9 v10 v11,B v12,S v13 v14 v15,S v16 v17 v18,B v19,S v20 v21 v22,S v23 v24 v25,B v26,B v27]
abbrev Z27 (r:Value)(K:Bool->OA->Nat->Nat->Bool->OA->Nat->Nat->Bool->OA->Nat->Nat->Bool->OA->Nat->Nat->OA->Nat->Nat->Bool->OA->Nat->Nat->OA->Nat->Nat->Bool->Bool->Prop):Prop:=∃(v0:Bool)(v1:OA)(v2:Nat)(v3:Nat)(v4:Bool)(v5:OA)(v6:Nat)(v7:Nat)(v8:Bool)(v9:OA)(v10:Nat)(v11:Nat)(v12:Bool)(v13:OA)(v14:Nat)(v15:Nat)(v16:OA)(v17:Nat)(v18:Nat)(v19:Bool)(v20:OA)(v21:Nat)(v22:Nat)(v23:OA)(v24:Nat)(v25:Nat)(v26:Bool)(v27:Bool),r=A #[B v0,S v1 v2 v3,B v4,S v5 v6 v7,B v8,S v9 v10 v11,B v12,S v13 v14 v15,S v16 v17 v18,B v19,S v20 v21 v22,S v23 v24 v25,B v26,B v27]/\K v0 v1 v2 v3 v4 v5 v6 v7 v8 v9 v10 v11 v12 v13 v14 v15 v16 v17 v18 v19 v20 v21 v22 v23 v24 v25 v26 v27
abbrev Y28 (a:OA)(n:Nat)(m:View)(K:Int->Int->OA->Int->Int->OA->Int->Int->OA->Int->Int->OA->Int->Int->OA->Bool->Bool->Addr->Prop):Prop:=∃(v0:Int)(v1:Int)(v2:OA)(v3:Int)(v4:Int)(v5:OA)(v6:Int)(v7:Int)(v8:OA)(v9:Int)(v10:Int)(v11:OA)(v12:Int)(v13:Int)(v14:OA)(v15:Bool)(v16:Bool)(q:Addr),ae a n=some q/\m.at (q.add 0) (I J v0)/\m.at (q.add 1) (I J v1)/\m.at (q.add 2) (P v2)/\m.at (q.add 3) (I J v3)/\m.at (q.add 4) (I J v4)/\m.at (q.add 5) (P v5)/\m.at (q.add 6) (I J v6)/\m.at (q.add 7) (I J v7)/\m.at (q.add 8) (P v8)/\m.at (q.add 9) (I J v9)/\m.at (q.add 10) (I J v10)/\m.at (q.add 11) (P v11)/\m.at (q.add 12) (I J v12)/\m.at (q.add 13) (I J v13)/\m.at (q.add 14) (P v14)/\m.at (q.add 15) (B v15)/\m.at (q.add 16) (B v16)/\K v0 v1 v2 v3 v4 v5 v6 v7 v8 v9 v10 v11 v12 v13 v14 v15 v16 q
abbrev X29 (v0:Int)(v1:Int)(v2:OA)(v3:Int)(v4:Int)(v5:OA)(v6:Int)(v7:Int)(v8:OA)(v9:Int)(v10:Int)(v11:OA)(v12:Int)(v13:Int)(v14:OA)(v15:Bool)(v16:Bool):Value:=A #[I J v0,I J v1,P v2,I J v3,I J v4,P v5,I J v6,I J v7,P v8,I J v9,I J v10,P v11,I J v12,I J v13,P v14,B v15,B v16]
abbrev Xi (a:OA)(n:Nat)(m:View)(K:Bool->OA->Nat->Nat->OA->Nat->Nat->Addr->Prop):Prop:=∃(v0:Bool)(v1:OA)(v2:Nat)(v3:Nat)(v4:OA)(v5:Nat)(v6:Nat)(q:Addr),ae a n=some q/\m.at (q.add 0) (B v0)/\m.at (q.add 1) (S v1 v2 v3)/\m.at (q.add 2) (S v4 v5 v6)/\K v0 v1 v2 v3 v4 v5 v6 q
abbrev Zb (r:Value)(K:Int->Int->OA->Int->Int->OA->Int->Int->OA->Prop):Prop:=∃(v0:Int)(v1:Int)(v2:OA)(v3:Int)(v4:Int)(v5:OA)(v6:Int)(v7:Int)(v8:OA),r=A #[I J v0,I J v1,P v2,I J v3,I J v4,P v5,I J v6,I J v7,P v8]/\K v0 v1 v2 v3 v4 v5 v6 v7 v8
abbrev VQ (a:OA)(n:Nat)(m:View)(K:Int->Int->OA->Int->Int->OA->Int->Int->OA->Addr->Prop):Prop:=∃(v0:Int)(v1:Int)(v2:OA)(v3:Int)(v4:Int)(v5:OA)(v6:Int)(v7:Int)(v8:OA)(q:Addr),ae a n=some q/\m.at (q.add 0) (I J v0)/\m.at (q.add 1) (I J v1)/\m.at (q.add 2) (P v2)/\m.at (q.add 3) (I J v3)/\m.at (q.add 4) (I J v4)/\m.at (q.add 5) (P v5)/\m.at (q.add 6) (I J v6)/\m.at (q.add 7) (I J v7)/\m.at (q.add 8) (P v8)/\K v0 v1 v2 v3 v4 v5 v6 v7 v8 q
abbrev Y33 (a:OA)(n:Nat)(m:View)(K:Int->Int->OA->Int->Int->OA->Bool->Bool->Addr->Prop):Prop:=∃(v0:Int)(v1:Int)(v2:OA)(v3:Int)(v4:Int)(v5:OA)(v6:Bool)(v7:Bool)(q:Addr),ae a n=some q/\m.at (q.add 0) (I J v0)/\m.at (q.add 1) (I J v1)/\m.at (q.add 2) (P v2)/\m.at (q.add 3) (I J v3)/\m.at (q.add 4) (I J v4)/\m.at (q.add 5) (P v5)/\m.at (q.add 6) (B v6)/\m.at (q.add 7) (B v7)/\K v0 v1 v2 v3 v4 v5 v6 v7 q
abbrev X34 (v0:OA)(v1:Nat)(v2:Nat)(v3:OA)(v4:Nat)(v5:Nat):Value:=A #[S v0 v1 v2,S v3 v4 v5]
abbrev Z35 (r:Value)(K:Int->Int->OA->Int->Int->OA->Bool->Bool->Prop):Prop:=∃(v0:Int)(v1:Int)(v2:OA)(v3:Int)(v4:Int)(v5:OA)(v6:Bool)(v7:Bool),r=A #[I J v0,I J v1,P v2,I J v3,I J v4,P v5,B v6,B v7]/\K v0 v1 v2 v3 v4 v5 v6 v7
abbrev Z36 (r:Value)(K:OA->Bool->Prop):Prop:=∃(v0:OA)(v1:Bool),r=T #[P v0,B v1]/\K v0 v1
abbrev ZC (v0:Int)(v1:OA)(v2:Nat)(v3:Nat):Value:=A #[I J v0,S v1 v2 v3]
abbrev Mc (a:OA)(n:Nat)(m:View)(K:Bool->OA->Nat->Nat->Bool->OA->Nat->Nat->Bool->OA->Nat->Nat->Addr->Prop):Prop:=∃(v0:Bool)(v1:OA)(v2:Nat)(v3:Nat)(v4:Bool)(v5:OA)(v6:Nat)(v7:Nat)(v8:Bool)(v9:OA)(v10:Nat)(v11:Nat)(q:Addr),ae a n=some q/\m.at (q.add 0) (B v0)/\m.at (q.add 1) (S v1 v2 v3)/\m.at (q.add 2) (B v4)/\m.at (q.add 3) (S v5 v6 v7)/\m.at (q.add 4) (B v8)/\m.at (q.add 5) (S v9 v10 v11)/\K v0 v1 v2 v3 v4 v5 v6 v7 v8 v9 v10 v11 q
abbrev Xj (a:OA)(n:Nat)(m:View)(K:Bool->OA->Nat->Nat->OA->Nat->Nat->Bool->OA->Nat->Nat->OA->Nat->Nat->Addr->Prop):Prop:=∃(v0:Bool)(v1:OA)(v2:Nat)(v3:Nat)(v4:OA)(v5:Nat)(v6:Nat)(v7:Bool)(v8:OA)(v9:Nat)(v10:Nat)(v11:OA)(v12:Nat)(v13:Nat)(q:Addr),ae a n=some q/\m.at (q.add 0) (B v0)/\m.at (q.add 1) (S v1 v2 v3)/\m.at (q.add 2) (S v4 v5 v6)/\m.at (q.add 3) (B v7)/\m.at (q.add 4) (S v8 v9 v10)/\m.at (q.add 5) (S v11 v12 v13)/\K v0 v1 v2 v3 v4 v5 v6 v7 v8 v9 v10 v11 v12 v13 q
abbrev Y40 (a:OA)(n:Nat)(m:View)(K:Bool->OA->Nat->Nat->Bool->OA->Nat->Nat->Bool->OA->Nat->Nat->Bool->OA->Nat->Nat->OA->Nat->Nat->Bool->OA->Nat->Nat->OA->Nat->Nat->Bool->Bool->Addr->Prop):Prop:=∃(v0:Bool)(v1:OA)(v2:Nat)(v3:Nat)(v4:Bool)(v5:OA)(v6:Nat)(v7:Nat)(v8:Bool)(v9:OA)(v10:Nat)(v11:Nat)(v12:Bool)(v13:OA)(v14:Nat)(v15:Nat)(v16:OA)(v17:Nat)(v18:Nat)(v19:Bool)(v20:OA)(v21:Nat)(v22:Nat)(v23:OA)(v24:Nat)(v25:Nat)(v26:Bool)(v27:Bool)(q:Addr),ae a n=some q/\m.at (q.add 0) (B v0)/\m.at (q.add 1) (S v1 v2 v3)/\m.at (q.add 2) (B v4)/\m.at (q.add 3) (S v5 v6 v7)/\m.at (q.add 4) (B v8)/\m.at (q.add 5) (S v9 v10 v11)/\m.at (q.add 6) (B v12)/\m.at (q.add 7) (S v13 v14 v15)/\m.at (q.add 8) (S v16 v17 v18)/\m.at (q.add 9) (B v19)/\m.at (q.add 10) (S v20 v21 v22)/\m.at (q.add 11) (S v23 v24 v25)/\m.at (q.add 12) (B v26)/\m.at (q.add 13) (B v27)/\K v0 v1 v2 v3 v4 v5 v6 v7 v8 v9 v10 v11 v12 v13 v14 v15 v16 v17 v18 v19 v20 v21 v22 v23 v24 v25 v26 v27 q
abbrev Y_ (v0:OA)(v1:Nat)(v2:Nat)(v3:Int)(v4:OA)(v5:Nat)(v6:Nat):Value:=A #[S v0 v1 v2,I J v3,S v4 v5 v6]
abbrev Z42 (r:Value)(K:Int->OA->Nat->Nat->Prop):Prop:=∃(v0:Int)(v1:OA)(v2:Nat)(v3:Nat),r=A #[I J v0,S v1 v2 v3]/\K v0 v1 v2 v3
abbrev Z43 (r:Value)(K:Bool->Bool->Prop):Prop:=∃(v0:Bool)(v1:Bool),r=T #[B v0,B v1]/\K v0 v1
abbrev Z44 (r:Value)(K:OA->Nat->Nat->Int->OA->Nat->Nat->Prop):Prop:=∃(v0:OA)(v1:Nat)(v2:Nat)(v3:Int)(v4:OA)(v5:Nat)(v6:Nat),r=A #[S v0 v1 v2,I J v3,S v4 v5 v6]/\K v0 v1 v2 v3 v4 v5 v6
abbrev zX (b:Bool)(A B:Prop):Prop:=(b=true->A)/\(b=false->B)
abbrev zB (f:OA)(a d:Int)(K:Prop):Prop:=(f.isSome=true)/\(0<=a/\a<d)/\K
abbrev qjW (o n:Nat)(x l:List Value):Prop:=o+n<=x.length/\(x.drop o).take n=l
abbrev qqQ (a d:Int):Prop:=0<=a/\a<d
abbrev qkZ (V:View)(x:List Value)(t:Nat)(K:View->Nat->Prop):Prop:=∀W,V.Le W->∀b:Nat,Xh W b x t->W.H b->K W b
abbrev nC (V:View)(f:Nat)(a:Array Value)(K:View->OA->Nat->Nat->Prop):Prop:=Ca V f a λr W=>∃a b c,r=S a b c/\K W a b c
abbrev qwW (V:View)(f:Nat)(a:Array Value)(K:View->Bool->Prop):Prop:=Ca V f a λr W=>∃a,r=B a/\K W a
abbrev qqW (V:View)(f:Nat)(a:Array Value)(K:View->Int->Prop):Prop:=Ca V f a λr W=>∃a,r=I J a/\K W a
abbrev qqZ (V:View)(f:Nat)(a:Array Value)(K:View->OA->Nat->Nat->Int->Prop):Prop:=Ca V f a λr W=>Z0 r (K W)
abbrev qqK (V:View)(f:Nat)(a:Array Value)(K:View->OA->Nat->Nat->OA->Nat->Nat->Prop):Prop:=Ca V f a λr W=>Z1 r (K W)
abbrev qqJ (V:View)(f:Nat)(a:Array Value)(K:View->OA->Nat->Nat->OA->Nat->Nat->Bool->Prop):Prop:=Ca V f a λr W=>Z2 r (K W)
abbrev qwQ (V:View)(f:Nat)(a:Array Value)(K:View->Int->Bool->Prop):Prop:=Ca V f a λr W=>Z3 r (K W)
abbrev qwZ (V:View)(f:Nat)(a:Array Value)(K:View->Bool->OA->Nat->Nat->Prop):Prop:=Ca V f a λr W=>Z5 r (K W)
abbrev qwK (V:View)(f:Nat)(a:Array Value)(K:View->OA->Nat->Nat->Bool->Prop):Prop:=Ca V f a λr W=>Z7 r (K W)
abbrev qzW (V:View)(f:Nat)(a:Array Value)(K:View->Int->Int->OA->Prop):Prop:=Ca V f a λr W=>Z8 r (K W)
abbrev qwJ (V:View)(f:Nat)(a:Array Value)(K:View->Int->Bool->Prop):Prop:=Ca V f a λr W=>Tx r (K W)
abbrev qzQ (V:View)(f:Nat)(a:Array Value)(K:View->Int->Int->Prop):Prop:=Ca V f a λr W=>Z12 r (K W)
abbrev qzZ (V:View)(f:Nat)(a:Array Value)(K:View->Int->Int->Prop):Prop:=Ca V f a λr W=>Z13 r (K W)
abbrev qzK (V:View)(f:Nat)(a:Array Value)(K:View->Bool->OA->Nat->Nat->OA->Nat->Nat->Prop):Prop:=Ca V f a λr W=>bX r (K W)
abbrev qzJ (V:View)(f:Nat)(a:Array Value)(K:View->Bool->OA->Nat->Nat->OA->Nat->Nat->Bool->OA->Nat->Nat->OA->Nat->Nat->Prop):Prop:=Ca V f a λr W=>kq r (K W)
abbrev qkQ (V:View)(f:Nat)(a:Array Value)(K:View->Int->Int->OA->Int->Int->OA->Prop):Prop:=Ca V f a λr W=>Za r (K W)
abbrev qkK (V:View)(f:Nat)(a:Array Value)(K:View->Bool->OA->Nat->Nat->Bool->OA->Nat->Nat->Bool->OA->Nat->Nat->Prop):Prop:=Ca V f a λr W=>Md r (K W)
abbrev qkJ (V:View)(f:Nat)(a:Array Value)(K:View->Bool->OA->Nat->Nat->OA->Nat->Nat->Bool->OA->Nat->Nat->OA->Nat->Nat->Bool->Bool->Prop):Prop:=Ca V f a λr W=>ZD r (K W)
abbrev qjQ (V:View)(f:Nat)(a:Array Value)(K:View->Bool->OA->Nat->Nat->Bool->OA->Nat->Nat->Bool->OA->Nat->Nat->Bool->OA->Nat->Nat->OA->Nat->Nat->Bool->OA->Nat->Nat->OA->Nat->Nat->Bool->Bool->Prop):Prop:=Ca V f a λr W=>Z27 r (K W)
abbrev qjZ (V:View)(f:Nat)(a:Array Value)(K:View->Int->Int->OA->Int->Int->OA->Int->Int->OA->Prop):Prop:=Ca V f a λr W=>Zb r (K W)
abbrev qjK (V:View)(f:Nat)(a:Array Value)(K:View->Int->Int->OA->Int->Int->OA->Bool->Bool->Prop):Prop:=Ca V f a λr W=>Z35 r (K W)
abbrev qjJ (V:View)(f:Nat)(a:Array Value)(K:View->OA->Bool->Prop):Prop:=Ca V f a λr W=>Z36 r (K W)
abbrev qvW (V:View)(f:Nat)(a:Array Value)(K:View->Int->OA->Nat->Nat->Prop):Prop:=Ca V f a λr W=>Z42 r (K W)
abbrev qvQ (V:View)(f:Nat)(a:Array Value)(K:View->Bool->Bool->Prop):Prop:=Ca V f a λr W=>Z43 r (K W)
abbrev kM (f:Nat)(a:Array Value)(G:View->VR->Prop):Prop:=∀V R,G V R->aa prog f a V R
def bB {f:FuncId}{fn:Func}(hf:prog.funcs[f]?=some fn){G:ut->VR->Prop}
  (hn:(fn.name=="runtime.NumGoroutine")=false:=by kernel_rfl)(ha:l.toArray=((sA 0 l).map λx=>x.2.den λ_=>0).toArray:=by kernel_rfl)
  (hG:G=λV R=>GC prog tab aT [] [] [] fn (sA 0 l) [] (λ_=>0) V R:=by kernel_rfl):kM f l.toArray G:=
 λV R h=>fd (LF:=aT) (RF:=[]) [] [] hf h hn ha (congrFun (congrFun hG V) R)
def vX (LF RF:pz Nat)(L K:Hc){f:FuncId}{fn:Func}(hf:prog.funcs[f]?=some fn){G:ut->VR->Prop}
  (hn:(fn.name=="runtime.NumGoroutine")=false:=by kernel_rfl)(ha:l.toArray=((sA 0 l).map λx=>x.2.den λ_=>0).toArray:=by kernel_rfl)
  (hG:G=λV R=>GC prog tab LF RF L K fn (sA 0 l) [] (λ_=>0) V R:=by kernel_rfl):kM f l.toArray G:=
 λV R h=>fd (LF:=LF) (RF:=RF) L K hf h hn ha (congrFun (congrFun hG V) R)
def qkW {T:eu}(hT:eu.ok prog T)(k:Nat){p q:Prop}(au:p)(aw:q)(LF RF:pz Nat)(L K:Hc){f:FuncId}{fn:Func}(hf:prog.funcs[f]?=some fn)(ss:pz (Nat×SV))(x:aW){V:ut}{R:VR}{G:Prop}(h:G)
  (hn:(fn.name=="runtime.NumGoroutine")=false:=by kernel_rfl)(ha:l.toArray=(ss.map λx=>x.2.den (dq (λ_=>0) 100000 k)).toArray:=by kernel_rfl)
  (hb:TF (dq (λ_=>0) 100000 k) V [(100000,x)]=((p/\q)/\True/\True):=by kernel_rfl)
  (hG:G=GC prog T LF RF L K fn ss [(100000,x)] (dq (λ_=>0) 100000 k) V R:=by kernel_rfl):aa prog f l.toArray V R:=
 cV (LF:=LF) (RF:=RF) (β0:=dq (λ_=>0) 100000 k) hT mixed L K hf hn ss [(100000,x)] ha (hb.symm.mp ⟨⟨au,aw⟩,trivial,trivial⟩) h hG
def _root_.qvJ {a b c d:Sort _}{p:a->b->c->d->Prop}{A B C D}(h:p A B C D):∃A B C D,p A B C D:=⟨_,_,_,_,h⟩
def _root_.qyQ {a b c d e f:Sort _}{p:a->b->c->d->e->f->Prop}{A B C D E F}(h:p A B C D E F):∃A B C D E F,p A B C D E F:=⟨_,_,_,_,_,_,h⟩
def _root_.qyW {a b c d e f g:Sort _}{p:a->b->c->d->e->f->g->Prop}{A B C D E F G}(h:p A B C D E F G):∃A B C D E F G,p A B C D E F G:=⟨_,_,_,_,_,_,_,h⟩
def _root_.qxQ {a b c d e f g i j k l m:Sort _}{p:a->b->c->d->e->f->g->i->j->k->l->m->Prop}{A B C D E F G H I J K L}(h:p A B C D E F G H I J K L):∃A B C D E F G H I J K L,p A B C D E F G H I J K L:=⟨_,_,_,_,_,_,_,_,_,_,_,_,h⟩
def _root_.qyZ {a b c d e f g i j k l m n o:Sort _}{p:a->b->c->d->e->f->g->i->j->k->l->m->n->o->Prop}{A B C D E F G H I J K L M N}(h:p A B C D E F G H I J K L M N):∃A B C D E F G H I J K L M N,p A B C D E F G H I J K L M N:=⟨_,_,_,_,_,_,_,_,_,_,_,_,_,_,h⟩
end Go.Proofs.Tryz
