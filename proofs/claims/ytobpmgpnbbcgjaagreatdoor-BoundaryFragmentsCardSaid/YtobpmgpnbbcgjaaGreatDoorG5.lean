import Derived.Orders
import Derived.Scope
import Derived.Laws.Sem
import Derived.Test.YtobpmgpnbbcgjaaGreatDoorProg
import Derived.Test.YtobpmgpnbbcgjaaGreatDoorG4
set_option linter.all false
open Go.IntKind (i64 u64 u32)
namespace Go.Eng
section
variable {P:Program} {T:dT} {LF RF:List Nat} {n:Nat} {V0:Ó} {bQ:KZ} {β0:Nat->Nat}
def F0 (P:Program)(T:dT)(m:Nat->CM)(hint:Nat->ù)(ops:Array Oper):Nat->Array Bool->St->Ó->(St->Ó->Prop)->Prop
 | 0,listed,st,V,K=>Region.ready .any ops listed=[]/\K st V
 | fuel+1,listed,st,V,K=>(Region.ready .any ops listed=[]->K st V) /\
  ∀i∈Region.ready .any ops listed,∀o,ops[i]?=some o->we P T (m i) (hint i) ops o st V λu V'=>F0 P T m hint ops fuel (listed.setIfInBounds i true) u V' K
def yI (hT:dT.ok P T){m:Nat->CM}{hint:Nat->ù}{ops:Array Oper}(F:∀(i:Nat)(o:Oper),ops[i]?=some o->∀d,o.dst=some d->d<n){Q:Exit->Act->World->Prop}{K:St->ut->Prop}(E:∀u β' z w' V',ß n V0 bQ β0 u β' z w' V'->K u V'->Q .normal z w'):∀(fuel:Nat)(listed:Array md)(st:St)(β:Nat->Nat)(a:Act)(w:World)(V:ut),ß n V0 bQ β0 st β a w V->F0 P T m hint ops fuel listed st V K->wpAny P .any ops Q fuel listed a w
 | 0,_,_,_,_,_,_,D,y=>⟨y.1,E _ _ _ _ _ D y.2⟩
 | fuel+1,listed,st,β,a,w,V,D,y=>by
  refine ⟨λh=>E _ _ _ _ _ D (y.1 h),λi hi=>?_⟩;obtain ⟨-,o,M,-⟩:=mem_ready.1 hi;have:=JC (Q:=Q) (next:=wpAny P .any ops Q fuel (listed.setIfInBounds i true)) hT D (F i o M) (y.2 i hi o M) (λu β' z w' V' b c=>yI hT F E fuel _ u β' z w' V' b c);unfold wpOp;grind
def wL {sc:zA Prop}{k k':Prop}(h:k->k')(g:F6 sc k):F6 sc k':=by obtain ⟨a,b⟩:=(fA sc _).1 g;exact (fA sc _).2 ⟨a,h b⟩
theorem OJ {s:Nat}{vs:zA un}{k c size bytes:Nat}{ty:TypeId}{d:Nat}{st:St}{V:ut}{K u:St->ut->Prop}{j:Nat}{xs:zA un}(y:∀s V',V.Le V'->K s V'->u s V')(h:Ik s vs k c size bytes ty d st V K j xs):Ik s vs k c size bytes ty d st V u j xs:=by unfold Ik at h ⊢;obtain ⟨e,f,g,i,l,a⟩:=h;refine ⟨e,f,g,i,l,?_⟩;split at a;{exact a.elim};{exact λb J spare m n o=>y _ _ (Ó.Le.refl V) (a b J spare m n o)}
theorem LW {s:Nat}{vs:zA un}{k c size bytes:Nat}{ty:TypeId}{d:Nat}{st:St}{V:ut}{K u:St->ut->Prop}{j:Nat}{xs:zA un}(y:∀s V',V.Le V'->K s V'->u s V')(h:yz s vs k c size bytes ty d st V K j xs):yz s vs k c size bytes ty d st V u j xs:=by unfold yz at h ⊢;obtain ⟨b,e,f,g,i,a⟩:=h;refine ⟨b,e,f,g,i,?_⟩;split at a;{exact a.elim};{exact λspare l m n=>y _ _ (Ó.Le.refl V) (a spare l m n)}
theorem OK {vs:zA un}{k c size bytes:Nat}{ty:TypeId}{d:Nat}{st:St}{V:ut}{K u:St->ut->Prop}{j:Nat}{xs:zA un}(y:∀s V',V.Le V'->K s V'->u s V')(h:Il vs k c size bytes ty d st V K j xs):Il vs k c size bytes ty d st V u j xs:=by unfold Il at h ⊢;obtain ⟨b,e,f,g,a⟩:=h;refine ⟨b,e,f,g,?_⟩;split at a;{exact a.elim};{grind [Ó.Le.refl]}
def Ua {y:Q}{dst:Option Nat}{st:St}{V:ut}{K z:St->ut->Prop}(u:∀s V',V.Le V'->K s V'->z s V')(h:zf y dst st V K):zf y dst st V z:=by (cases y with|fail=>exact h|ret sc x=>exact wL (u _ _ (Ó.Le.refl V)) h|new sc b x=>{simp only [zf] at h ⊢;split at h;{split at h;{rename_i f;exact wL (u _ _ (Ó.Le.refl V)) h};{exact h.elim}};{exact h.elim}}|zd sc s b=>{simp only [zf] at h ⊢;split at h;{exact wL (u _ _ (Ó.Le.refl V)) h};{exact h.elim}}|rd a sh=>{have ⟨x,d,e⟩:=sh.split h;exact e _ (vG.2 ⟨(vG.1 d).1,u _ _ (Ó.Le.refl V) (vG.1 d).2⟩)}|tm vs of size sh=>{have ⟨x,d,e⟩:=sh.split h;exact e _ ⟨d.1,u _ _ (Ó.Le.refl V) d.2⟩}|xB s vs a c src size bytes ty=>{simp only [zf] at h ⊢;split at h;{exact h.elim};grind [LW]}|app old ba vs a c src size bytes ty=>{simp only [zf] at h ⊢;split at h;{exact h.elim};{cases old<;>grind [OJ,OK,Ó.Le.refl]}})
def rW {bx:Nat->Option aZ}{β:Nat->Nat}{V:ut}:∀{L:zA Nat} {k k':Prop},(k->k')->uc bx β V L k->uc bx β V L k'
 | [],_,_,h,g=>h g
 | s::r,k,k',h,g=>by
  simp only [uc] at g ⊢;split at g
  ·exact λu=>rW h (g u)
  ·exact g.elim
def tZ {give:md}{sh:Sh}{L:zA Nat}{u:Option Nat}{d:Nat}{ety:TypeId}{β:Nat->Nat}{st:St}{V V' y:ut}{K E:St->ut->Prop}{F:un}(hm:∀k,u=some k->k∈L)(M:V.Le V')(z:V.Le y)(hlv:∀s∈L,∃b,st.boxes s=some b/\(b.live->V'.H (β s)))(N:∀s V',V.Le V'->K s V'->E s V')(h:cF T give sh L u d ety β st V' K F y):cF T give sh L u d ety β st V' E F y:=by refine oL (p:=λ_=>none) (q:=tj) (W:=gK u d::L) (D:=[d]) (λs c=>⟨rfl,Ă _ c⟩) hm ⟨rfl,ψ⟩ ⟨rfl,ψ⟩ M z hlv (λs2 V2 a=>?_) h;exact N _ _ a.1 a.2.2.2
theorem wc {m:CM}{f:FuncId}{xs:zA SV}{ty:TypeId}{dst:Option Nat}{st:St}{V:ut}{K K':St->ut->Prop}(hk:∀s V',V.Le V'->K s V'->K' s V')(h:gS P T m f xs ty dst st V K):gS P T m f xs ty dst st V K':=by
 unfold gS at h ⊢;split at h
 ·exact h.elim
 ·split at h
  ·split at h;{split at h;{split at h;{exact h.elim};{exact λV' a=>(h V' a).s λ_ z hle g=>tZ (λk hk=>by cases hk) a (a.m hle) (λs r=>Å r ψ) hk g}};{exact λV' a=>(h V' a).s λ_ _ hle g=>Sh.s g λx c=>⟨c.1,hk _ _ (a.m hle) c.2⟩};{exact h.elim}};{split at h;{split at h;{exact h.elim};{split at h;{split at h;{split at h;{refine λV' a=>(h V' a).s λ_ z hle g=>?_;obtain ⟨b,e⟩:=g;obtain ⟨cs,⟨A,B,C,D⟩,E⟩:=rJ _ e;refine ⟨b,E _ ⟨A,B,C,hk _ _ ?_ D⟩⟩;intro x o c;obtain ⟨F,G⟩:=(a.m hle) x o c;have ⟨R,H⟩:=a x o c;have:=aJ H;exact ⟨λh=>h.elim F λh=>by have:=h.1;omega,G⟩};{exact h.elim}};{exact h.elim}};{exact h.elim}}};{exact h.elim}};{exact λV' a=>(h V' a).s λ_ _ hle g=>Sh.s g λx c=>⟨c.1,hk _ _ (a.m hle) c.2⟩}
  ·split at h
   ·exact h.elim
   ·rename_i I;rename_i S U X Y _
    have u:∀{i:md} {v:Sh} {t:Option Nat} {d:Nat} {l:TypeId} {L:zA Nat},(∀k,t=some k->k∈L) ->
      (∀V':ut,V.Le V'->m_ L (λ_=>0) λβ=>j9 st.boxes β V' L (aa P f (aI β xs) (V'.ar (L.map (eH st.boxes β V'.w.heap.size))) (cF T i v L t d l β st V' K))) ->
      ∀V':ut,V.Le V'->m_ L (λ_=>0) λβ=>j9 st.boxes β V' L (aa P f (aI β xs) (V'.ar (L.map (eH st.boxes β V'.w.heap.size))) (cF T i v L t d l β st V' K')):=by
     intro i v t d l L hm h V' a;exact eY (λβ e=>lA (λ_ _=>rfl) (λM n=>n.s λ_ _ hle g=>tZ hm a ((a.m (Ae V' _)).m hle) M hk g) e) (h V' a)
    split at h
    ·exact h.elim
    ·exact h.elim
    ·split at h;{split at h;{exact h.elim};{exact u (λk hk=>by cases hk) h}};{rename_i d l k Z h2 y;split at h;{split at h;{exact h.elim};{refine u (λj N=>?_) h<;>grind [fX,cA.2,Bl]}};{split at h;{exact h.elim};{split at h;{exact h.elim};{exact λV' a=>eY (λβ e=>rW (λn=>n.s λ_ _ hle g=>tZ (λk hk=>by cases hk) a (a.m hle) (λs r=>Å r ψ) hk g) e) (h V' a)}}}};{split at h;{exact h.elim};{exact λV' a=>eY (λβ e=>rW (λn=>n.s λ_ _ hle g=>Sh.s g λx c=>⟨c.1,hk _ _ (a.m hle) c.2⟩) e) (h V' a)}};{exact h.elim}
    ·split at h;{exact λV' a=>eY (λβ e=>lA (λ_ _=>rfl) (λ_ n=>n.s λ_ _ hle g=>Sh.s g λx c=>⟨c.1,mu (p:=λ_=>none) (q:=tj) (W:=_) (λs r=>⟨rfl,r⟩) (λO _ _ y=>hk _ _ (((a.m (Ae V' _)).m hle).m (NK _)) y) c.2⟩) e) (h V' a)};{rename_i k Q;split at h;{split at h;{exact h.elim};{refine u (λj N=>?_) h<;>grind [SN]}};{exact h.elim}};{exact h.elim}
    ·split at h;{exact h.elim};{exact λV' a=>eY (λβ e=>rW (λn=>n.s λ_ _ hle g=>Sh.s g λx c=>⟨c.1,λJ=>hk _ _ (a.m hle) (c.2 J)⟩) e) (h V' a)}
def qZ {m:CM}{f:FuncId}{xs:zA SV}{ty:TypeId}{dst:Option Nat}{st:St}{V:ut}{K u:St->ut->Prop}(y:∀s V',V.Le V'->K s V'->u s V')(h:lN P T m f xs ty dst st V K):lN P T m f xs ty dst st V u:=by unfold lN at h ⊢;split at h;{grind [wc]};{exact wc y h}
def wb {m:CM}{o:Oper}{st:St}{V:ut}{K y:St->ut->Prop}(u:∀s V',V.Le V'->K s V'->y s V')(h:dR P T m o st V K):dR P T m o st V y:=by unfold dR at h ⊢;split at h;{split at h;{split at h;{exact qZ u h};{exact qZ u h};{exact h.elim}};{exact h.elim}};{split at h;{split at h;{split at h;{exact qZ u h};{exact h.elim}};{exact h.elim}};{exact h.elim}};{exact Ua u h}
def Ki {m:CM}{hi:ù}{o:Oper}{st:St}{V:ut}{K u:St->ut->Prop}(y:∀s V',V.Le V'->K s V'->u s V')(h:dL P T m hi o st V K):dL P T m hi o st V u:=by unfold dL at h ⊢;split at h;{exact wb y h};{split at h;{split at h;{exact wb y h};{exact h.elim}};{exact h.elim}}
def nT {m:CM}{hi:ù}{ops:Array Oper}{o:Oper}{st:St}{V:ut}{K u:St->ut->Prop}(y:∀s V',V.Le V'->K s V'->u s V')(h:we P T m hi ops o st V K):we P T m hi ops o st V u:=by rw [HA] at h ⊢;refine rj (λs w a=>?_) h;(cases w with|true=>exact Ki y a|false=>exact y _ _ (Ó.Le.refl V) a)
def SK (LF RF:List Nat)(m:CM)(o:Oper):Prop:=
 qJ (bF LF RF o.op)=true\/(bF LF RF o.op=.call/\m=.none)\/((bF LF RF o.op=.nI/\m=.ar)\/(bF LF RF o.op=.give/\m=.give)\/bF LF RF o.op=.app)
def Tb {m:CM}{h:ù}{ops:Array Oper}{o:Oper}{st:St}{V:ut}{R W:zA Nat}(y:qJ (bF LF RF o.op)=true)(hrw:vO (bF LF RF o.op) h (fJ o)=some (R,W))(u:we P T m h ops o st V λ_ _=>False):False:=by rw [HA] at u;have ⟨p,w,a⟩:=g_ u;have:=a.next;(cases w with|true=>{have ⟨p,q,b⟩:=rV y hrw this;exact b.next}|false=>exact this)
def yw {ops:Array Oper}{z D:ù}{u y:Oper}(hi:Ę LF RF ops z D u y=true):qJ (bF LF RF u.op)=true/\(∃R W,vO (bF LF RF u.op) z (fJ u)=some (R,W))/\∃R W,vO (bF LF RF y.op) D (fJ y)=some (R,W):=by unfold Ę at hi;simp only [Č] at hi;obtain ⟨⟨⟨⟨⟨b,-⟩,-⟩,-⟩,-⟩,a⟩:=hi;split at a;{grind};{cases a}
def PJ {ops:Array Oper}{i:Nat}{o:Oper}(u:ops[i]?=some o){h:ù}{R W:zA Nat}(hrw:vO (bF LF RF o.op) h (fJ o)=some (R,W)):SK LF RF (mN LF RF ops i) o:=by unfold SK mN;rw [u];dsimp only;generalize bF LF RF o.op=c at hrw;(cases c with|odd=>{cases h<;>cases hrw}|j8=>{cases h<;>cases hrw}|call=>exact .inr (.inl ⟨rfl,rfl⟩)|nI=>exact .inr (.inr (.inl ⟨rfl,rfl⟩))|give=>exact .inr (.inr (.inr (.inl ⟨rfl,rfl⟩)))|app=>exact .inr (.inr (.inr (.inr rfl)))|_=>exact .inl rfl)
section
variable {ops:Array Oper} {hint:Nat->ù} {anc:Nat->Nat->Prop} {K:St->Ó->Prop}
def Kh (hA:∀j o,ops[j]?=some o->∀i,anc j i->∃e∈o.after,Region.binds .any e=true/\(e.on=i\/anc e.on i)){i:Nat}{N:Oper}(hi:ops[i]?=some N):∀(fuel:Nat)(listed:Array md)(st:St)(V:ut),(∀j,listed.getD j false=true->∀k,anc j k->listed.getD k false=true) ->(∀j M,ops[j]?=some M->j≠i->listed.getD j true=false->¬anc j i->Ę LF RF ops (hint i) (hint j) N M=true)->i∈Region.ready .any ops listed ->(we P T (mN LF RF ops i) (hint i) ops N st V λO V'=>F0 P T (mN LF RF ops) hint ops fuel (listed.setIfInBounds i true) O V' K) ->F0 P T (mN LF RF ops) hint ops (fuel+1) listed st V K:=by
 have x:∀(listed:Array md)(j:Nat),(∀j,listed.getD j false=true->∀k,anc j k->listed.getD k false=true)->i∈Region.ready .any ops listed->j∈Region.ready .any ops listed->¬anc j i:=by intro listed j g d f B;obtain ⟨p,-⟩:=mem_ready.1 d;have q:listed.getD i false=true->False:=χ;grind [mem_ready.1]
 intro fuel
 induction fuel with
 | zero=>
  intro listed st V g a d H;refine ⟨λh=>(by rw [h] at d;cases d),λj f o u=>?_⟩;by_cases b:j=i
  ·subst b;rw [hi] at u;cases u;exact H
  ·exfalso;have t:=a j o u b (mem_ready.1 f).1 (x listed j g d f);obtain ⟨y,⟨R,W,z⟩,-⟩:=yw t;refine Tb y z (nT (λs V' _ h=>?_) H);have:=ready_mono f b;rw [h.1] at this;cases this
 | succ fuel Z=>
  intro listed st V g a d H;refine ⟨λh=>(by rw [h] at d;cases d),λj f M c=>?_⟩;by_cases b:j=i
  ·subst b;rw [hi] at c;cases c;exact H
  ·have r:=x listed j g d f;have t:=a j M c b (mem_ready.1 f).1 r;obtain ⟨y,⟨R,W,z⟩,F,G,C⟩:=yw t;refine nT (λs V' _ h=>?_) (VZ t (PJ c C) (nT (λs V' _ h=>h.2 j (ready_mono f b) M c) H));obtain ⟨-,D,n,A⟩:=mem_ready.1 f;rw [c] at n;cases n;have E:j<ops.size:=χ;refine Z (listed.setIfInBounds j true) s V' ?_ ?_ (ready_mono d (Ne.symm b)) ?_;{intro k v l I;by_cases m:j=k;{grind [getD_set_true]};{rw [getD_set_ne false m] at v;grind [getD_set_true]}};{intro k ok v w p q;refine a k ok v w ?_ q;by_cases m:j=k;{subst m;exact (mem_ready.1 f).1};{rw [getD_set_ne true m] at p;exact p}};grind [Array.setIfInBounds_comm]
def Ox (hA:∀j o,ops[j]?=some o->∀i,anc j i->∃e∈o.after,Region.binds .any e=true/\(e.on=i\/anc e.on i)):∀(l done:zA Nat)(listed:Array md)(st:St)(V:ut),listed.size=ops.size->(∀j,listed.getD j false=iK j done)->(∀j,j<ops.size->j∈done\/j∈l) ->(∀j,listed.getD j false=true->∀k,anc j k->listed.getD k false=true)->vH ops done l=true ->(∀i r1 r2,l=r1++i::r2->∀j∈r2,anc j i\/∃a b,ops[i]?=some a/\ops[j]?=some b/\Ę LF RF ops (hint i) (hint j) a b=true) ->T_ P T (mN LF RF ops) hint ops l st V K->F0 P T (mN LF RF ops) hint ops l.length listed st V K
 | [],done,listed,st,V,Z,hrel,Vq,_,_,_,hv=>by
  refine ⟨?_,hv⟩
  cases hr:Region.ready .any ops listed with
  | nil=>rfl
  | cons x xs=>
   exfalso;have hx:x∈Region.ready .any ops listed:=by rw [hr];simp
   obtain ⟨v,o,L,-⟩:=mem_ready.1 hx
   have w:x<ops.size:=by
    rcases Ē x ops.size with f|f
    ·exact f
    ·rw [Qh5 f] at L;cases L
   rcases Vq x w with h|h
   ·have m:=hrel x;rw [dP.2 h] at m;simp [Z,w] at v m;rw [v] at m;cases m
   ·cases h
 | i::r,done,listed,st,V,Z,hrel,Vq,hcl,n,Xr,hv=>by
  simp only [vH,Č] at n;obtain ⟨y,n⟩:=n;unfold Mm at y;split at y
  ·rename_i G c;simp only [Č,Ľ,ĥ,Qp0] at y;obtain ⟨z,A⟩:=y;have B:i<ops.size:=by{rcases Ē i ops.size with f|f;{exact f};{rw [Qh5 f] at c;cases c}};have d:∀e∈G.after,Region.binds .any e=true->listed.getD e.on false=true:=by{intro e he t;rw [hrel];rcases A e (by simpa using he) with h|h;{rw [t] at h;cases h};{exact h}};have Q:i∈Region.ready .any ops listed:=by{refine mem_ready.2 ⟨?_,G,c,d⟩;have:=hrel i;rw [z] at this;simp [Z,B] at this ⊢;exact this};have C:∀j,(listed.setIfInBounds i true).getD j false=true->∀k,anc j k->(listed.setIfInBounds i true).getD k false=true:=by{intro k M l N;by_cases D:i=k;{subst D;have ⟨e,he,t,h⟩:=hA i G c l N;have v:=d e he t;rcases h with h|h;{rw [<-h];exact getD_set_true v};{exact getD_set_true (hcl _ v l h)}};{rw [getD_set_ne false D] at M;exact getD_set_true (hcl k M l N)}};refine Kh hA c r.length listed st V hcl (λj S p g E H=>?_) Q ?_;{have F:j<ops.size:=by{rcases Ē j ops.size with f|f;{exact f};{rw [Qh5 f] at p;cases p}};have I:j∈r:=by{rcases Vq j F with h|h;{exfalso;have m:=hrel j;rw [dP.2 h] at m;simp [Z,F] at E m;rw [E] at m;cases m};{rcases ê.1 h with h|h;{exact Å h g};{exact h}}};rcases Xr i [] r rfl j I with h|⟨a,b,O,t,h⟩;{exact Å h H};{rw [c] at O;rw [p] at t;cases O;cases t;exact h}};{simp only [T_,c] at hv;have q:∀s u,T_ P T (mN LF RF ops) hint ops r s u K->F0 P T (mN LF RF ops) hint ops r.length (listed.setIfInBounds i true) s u K:=by{intro s u R;refine Ox hA r (i::done) (listed.setIfInBounds i true) s u (by simp [Z]) ?_ ?_ C n (λk r1 r2 e j J=>Xr k (i::r1) r2 (by rw [e];rfl) j J) R;{intro j;by_cases g:i=j;{subst g;simp [iK,Qn2,Z,B]};{rw [getD_set_ne false g,hrel j];simp [iK,gV (Ne.symm g)]}};{intro j J;rcases Vq j J with h|h;{exact .inl (by simp [h])};{rcases ê.1 h with h|h;{exact .inl (by simp [h])};{exact .inr h}}}};exact nT (λs u _ h=>q s u h) hv}
  ·cases y
end
def QR {m i:Nat}:Ys m i=true↔m.testBit i=true:=by unfold Ys;rw [beq_eq,Qg1,decide_eq_true_iff];show Nat.land (m >>> i) 1=1↔_;rw [show Nat.land (m >>> i) 1=(m >>> i) &&& 1 from rfl,Nat.and_one_is_mod,Nat.shiftRight_eq_div_pow]
def UH (acc:List Nat)(o:Oper):Nat:=o.after.toList.foldl (λs e=>cond (Region.binds .any e) (Nat.lor (Nat.lor (Nat.shiftLeft 1 e.on) (acc.getD e.on 0)) s) s) 0
def Ij {acc:zA Nat}{i:Nat}:∀(es:zA Edge)(s:Nat),(es.foldl (λs e=>cond (Region.binds .any e) (Nat.lor (Nat.lor (Nat.shiftLeft 1 e.on) (acc.getD e.on 0)) s) s) s).testBit i=true ->s.testBit i=true\/∃e∈es,Region.binds .any e=true/\(e.on=i\/(acc.getD e.on 0).testBit i=true)
 | [],s,h=>.inl h
 | e::r,s,h=>by
  simp only [Ő] at h;rcases Ij r _ h with u|⟨z,u,D,E⟩
  ·cases y:Region.binds .any e with
   | false=>rw [y] at u;exact .inl u
   | true=>
    rw [y] at u;simp only [cond_true] at u;have u:(((1 <<< e.on) ||| (acc.getD e.on 0)) ||| s).testBit i=true:=u;grind [Nat.shiftLeft_eq]
  grind
def ER:∀(l:zA Oper)(acc:zA Nat),∃ext,l.foldl (λacc o=>acc++[UH acc o]) acc=acc++ext/\∀k o,l[k]?=some o->∃pre suf,ext=pre++suf/\ext.getD k 0=UH (acc++pre) o
 | [],acc=>⟨[],ψ,λk o h=>by simp at h⟩
 | o::r,acc=>by
  have ⟨ext,u,y⟩:=ER r (acc++[UH acc o]);refine ⟨UH acc o::ext,by simp [u],λk a h=>?_⟩
  cases k with
  | zero=>
   simp at h;subst h;exact ⟨[],_,rfl,ψ⟩
  | succ k=>grind
def K5 {ops:zA Oper}(j:Nat)(o:Oper)(u:ops[j]?=some o):∀i,((QH ops).getD j 0).testBit i=true->∃e∈o.after,Region.binds .any e=true/\(e.on=i\/((QH ops).getD e.on 0).testBit i=true):=by intro i b;have ⟨ext,c,d⟩:=ER ops [];have he:=(show QH ops=[]++ext from c).m (Ŏ _);have ⟨pre,f,g,k⟩:=d j o u;rw [he,k] at b;rcases Ij _ _ b with h|⟨e,l,m,a⟩;{simp at h};{refine ⟨e,by simpa using l,m,?_⟩;rcases a with a|a;{exact .inl a};{right;simp only [Ŏ] at a;rw [he,g];rcases Ē e.on pre.length with n|n<;>grind}}
def BW {ops:Array Oper}{D:zA ù}{E:zA Nat}:∀{l:zA Nat},Ah LF RF ops D E l=true->∀i u z,l=u++i::z->∀j∈z,(E.getD j 0).testBit i=true\/∃a b,ops[i]?=some a/\ops[j]?=some b/\Ę LF RF ops (D.getD i .free) (D.getD j .free) a b=true
 | [],_,i,u,z,e,_,_=>by simp at e
 | x::l,h,i,u,z,e,j,F=>by
  simp only [Ah,Č,ĥ] at h
  cases u with
  | nil=>grind [QR.1]
  | cons y u=>
   simp at e;exact BW h.2 i u z e.2 j F
def MF {m:Nat->CM}{hint:Nat->ù}{ops:Array Oper}:∀{l:zA Nat} {st:St} {V:ut} {K u:St->ut->Prop},(∀s V',V.Le V'->K s V'->u s V')->T_ P T m hint ops l st V K->T_ P T m hint ops l st V u
 | [],_,V,_,_,y,h=>y _ _ (Ó.Le.refl V) h
 | i::r,st,V,K,u,y,h=>by
  simp only [T_] at h ⊢;split at h
  ·exact nT (λs V' hle h=>MF (λs z hle' h=>y s z (hle.m hle') h) h) h
  ·exact h.elim
def vJ {st:St}{β:Nat->Nat}{a:Act}{w:World}{V:ut}(hT:dT.ok P T)(hmx:P.follows .mixedOrders=true)(D:ß n V0 bQ β0 st β a w V){id:Nat}{ops:Array Oper}{draw:md}(E:∀(i:Nat)(o:Oper),ops[i]?=some o->∀d,o.dst=some d->d<n){Q:Exit->Act->World->Prop}{K:Exit->St->ut->Prop}(y:Kj P T LF RF ops draw st V (K .normal))(F:∀u β' z w' V',ß n V0 bQ β0 u β' z w' V'->V.Le V'->K .normal u V'->Q .normal z w'):(Code.region id ops draw).wp P Q a w:=by
 cases draw with
 | false=>
  simp only [Kj] at y;exact wp_region (Fy (K:=λs V'=>V.Le V'/\K .normal s V') hT E (λu β' z w' V' b h=>F u β' z w' V' b h.1 h.2) _ st β a w V D (MF (λs V' hle h=>⟨hle,h⟩) y))
 | true=>
  simp only [Kj] at y;split at y
  ·rename_i e;simp only [NX,Č,ĥ,Wj1] at e;obtain ⟨⟨⟨f,g⟩,k⟩,l⟩:=e;refine wp_region_any hmx ?_
   have:=Ox (P:=P) (T:=T) (LF:=LF) (RF:=RF) (ops:=ops) (hint:=λi=>(ops.toList.map (Se LF RF st ops.toList)).getD i .free) (anc:=λj i=>((QH ops.toList).getD j 0).testBit i=true) (K:=λs V'=>V.Le V'/\K .normal s V')
    (λj o e=>K5 j o (by simpa using e)) (ui LF RF ops) [] (Array.replicate ops.size false) st V ψ (λj=>by
     simp only [iK,Array.getD];split<;>simp) (λj c=>.inr (dP.1 (g j c))) (λj c=>by
     exfalso;simp only [Array.getD] at c;split at c<;>simp at c) k (BW l) (MF (λs V' hle h=>⟨hle,h⟩) y)
   rw [beq_eq.1 f] at this;exact yI hT E (λu β' z w' V' b h=>F u β' z w' V' b h.1 h.2) _ _ _ β _ _ _ D.drew this
  ·exact y.elim
end
section
variable {P:Program} {T:dT} {LF RF:List Nat} {n:Nat} {V0:Ó} {bQ:KZ} {β0:Nat->Nat} {β:Nat->Nat}
def cZ {c:md}{l:zA Prop}(h:∀p∈(cond c l [False]),p):c=true/\∀p∈l,p:=by (cases c with|true=>exact ⟨rfl,h⟩|false=>{exact (h False ψ).elim})
def Fh {ρ:zA (Nat×Nat)}{β β':Nat->Nat}:∀{ss ts:zA Nat},(∀s'∈ts,∀s,tS ρ s s'=true->β' s'=β s)->Fg ρ ss ts=true->ss.map β=ts.map β'
 | [],[],_,_=>rfl
 | s::r,s'::r',hβ,h=>by
  simp only [Fg,Č] at h;simp only [Ķ];rw [hβ s' ψ s h.1,Fh (λu hu=>hβ u (by simp [hu])) h.2]
 | [],_::_,_,h=>by simp [Fg] at h
 | _::_,[],_,h=>by simp [Fg] at h
def Nx {ρ:zA (Nat×Nat)}{β β':Nat->Nat}{a b:C}(hβ:∀s'∈b.ids,∀s,tS ρ s s'=true->β' s'=β s)(h:∀p∈eqC ρ a b,p):a.den β=b.den β':=by unfold eqC at h;split at h;{have ⟨d,i⟩:=cZ h;have:=Ft d;have:=i _ (ö.2 rfl);subst_vars;rfl};{have:=h _ (ö.2 rfl);subst this;rfl};{have:=h _ (ö.2 rfl);subst this;rfl};{have:=h _ (ö.2 rfl);subst this;rfl};{rename_i a n c r j k;have d:=h (a=r) ψ;have i:=h (n=j) ψ;have l:=h (c=k) ψ;subst d i l;rfl};{rename_i a n c s' j k;have d:=h (a=none) ψ;have i:=h (n=j) ψ;have l:=h (c=k) ψ;have t:=h (c=0) ψ;subst d i l t;rfl};{have:=h _ (ö.2 rfl);subst this;rfl};{have:=h _ (ö.2 rfl);subst this;rfl};{have:=h _ (ö.2 rfl);subst this;rfl};{have:=h _ (ö.2 rfl);subst this;rfl};{have:=h _ (ö.2 rfl);subst this;rfl};{rfl};{rfl};{rename_i s o s' q;have ⟨d,i⟩:=cZ h;have e:=hβ s' (by simp [C.ids]) s d;have:=i (o=q) ψ;subst_vars;simp only [C.den,e]};{rename_i s o n c s' q j k;have ⟨m,h⟩:=cZ h;have e:=hβ s' (by simp [C.ids]) s m;have d:=h (o=q) ψ;have i:=h (n=j) ψ;have l:=h (c=k) ψ;grind [C.den]};{rename_i s o n c s' j k;have ⟨m,h⟩:=cZ h;have e:=hβ s' (by simp [C.ids]) s m;have d:=h (o=0) ψ;have i:=h (n=j) ψ;have l:=h (c=k) ψ;subst d i l;simp only [C.den,e,mA,(h (c≠0) ψ),Ð]};{rename_i s n c s' j k;have ⟨m,h⟩:=cZ h;have e:=hβ s' (by simp [C.ids]) s m;have i:=h (n=j) ψ;have l:=h (c=k) ψ;subst_vars;simp only [C.den,e]};{rename_i f u g ts;have ⟨m,h⟩:=cZ h;have d:=h (f=g) ψ;subst d;have v:(u.map λs=>Value.pointer (some ⟨β s,0,none⟩))=ts.map λs=>Value.pointer (some ⟨β' s,0,none⟩):=by{have:=Æ (List.map λb=>Value.pointer (some ⟨b,0,none⟩)) (Fh (β:=β) (β':=β') (ts:=ts) (λs' w=>hβ s' w) m);grind [Function.comp_def]};simp only [C.den,v]};{rename_i f x g ws;have d:=h (f=g) ψ;have i:=h (x=ws) ψ;subst d i;rfl};{exact (h False ψ).elim}
def Bh {ρ:zA (Nat×Nat)}{β β':Nat->Nat}:∀{l m:zA C},(∀s'∈m.flatMap C.ids,∀s,tS ρ s s'=true->β' s'=β s)->(∀p∈Lx ρ l m,p)->l.map (C.den β)=m.map (C.den β')
 | [],[],_,_=>rfl
 | a::r,b::s,hβ,h=>by
  simp only [Lx,ø] at h;simp only [Ķ];rw [Nx (λu hu=>hβ u (by simp [hu])) λp y=>h p (.inl y),Bh (λu hu=>hβ u (by rw [ē];exact Œ _ hu)) λp y=>h p (.inr y)]
 | [],_::_,_,h=>(h False (by simp [Lx])).elim
 | _::_,[],_,h=>(h False (by simp [Lx])).elim
def RU {ρ:zA (Nat×Nat)}{β β':Nat->Nat}{a b:SV}(hβ:∀s'∈b.ids,∀s,tS ρ s s'=true->β' s'=β s)(h:∀p∈YD ρ a b,p):a.den β=b.den β':=by unfold YD at h;split at h;{exact Nx hβ h};{simp only [SV.den];rw [Bh hβ h]};{exact (h False ψ).elim}
def Pb {ρ:zA (Nat×Nat)}{β β':Nat->Nat}{a b:aZ}(hβ:∀s'∈b.cs.ids,∀s,tS ρ s s'=true->β' s'=β s)(h:∀p∈RO ρ a b,p):a.obj β=b.obj β'/\(b.live->a.live):=by unfold RO at h;obtain ⟨ac,at'⟩:=a;obtain ⟨f,g⟩:=b;dsimp only at h;split at h;{have ⟨d,c⟩:=cZ h;simp only [aZ.obj,ç.den];rw [Bh hβ c,beq_eq.1 d];grind [dG]};{have ⟨d,c⟩:=cZ h;have:=c _ (ö.2 rfl);grind [aZ.obj,ç.den,beq_eq.1]};{have ⟨d,c⟩:=cZ h;have:=c _ (ö.2 rfl);grind [aZ.obj,ç.den,beq_eq.1]};{have ⟨d,c⟩:=cZ h;have:=c _ (ö.2 rfl);grind [aZ.obj,ç.den,beq_eq.1,dH]};{split at h;{rename_i ws e;have ⟨d,c⟩:=cZ h;have:=c _ (ö.2 rfl);grind [aZ.obj,ç.den,fZ,beq_eq.1,dG]};{exact (h False ψ).elim}};{split at h;{rename_i ws e;have ⟨d,c⟩:=cZ h;have:=c _ (ö.2 rfl);grind [aZ.obj,ç.den,fZ,beq_eq.1,dG]};{exact (h False ψ).elim}};{exact (h False ψ).elim}
def cU {α:Type}:∀{l:zA (Nat×α)} {t:Nat} {x:α},aH l t=some x->(t,x)∈l
 | [],_,_,h=>by cases h
 | (s,y)::r,t,x,h=>by
  simp only [aH] at h;by_cases e:t=s
  ·subst e;rw [Qn2] at h;cases h;simp
  ·rw [gV e] at h;exact Ă _ (cU h)
def il {α:Type}:∀{l:zA (Nat×α)} {t:Nat},t∈l.map (·.1)->∃x,aH l t=some x
 | [],_,h=>by simp at h
 | (s,y)::r,t,h=>by
  simp only [aH];by_cases e:t=s
  ·subst e;rw [Qn2];exact ⟨_,rfl⟩
  ·rw [gV e];exact il (by simpa [e] using h)
def Fk {ρ:zA (Nat×Nat)}{β β':Nat->Nat}{st:St}:∀{l:zA (Nat×SV)},(∀t x,(t,x)∈l->∀s'∈x.ids,∀s,tS ρ s s'=true->β' s'=β s)->(∀p∈Vg ρ st l,p)->∀t x,(t,x)∈l->∃y,st.ay t=some y/\y.den β=x.den β'
 | [],_,_,_,_,h=>nomatch h
 | (s,z)::r,hβ,h,t,x,hm=>by
  simp only [Vg] at h;split at h
  ·rename_i y D;simp only [ø] at h;rcases ê.1 hm with e|hm
   ·cases e;exact ⟨y,D,RU (hβ _ _ č) λp u=>h p (.inl u)⟩
   ·exact Fk (λt x h=>hβ t x (by simp [h])) (λp u=>h p (.inr u)) t x hm
  ·exact (h False ψ).elim
def Fj {ρ:zA (Nat×Nat)}{β β':Nat->Nat}{st:St}:∀{l:zA (Nat×aZ)},(∀t x,(t,x)∈l->∀s'∈x.cs.ids,∀s,tS ρ s s'=true->β' s'=β s)->(∀p∈Ph ρ st l,p)->∀t x,(t,x)∈l->x.live ->t∈qM ρ l/\∃y,st.boxes (JW ρ t)=some y/\y.obj β=x.obj β'/\y.live
 | [],_,_,_,_,h,_=>nomatch h
 | (s,z)::r,hβ,h,t,x,hm,u=>by
  have hβr:∀t x,(t,x)∈r->∀s'∈x.cs.ids,∀s,tS ρ s s'=true->β' s'=β s:=λt x h=>hβ t x (by simp [h])
  have tail:(∀p∈Ph ρ st r,p)->(t,x)∈r->t∈qM ρ ((s,z)::r)/\∃y,st.boxes (JW ρ t)=some y/\y.obj β=x.obj β'/\y.live:=by
   intro h hm;have ⟨c,a⟩:=Fj hβr h t x hm u;refine ⟨?_,a⟩;unfold qM;grind
  simp only [Ph] at h;split at h
  ·rename_i d b f;rcases ê.1 hm with e|hm;{cases e;have:=h (d=[]) ψ;subst this;exact Å (u [] b) ψ};grind
  ·rename_i g;split at h;{rename_i y i;simp only [ø] at h;rcases ê.1 hm with e|hm;{cases e;have ⟨c,a⟩:=Pb (hβ _ _ č) λp j=>h p (.inl j);refine ⟨?_,y,i,c,a u⟩;unfold qM;grind};grind};{exact (h False ψ).elim}
def JX {ρ:zA (Nat×Nat)}:∀{l:zA (Nat×aZ)} {t:Nat} {x:aZ},(t,x)∈l->(∃s,aH ρ t=some s)->t∈qM ρ l
 | [],_,_,h,_=>nomatch h
 | (s,z)::r,t,x,hm,u=>by
  rcases ê.1 hm with e|hm
  ·cases e;unfold qM;grind
  ·have:=JX hm u;unfold qM;grind
def Ce {ρ:zA (Nat×Nat)}:∀{l:zA Nat},FF ρ l=true->(∀t∈l,(t<100000↔JW ρ t<100000)/\(100000<=t->t<200000->JW ρ t=t))/\∀t∈l,∀t'∈l,JW ρ t=JW ρ t'->t=t'
 | [],_=>⟨λt h=>(nomatch h),λt h=>(nomatch h)⟩
 | t::r,h=>by
  simp only [FF,Č,ĥ] at h;obtain ⟨⟨⟨z,u⟩,D⟩,y⟩:=h;have ⟨i1,i2⟩:=Ce y;have c:∀a b:Nat,Nat.blt a b=true↔a<b:=λa b=>by rw [Nat.blt_eq]
  have d:t<100000↔JW ρ t<100000:=χ
  have e:100000<=t->t<200000->JW ρ t=t:=by
   intro f g;simp only [Qp0] at u;rcases u with (u|u)|u
   ·rw [c] at u;omega
   ·have:=œ u;omega
   ·exact beq_eq.1 u
  grind [Nat.beq_refl]
def CF {ss:zA (Nat×SV)}{u:zA (Nat×aZ)}(h:qY ss u=true):(∀t x,aH ss t=some x->∀s∈x.ids,∃b,aH u s=some b)/\(∀t x,aH u t=some x->∀s∈x.cs.ids,∃b,aH u s=some b):=by unfold qY at h;simp only [Č,ĥ] at h;refine ⟨λt x a s c=>il (dP.1 (h.1 _ (cU a) s c)),λt x a s c=>il (dP.1 (h.2 _ (cU a) s c))⟩
def EP:∀{l:zA Prop},Ym l->∀p∈l,p
 | [],_,_,h=>nomatch h
 | [q],h,p,u=>by rw [ö.1 u];exact h
 | q::r::s,h,p,u=>by
  rcases ê.1 u with e|e
  ·rw [e];exact h.1
  ·exact EP h.2 p e
theorem ld {st:St}{a:Act}{w:World}{V:ut}(Z:ß n V0 bQ β0 st β a w V){A:Yb}{x:A.τ}{k:Prop}(ht:qY (A.ay x) (A.boxes x)=true)(h:A.fits st x k):(∃β',ß n V0 bQ β0 (A.st x) β' a w V)/\k:=by unfold Yb.fits at h;dsimp only at h;generalize TD st (A.ay x) (A.boxes x)=ρ at h;obtain ⟨o,F⟩:=h;refine ⟨?_,F⟩;replace o:=EP o;have ⟨t1,t2⟩:=CF ht;have G:FF ρ (qM ρ (A.boxes x))=true:=by{have:=λp q=>o p (Œ _ q);unfold fitR at this;(cases hc:FF ρ (qM ρ (A.boxes x)) with|true=>rfl|false=>{rw [hc] at this;exact (this False ψ).elim})};have ⟨O,P⟩:=Ce G;let β':Nat->Nat:=λt=>if t∈qM ρ (A.boxes x) then β (JW ρ t) else β t;have c:∀t,t∈qM ρ (A.boxes x)->β' t=β (JW ρ t):=λt h=>Ä h;have hβ:∀i,(∃b,aH (A.boxes x) i=some b)->∀s,tS ρ s i=true->β' i=β s:=by{rintro i ⟨b,d⟩ s he;unfold tS at he;split at he;{rename_i u hu;have e:=beq_eq.1 he;subst e;rw [c i (JX (cU d) ⟨_,hu⟩)];simp only [JW,hu]};{rename_i hu;have e:=beq_eq.1 he;subst e;by_cases hm:s∈qM ρ (A.boxes x);{rw [c s hm];simp only [JW,hu]};{exact Ã hm}}};have r:∀t y,(t,y)∈A.ay x->∀s∈y.ids,∃b,aH (A.boxes x) s=some b:=by{intro t y f s g;unfold qY at ht;simp only [Č,ĥ] at ht;exact il (dP.1 (ht.1 _ f s g))};have v:∀t y,(t,y)∈A.boxes x->∀s∈y.cs.ids,∃b,aH (A.boxes x) s=some b:=by{intro t y f s g;unfold qY at ht;simp only [Č,ĥ] at ht;exact il (dP.1 (ht.2 _ f s g))};have B:=Fj (ρ:=ρ) (β:=β) (β':=β') (st:=st) (l:=A.boxes x) (λt y f s g=>hβ s (v t y f s g)) λp q=>o p (Ļ _ (Œ _ q));refine ⟨β',Z.defers,Z.size,?_,t1,t2,?_,?_,Z.sw,?_,Z.ext,?_,?_,Z.mG,Z.small⟩;{intro t y f;obtain ⟨z,j,m⟩:=(Fk (ρ:=ρ) (β:=β) (β':=β') (st:=st) (l:=A.ay x) (λt y f s g=>hβ s (r t y f s g)) λp q=>o p (Ļ _ (Ļ _ q))) t y (cU f);rw [Z.ay t z j,m]};{intro s b d l;obtain ⟨C,z,j,m,D⟩:=B s b (cU d) l;rw [c s C,Z.boxes _ z j D,m]};{intro s i b H d l E I he;obtain ⟨C,z,j,m,D⟩:=B s b (cU d) l;obtain ⟨J,Q,K,L,M⟩:=B i H (cU E) I;grind [Z.inj]};{intro s b d l;obtain ⟨C,z,j,m,D⟩:=B s b (cU d) l;grind [Z.yV]};{intro s b d l;obtain ⟨C,z,j,m,D⟩:=B s b (cU d) l;rw [c s C];refine (Z.own _ z j D).imp id λh=>⟨?_,h.2⟩<;>grind};{intro s g;have ⟨N,R⟩:=Z.nX s g;refine ⟨N,?_⟩;by_cases hm:s∈qM ρ (A.boxes x)<;>grind}
def Lt (hT:dT.ok P T)(hmx:P.follows .mixedOrders=true){L J:Ia}:∀(c:Code)(st:St)(β:Nat->Nat)(a:Act)(w:World)(V:ut)(K:Exit->St->ut->Prop)(Q:Exit->Act->World->Prop),ß n V0 bQ β0 st β a w V->jP n c=true->vc P T LF RF L J c st V K->(∀e st' β' a' w' V',ß n V0 bQ β0 st' β' a' w' V'->V.Le V'->K e st' V'->Q e a' w')->c.wp P Q a w:=by
 intro c
 induction c with
 | skip=>intro st β a w V K Q g _ f k;exact wp_skip (k _ _ _ _ _ _ g (Ó.Le.refl V) f)
 | region id ops draw=>
  intro st β a w V K Q g p f k
  have Z:∀(i:Nat)(o:Oper),ops[i]?=some o->∀d,o.dst=some d->d<n:=by intro i o ho d Z;simp only [jP,ĥ] at p;grind [Nat.blt_eq]
  simp only [vc] at f;split at f
  ·have ⟨a0,V1,E,u,F⟩:=g.release f;exact vJ hT hmx E Z F (λst' β' a' w' V' h hle r=>k _ _ _ _ _ _ h (u.m hle) r)
  ·rename_i A hA;obtain ⟨I,f,Y⟩:=f;have ⟨a0,V1,E,u,F⟩:=g.release f;refine vJ (K:=λ_ s V'=>∃x,(A.at st).fits s x (I x V')) hT hmx E Z F (λst' β' a' w' V' h hle r=>?_);obtain ⟨x,v⟩:=r;have hinv:=v.2;have ⟨O,R⟩:=Y x V' (u.m hle) hinv;obtain ⟨β2,q⟩:=(ld h O v).1;exact k _ _ _ _ _ _ q (u.m hle) R
 | seq x y Xv ihy=>
  intro st β a w V K Q g p f k;simp only [jP,Č] at p;refine wp_seq (Xv st β a w V _ _ g p.1 f ?_);intro e st' β' a' w' V' h hle r
  cases e with
  | normal=>exact ihy st' β' a' w' V' K Q h p.2 r (λe s b a w C O R h3=>k e s b a w C O (hle.m R) h3)
  | _=>exact k _ _ _ _ _ _ h hle r
 | cond c x y Xv ihy=>
  intro st β a w V K Q g p f k;simp only [jP,Č] at p;simp only [vc] at f;split at f
  ·split at f;{rename_i z;exact wp_cond_true (g.eval z) (Xv st β a w V K Q g p.1 f k)};{rename_i z;exact wp_cond_false (g.eval z) (ihy st β a w V K Q g p.2 f k)};{rename_i t z;exact wp_cond_split (g.eval z) (λG=>Xv st β a w V K Q g p.1 (f.1 G) k) (λG=>ihy st β a w V K Q g p.2 (f.2 G) k)};{exact f.elim}
  ·rename_i A hA;split at f;{rename_i z;exact wp_cond_true (g.eval z) (Xv st β a w V K Q g p.1 f k)};{rename_i z;exact wp_cond_false (g.eval z) (ihy st β a w V K Q g p.2 f k)};{rename_i t z;obtain ⟨I,⟨hx,hy⟩,Y⟩:=f;have join:∀e st' β' a' w' V',ß n V0 bQ β0 st' β' a' w' V'->V.Le V'->(match e with|.normal=>∃x,(A.at st).fits st' x (I x V')|e=>K e st' V')->Q e a' w':=by{intro e st' β' a' w' V' h hle r;(cases e with|normal=>{obtain ⟨x,v⟩:=r;have hinv:=v.2;grind [ld]}|_=>exact k _ _ _ _ _ _ h hle r)};exact wp_cond_split (g.eval z) (λG=>Xv st β a w V _ Q g p.1 (hx G) join) (λG=>ihy st β a w V _ Q g p.2 (hy G) join)};{exact f.elim}
 | block id x ih=>
  intro st β a w V K Q g p f k;simp only [vc] at f;split at f
  ·refine wp_block (ih st β a w V _ _ g p f ?_)<;>grind [Exit.inBlock,Nat.beq_refl,gV]
  ·rename_i A hA;obtain ⟨I,f,Y⟩:=f;refine wp_block (ih st β a w V _ _ g p f ?_);intro e st' β' a' w' V' h hle r;have join:(∃x,(A.at st).fits st' x (I x V'))->Q .normal a' w':=by{rintro ⟨x,v⟩;have hinv:=v.2;have ⟨O,R⟩:=Y x V' hle hinv;obtain ⟨β2,q⟩:=(ld h O v).1;exact k _ _ _ _ _ _ q hle R};grind [Exit.inBlock,Nat.beq_refl,gV]
 | loop x ih=>
  intro st β a w V K Q g p f k;simp only [vc] at f;split at f
  ·refine wp_loop_ghost (λm a w=>∃st β V',ß n V0 bQ β0 st β a w V'/\V.Le V'/\unr (λst V K=>vc P T LF RF L J x st V K) m st V' K) 3 ⟨st,β,V,g,Ó.Le.refl V,f⟩ ?_;rintro m a w ⟨st',β',V',h,hle,hu⟩;(cases m with|zero=>exact hu.elim|succ m=>{refine ih st' β' a w V' _ _ h p hu ?_;intro e TV β'' S U C D j r;(cases e with|normal=>exact ⟨m,Nat.lt_succ_self m,TV,β'',C,D,hle.m j,r⟩|_=>exact k _ _ _ _ _ _ D (hle.m j) r)})
  ·rename_i A hA;split at f;{obtain ⟨I,ms,⟨N,B⟩,H⟩:=f;have W:=B.2;refine wp_loop_ghost (λm a w=>∃x β V',ß n V0 bQ β0 ((A.at st).st x) β a w V'/\V.Le V'/\I x V'/\ms x=m) (ms N) ?_ ?_;{obtain ⟨β2,q⟩:=(ld g (H N V (Ó.Le.refl V) W).1 B).1;exact ⟨N,β2,V,q,Ó.Le.refl V,W,rfl⟩};{rintro m a w ⟨x,β,V',h,hle,hinv,rfl⟩;refine ih ((A.at st).st x) β a w V' _ _ h p (H x V' hle hinv).2 ?_;intro e TV β'' S U C D j r;(cases e with|normal=>{obtain ⟨y,M,v⟩:=r;have X:=v.2;obtain ⟨β2,q⟩:=(ld D (H y C (hle.m j) X).1 v).1;exact ⟨ms y,M,y,β2,C,q,hle.m j,X,rfl⟩}|_=>exact k _ _ _ _ _ _ D (hle.m j) r)}};{obtain ⟨I,⟨N,k0,B⟩,H⟩:=f;have W:=B.2;refine wp_loop_ghost (λm a w=>∃x β V',ß n V0 bQ β0 ((A.at st).st x) β a w V'/\V.Le V'/\I x m V') k0 ?_ ?_;{obtain ⟨β2,q⟩:=(ld g (H N k0 V (Ó.Le.refl V) W).1 B).1;exact ⟨N,β2,V,q,Ó.Le.refl V,W⟩};{rintro m a w ⟨x,β,V',h,hle,hinv⟩;refine ih ((A.at st).st x) β a w V' _ _ h p (H x m V' hle hinv).2 ?_;intro e TV β'' S U C D j r;(cases e with|normal=>{obtain ⟨y,k',M,v⟩:=r;have X:=v.2;obtain ⟨β2,q⟩:=(ld D (H y k' C (hle.m j) X).1 v).1;exact ⟨k',M,y,β2,C,q,hle.m j,X⟩}|_=>exact k _ _ _ _ _ _ D (hle.m j) r)}}
 | exit id=>intro st β a w V K Q g _ f k;exact wp_exit (k _ _ _ _ _ _ g (Ó.Le.refl V) f)
 | scope x ih=>
  intro st β a w V K Q g p f k;simp only [vc] at f;refine wp_scope_straight (ih st β a w V _ _ g p f ?_);intro e st' β' a' w' V' h hle r
  cases e with
  | goto l=>exact r.elim
  | _=>exact k _ _ _ _ _ _ h hle r
 | label l=>intro st β a w V K Q g _ f k;exact wp_label (k _ _ _ _ _ _ g (Ó.Le.refl V) f)
 | ret=>intro st β a w V K Q g _ f k;exact wp_ret (k _ _ _ _ _ _ g (Ó.Le.refl V) f)
 | _=>intro st β a w V K Q g _ f k;exact f.elim
end
section
variable {P:Program} {T:dT} {LF RF:List Nat} {n:Nat} {V0:Ó} {bQ:KZ} {β0:Nat->Nat} {β:Nat->Nat} {st:St} {a:Act} {w:World} {V:Ó}
def Wt (tmps:Array Value):ResultVar->Sem Value
 | .tmp t=>pure (tmps.getD t undef)
 | .cell c t=>do loadVar t (<-asAddr (tmps.getD c undef))
def Mq (fn:Func)(tmps:Array un):results fn tmps=(do let vs <-fn.results.mapM (Wt tmps);pure (if h:vs.size=1 then vs[0] else .tuple vs)):=by unfold results;congr 1
def qN (hT:dT.ok P T)(u:ß n V0 bQ β0 st β a w V):∀{l:zA ResultVar} {xs:zA SV},oT T st l=some xs ->(l.mapM (Wt a.tmps)).run P w=.ok (xs.map (SV.den β)) w/\∀x∈xs,Ď st x
 | [],xs,h=>by cases h;exact ⟨rfl,λx z=>nomatch z⟩
 | .tmp t::r,xs,h=>by
  simp only [oT] at h;split at h
  ·rename_i x l z D;cases h;have ⟨F,E⟩:=qN hT u D;refine ⟨?_,λy b=>?_⟩
   ·grind [Wt,Sem.run_bind,Sem.run_pure,Result.andThen_ok,u.ay]
   ·rcases ê.1 b with rfl|b
    ·exact u.Dv t y z
    ·exact E y b
  ·cases h
 | .cell c t::r,xs,h=>by
  simp only [oT] at h;split at h
  ·rename_i s o i l z d D;split at h
   ·rename_i g x e;cases h;have ⟨F,E⟩:=qN hT u D;have ⟨f,j⟩:=FB u (hT _ _ d) e;have k:(loadVar t ⟨β s,o,none⟩).run P w=.ok (x.den β) w:=f;refine ⟨?_,λy b=>?_⟩
    ·have m:a.tmps.getD c undef=.pointer (some ⟨β s,o,none⟩):=u.ay c _ z;have p:asAddr (.pointer (some ⟨β s,o,none⟩))=pure ⟨β s,o,none⟩:=rfl;grind [Wt,Sem.run_bind,Result.andThen_ok,Sem.run_pure]
    grind
   ·cases h
  ·cases h
def JY (hT:dT.ok P T)(u:ß n V0 bQ β0 st β a w V){fn:Func}{xs:zA SV}(h:oT T st fn.results.toList=some xs):(results fn a.tmps).run P w=.ok (oS β xs) w/\∀x∈xs,Ď st x:=by
 have ⟨b,c⟩:=qN hT u h;refine ⟨?_,c⟩;rw [Mq,Wy1];simp only [map_eq_pure_bind,bind_assoc,pure_bind,Sem.run_bind];rw [b];simp only [Result.andThen_ok,Sem.run_pure]
 match xs with
 | []=>simp [oS]
 | [x]=>simp [oS]
 | x::y::r=>simp [oS]
def QU (β0:Nat->Nat)(s:Nat)(b:aZ):List (Nat×aZ)->Prop
 | []=>True
 | (t,b')::r=>vr (Qs b++Qs b') (β0 s≠β0 t)/\QU β0 s b r
def UQ (β0:Nat->Nat)(V:Ó):List (Nat×aZ)->Prop
 | []=>True
 | (s,b)::r=>(vr (Qs b) (V.w.heap[β0 s]?=some (b.obj β0))/\vr (Qs b) (V.X (β0 s)))/\QU β0 s b r/\UQ β0 V r
def tH {s:Nat}{b:aZ}:∀{r:zA (Nat×aZ)},QU β0 s b r->∀t b',aH r t=some b'->b.live->b'.live->β0 s≠β0 t
 | [],_,_,_,h=>by cases h
 | (u,c)::r,h,t,b',y=>by
  simp only [aH] at y;by_cases e:t=u
  ·subst e;rw [Qn2] at y;cases y;have z:=h.1;grind [yv,ko.1]
  ·rw [gV e] at y;exact tH h.2 t b' y
def EW:∀{u:zA (Nat×aZ)},UQ β0 V u->(∀s b,aH u s=some b->b.live->V.w.heap[β0 s]?=some (b.obj β0)/\V.X (β0 s))/\∀s s' b b',aH u s=some b->b.live->aH u s'=some b'->b'.live->β0 s=β0 s'->s=s'
 | [],_=>⟨λs b h=>(by cases h),λs s' b b' h=>(by cases h)⟩
 | (s,b)::r,⟨D,y,z⟩=>by
  have ⟨g1,g2⟩:=EW z;refine ⟨λt x h l=>?_,λt f x i a l c g he=>?_⟩
  ·simp only [aH] at h;grind [ko.1,gV]
  ·simp only [aH] at a c;by_cases e:t=s<;>by_cases d:f=s
   ·rw [e,d]
   ·subst e;rw [Qn2] at a;cases a;rw [gV d] at c;exact Å he (tH y f i c l g)
   ·subst d;rw [Qn2] at c;cases c;rw [gV e] at a;exact Å he.symm (tH y t x a g l)
   grind [gV]
def qS:∀{l:zA (Nat×SV)} {i:Nat},rY i l=true->∀t x,aH l t=some x->∃k,t=i+k/\l[k]?=some (t,x)
 | [],_,_,_,_,h=>by cases h
 | (j,y)::r,i,u,t,x,h=>by
  simp only [rY,Č] at u;obtain ⟨⟨z,-⟩,D⟩:=u;have z:=beq_eq.1 z;simp only [aH] at h;by_cases e:t=j
  ·subst e;rw [Qn2] at h;cases h;exact ⟨0,ω,rfl⟩
  ·rw [gV e] at h;have ⟨k,b,a⟩:=qS D t x h;exact ⟨k+1,ω,by simpa using a⟩
def wQ {bx:Nat->Option aZ}{V':ut}:∀{l:zA Nat} {k:Prop},QT bx β V' l k->(∀s∈l,∀b,bx s=some b->b.live->V'.w.heap[β s]?=some (b.obj β))->(∀s∈l,∃b,bx s=some b/\b.live)/\k
 | [],_,h,_=>⟨λs y=>(nomatch y),h⟩
 | s::r,k,h,u=>by
  simp only [QT] at h;split at h
  ·exact h.elim
  ·rename_i b hne z
   have lb:b.live:=by
    intro c e;obtain ⟨cs,ty⟩:=b;dsimp only at e;subst e;grind
   have ⟨d,f⟩:=wQ (h (u s ψ b z lb)) λt a=>u t (Ă _ a);grind
  ·exact h.elim
def Fl:∀{u:zA (Nat×aZ)} {m:Nat} {b:aZ},(m,b)∈u->(∃vs,b.cs=.aB vs)\/m∈lV u
 | [],_,_,h=>nomatch h
 | (s,x)::r,m,b,h=>by
  rcases ê.1 h with e|h
  ·cases e;unfold lV;grind
  ·refine (Fl h).imp id λh=>?_;unfold lV;grind
def Bm:∀{u:zA (Nat×aZ)} {m:Nat},m∈lV u->m∈u.map (·.1)
 | [],_,h=>nomatch h
 | (s,x)::r,m,h=>by
  unfold lV at h;split at h
  ·exact Ă _ (Bm h)
  ·rcases ê.1 h with rfl|h
   ·simp
   ·exact Ă _ (Bm h)
def Fv {b:Nat}{k:Prop}:∀{u:zA (Nat×aZ)} {m:Nat} {vs:zA un} {ty:TypeId},(m,(⟨.aB vs,ty⟩:aZ))∈u->vs≠[]->b=β0 m->SL u β0 b k
 | [],_,_,_,h,_,_=>nomatch h
 | (s,x)::r,m,vs,ty,h,y,he=>by
  rcases ê.1 h with e|h
  ·cases e;exact .inl ⟨y,he⟩
  ·have:=Fv (k:=k) h y he;unfold SL;grind
def nM {l m:zA Nat}{s:Nat}:s∈ý l m↔s∈l/\s∉m:=by unfold ý;grind [dP.2,dP.1]
def Ov {bx:Nat->Option aZ}{s:Nat}(h:yF T bx s=false):s<100000:=by rcases Ē s 100000 with g|g;{exact g};{unfold yF at h;grind [Nat.ble_eq]}
def FG {bs:zA (Nat×aZ)}(hT:dT.ok P T)(hM:ß n V0 ⟨lV bs,λb=>∃m b0,aH bs m=some b0/\b0.live/\b=β0 m⟩ β0 st β a w V){fn:Func}{R:un->ut->Prop}(hv:Ob T fn.results.toList bs β0 V0.w.heap.size R st V):∃v,(results fn a.tmps).run P w=.ok v w/\R v (V0.to w hM.ext.size):=by
 unfold Ob at hv;split at hv
 ·exact hv.elim
 ·rename_i xs M;have ⟨h1,h2⟩:=JY hT hM M;dsimp only at hv;split at hv
  ·exact hv.elim
  ·rename_i D;generalize hL:ð st.boxes 3 (ô (xs.flatMap SV.ids++lV bs))=L at hv D
   have k:∀s,s∈xs.flatMap SV.ids\/s∈lV bs->s∈L:=λs c=>by rw [<-hL];exact fX 3 _ s (cA.2 (ø.2 c))
   have hle:V.Le (V0.to w hM.ext.size):=by intro b o d;obtain ⟨B,C⟩:=hM.sw b o d;exact ⟨C,B⟩
   have γf:∀γ:Nat->Nat,γ=(λt=>if t∈ý L (lV bs) then β t else β0 t)->(∀s∈L,γ s=β s)/\oS γ xs=oS β xs:=by
    intro γ hγ
    have f:∀s∈L,γ s=β s:=by intro s c;rw [hγ];by_cases d:s∈lV bs;{have:s∉ý L (lV bs):=λh=>(nM.1 h).2 d;simp only [this,Ð];exact (hM.nX s d).2.symm};grind [nM.2]
    refine ⟨f,?_⟩;have i:∀x∈xs,x.den γ=x.den β:=λx i=>SV.bX λs c=>f s (k s (.inl (ĕ.2 ⟨x,i,c⟩)))
    match xs,i with
    | [],_=>rfl
    | [x],i=>exact i x ψ
    | x::y::r,i=>simp only [oS];rw [ś i]
   have J:∀γ:Nat->Nat,(∀s∈L,γ s=β s)->∀s∈L,∀b,st.boxes s=some b->b.live->(V0.to w hM.ext.size).w.heap[γ s]?=some (b.obj γ):=by intro γ f s c b d l;rw [f s c,aZ.dz λt p=>f t (fI D c d t p)];exact hM.boxes s b d l
   have j:∀γ:Nat->Nat,(∀s∈L,γ s=β s)->∀s∈L,s<100000->∀b,st.boxes s=some b->b.live->(V0.to w hM.ext.size).aW (γ s) (b.obj γ):=by intro γ f s c E b d l;refine ⟨λhH=>?_,J γ f s c b d l⟩;have hH:=hH;rw [f s c] at hH;rcases hM.own s b d l with h|⟨h,-⟩;{have:=V0.hH _ hH;omega};{omega}
   split at hv
   ·rename_i K;have E:∀s∈ý L (lV bs),s<100000:=by{intro s c;(cases p:yF T st.boxes s with|false=>exact Ov p|true=>{have:s∈(ý L (lV bs)).filter (yF T st.boxes):=Ł.2 ⟨c,p⟩;rw [K] at this;cases this})};have g:=iM (hv _ hle) β;generalize hγ:(λt=>if t∈ý L (lV bs) then β t else β0 t)=γ at g;have ⟨f,F⟩:=γf γ hγ.symm;obtain ⟨-,q⟩:=wQ g (λs c b d l=>J γ f s (k s (.inr c)) b d l);obtain ⟨-,G⟩:=iZ q (λs c b d l=>j γ f s (nM.1 c).1 (E s c) b d l);grind
   ·rename_i s K;split at hv
    ·rename_i b d
     have c:s∈ý L (lV bs):=by have:s∈(ý L (lV bs)).filter (yF T st.boxes):=by{rw [K];simp};exact (Ł.1 this).1
     have ⟨z,N⟩:=nM.1 c;have g:=iM (hv (V0.to w hM.ext.size)) β;generalize hγ:(λt=>if t∈ý L (lV bs) then β t else β0 t)=γ at g;have ⟨f,F⟩:=γf γ hγ.symm
     have H:V.Le ((V0.to w hM.ext.size).bz (gdP b) (γ s)):=by intro x o i;obtain ⟨B,C⟩:=hle x o i;refine ⟨λO=>?_,C⟩;rcases O with O|⟨X,e,-⟩;{exact B O};{rw [f s z] at e;exact hM.yV s b d (Vm.1 X) o (e▸i)}
     have ⟨Y,q⟩:=wQ (g H) (λs c b d l=>J γ f s (k s (.inr c)) b d l)
     have G:=q (ko.2 λl=>J γ f s z b d l) (ko.2 λl=>by
      rw [f s z];rcases hM.own s b d l with h|⟨-,m,b0,hm,Z,he⟩
      ·exact .inl h
      ·right;rcases Fl (cU hm) with ⟨vs,I⟩|A
       ·obtain ⟨cs,ty⟩:=b0;dsimp only at I;subst I;exact Fv (cU hm) (Z vs rfl) he
       ·exfalso;obtain ⟨b1,Q,l1⟩:=Y m A;have e:=(hM.nX m A).2;rw [<-e] at he;have:=hM.inj s m b b1 d l Q l1 he;exact N (this▸A))
     obtain ⟨-,a0⟩:=iZ G (λu hu b' S l'=>by
      obtain ⟨B,C⟩:=Ł.1 hu;have U:u≠s:=λe=>by subst e;rw [Qn2] at C;cases C
      have W:u<100000:=by (cases p:yF T st.boxes u with|false=>exact Ov p|true=>{have:u∈(ý L (lV bs)).filter (yF T st.boxes):=Ł.2 ⟨B,p⟩;rw [K] at this;exact Å (ö.1 this) U})
      exact j γ f u (nM.1 B).1 W b' S l')
     grind
    ·exact hv.elim
   ·exact hv.elim
def RZ (hT : dT.ok P T)(hmx : P.follows .mixedOrders = true){L J : Ia}{f : FuncId}{fn : Func}(hf : P.funcs[f]? = some fn)(hn : (fn.name == "runtime.NumGoroutine") = false){ss:zA (Nat×SV)}{Z:zA (Nat×aZ)}{args:Array un}{R:un->ut->Prop}(ha:args=(ss.map λx=>x.2.den β0).toArray)(hb:UQ β0 V Z)(hv:Hz P T LF RF L J fn ss Z β0 V R):aa P f args V R:=by
 unfold Hz at hv;split at hv
 ·rename_i code c;split at hv
  ·rename_i z;simp only [Č,ĥ,Nat.ble_eq] at z;obtain ⟨⟨⟨⟨⟨d,B⟩,hlen⟩,g⟩,C⟩,r⟩:=z
   have i:∀x∈Z,100000<=x.1/\x.1<200000:=λx n=>by
    have ⟨D,E⟩:=C x n;exact ⟨D,œ E⟩
   refine ⟨⟨fn,hf,by rw [c];rfl,hn⟩,calls_of_wp hf c ?_⟩;have ⟨A,F⟩:=EW hb;have ⟨t1,t2⟩:=CF r;have G:args.size=ss.length:=by rw [ha];simp
   have H:ß fn.ntmps V ⟨lV Z,λb=>∃m b0,aH Z m=some b0/\b0.live/\b=β0 m⟩ β0 ⟨aH ss,aH Z⟩ β0 { tmps:=args++Array.replicate (fn.ntmps-args.size) undef,defers:=[] } V.w V:=by
    refine ⟨rfl,by simp;omega,?_,t1,t2,λs b h l=>(A s b h l).1,λs I b K h l M N=>F s I b K h l M N,λb o h=>⟨h.2,h.1⟩,λs b h l o O=>O.1 (V.hX _ (A s b h l).2),j_.refl _ _,?_,?_,?_,g⟩
    ·intro t x n;have ⟨k,p,j⟩:=qS B t x n;have q:k<ss.length:=χ
     have u:t=k:=ω
     subst u;have:args[t]?=some (x.den β0):=by rw [ha];simp [j]
     have y:t<args.size:=ω
     show (args++Array.replicate (fn.ntmps-args.size) undef).getD t undef=_;rw [Array.getD_eq_getD_getElem?,Array.getElem?_append_left y,this];rfl
    ·intro s b h l;exact .inr ⟨(i _ (cU h)).1,s,b,h,l,rfl⟩
    ·intro s Q;obtain ⟨x,n,rfl⟩:=ă.1 (Bm Q);grind
    grind
   refine Lt hT hmx code _ β0 _ _ V _ _ H d hv ?_;intro e S β' U W X a hle q
   cases e with
   | normal=>
    have ⟨v,p,j⟩:=FG hT a q;exact ⟨a.defers,v,p,v,rfl,a.ext,j⟩
   | ret=>
    have ⟨v,p,j⟩:=FG hT a q;exact ⟨a.defers,v,p,v,rfl,a.ext,j⟩
   | _=>exact q.elim
  ·exact hv.elim
 ·exact hv.elim
def bK (hT : dT.ok P T)(hmx : P.follows .mixedOrders = true)(L J : Ia){f : FuncId}{fn : Func}(y : P.funcs[f]? = some fn)(z : (fn.name == "runtime.NumGoroutine") = false)(ss:zA (Nat×SV))(u:zA (Nat×aZ)){args:Array un}{R:un->ut->Prop}(D:args=(ss.map λx=>x.2.den β0).toArray)(E:UQ β0 V u){G:Prop}(h:G)(F:G=Hz P T LF RF L J fn ss u β0 V R):aa P f args V R:=by
 subst F;exact RZ hT hmx y z D E h
def X2 (h:T.map (λx=>oK P x.1)=T.map λx=>some x.2):dT.ok P T:=by intro t i a;obtain ⟨k,b⟩:=List.getElem?_of_mem (cU a);have:=Æ (λl=>l[k]?) h;grind
end
end Go.Eng
namespace Go.Proofs.Tryz
open Go.Eng
variable{l:List Value}
abbrev aO:List Nat:=[]
def tab:dT:=[
 (3,⟨.int .i64,1,8,[.v (.int .i64 0)]⟩),
 (0,⟨.tuple [],1,0,[.v (.tuple #[])]⟩),
 (4,⟨.bool,1,1,[.ff]⟩),
 (55,⟨.struct [(53,0),(51,2)],3,56,[.ff,.v (.slice none 0 0),.v (.slice none 0 0)]⟩),
 (93,⟨.struct [(2,0),(2,1),(91,2)],3,24,[.v (.int .i64 0),.v (.int .i64 0),.v (.pointer none)]⟩),
 (57,⟨.struct [(55,0),(55,3)],6,112,[.ff,.v (.slice none 0 0),.v (.slice none 0 0),.ff,.v (.slice none 0 0),.v (.slice none 0 0)]⟩),
 (271,⟨.int .u64,1,8,[.v (.int .u64 0)]⟩),
 (95,⟨.struct [(93,0),(93,3),(93,6)],9,72,[.v (.int .i64 0),.v (.int .i64 0),.v (.pointer none),.v (.int .i64 0),.v (.int .i64 0),.v (.pointer none),.v (.int .i64 0),.v (.int .i64 0),.v (.pointer none)]⟩),
 (76,⟨.struct [(53,0),(53,2),(53,4)],6,96,[.ff,.v (.slice none 0 0),.ff,.v (.slice none 0 0),.ff,.v (.slice none 0 0)]⟩),
 (103,⟨.struct [(93,0),(93,3)],6,48,[.v (.int .i64 0),.v (.int .i64 0),.v (.pointer none),.v (.int .i64 0),.v (.int .i64 0),.v (.pointer none)]⟩),
 (61,⟨.slice 269,1,24,[.v (.slice none 0 0)]⟩),
 (269,⟨.int .u32,1,4,[.v (.int .u32 0)]⟩),
 (51,⟨.slice 269,1,24,[.v (.slice none 0 0)]⟩),
 (53,⟨.struct [(4,0),(51,1)],2,32,[.ff,.v (.slice none 0 0)]⟩),
 (2,⟨.int .i64,1,8,[.v (.int .i64 0)]⟩),
 (90,⟨.slice 103,1,24,[.v (.slice none 0 0)]⟩),
 (171,⟨.slice 95,1,24,[.v (.slice none 0 0)]⟩),
 (63,⟨.struct [(4,0),(61,1)],2,32,[.ff,.v (.slice none 0 0)]⟩),
 (357,⟨.slice 360,1,24,[.v (.slice none 0 0)]⟩),
 (360,⟨.struct [(93,0),(3,3),(3,4)],5,40,[.v (.int .i64 0),.v (.int .i64 0),.v (.pointer none),.v (.int .i64 0),.v (.int .i64 0)]⟩),
 (97,⟨.struct [(93,0),(93,3),(4,6),(4,7)],8,56,[.v (.int .i64 0),.v (.int .i64 0),.v (.pointer none),.v (.int .i64 0),.v (.int .i64 0),.v (.pointer none),.ff,.ff]⟩),
 (112,⟨.slice 76,1,24,[.v (.slice none 0 0)]⟩),
 (118,⟨.struct [(55,0),(55,3),(4,6),(4,7)],8,120,[.ff,.v (.slice none 0 0),.v (.slice none 0 0),.ff,.v (.slice none 0 0),.v (.slice none 0 0),.ff,.ff]⟩),
 (25,⟨.ptr 80,1,8,[.v (.pointer none)]⟩),
 (47,⟨.slice 57,1,24,[.v (.slice none 0 0)]⟩),
 (99,⟨.struct [(95,0),(97,9)],17,128,[.v (.int .i64 0),.v (.int .i64 0),.v (.pointer none),.v (.int .i64 0),.v (.int .i64 0),.v (.pointer none),.v (.int .i64 0),.v (.int .i64 0),.v (.pointer none),.v (.int .i64 0),.v (.int .i64 0),.v (.pointer none),.v (.int .i64 0),.v (.int .i64 0),.v (.pointer none),.ff,.ff]⟩),
 (120,⟨.struct [(76,0),(118,6)],14,216,[.ff,.v (.slice none 0 0),.ff,.v (.slice none 0 0),.ff,.v (.slice none 0 0),.ff,.v (.slice none 0 0),.v (.slice none 0 0),.ff,.v (.slice none 0 0),.v (.slice none 0 0),.ff,.ff]⟩),
 (86,⟨.slice 99,1,24,[.v (.slice none 0 0)]⟩),
 (80,⟨.struct [(4,0),(4,1),(76,2),(25,8),(25,9)],10,120,[.ff,.ff,.ff,.v (.slice none 0 0),.ff,.v (.slice none 0 0),.ff,.v (.slice none 0 0),.v (.pointer none),.v (.pointer none)]⟩),
 (65,⟨.struct [(63,0),(61,2)],3,56,[.ff,.v (.slice none 0 0),.v (.slice none 0 0)]⟩),
 (189,⟨.slice 55,1,24,[.v (.slice none 0 0)]⟩),
 (183,⟨.int .u64,1,8,[.v (.int .u64 0)]⟩),
 (40,⟨.slice 120,1,24,[.v (.slice none 0 0)]⟩),
 (82,⟨.ptr 240,1,8,[.v (.pointer none)]⟩),
 (91,⟨.ptr 287,1,8,[.v (.pointer none)]⟩),
 (50,⟨.slice 269,1,24,[.v (.slice none 0 0)]⟩),
 (129,⟨.struct [(65,0),(65,3),(4,6),(4,7)],8,120,[.ff,.v (.slice none 0 0),.v (.slice none 0 0),.ff,.v (.slice none 0 0),.v (.slice none 0 0),.ff,.ff]⟩),
 (115,⟨.slice 118,1,24,[.v (.slice none 0 0)]⟩),
 (23,⟨.ptr 72,1,8,[.v (.pointer none)]⟩),
 (67,⟨.struct [(65,0),(65,3)],6,112,[.ff,.v (.slice none 0 0),.v (.slice none 0 0),.ff,.v (.slice none 0 0),.v (.slice none 0 0)]⟩),
 (127,⟨.struct [(63,0),(63,2),(63,4)],6,96,[.ff,.v (.slice none 0 0),.ff,.v (.slice none 0 0),.ff,.v (.slice none 0 0)]⟩),
 (320,⟨.int .u64,1,8,[.v (.int .u64 0)]⟩),
 (30,⟨.iface,1,16,[.v (.nilIface)]⟩),
 (37,⟨.slice 67,1,24,[.v (.slice none 0 0)]⟩),
 (35,⟨.struct [(3,0),(33,1)],2,32,[.v (.int .i64 0),.v (.slice none 0 0)]⟩),
 (28,⟨.slice 131,1,24,[.v (.slice none 0 0)]⟩),
 (33,⟨.slice 179,1,24,[.v (.slice none 0 0)]⟩),
 (163,⟨.struct [(160,0),(3,1),(112,2)],3,56,[.v (.slice none 0 0),.v (.int .i64 0),.v (.slice none 0 0)]⟩),
 (240,⟨.struct [(95,0),(82,9),(82,10),(4,11)],12,96,[.v (.int .i64 0),.v (.int .i64 0),.v (.pointer none),.v (.int .i64 0),.v (.int .i64 0),.v (.pointer none),.v (.int .i64 0),.v (.int .i64 0),.v (.pointer none),.v (.pointer none),.v (.pointer none),.ff]⟩),
 (175,⟨.slice 97,1,24,[.v (.slice none 0 0)]⟩),
 (106,⟨.func,1,8,[.v (.nilFunc)]⟩),
 (174,⟨.slice 97,1,24,[.v (.slice none 0 0)]⟩),
 (248,⟨.func,1,8,[.v (.nilFunc)]⟩),
 (362,⟨.func,1,8,[.v (.nilFunc)]⟩),
 (160,⟨.slice 47,1,24,[.v (.slice none 0 0)]⟩),
 (192,⟨.slice 4,1,24,[.v (.slice none 0 0)]⟩),
 (22,⟨.slice 3,1,24,[.v (.slice none 0 0)]⟩),
 (261,⟨.int .i64,1,8,[.v (.int .i64 0)]⟩),
 (131,⟨.struct [(127,0),(129,6)],14,216,[.ff,.v (.slice none 0 0),.ff,.v (.slice none 0 0),.ff,.v (.slice none 0 0),.ff,.v (.slice none 0 0),.v (.slice none 0 0),.ff,.v (.slice none 0 0),.v (.slice none 0 0),.ff,.ff]⟩),
 (324,⟨.ptr 3,1,8,[.v (.pointer none)]⟩),
 (287,⟨.struct [(63,0),(61,2)],3,56,[.ff,.v (.slice none 0 0),.v (.slice none 0 0)]⟩),
 (237,⟨.struct [(33,0),(192,1),(3,2),(4,3)],4,64,[.v (.slice none 0 0),.v (.slice none 0 0),.v (.int .i64 0),.ff]⟩),
 (179,⟨.struct [(127,0),(3,6),(3,7)],8,112,[.ff,.v (.slice none 0 0),.ff,.v (.slice none 0 0),.ff,.v (.slice none 0 0),.v (.int .i64 0),.v (.int .i64 0)]⟩),
 (311,⟨.slice 82,1,24,[.v (.slice none 0 0)]⟩),
 (257,⟨.func,1,8,[.v (.nilFunc)]⟩),
 (72,⟨.struct [(22,0),(3,1)],2,32,[.v (.slice none 0 0),.v (.int .i64 0)]⟩),
 (358,⟨.arr 2 3,2,16,[.v (.int .i64 0),.v (.int .i64 0)]⟩),
 (165,⟨.slice 233,1,24,[.v (.slice none 0 0)]⟩),
 (317,⟨.arr 2 174,2,48,[.v (.slice none 0 0),.v (.slice none 0 0)]⟩),
 (366,⟨.tuple [3,3],1,0,[.v (.tuple #[.int .i64 0,.int .i64 0])]⟩),
 (224,⟨.tuple [51,51],1,0,[.v (.tuple #[.slice none 0 0,.slice none 0 0])]⟩),
 (235,⟨.ptr 237,1,8,[.v (.pointer none)]⟩),
 (293,⟨.tuple [271,4],1,0,[.v (.tuple #[.int .u64 0,.bool false])]⟩),
 (343,⟨.arr 2 40,2,48,[.v (.slice none 0 0),.v (.slice none 0 0)]⟩),
 (139,⟨.tuple [57,4],1,0,[.v (.tuple #[.agg #[.bool false,.slice none 0 0,.slice none 0 0,.bool false,.slice none 0 0,.slice none 0 0],.bool false])]⟩),
 (5,⟨.int .u8,1,1,[.v (.int .u8 0)]⟩),
 (330,⟨.tuple [2,4],1,0,[.v (.tuple #[.int .i64 0,.bool false])]⟩),
 (9,⟨.str,1,16,[.v (.string ByteArray.empty)]⟩),
 (100,⟨.func,1,8,[.v (.nilFunc)]⟩),
 (122,⟨.tuple [76,4],1,0,[.v (.tuple #[.agg #[.bool false,.slice none 0 0,.bool false,.slice none 0 0,.bool false,.slice none 0 0],.bool false])]⟩),
 (318,⟨.func,1,8,[.v (.nilFunc)]⟩),
 (101,⟨.slice 100,1,24,[.v (.slice none 0 0)]⟩),
 (233,⟨.slice 67,1,24,[.v (.slice none 0 0)]⟩),
 (365,⟨.ptr 320,1,8,[.v (.pointer none)]⟩),
 (413,⟨.struct [(9,0)],1,16,[.v (.string ByteArray.empty)]⟩),
 (83,⟨.tuple [82,30],1,0,[.v (.tuple #[.pointer none,.nilIface])]⟩),
 (88,⟨.tuple [33,3],1,0,[.v (.tuple #[.slice none 0 0,.int .i64 0])]⟩),
 (104,⟨.tuple [103,4],1,0,[.v (.tuple #[.agg #[.int .i64 0,.int .i64 0,.pointer none,.int .i64 0,.int .i64 0,.pointer none],.bool false])]⟩),
 (262,⟨.tuple [3,261],1,0,[.v (.tuple #[.int .i64 0,.int .i64 0])]⟩),
 (266,⟨.tuple [3,4],1,0,[.v (.tuple #[.int .i64 0,.bool false])]⟩),
 (296,⟨.tuple [269,269],1,0,[.v (.tuple #[.int .u32 0,.int .u32 0])]⟩),
 (328,⟨.tuple [61,61,4],1,0,[.v (.tuple #[.slice none 0 0,.slice none 0 0,.bool false])]⟩),
 (355,⟨.tuple [97,4],1,0,[.v (.tuple #[.agg #[.int .i64 0,.int .i64 0,.pointer none,.int .i64 0,.int .i64 0,.pointer none,.bool false,.bool false],.bool false])]⟩),
 (31,⟨.tuple [28,30],1,0,[.v (.tuple #[.slice none 0 0,.nilIface])]⟩),
 (42,⟨.func,1,8,[.v (.nilFunc)]⟩),
 (110,⟨.func,1,8,[.v (.nilFunc)]⟩),
 (194,⟨.tuple [4,4],1,0,[.v (.tuple #[.bool false,.bool false])]⟩),
 (244,⟨.tuple [95,4],1,0,[.v (.tuple #[.agg #[.int .i64 0,.int .i64 0,.pointer none,.int .i64 0,.int .i64 0,.pointer none,.int .i64 0,.int .i64 0,.pointer none],.bool false])]⟩),
 (298,⟨.tuple [118,4],1,0,[.v (.tuple #[.agg #[.bool false,.slice none 0 0,.slice none 0 0,.bool false,.slice none 0 0,.slice none 0 0,.bool false,.bool false],.bool false])]⟩),
 (384,⟨.tuple [61,4],1,0,[.v (.tuple #[.slice none 0 0,.bool false])]⟩),
 (246,⟨.func,1,8,[.v (.nilFunc)]⟩),
 (251,⟨.func,1,8,[.v (.nilFunc)]⟩),
 (38,⟨.tuple [37,30],1,0,[.v (.tuple #[.slice none 0 0,.nilIface])]⟩),
 (59,⟨.tuple [37,37,30],1,0,[.v (.tuple #[.slice none 0 0,.slice none 0 0,.nilIface])]⟩),
 (69,⟨.tuple [47,47],1,0,[.v (.tuple #[.slice none 0 0,.slice none 0 0])]⟩),
 (167,⟨.tuple [82,4],1,0,[.v (.tuple #[.pointer none,.bool false])]⟩),
 (227,⟨.tuple [112,4],1,0,[.v (.tuple #[.slice none 0 0,.bool false])]⟩),
 (253,⟨.tuple [175,175],1,0,[.v (.tuple #[.slice none 0 0,.slice none 0 0])]⟩),
 (302,⟨.tuple [120,4],1,0,[.v (.tuple #[.agg #[.bool false,.slice none 0 0,.bool false,.slice none 0 0,.bool false,.slice none 0 0,.bool false,.slice none 0 0,.slice none 0 0,.bool false,.slice none 0 0,.slice none 0 0,.bool false,.bool false],.bool false])]⟩),
 (305,⟨.tuple [40,40],1,0,[.v (.tuple #[.slice none 0 0,.slice none 0 0])]⟩),
 (344,⟨.tuple [115,4],1,0,[.v (.tuple #[.slice none 0 0,.bool false])]⟩),
 (369,⟨.tuple [61,269],1,0,[.v (.tuple #[.slice none 0 0,.int .u32 0])]⟩),
 (371,⟨.tuple [61,61],1,0,[.v (.tuple #[.slice none 0 0,.slice none 0 0])]⟩),
 (373,⟨.tuple [271,271],1,0,[.v (.tuple #[.int .u64 0,.int .u64 0])]⟩),
 (396,⟨.ptr 413,1,8,[.v (.pointer none)]⟩)]
def tabD:dT:=tab++[
 (76,⟨.struct [(53,0),(53,2),(53,4)],6,96,[.ff,.v (.slice none 0 0),.ff,.v (.slice none 0 0),.ff,.v (.slice none 0 0)]⟩),
 (99,⟨.struct [(95,0),(97,9)],17,128,[.v (.int .i64 0),.v (.int .i64 0),.v (.pointer none),.v (.int .i64 0),.v (.int .i64 0),.v (.pointer none),.v (.int .i64 0),.v (.int .i64 0),.v (.pointer none),.v (.int .i64 0),.v (.int .i64 0),.v (.pointer none),.v (.int .i64 0),.v (.int .i64 0),.v (.pointer none),.ff,.ff]⟩),
 (120,⟨.struct [(76,0),(118,6)],14,216,[.ff,.v (.slice none 0 0),.ff,.v (.slice none 0 0),.ff,.v (.slice none 0 0),.ff,.v (.slice none 0 0),.v (.slice none 0 0),.ff,.v (.slice none 0 0),.v (.slice none 0 0),.ff,.ff]⟩)]
def WN:dT.ok prog tabD:=X2 ζ
def cz:dT.ok prog tab:=X2 ζ
def ć:prog.follows .mixedOrders=true:=ζ
abbrev VP:=Ó->Prop
abbrev qn:=Nat×Nat×List Value×Int
abbrev qr:=Int×Int×List Value
abbrev wd:=Nat×Nat×List Value×Int×List Value
abbrev wt:=Int×List Value
abbrev zh:=Bool×OA×Nat×Nat×OA×Nat×Nat×Bool×OA×Nat×Nat×OA×Nat×Nat×Bool×Bool
abbrev km:=Int×Int
abbrev kw:=Int×Bool×OA×Nat×Nat×OA×Nat×Nat×Bool×OA×Nat×Nat×OA×Nat×Nat×Bool×Bool
abbrev jc:=Nat×Nat×List Value×Bool×Int×List Value×Int×Int×OA×Int×Int×OA×Bool×Bool
abbrev jp:=Nat×Nat×List Value
abbrev ve:=Int×Nat×Nat×Nat×Nat×List Value×List Value
abbrev vf:=OA×Nat×Nat×OA×Nat×Nat
abbrev vn:=Nat×Nat×List Value×Int×Nat×Nat×Int×OA×Nat×Nat×List Value
abbrev xu:=Int×Bool×OA×Nat×Nat×OA×Nat×Nat
abbrev qaa:=Nat×Nat×List Value×Nat×Nat×List Value
abbrev qab:=Nat×Nat×List Value×Int×OA×Nat×Nat×Int
abbrev qac:=Nat×Nat×List Value×Nat×Nat×List Value×Int
abbrev qad:=Int×Int×OA×Int×Int×OA×Bool×Bool
abbrev qae:=Int×List Value×List Value
abbrev qaf:=OA×Nat×Nat×Int×List Value
abbrev qag:=Nat×Nat×List Value×Int×Int×OA×Int×Int×OA×Bool×Bool
abbrev qah:=OA×Nat×Nat×Bool×OA×Nat×Nat
abbrev qai:=Int×Int×Int×List Value
abbrev qaj:=Nat×Nat×List Value×List Value
abbrev qak:=Nat×Nat×List Value×Int×Int
abbrev qal:=Int×OA×Nat×Nat
abbrev qam:=OA×Nat×Nat×Int
abbrev qan:=OA×Nat×Nat
abbrev VR:=Value->VP
abbrev Rt (V:Ó)(R:VR)(x:Value):Prop:=∀v:Ó,V.Le v->R x v
abbrev s3 {α0 α1 α2:Type}(a:α0)(b:α1)(c:α2)(K:Prop):Prop:=sm a/\sm b/\sm c/\K
abbrev s4 {α0 α1 α2 α3:Type}(a:α0)(b:α1)(c:α2)(d:α3)(K:Prop):Prop:=sm a/\sm b/\sm c/\sm d/\K
abbrev s5 {α0 α1 α2 α3 α4:Type}(a:α0)(b:α1)(c:α2)(d:α3)(e:α4)(K:Prop):Prop:=sm a/\sm b/\sm c/\sm d/\sm e/\K
abbrev s6 {α0 α1 α2 α3 α4 α5:Type}(a:α0)(b:α1)(c:α2)(d:α3)(e:α4)(f:α5)(K:Prop):Prop:=sm a/\sm b/\sm c/\sm d/\sm e/\sm f/\K
abbrev s7 {α0 α1 α2 α3 α4 α5 α6:Type}(a:α0)(b:α1)(c:α2)(d:α3)(e:α4)(f:α5)(g:α6)(K:Prop):Prop:=sm a/\sm b/\sm c/\sm d/\sm e/\sm f/\sm g/\K
abbrev s8 {α0 α1 α2 α3 α4 α5 α6 α7:Type}(a:α0)(b:α1)(c:α2)(d:α3)(e:α4)(f:α5)(g:α6)(h:α7)(K:Prop):Prop:=sm a/\sm b/\sm c/\sm d/\sm e/\sm f/\sm g/\sm h/\K
abbrev s9 {α0 α1 α2 α3 α4 α5 α6 α7 α8:Type}(a:α0)(b:α1)(c:α2)(d:α3)(e:α4)(f:α5)(g:α6)(h:α7)(i:α8)(K:Prop):Prop:=sm a/\sm b/\sm c/\sm d/\sm e/\sm f/\sm g/\sm h/\sm i/\K
abbrev tz {α0 α1 α2 α3 α4 α5 α6 α7 α8 α9:Type}(a:α0)(b:α1)(c:α2)(d:α3)(e:α4)(f:α5)(g:α6)(h:α7)(i:α8)(j:α9)(K:Prop):Prop:=sm a/\sm b/\sm c/\sm d/\sm e/\sm f/\sm g/\sm h/\sm i/\sm j/\K
abbrev wF {α0 α1 α2 α3 α4 α5 α6 α7 α8 α9 α10:Type}(a:α0)(b:α1)(c:α2)(d:α3)(e:α4)(f:α5)(g:α6)(h:α7)(i:α8)(j:α9)(k:α10)(K:Prop):Prop:=sm a/\sm b/\sm c/\sm d/\sm e/\sm f/\sm g/\sm h/\sm i/\sm j/\sm k/\K
abbrev aS {α0 α1 α2 α3 α4 α5 α6 α7 α8 α9 α10 α11:Type}(a:α0)(b:α1)(c:α2)(d:α3)(e:α4)(f:α5)(g:α6)(h:α7)(i:α8)(j:α9)(k:α10)(l:α11)(K:Prop):Prop:=sm a/\sm b/\sm c/\sm d/\sm e/\sm f/\sm g/\sm h/\sm i/\sm j/\sm k/\sm l/\K
abbrev Ca (V:Ó)(f:Nat)(a:Array Value)(K:VR):Prop:=∀V1:Ó,V.Le V1->aa prog f a V1 K
def sV:Value->SV
  | .agg l=>.agg (l.toList.map C.v)
  | v=>.c (.v v)
def sA:Nat->List Value->List (Nat×SV)
  | _,[]=>[]
  | n,v::l=>(n,sV v)::sA (n+1) l
def fd {LF RF:zA Nat}(L K:Ia){f:FuncId}{fn:Func}(u:prog.funcs[f]?=some fn){V:ut}{R:VR}{G:Prop}(h:G)
 (y:(fn.name=="runtime.NumGoroutine")=false:=by kernel_rfl)(z:l.toArray=((sA 0 l).map λx=>x.2.den λ_=>0).toArray:=by kernel_rfl)
 (D:G=Hz prog tab LF RF L K fn (sA 0 l) [] (λ_=>0) V R:=by kernel_rfl):aa prog f l.toArray V R:=
  bK (LF:=LF) (RF:=RF) (β0:=λ_=>0) cz ć L K u y (sA 0 l) [] z trivial h D
open Go.Value renaming int→I,pointer→P,slice→S,agg→A,bool→B,tuple→T
open Go.IntKind renaming i64→J,u64→U,u32→W
abbrev Yo (a:OA)(n:Nat)(m:Ó)(v:Value):Prop:=∃q,ae a n=some q/\m.at q v
abbrev Xh (V:Ó)(b:Nat)(l:List Value)(t:Nat):Prop:=V.w.heap[b]?=some (.cells l.toArray t (0,0))
abbrev Z0 (r:Value)(K:OA->Nat->Nat->Int->Prop):Prop:=∃(v0:OA)(v1:Nat)(v2:Nat)(v3:Int),r=T #[S v0 v1 v2,I W v3]/\K v0 v1 v2 v3
abbrev Z1 (r:Value)(K:OA->Nat->Nat->OA->Nat->Nat->Prop):Prop:=∃(v0:OA)(v1:Nat)(v2:Nat)(v3:OA)(v4:Nat)(v5:Nat),r=T #[S v0 v1 v2,S v3 v4 v5]/\K v0 v1 v2 v3 v4 v5
abbrev Z2 (r:Value)(K:OA->Nat->Nat->OA->Nat->Nat->Bool->Prop):Prop:=∃(v0:OA)(v1:Nat)(v2:Nat)(v3:OA)(v4:Nat)(v5:Nat)(v6:Bool),r=T #[S v0 v1 v2,S v3 v4 v5,B v6]/\K v0 v1 v2 v3 v4 v5 v6
abbrev Z3 (r:Value)(K:Int->Bool->Prop):Prop:=∃(v0:Int)(v1:Bool),r=T #[I U v0,B v1]/\K v0 v1
abbrev X4 (v0:OA)(v1:Nat)(v2:Nat)(v3:OA)(v4:Nat)(v5:Nat):Value:=T #[S v0 v1 v2,S v3 v4 v5]
abbrev Z5 (r:Value)(K:Bool->OA->Nat->Nat->Prop):Prop:=∃(v0:Bool)(v1:OA)(v2:Nat)(v3:Nat),r=A #[B v0,S v1 v2 v3]/\K v0 v1 v2 v3
abbrev X6 (v0:Bool)(v1:OA)(v2:Nat)(v3:Nat):Value:=A #[B v0,S v1 v2 v3]
abbrev Z7 (r:Value)(K:OA->Nat->Nat->Bool->Prop):Prop:=∃(v0:OA)(v1:Nat)(v2:Nat)(v3:Bool),r=T #[S v0 v1 v2,B v3]/\K v0 v1 v2 v3
abbrev Z8 (r:Value)(K:Int->Int->OA->Prop):Prop:=∃(v0:Int)(v1:Int)(v2:OA),r=A #[I J v0,I J v1,P v2]/\K v0 v1 v2
abbrev X9 (v0:Int)(v1:Int)(v2:OA):Value:=A #[I J v0,I J v1,P v2]
abbrev UF (r:Value)(K:Int->Bool->Prop):Prop:=∃(v0:Int)(v1:Bool),r=T #[I J v0,B v1]/\K v0 v1
abbrev aG (v0:Bool)(v1:OA)(v2:Nat)(v3:Nat)(v4:OA)(v5:Nat)(v6:Nat):Value:=A #[B v0,S v1 v2 v3,S v4 v5 v6]
abbrev Z12 (r:Value)(K:Int->Int->Prop):Prop:=∃(v0:Int)(v1:Int),r=T #[I U v0,I U v1]/\K v0 v1
abbrev Z13 (r:Value)(K:Int->Int->Prop):Prop:=∃(v0:Int)(v1:Int),r=T #[I W v0,I W v1]/\K v0 v1
abbrev bU (r:Value)(K:Bool->OA->Nat->Nat->OA->Nat->Nat->Prop):Prop:=∃(v0:Bool)(v1:OA)(v2:Nat)(v3:Nat)(v4:OA)(v5:Nat)(v6:Nat),r=A #[B v0,S v1 v2 v3,S v4 v5 v6]/\K v0 v1 v2 v3 v4 v5 v6
abbrev cJ (v0:Bool)(v1:OA)(v2:Nat)(v3:Nat)(v4:OA)(v5:Nat)(v6:Nat)(v7:Bool)(v8:OA)(v9:Nat)(v10:Nat)(v11:OA)(v12:Nat)(v13:Nat):Value:=A #[B v0,S v1 v2 v3,S v4 v5 v6,B v7,S v8 v9 v10,S v11 v12 v13]
abbrev jM (r:Value)(K:Bool->OA->Nat->Nat->OA->Nat->Nat->Bool->OA->Nat->Nat->OA->Nat->Nat->Prop):Prop:=∃(v0:Bool)(v1:OA)(v2:Nat)(v3:Nat)(v4:OA)(v5:Nat)(v6:Nat)(v7:Bool)(v8:OA)(v9:Nat)(v10:Nat)(v11:OA)(v12:Nat)(v13:Nat),r=A #[B v0,S v1 v2 v3,S v4 v5 v6,B v7,S v8 v9 v10,S v11 v12 v13]/\K v0 v1 v2 v3 v4 v5 v6 v7 v8 v9 v10 v11 v12 v13
abbrev dm (v0:Bool)(v1:OA)(v2:Nat)(v3:Nat)(v4:Bool)(v5:OA)(v6:Nat)(v7:Nat)(v8:Bool)(v9:OA)(v10:Nat)(v11:Nat):Value:=A #[B v0,S v1 v2 v3,B v4,S v5 v6 v7,B v8,S v9 v10 v11]
abbrev gP (v0:Int)(v1:Int)(v2:OA)(v3:Int)(v4:Int)(v5:OA)(v6:Int)(v7:Int)(v8:OA):Value:=A #[I J v0,I J v1,P v2,I J v3,I J v4,P v5,I J v6,I J v7,P v8]
abbrev uC (v0:Int)(v1:Int)(v2:OA)(v3:Int)(v4:Int)(v5:OA):Value:=A #[I J v0,I J v1,P v2,I J v3,I J v4,P v5]
abbrev Qq (r:Value)(K:Int->Int->OA->Int->Int->OA->Prop):Prop:=∃(v0:Int)(v1:Int)(v2:OA)(v3:Int)(v4:Int)(v5:OA),r=A #[I J v0,I J v1,P v2,I J v3,I J v4,P v5]/\K v0 v1 v2 v3 v4 v5
abbrev H0 (v0:Int)(v1:Int)(v2:OA)(v3:Int)(v4:Int)(v5:OA)(v6:Bool)(v7:Bool):Value:=A #[I J v0,I J v1,P v2,I J v3,I J v4,P v5,B v6,B v7]
abbrev W4 (v0:Bool)(v1:OA)(v2:Nat)(v3:Nat)(v4:OA)(v5:Nat)(v6:Nat)(v7:Bool)(v8:OA)(v9:Nat)(v10:Nat)(v11:OA)(v12:Nat)(v13:Nat)(v14:Bool)(v15:Bool):Value:=A #[B v0,S v1 v2 v3,S v4 v5 v6,B v7,S v8 v9 v10,S v11 v12 v13,B v14,B v15]
abbrev OD (r:Value)(K:Bool->OA->Nat->Nat->Bool->OA->Nat->Nat->Bool->OA->Nat->Nat->Prop):Prop:=∃(v0:Bool)(v1:OA)(v2:Nat)(v3:Nat)(v4:Bool)(v5:OA)(v6:Nat)(v7:Nat)(v8:Bool)(v9:OA)(v10:Nat)(v11:Nat),r=A #[B v0,S v1 v2 v3,B v4,S v5 v6 v7,B v8,S v9 v10 v11]/\K v0 v1 v2 v3 v4 v5 v6 v7 v8 v9 v10 v11
abbrev Z24 (r:Value)(K:Bool->OA->Nat->Nat->OA->Nat->Nat->Bool->OA->Nat->Nat->OA->Nat->Nat->Bool->Bool->Prop):Prop:=∃(v0:Bool)(v1:OA)(v2:Nat)(v3:Nat)(v4:OA)(v5:Nat)(v6:Nat)(v7:Bool)(v8:OA)(v9:Nat)(v10:Nat)(v11:OA)(v12:Nat)(v13:Nat)(v14:Bool)(v15:Bool),r=A #[B v0,S v1 v2 v3,S v4 v5 v6,B v7,S v8 v9 v10,S v11 v12 v13,B v14,B v15]/\K v0 v1 v2 v3 v4 v5 v6 v7 v8 v9 v10 v11 v12 v13 v14 v15
abbrev X25 (v0:Bool)(v1:OA)(v2:Nat)(v3:Nat)(v4:Bool)(v5:OA)(v6:Nat)(v7:Nat)(v8:Bool)(v9:OA)(v10:Nat)(v11:Nat)(v12:Bool)(v13:OA)(v14:Nat)(v15:Nat)(v16:OA)(v17:Nat)(v18:Nat)(v19:Bool)(v20:OA)(v21:Nat)(v22:Nat)(v23:OA)(v24:Nat)(v25:Nat)(v26:Bool)(v27:Bool):Value:=A #[B v0,S v1 v2 v3,B v4,S v5 v6 v7,B v8,S v9 v10 v11,B v12,S v13 v14 v15,S v16 v17 v18,B v19,S v20 v21 v22,S v23 v24 v25,B v26,B v27]
abbrev Y26 (a:OA)(n:Nat)(m:Ó)(K:Bool->OA->Nat->Nat->OA->Nat->Nat->Bool->OA->Nat->Nat->OA->Nat->Nat->Bool->Bool->Addr->Prop):Prop:=∃(v0:Bool)(v1:OA)(v2:Nat)(v3:Nat)(v4:OA)(v5:Nat)(v6:Nat)(v7:Bool)(v8:OA)(v9:Nat)(v10:Nat)(v11:OA)(v12:Nat)(v13:Nat)(v14:Bool)(v15:Bool)(q:Addr),ae a n=some q/\m.at (q.add 0) (B v0)/\m.at (q.add 1) (S v1 v2 v3)/\m.at (q.add 2) (S v4 v5 v6)/\m.at (q.add 3) (B v7)/\m.at (q.add 4) (S v8 v9 v10)/\m.at (q.add 5) (S v11 v12 v13)/\m.at (q.add 6) (B v14)/\m.at (q.add 7) (B v15)/\K v0 v1 v2 v3 v4 v5 v6 v7 v8 v9 v10 v11 v12 v13 v14 v15 q
abbrev Z27 (r:Value)(K:Bool->OA->Nat->Nat->Bool->OA->Nat->Nat->Bool->OA->Nat->Nat->Bool->OA->Nat->Nat->OA->Nat->Nat->Bool->OA->Nat->Nat->OA->Nat->Nat->Bool->Bool->Prop):Prop:=∃(v0:Bool)(v1:OA)(v2:Nat)(v3:Nat)(v4:Bool)(v5:OA)(v6:Nat)(v7:Nat)(v8:Bool)(v9:OA)(v10:Nat)(v11:Nat)(v12:Bool)(v13:OA)(v14:Nat)(v15:Nat)(v16:OA)(v17:Nat)(v18:Nat)(v19:Bool)(v20:OA)(v21:Nat)(v22:Nat)(v23:OA)(v24:Nat)(v25:Nat)(v26:Bool)(v27:Bool),r=A #[B v0,S v1 v2 v3,B v4,S v5 v6 v7,B v8,S v9 v10 v11,B v12,S v13 v14 v15,S v16 v17 v18,B v19,S v20 v21 v22,S v23 v24 v25,B v26,B v27]/\K v0 v1 v2 v3 v4 v5 v6 v7 v8 v9 v10 v11 v12 v13 v14 v15 v16 v17 v18 v19 v20 v21 v22 v23 v24 v25 v26 v27
abbrev Y28 (a:OA)(n:Nat)(m:Ó)(K:Int->Int->OA->Int->Int->OA->Int->Int->OA->Int->Int->OA->Int->Int->OA->Bool->Bool->Addr->Prop):Prop:=∃(v0:Int)(v1:Int)(v2:OA)(v3:Int)(v4:Int)(v5:OA)(v6:Int)(v7:Int)(v8:OA)(v9:Int)(v10:Int)(v11:OA)(v12:Int)(v13:Int)(v14:OA)(v15:Bool)(v16:Bool)(q:Addr),ae a n=some q/\m.at (q.add 0) (I J v0)/\m.at (q.add 1) (I J v1)/\m.at (q.add 2) (P v2)/\m.at (q.add 3) (I J v3)/\m.at (q.add 4) (I J v4)/\m.at (q.add 5) (P v5)/\m.at (q.add 6) (I J v6)/\m.at (q.add 7) (I J v7)/\m.at (q.add 8) (P v8)/\m.at (q.add 9) (I J v9)/\m.at (q.add 10) (I J v10)/\m.at (q.add 11) (P v11)/\m.at (q.add 12) (I J v12)/\m.at (q.add 13) (I J v13)/\m.at (q.add 14) (P v14)/\m.at (q.add 15) (B v15)/\m.at (q.add 16) (B v16)/\K v0 v1 v2 v3 v4 v5 v6 v7 v8 v9 v10 v11 v12 v13 v14 v15 v16 q
abbrev OC (v0:Int)(v1:Int)(v2:OA)(v3:Int)(v4:Int)(v5:OA)(v6:Int)(v7:Int)(v8:OA)(v9:Int)(v10:Int)(v11:OA)(v12:Int)(v13:Int)(v14:OA)(v15:Bool)(v16:Bool):Value:=A #[I J v0,I J v1,P v2,I J v3,I J v4,P v5,I J v6,I J v7,P v8,I J v9,I J v10,P v11,I J v12,I J v13,P v14,B v15,B v16]
abbrev Yk (a:OA)(n:Nat)(m:Ó)(K:Bool->OA->Nat->Nat->OA->Nat->Nat->Addr->Prop):Prop:=∃(v0:Bool)(v1:OA)(v2:Nat)(v3:Nat)(v4:OA)(v5:Nat)(v6:Nat)(q:Addr),ae a n=some q/\m.at (q.add 0) (B v0)/\m.at (q.add 1) (S v1 v2 v3)/\m.at (q.add 2) (S v4 v5 v6)/\K v0 v1 v2 v3 v4 v5 v6 q
abbrev Z31 (r:Value)(K:Int->Int->OA->Int->Int->OA->Int->Int->OA->Prop):Prop:=∃(v0:Int)(v1:Int)(v2:OA)(v3:Int)(v4:Int)(v5:OA)(v6:Int)(v7:Int)(v8:OA),r=A #[I J v0,I J v1,P v2,I J v3,I J v4,P v5,I J v6,I J v7,P v8]/\K v0 v1 v2 v3 v4 v5 v6 v7 v8
abbrev W5 (a:OA)(n:Nat)(m:Ó)(K:Int->Int->OA->Int->Int->OA->Int->Int->OA->Addr->Prop):Prop:=∃(v0:Int)(v1:Int)(v2:OA)(v3:Int)(v4:Int)(v5:OA)(v6:Int)(v7:Int)(v8:OA)(q:Addr),ae a n=some q/\m.at (q.add 0) (I J v0)/\m.at (q.add 1) (I J v1)/\m.at (q.add 2) (P v2)/\m.at (q.add 3) (I J v3)/\m.at (q.add 4) (I J v4)/\m.at (q.add 5) (P v5)/\m.at (q.add 6) (I J v6)/\m.at (q.add 7) (I J v7)/\m.at (q.add 8) (P v8)/\K v0 v1 v2 v3 v4 v5 v6 v7 v8 q
abbrev X33 (v0:OA)(v1:Nat)(v2:Nat)(v3:OA)(v4:Nat)(v5:Nat):Value:=A #[S v0 v1 v2,S v3 v4 v5]
abbrev Z34 (r:Value)(K:Int->Int->OA->Int->Int->OA->Bool->Bool->Prop):Prop:=∃(v0:Int)(v1:Int)(v2:OA)(v3:Int)(v4:Int)(v5:OA)(v6:Bool)(v7:Bool),r=A #[I J v0,I J v1,P v2,I J v3,I J v4,P v5,B v6,B v7]/\K v0 v1 v2 v3 v4 v5 v6 v7
abbrev Y35 (a:OA)(n:Nat)(m:Ó)(K:Int->Int->OA->Int->Int->OA->Bool->Bool->Addr->Prop):Prop:=∃(v0:Int)(v1:Int)(v2:OA)(v3:Int)(v4:Int)(v5:OA)(v6:Bool)(v7:Bool)(q:Addr),ae a n=some q/\m.at (q.add 0) (I J v0)/\m.at (q.add 1) (I J v1)/\m.at (q.add 2) (P v2)/\m.at (q.add 3) (I J v3)/\m.at (q.add 4) (I J v4)/\m.at (q.add 5) (P v5)/\m.at (q.add 6) (B v6)/\m.at (q.add 7) (B v7)/\K v0 v1 v2 v3 v4 v5 v6 v7 q
abbrev Z36 (r:Value)(K:OA->Bool->Prop):Prop:=∃(v0:OA)(v1:Bool),r=T #[P v0,B v1]/\K v0 v1
abbrev X37 (v0:Int)(v1:OA)(v2:Nat)(v3:Nat):Value:=A #[I J v0,S v1 v2 v3]
abbrev K3 (a:OA)(n:Nat)(m:Ó)(K:Bool->OA->Nat->Nat->Bool->OA->Nat->Nat->Bool->OA->Nat->Nat->Addr->Prop):Prop:=∃(v0:Bool)(v1:OA)(v2:Nat)(v3:Nat)(v4:Bool)(v5:OA)(v6:Nat)(v7:Nat)(v8:Bool)(v9:OA)(v10:Nat)(v11:Nat)(q:Addr),ae a n=some q/\m.at (q.add 0) (B v0)/\m.at (q.add 1) (S v1 v2 v3)/\m.at (q.add 2) (B v4)/\m.at (q.add 3) (S v5 v6 v7)/\m.at (q.add 4) (B v8)/\m.at (q.add 5) (S v9 v10 v11)/\K v0 v1 v2 v3 v4 v5 v6 v7 v8 v9 v10 v11 q
abbrev UE (a:OA)(n:Nat)(m:Ó)(K:Bool->OA->Nat->Nat->OA->Nat->Nat->Bool->OA->Nat->Nat->OA->Nat->Nat->Addr->Prop):Prop:=∃(v0:Bool)(v1:OA)(v2:Nat)(v3:Nat)(v4:OA)(v5:Nat)(v6:Nat)(v7:Bool)(v8:OA)(v9:Nat)(v10:Nat)(v11:OA)(v12:Nat)(v13:Nat)(q:Addr),ae a n=some q/\m.at (q.add 0) (B v0)/\m.at (q.add 1) (S v1 v2 v3)/\m.at (q.add 2) (S v4 v5 v6)/\m.at (q.add 3) (B v7)/\m.at (q.add 4) (S v8 v9 v10)/\m.at (q.add 5) (S v11 v12 v13)/\K v0 v1 v2 v3 v4 v5 v6 v7 v8 v9 v10 v11 v12 v13 q
abbrev Y40 (a:OA)(n:Nat)(m:Ó)(K:Bool->OA->Nat->Nat->Bool->OA->Nat->Nat->Bool->OA->Nat->Nat->Bool->OA->Nat->Nat->OA->Nat->Nat->Bool->OA->Nat->Nat->OA->Nat->Nat->Bool->Bool->Addr->Prop):Prop:=∃(v0:Bool)(v1:OA)(v2:Nat)(v3:Nat)(v4:Bool)(v5:OA)(v6:Nat)(v7:Nat)(v8:Bool)(v9:OA)(v10:Nat)(v11:Nat)(v12:Bool)(v13:OA)(v14:Nat)(v15:Nat)(v16:OA)(v17:Nat)(v18:Nat)(v19:Bool)(v20:OA)(v21:Nat)(v22:Nat)(v23:OA)(v24:Nat)(v25:Nat)(v26:Bool)(v27:Bool)(q:Addr),ae a n=some q/\m.at (q.add 0) (B v0)/\m.at (q.add 1) (S v1 v2 v3)/\m.at (q.add 2) (B v4)/\m.at (q.add 3) (S v5 v6 v7)/\m.at (q.add 4) (B v8)/\m.at (q.add 5) (S v9 v10 v11)/\m.at (q.add 6) (B v12)/\m.at (q.add 7) (S v13 v14 v15)/\m.at (q.add 8) (S v16 v17 v18)/\m.at (q.add 9) (B v19)/\m.at (q.add 10) (S v20 v21 v22)/\m.at (q.add 11) (S v23 v24 v25)/\m.at (q.add 12) (B v26)/\m.at (q.add 13) (B v27)/\K v0 v1 v2 v3 v4 v5 v6 v7 v8 v9 v10 v11 v12 v13 v14 v15 v16 v17 v18 v19 v20 v21 v22 v23 v24 v25 v26 v27 q
abbrev X41 (v0:OA)(v1:Nat)(v2:Nat)(v3:Int)(v4:OA)(v5:Nat)(v6:Nat):Value:=A #[S v0 v1 v2,I J v3,S v4 v5 v6]
abbrev Z42 (r:Value)(K:Int->OA->Nat->Nat->Prop):Prop:=∃(v0:Int)(v1:OA)(v2:Nat)(v3:Nat),r=A #[I J v0,S v1 v2 v3]/\K v0 v1 v2 v3
abbrev Z43 (r:Value)(K:Bool->Bool->Prop):Prop:=∃(v0:Bool)(v1:Bool),r=T #[B v0,B v1]/\K v0 v1
abbrev Y44 (a:OA)(n:Nat)(m:Ó)(K:Int->Int->OA->Int->Int->OA->Addr->Prop):Prop:=∃(v0:Int)(v1:Int)(v2:OA)(v3:Int)(v4:Int)(v5:OA)(q:Addr),ae a n=some q/\m.at (q.add 0) (I J v0)/\m.at (q.add 1) (I J v1)/\m.at (q.add 2) (P v2)/\m.at (q.add 3) (I J v3)/\m.at (q.add 4) (I J v4)/\m.at (q.add 5) (P v5)/\K v0 v1 v2 v3 v4 v5 q
abbrev Z45 (r:Value)(K:OA->Nat->Nat->Int->OA->Nat->Nat->Prop):Prop:=∃(v0:OA)(v1:Nat)(v2:Nat)(v3:Int)(v4:OA)(v5:Nat)(v6:Nat),r=A #[S v0 v1 v2,I J v3,S v4 v5 v6]/\K v0 v1 v2 v3 v4 v5 v6
abbrev zB (b:Bool)(A B:Prop):Prop:=(b=true->A)/\(b=false->B)
abbrev yW (f:OA)(a d:Int)(K:Prop):Prop:=(f.isSome=true)/\(0<=a/\a<d)/\K
abbrev û (o n:Nat)(x l:List Value):Prop:=o+n<=x.length/\(x.drop o).take n=l
abbrev å (a d:Int):Prop:=0<=a/\a<d
abbrev Ċ (V:Ó)(x:List Value)(t:Nat)(K:Ó->Nat->Prop):Prop:=∀W,V.Le W->∀b:Nat,Xh W b x t->W.H b->K W b
abbrev cB (V:Ó)(f:Nat)(a:Array Value)(K:Ó->OA->Nat->Nat->Prop):Prop:=Ca V f a λr W=>∃a b c,r=S a b c/\K W a b c
abbrev ï (V:Ó)(f:Nat)(a:Array Value)(K:Ó->Bool->Prop):Prop:=Ca V f a λr W=>∃a,r=B a/\K W a
abbrev ä (V:Ó)(f:Nat)(a:Array Value)(K:Ó->Int->Prop):Prop:=Ca V f a λr W=>∃a,r=I J a/\K W a
abbrev qqK (V:Ó)(f:Nat)(a:Array Value)(K:Ó->OA->Nat->Nat->Int->Prop):Prop:=Ca V f a λr W=>Z0 r (K W)
abbrev qqJ (V:Ó)(f:Nat)(a:Array Value)(K:Ó->OA->Nat->Nat->OA->Nat->Nat->Prop):Prop:=Ca V f a λr W=>Z1 r (K W)
abbrev qwQ (V:Ó)(f:Nat)(a:Array Value)(K:Ó->OA->Nat->Nat->OA->Nat->Nat->Bool->Prop):Prop:=Ca V f a λr W=>Z2 r (K W)
abbrev qwW (V:Ó)(f:Nat)(a:Array Value)(K:Ó->Int->Bool->Prop):Prop:=Ca V f a λr W=>Z3 r (K W)
abbrev ì (V:Ó)(f:Nat)(a:Array Value)(K:Ó->Bool->OA->Nat->Nat->Prop):Prop:=Ca V f a λr W=>Z5 r (K W)
abbrev qwJ (V:Ó)(f:Nat)(a:Array Value)(K:Ó->OA->Nat->Nat->Bool->Prop):Prop:=Ca V f a λr W=>Z7 r (K W)
abbrev ú (V:Ó)(f:Nat)(a:Array Value)(K:Ó->Int->Int->OA->Prop):Prop:=Ca V f a λr W=>Z8 r (K W)
abbrev qzQ (V:Ó)(f:Nat)(a:Array Value)(K:Ó->Int->Bool->Prop):Prop:=Ca V f a λr W=>UF r (K W)
abbrev qzW (V:Ó)(f:Nat)(a:Array Value)(K:Ó->Int->Int->Prop):Prop:=Ca V f a λr W=>Z12 r (K W)
abbrev qzK (V:Ó)(f:Nat)(a:Array Value)(K:Ó->Int->Int->Prop):Prop:=Ca V f a λr W=>Z13 r (K W)
abbrev â (V:Ó)(f:Nat)(a:Array Value)(K:Ó->Bool->OA->Nat->Nat->OA->Nat->Nat->Prop):Prop:=Ca V f a λr W=>bU r (K W)
abbrev Ć (V:Ó)(f:Nat)(a:Array Value)(K:Ó->Bool->OA->Nat->Nat->OA->Nat->Nat->Bool->OA->Nat->Nat->OA->Nat->Nat->Prop):Prop:=Ca V f a λr W=>jM r (K W)
abbrev Ř (V:Ó)(f:Nat)(a:Array Value)(K:Ó->Int->Int->OA->Int->Int->OA->Prop):Prop:=Ca V f a λr W=>Qq r (K W)
abbrev qkZ (V:Ó)(f:Nat)(a:Array Value)(K:Ó->Bool->OA->Nat->Nat->Bool->OA->Nat->Nat->Bool->OA->Nat->Nat->Prop):Prop:=Ca V f a λr W=>OD r (K W)
abbrev qkK (V:Ó)(f:Nat)(a:Array Value)(K:Ó->Bool->OA->Nat->Nat->OA->Nat->Nat->Bool->OA->Nat->Nat->OA->Nat->Nat->Bool->Bool->Prop):Prop:=Ca V f a λr W=>Z24 r (K W)
abbrev qjW (V:Ó)(f:Nat)(a:Array Value)(K:Ó->Bool->OA->Nat->Nat->Bool->OA->Nat->Nat->Bool->OA->Nat->Nat->Bool->OA->Nat->Nat->OA->Nat->Nat->Bool->OA->Nat->Nat->OA->Nat->Nat->Bool->Bool->Prop):Prop:=Ca V f a λr W=>Z27 r (K W)
abbrev qjK (V:Ó)(f:Nat)(a:Array Value)(K:Ó->Int->Int->OA->Int->Int->OA->Int->Int->OA->Prop):Prop:=Ca V f a λr W=>Z31 r (K W)
abbrev qjJ (V:Ó)(f:Nat)(a:Array Value)(K:Ó->Int->Int->OA->Int->Int->OA->Bool->Bool->Prop):Prop:=Ca V f a λr W=>Z34 r (K W)
abbrev qvQ (V:Ó)(f:Nat)(a:Array Value)(K:Ó->OA->Bool->Prop):Prop:=Ca V f a λr W=>Z36 r (K W)
abbrev qvZ (V:Ó)(f:Nat)(a:Array Value)(K:Ó->Int->OA->Nat->Nat->Prop):Prop:=Ca V f a λr W=>Z42 r (K W)
abbrev Zd (V:Ó)(f:Nat)(a:Array Value)(K:Ó->OA×Nat×Nat->Prop):Prop:=cB V f a λW a0 a1 a2=>K W (a0,a1,a2)
abbrev Za (V:Ó)(f:Nat)(a:Array Value)(K:Ó->Bool×OA×Nat×Nat×OA×Nat×Nat->Prop):Prop:=â V f a λW a0 a1 a2 a3 a4 a5 a6=>K W (a0,a1,a2,a3,a4,a5,a6)
abbrev Y8 (V:Ó)(f:Nat)(a:Array Value)(K:Ó->Bool×OA×Nat×Nat->Prop):Prop:=ì V f a λW a0 a1 a2 a3=>K W (a0,a1,a2,a3)
abbrev Y5 (V:Ó)(f:Nat)(a:Array Value)(K:Ó->Int×Int×OA->Prop):Prop:=ú V f a λW a0 a1 a2=>K W (a0,a1,a2)
abbrev Y4 (V:Ó)(f:Nat)(a:Array Value)(K:Ó->Bool×OA×Nat×Nat×OA×Nat×Nat×Bool×OA×Nat×Nat×OA×Nat×Nat->Prop):Prop:=Ć V f a λW a0 a1 a2 a3 a4 a5 a6 a7 a8 a9 a10 a11 a12 a13=>K W (a0,a1,a2,a3,a4,a5,a6,a7,a8,a9,a10,a11,a12,a13)
abbrev Yd (V:Ó)(f:Nat)(a:Array Value)(K:Ó->Int×Int×OA×Int×Int×OA->Prop):Prop:=Ř V f a λW a0 a1 a2 a3 a4 a5=>K W (a0,a1,a2,a3,a4,a5)
abbrev Ya {A0 A1 A2 D}(f:A0->A1->A2->D)(t:A0×A1×A2):D:=f t.1 t.2.1 t.2.2
abbrev X8 {A0 A1 A2 A3 D}(f:A0->A1->A2->A3->D)(t:A0×A1×A2×A3):D:=f t.1 t.2.1 t.2.2.1 t.2.2.2
abbrev X7 {A0 A1 A2 A3 A4 A5 A6 D}(f:A0->A1->A2->A3->A4->A5->A6->D)(t:A0×A1×A2×A3×A4×A5×A6):D:=f t.1 t.2.1 t.2.2.1 t.2.2.2.1 t.2.2.2.2.1 t.2.2.2.2.2.1 t.2.2.2.2.2.2
abbrev X0 {A0 A1 A2 A3 A4 A5 A6 A7 A8 A9 A10 A11 A12 A13 D}(f:A0->A1->A2->A3->A4->A5->A6->A7->A8->A9->A10->A11->A12->A13->D)(t:A0×A1×A2×A3×A4×A5×A6×A7×A8×A9×A10×A11×A12×A13):D:=f t.1 t.2.1 t.2.2.1 t.2.2.2.1 t.2.2.2.2.1 t.2.2.2.2.2.1 t.2.2.2.2.2.2.1 t.2.2.2.2.2.2.2.1 t.2.2.2.2.2.2.2.2.1 t.2.2.2.2.2.2.2.2.2.1 t.2.2.2.2.2.2.2.2.2.2.1 t.2.2.2.2.2.2.2.2.2.2.2.1 t.2.2.2.2.2.2.2.2.2.2.2.2.1 t.2.2.2.2.2.2.2.2.2.2.2.2.2
abbrev XZ {A0 A1 A2 A3 A4 A5 D}(f:A0->A1->A2->A3->A4->A5->D)(t:A0×A1×A2×A3×A4×A5):D:=f t.1 t.2.1 t.2.2.1 t.2.2.2.1 t.2.2.2.2.1 t.2.2.2.2.2
abbrev XY:=Ya S
abbrev XX:=X8 X6
abbrev XA:=Ya X9
abbrev Xy:=X7 aG
abbrev Xu:=X0 cJ
abbrev Xo:=XZ uC
abbrev qvW (V:Ó)(f:Nat)(a:Array Value)(K:Ó->Bool->Bool->Prop):Prop:=Ca V f a λr W=>Z43 r (K W)
abbrev nC (f:Nat)(a:Array Value)(G:Ó->VR->Prop):Prop:=∀V R,G V R->aa prog f a V R
def Þ {f:FuncId}{fn:Func}(u:prog.funcs[f]?=some fn){G:ut->VR->Prop}(y:(fn.name=="runtime.NumGoroutine")=false:=by kernel_rfl)(z:l.toArray=((sA 0 l).map λx=>x.2.den λ_=>0).toArray:=by kernel_rfl)(D:G=λV R=>Hz prog tab aO [] [] [] fn (sA 0 l) [] (λ_=>0) V R:=by kernel_rfl):nC f l.toArray G:=
 λV R h=>fd (LF:=aO) (RF:=[]) [] [] u h y z (congrFun (congrFun D V) R)
def bB (LF RF:zA Nat)(L K:Ia){f:FuncId}{fn:Func}(u:prog.funcs[f]?=some fn){G:ut->VR->Prop}(y:(fn.name=="runtime.NumGoroutine")=false:=by kernel_rfl)(z:l.toArray=((sA 0 l).map λx=>x.2.den λ_=>0).toArray:=by kernel_rfl)(D:G=λV R=>Hz prog tab LF RF L K fn (sA 0 l) [] (λ_=>0) V R:=by kernel_rfl):nC f l.toArray G:=
 λV R h=>fd (LF:=LF) (RF:=RF) L K u h y z (congrFun (congrFun D V) R)
def ĳ {T:dT}(hT:dT.ok prog T)(k:Nat){p q:Prop}(au:p)(aw:q)(LF RF:zA Nat)(L K:Ia){f:FuncId}{fn:Func}(u:prog.funcs[f]?=some fn)(ss:zA (Nat×SV))(x:aZ){V:ut}{R:VR}{G:Prop}(h:G)(y:(fn.name=="runtime.NumGoroutine")=false:=by kernel_rfl)(z:l.toArray=(ss.map λx=>x.2.den (cR (λ_=>0) 100000 k)).toArray:=by kernel_rfl)(D:UQ (cR (λ_=>0) 100000 k) V [(100000,x)]=((p/\q)/\True/\True):=by kernel_rfl)(E:G=Hz prog T LF RF L K fn ss [(100000,x)] (cR (λ_=>0) 100000 k) V R:=by kernel_rfl):aa prog f l.toArray V R:=
 bK (LF:=LF) (RF:=RF) (β0:=cR (λ_=>0) 100000 k) hT ć L K u y ss [(100000,x)] z (D.symm.mp ⟨⟨au,aw⟩,trivial,trivial⟩) h E
def _root_.qyJ {a b c d:Sort _}{p:a->b->c->d->Prop}{A B C D}(h:p A B C D):∃A B C D,p A B C D:=⟨_,_,_,_,h⟩
def _root_.qxW {a b c d e f g:Sort _}{p:a->b->c->d->e->f->g->Prop}{A B C D E F G}(h:p A B C D E F G):∃A B C D E F G,p A B C D E F G:=⟨_,_,_,_,_,_,_,h⟩
def _root_.wqQ {a b c d e f g i j k l m:Sort _}{p:a->b->c->d->e->f->g->i->j->k->l->m->Prop}{A B C D E F G H I J K L}(h:p A B C D E F G H I J K L):∃A B C D E F G H I J K L,p A B C D E F G H I J K L:=⟨_,_,_,_,_,_,_,_,_,_,_,_,h⟩
def _root_.qxZ {a b c d e f g i j k l m n o:Sort _}{p:a->b->c->d->e->f->g->i->j->k->l->m->n->o->Prop}{A B C D E F G H I J K L M N}(h:p A B C D E F G H I J K L M N):∃A B C D E F G H I J K L M N,p A B C D E F G H I J K L M N:=⟨_,_,_,_,_,_,_,_,_,_,_,_,_,_,h⟩
abbrev À:=aa prog
end Go.Proofs.Tryz
