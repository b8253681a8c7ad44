import Derived.Orders
import Derived.Scope
import Derived.Laws.Sem
import Derived.Test.YtdfckdifmjeieaaGreatDoorProg
import Derived.Test.YtdfckdifmjeieaaGreatDoorC4
set_option linter.all false
open Go.IntKind (i64 u64 u32)
open Go.IntKind renaming i64→Ŵ
namespace Go.Eng
section
variable{P:Program}{T:eA}{LF RF:List Nat}{n:Nat}{V0:Ó}{bU:Nl}{β0:Nat->Nat}
def HE (P:Program)(T:eA)(m:Nat->CM)(hint:Nat->ý)(ops:Array Oper):Nat->Array Bool->St->Ó->(St->Ó->Prop)->Prop
 | 0,listed,st,V,K=>Region.ready .any ops listed=[]/\K st V
 | fuel+1,listed,st,V,K=>(Region.ready .any ops listed=[]->K st V) /\
  ∀i∈Region.ready .any ops listed,∀o,ops[i]?=some o->xJ P T (m i) (hint i) ops o st V λu V'=>HE P T m hint ops fuel (listed.setIfInBounds i true) u V' K
def Ac (hT:eA.ok P T){m:Nat->CM}{hint:Nat->ý}{ops:Array Oper}(M:∀(i:Nat)(o:Oper),ops[i]?=some o->∀d,o.dst=some d->d<n){Q:Exit->Act->World->Prop}{K:St->un->Prop}(F:∀u β' z w' V',ß n V0 bU β0 u β' z w' V'->K u V'->Q .normal z w'):∀(fuel:Nat)(listed:Array ut)(st:St)(β:Nat->Nat)(a:Act)(w:World)(V:un),ß n V0 bU β0 st β a w V->HE P T m hint ops fuel listed st V K->wpAny P .any ops Q fuel listed a w
 | 0,_,_,_,_,_,_,E,y=>⟨y.1,F _ _ _ _ _ E y.2⟩
 | fuel+1,listed,st,β,a,w,V,E,y=>by
  refine ⟨λh=>F _ _ _ _ _ E (y.1 h),λi hi=>?_⟩;obtain ⟨-,o,N,-⟩:=mem_ready.1 hi;have:=Lu (Q:=Q) (next:=wpAny P .any ops Q fuel (listed.setIfInBounds i true)) hT E (M i o N) (y.2 i hi o N) (λu β' z w' V' b c=>Ac hT M F fuel _ u β' z w' V' b c);unfold wpOp;grind
def xX {sc:zA Prop}{k k':Prop}(h:k->k')(g:HL sc k):HL sc k':=by obtain ⟨a,b⟩:=(fK sc _).1 g;exact (fK sc _).2 ⟨a,h b⟩
theorem Rm {s:Nat}{vs:zA um}{k c size bytes:Nat}{ty:TypeId}{d:Nat}{st:St}{V:un}{K u:St->un->Prop}{j:Nat}{xs:zA um}(y:∀s V',V.Le V'->K s V'->u s V')(h:Kd s vs k c size bytes ty d st V K j xs):Kd s vs k c size bytes ty d st V u j xs:=by unfold Kd at h ⊢;obtain ⟨e,f,g,i,l,a⟩:=h;refine ⟨e,f,g,i,l,?_⟩;split at a;{exact a.elim};exact λb J spare m n o=>y _ _ (Ó.Le.refl V) (a b J spare m n o)
theorem Om {s:Nat}{vs:zA um}{k c size bytes:Nat}{ty:TypeId}{d:Nat}{st:St}{V:un}{K u:St->un->Prop}{j:Nat}{xs:zA um}(y:∀s V',V.Le V'->K s V'->u s V')(h:zR s vs k c size bytes ty d st V K j xs):zR s vs k c size bytes ty d st V u j xs:=by unfold zR at h ⊢;obtain ⟨b,e,f,g,i,a⟩:=h;refine ⟨b,e,f,g,i,?_⟩;split at a;{exact a.elim};exact λspare l m n=>y _ _ (Ó.Le.refl V) (a spare l m n)
theorem Rn {vs:zA um}{k c size bytes:Nat}{ty:TypeId}{d:Nat}{st:St}{V:un}{K u:St->un->Prop}{j:Nat}{xs:zA um}(y:∀s V',V.Le V'->K s V'->u s V')(h:Ke vs k c size bytes ty d st V K j xs):Ke vs k c size bytes ty d st V u j xs:=by unfold Ke at h ⊢;obtain ⟨b,e,f,g,a⟩:=h;refine ⟨b,e,f,g,?_⟩;split at a;{exact a.elim};grind [Ó.Le.refl]
def W_ {y:Q}{dst:Option Nat}{st:St}{V:un}{K z:St->un->Prop}(u:∀s V',V.Le V'->K s V'->z s V')(h:Ay y dst st V K):Ay y dst st V z:=by (cases y with|fail=>exact h|ret sc x=>exact xX (u _ _ (Ó.Le.refl V)) h|new sc b x=>{simp only [Ay] at h ⊢;split at h;{split at h;{rename_i f;exact xX (u _ _ (Ó.Le.refl V)) h};exact h.elim};exact h.elim}|Ax sc s b=>{simp only [Ay] at h ⊢;split at h;{exact xX (u _ _ (Ó.Le.refl V)) h};exact h.elim}|rd a sh=>{have ⟨x,d,e⟩:=sh.split h;exact e _ (wZ.2 ⟨(wZ.1 d).1,u _ _ (Ó.Le.refl V) (wZ.1 d).2⟩)}|uz vs of size sh=>{have ⟨x,d,e⟩:=sh.split h;exact e _ ⟨d.1,u _ _ (Ó.Le.refl V) d.2⟩}|yL s vs a c src size bytes ty=>{simp only [Ay] at h ⊢;split at h;{exact h.elim};grind [Om]}|app old ba vs a c src size bytes ty=>{simp only [Ay] at h ⊢;split at h;{exact h.elim};cases old<;>grind [Rm,Rn,Ó.Le.refl]})
def tC {bx:Nat->Option aZ}{β:Nat->Nat}{V:un}:∀{L:zA Nat} {k k':Prop},(k->k')->vt bx β V L k->vt bx β V L k'
 | [],_,_,h,g=>h g
 | s::r,k,k',h,g=>by
  simp only [vt] at g ⊢;split at g
  ·exact λu=>tC h (g u)
  ·exact g.elim
def vo {give:ut}{sh:Sh}{L:zA Nat}{u:Option Nat}{d:Nat}{ety:TypeId}{β:Nat->Nat}{st:St}{V V' y:un}{K E:St->un->Prop}{F:um}(hm:∀k,u=some k->k∈L)(M:V.Le V')(z:V.Le y)(hlv:∀s∈L,∃b,st.boxes s=some b/\(b.live->V'.H (β s)))(N:∀s V',V.Le V'->K s V'->E s V')(h:cK T give sh L u d ety β st V' K F y):cK T give sh L u d ety β st V' E F y:=by refine pW (p:=λ_=>none) (q:=ux) (W:=hZ u d::L) (D:=[d]) (λs c=>⟨rfl,ø _ c⟩) hm ⟨rfl,ψ⟩ ⟨rfl,ψ⟩ M z hlv (λs2 V2 a=>?_) h;exact N _ _ a.1 a.2.2.2
theorem xI {m:CM}{f:FuncId}{xs:zA SV}{ty:TypeId}{dst:Option Nat}{st:St}{V:un}{K K':St->un->Prop}(hk:∀s V',V.Le V'->K s V'->K' s V')(h:iw P T m f xs ty dst st V K):iw P T m f xs ty dst st V K':=by
 unfold iw at h ⊢;split at h
 ·exact h.elim
 ·split at h
  ·split at h;{split at h;{split at h;{exact h.elim};exact λV' a=>(h V' a).s λ_ z hle g=>vo (λk hk=>by cases hk) a (a.m hle) (λs r=>Å r ψ) hk g};{exact λV' a=>(h V' a).s λ_ _ hle g=>Sh.s g λx c=>⟨c.1,hk _ _ (a.m hle) c.2⟩};exact h.elim};{split at h;{split at h;{exact h.elim};split at h;{split at h;{split at h;{refine λV' a=>(h V' a).s λ_ z hle g=>?_;obtain ⟨b,e⟩:=g;obtain ⟨cs,⟨A,B,C,D⟩,E⟩:=th _ e;refine ⟨b,E _ ⟨A,B,C,hk _ _ ?_ D⟩⟩;intro x o c;obtain ⟨F,G⟩:=(a.m hle) x o c;have ⟨R,H⟩:=a x o c;have:=aN H;exact ⟨λh=>h.elim F λh=>by have:=h.1;omega,G⟩};exact h.elim};exact h.elim};exact h.elim};exact h.elim};exact λV' a=>(h V' a).s λ_ _ hle g=>Sh.s g λx c=>⟨c.1,hk _ _ (a.m hle) c.2⟩
  ·split at h
   ·exact h.elim
   ·rename_i I;rename_i S U X Y _
    have u:∀{i:ut} {v:Sh} {t:Option Nat} {d:Nat} {l:TypeId} {L:zA Nat},(∀k,t=some k->k∈L) ->
      (∀V':un,V.Le V'->nX L (λ_=>0) λβ=>kO st.boxes β V' L (ae P f (aJ β xs) (V'.au (L.map (eZ st.boxes β V'.w.heap.size))) (cK T i v L t d l β st V' K))) ->
      ∀V':un,V.Le V'->nX L (λ_=>0) λβ=>kO st.boxes β V' L (ae P f (aJ β xs) (V'.au (L.map (eZ st.boxes β V'.w.heap.size))) (cK T i v L t d l β st V' K')):=by
     intro i v t d l L hm h V' a;exact fB (λβ e=>ma (λ_ _=>rfl) (λM n=>n.s λ_ _ hle g=>vo hm a ((a.m (Br V' _)).m hle) M hk g) e) (h V' a)
    split at h
    ·exact h.elim
    ·exact h.elim
    ·split at h;{split at h;{exact h.elim};exact u (λk hk=>by cases hk) h};{rename_i d l k Z h2 y;split at h;{split at h;{exact h.elim};refine u (λj N=>?_) h<;>grind [gJ,cE.2,Cx]};split at h;{exact h.elim};split at h;{exact h.elim};exact λV' a=>fB (λβ e=>tC (λn=>n.s λ_ _ hle g=>vo (λk hk=>by cases hk) a (a.m hle) (λs r=>Å r ψ) hk g) e) (h V' a)};{split at h;{exact h.elim};exact λV' a=>fB (λβ e=>tC (λn=>n.s λ_ _ hle g=>Sh.s g λx c=>⟨c.1,hk _ _ (a.m hle) c.2⟩) e) (h V' a)};exact h.elim
    ·split at h;{exact λV' a=>fB (λβ e=>ma (λ_ _=>rfl) (λ_ n=>n.s λ_ _ hle g=>Sh.s g λx c=>⟨c.1,mS (p:=λ_=>none) (q:=ux) (W:=_) (λs r=>⟨rfl,r⟩) (λO _ _ y=>hk _ _ (((a.m (Br V' _)).m hle).m (Qo _)) y) c.2⟩) e) (h V' a)};{rename_i k Q;split at h;{split at h;{exact h.elim};refine u (λj N=>?_) h<;>grind [Vv]};exact h.elim};exact h.elim
    ·split at h;{exact h.elim};exact λV' a=>fB (λβ e=>tC (λn=>n.s λ_ _ hle g=>Sh.s g λx c=>⟨c.1,λJ=>hk _ _ (a.m hle) (c.2 J)⟩) e) (h V' a)
def sG {m:CM}{f:FuncId}{xs:zA SV}{ty:TypeId}{dst:Option Nat}{st:St}{V:un}{K u:St->un->Prop}(y:∀s V',V.Le V'->K s V'->u s V')(h:mC P T m f xs ty dst st V K):mC P T m f xs ty dst st V u:=by unfold mC at h ⊢;split at h;{grind [xI]};exact xI y h
def xH {m:CM}{o:Oper}{st:St}{V:un}{K y:St->un->Prop}(u:∀s V',V.Le V'->K s V'->y s V')(h:d_ P T m o st V K):d_ P T m o st V y:=by unfold d_ at h ⊢;split at h;{split at h;{split at h;{exact sG u h};{exact sG u h};exact h.elim};exact h.elim};{split at h;{split at h;{split at h;{exact sG u h};exact h.elim};exact h.elim};exact h.elim};exact W_ u h
def Mn {m:CM}{hi:ý}{o:Oper}{st:St}{V:un}{K u:St->un->Prop}(y:∀s V',V.Le V'->K s V'->u s V')(h:dU P T m hi o st V K):dU P T m hi o st V u:=by unfold dU at h ⊢;split at h;{exact xH y h};split at h;{split at h;{exact xH y h};exact h.elim};exact h.elim
def oS {m:CM}{hi:ý}{ops:Array Oper}{o:Oper}{st:St}{V:un}{K u:St->un->Prop}(y:∀s V',V.Le V'->K s V'->u s V')(h:xJ P T m hi ops o st V K):xJ P T m hi ops o st V u:=by rw [Jx] at h ⊢;refine sI (λs w a=>?_) h;(cases w with|true=>exact Mn y a|false=>exact y _ _ (Ó.Le.refl V) a)
def Vs (LF RF:List Nat)(m:CM)(o:Oper):Prop:=
 rS (bM LF RF o.op)=true\/(bM LF RF o.op=.call/\m=.none)\/((bM LF RF o.op=.oG/\m=.au)\/(bM LF RF o.op=.give/\m=.give)\/bM LF RF o.op=.app)
def VQ {m:CM}{h:ý}{ops:Array Oper}{o:Oper}{st:St}{V:un}{R W:zA Nat}(y:rS (bM LF RF o.op)=true)(hrw:xo (bM LF RF o.op) h (fS o)=some (R,W))(u:xJ P T m h ops o st V λ_ _=>False):False:=by rw [Jx] at u;have ⟨p,w,a⟩:=iK u;have:=a.next;(cases w with|true=>{have ⟨p,q,b⟩:=tB y hrw this;exact b.next}|false=>exact this)
def zP {ops:Array Oper}{z E:ý}{u y:Oper}(hi:ğ LF RF ops z E u y=true):rS (bM LF RF u.op)=true/\(∃R W,xo (bM LF RF u.op) z (fS u)=some (R,W))/\∃R W,xo (bM LF RF y.op) E (fS y)=some (R,W):=by unfold ğ at hi;simp only [Č] at hi;obtain ⟨⟨⟨⟨⟨b,-⟩,-⟩,-⟩,-⟩,a⟩:=hi;split at a;{grind};cases a
def SL {ops:Array Oper}{i:Nat}{o:Oper}(u:ops[i]?=some o){h:ý}{R W:zA Nat}(hrw:xo (bM LF RF o.op) h (fS o)=some (R,W)):Vs LF RF (nI LF RF ops i) o:=by unfold Vs nI;rw [u];dsimp only;generalize bM LF RF o.op=c at hrw;(cases c with|odd=>{cases h<;>cases hrw}|kL=>{cases h<;>cases hrw}|call=>exact .inr (.inl ⟨rfl,rfl⟩)|oG=>exact .inr (.inr (.inl ⟨rfl,rfl⟩))|give=>exact .inr (.inr (.inr (.inl ⟨rfl,rfl⟩)))|app=>exact .inr (.inr (.inr (.inr rfl)))|_=>exact .inl rfl)
section
variable{ops:Array Oper}{hint:Nat->ý}{anc:Nat->Nat->Prop}{K:St->Ó->Prop}
def Mm (hA:∀j o,ops[j]?=some o->∀i,anc j i->∃e∈o.after,Region.binds .any e=true/\(e.on=i\/anc e.on i)){i:Nat}{N:Oper}(hi:ops[i]?=some N):∀(fuel:Nat)(listed:Array ut)(st:St)(V:un),(∀j,listed.getD j false=true->∀k,anc j k->listed.getD k false=true) ->(∀j M,ops[j]?=some M->j≠i->listed.getD j true=false->¬anc j i->ğ LF RF ops (hint i) (hint j) N M=true)->i∈Region.ready .any ops listed ->(xJ P T (nI LF RF ops i) (hint i) ops N st V λO V'=>HE P T (nI LF RF ops) hint ops fuel (listed.setIfInBounds i true) O V' K) ->HE P T (nI LF RF ops) hint ops (fuel+1) listed st V K:=by
 have x:∀(listed:Array ut)(j:Nat),(∀j,listed.getD j false=true->∀k,anc j k->listed.getD k false=true)->i∈Region.ready .any ops listed->j∈Region.ready .any ops listed->¬anc j i:=by intro listed j g d f B;obtain ⟨p,-⟩:=mem_ready.1 d;have q:listed.getD i false=true->False:=χ;grind [mem_ready.1]
 intro fuel
 induction fuel with
 | zero=>
  intro listed st V g a d H;refine ⟨λh=>(by rw [h] at d;cases d),λj f o u=>?_⟩;by_cases b:j=i
  ·subst b;rw [hi] at u;cases u;exact H
  ·exfalso;have t:=a j o u b (mem_ready.1 f).1 (x listed j g d f);obtain ⟨y,⟨R,W,z⟩,-⟩:=zP t;refine VQ y z (oS (λs V' _ h=>?_) H);have:=ready_mono f b;rw [h.1] at this;cases this
 | succ fuel Z=>
  intro listed st V g a d H;refine ⟨λh=>(by rw [h] at d;cases d),λj f M c=>?_⟩;by_cases b:j=i
  ·subst b;rw [hi] at c;cases c;exact H
  ·have r:=x listed j g d f;have t:=a j M c b (mem_ready.1 f).1 r;obtain ⟨y,⟨R,W,z⟩,F,G,C⟩:=zP t;refine oS (λs V' _ h=>?_) (Y_ t (SL c C) (oS (λs V' _ h=>h.2 j (ready_mono f b) M c) H));obtain ⟨-,D,n,A⟩:=mem_ready.1 f;rw [c] at n;cases n;have E:j<ops.size:=χ;refine Z (listed.setIfInBounds j true) s V' ?_ ?_ (ready_mono d (Ne.symm b)) ?_;{intro k v l I;by_cases m:j=k;{grind [getD_set_true]};rw [getD_set_ne false m] at v;grind [getD_set_true]};{intro k ok v w p q;refine a k ok v w ?_ q;by_cases m:j=k;{subst m;exact (mem_ready.1 f).1};rw [getD_set_ne true m] at p;exact p};grind [Array.setIfInBounds_comm]
def Rd (hA:∀j o,ops[j]?=some o->∀i,anc j i->∃e∈o.after,Region.binds .any e=true/\(e.on=i\/anc e.on i)):∀(l done:zA Nat)(listed:Array ut)(st:St)(V:un),listed.size=ops.size->(∀j,listed.getD j false=jm j done)->(∀j,j<ops.size->j∈done\/j∈l) ->(∀j,listed.getD j false=true->∀k,anc j k->listed.getD k false=true)->w_ ops done l=true ->(∀i r1 r2,l=r1++i::r2->∀j∈r2,anc j i\/∃a b,ops[i]?=some a/\ops[j]?=some b/\ğ LF RF ops (hint i) (hint j) a b=true) ->W9 P T (nI LF RF ops) hint ops l st V K->HE P T (nI LF RF ops) hint ops l.length listed st V K
 | [],done,listed,st,V,Z,hrel,YA,_,_,_,hv=>by
  refine ⟨?_,hv⟩
  cases hr:Region.ready .any ops listed with
  | nil=>rfl
  | cons x xs=>
   exfalso;have hx:x∈Region.ready .any ops listed:=by rw [hr];simp
   obtain ⟨w,o,M,-⟩:=mem_ready.1 hx
   have y:x<ops.size:=by
    rcases ē x ops.size with f|f
    ·exact f
    ·rw [Qp2 f] at M;cases M
   rcases YA x y with h|h
   ·have m:=hrel x;rw [dX.2 h] at m;simp [Z,y] at w m;rw [w] at m;cases m
   ·cases h
 | i::r,done,listed,st,V,Z,hrel,YA,hcl,n,hpair,hv=>by
  simp only [w_,Č] at n;obtain ⟨z,n⟩:=n;unfold OR at z;split at z
  ·rename_i H c;simp only [Č,Į,ħ,Qf9] at z;obtain ⟨A,B⟩:=z;have C:i<ops.size:=by{rcases ē i ops.size with f|f;{exact f};rw [Qp2 f] at c;cases c};have d:∀e∈H.after,Region.binds .any e=true->listed.getD e.on false=true:=by{intro e he u;rw [hrel];rcases B e (by simpa using he) with h|h;{rw [u] at h;cases h};exact h};have p:i∈Region.ready .any ops listed:=by{refine mem_ready.2 ⟨?_,H,c,d⟩;have:=hrel i;rw [A] at this;simp [Z,C] at this ⊢;exact this};have D:∀j,(listed.setIfInBounds i true).getD j false=true->∀k,anc j k->(listed.setIfInBounds i true).getD k false=true:=by{intro k N l O;by_cases E:i=k;{subst E;have ⟨e,he,u,h⟩:=hA i H c l O;have w:=d e he u;rcases h with h|h;{rw [<-h];exact getD_set_true w};exact getD_set_true (hcl _ w l h)};rw [getD_set_ne false E] at N;exact getD_set_true (hcl k N l O)};refine Mm hA c r.length listed st V hcl (λj S q g F I=>?_) p ?_;{have G:j<ops.size:=by{rcases ē j ops.size with f|f;{exact f};rw [Qp2 f] at q;cases q};have J:j∈r:=by{rcases YA j G with h|h;{exfalso;have m:=hrel j;rw [dX.2 h] at m;simp [Z,G] at F m;rw [F] at m;cases m};rcases ç.1 h with h|h;{exact Å h g};exact h};rcases hpair i [] r rfl j J with h|⟨a,b,Q,u,h⟩;{exact Å h I};rw [c] at Q;rw [q] at u;cases Q;cases u;exact h};simp only [W9,c] at hv;have t:∀s v,W9 P T (nI LF RF ops) hint ops r s v K->HE P T (nI LF RF ops) hint ops r.length (listed.setIfInBounds i true) s v K:=by{intro s v R;refine Rd hA r (i::done) (listed.setIfInBounds i true) s v (by simp [Z]) ?_ ?_ D n (λk r1 r2 e j L=>hpair k (i::r1) r2 (by rw [e];rfl) j L) R;{intro j;by_cases g:i=j;{subst g;simp [jm,Qb8,Z,C]};rw [getD_set_ne false g,hrel j];simp [jm,iC (Ne.symm g)]};intro j L;rcases YA j L with h|h;{exact .inl (by simp [h])};rcases ç.1 h with h|h;{exact .inl (by simp [h])};exact .inr h};exact oS (λs v _ h=>t s v h) hv
  ·cases z
end
def TY {m i:Nat}:bitB m i=true↔m.testBit i=true:=by unfold bitB;rw [beq_eq,Qg8,decide_eq_true_iff];show Nat.land (m >>> i) 1=1↔_;rw [show Nat.land (m >>> i) 1=(m >>> i) &&& 1 from rfl,Nat.and_one_is_mod,Nat.shiftRight_eq_div_pow]
def XO (acc:List Nat)(o:Oper):Nat:=o.after.toList.foldl (λs e=>cond (Region.binds .any e) (Nat.lor (Nat.lor (Nat.shiftLeft 1 e.on) (acc.getD e.on 0)) s) s) 0
def Kc {acc:zA Nat}{i:Nat}:∀(es:zA Edge)(s:Nat),(es.foldl (λs e=>cond (Region.binds .any e) (Nat.lor (Nat.lor (Nat.shiftLeft 1 e.on) (acc.getD e.on 0)) s) s) s).testBit i=true ->s.testBit i=true\/∃e∈es,Region.binds .any e=true/\(e.on=i\/(acc.getD e.on 0).testBit i=true)
 | [],s,h=>.inl h
 | e::r,s,h=>by
  simp only [Ť] at h;rcases Kc r _ h with u|⟨z,u,E,F⟩
  ·cases y:Region.binds .any e with
   | false=>rw [y] at u;exact .inl u
   | true=>
    rw [y] at u;simp only [cond_true] at u;have u:(((1 <<< e.on) ||| (acc.getD e.on 0)) ||| s).testBit i=true:=u;grind [Nat.shiftLeft_eq]
  grind
def Ge:∀(l:zA Oper)(acc:zA Nat),∃ext,l.foldl (λacc o=>acc++[XO acc o]) acc=acc++ext/\∀k o,l[k]?=some o->∃pre suf,ext=pre++suf/\ext.getD k 0=XO (acc++pre) o
 | [],acc=>⟨[],ψ,λk o h=>by simp at h⟩
 | o::r,acc=>by
  have ⟨ext,u,y⟩:=Ge r (acc++[XO acc o]);refine ⟨XO acc o::ext,by simp [u],λk a h=>?_⟩
  cases k with
  | zero=>
   simp at h;subst h;exact ⟨[],_,rfl,ψ⟩
  | succ k=>grind
def Ns {ops:zA Oper}(j:Nat)(o:Oper)(u:ops[j]?=some o):∀i,((TL ops).getD j 0).testBit i=true->∃e∈o.after,Region.binds .any e=true/\(e.on=i\/((TL ops).getD e.on 0).testBit i=true):=by intro i b;have ⟨ext,c,d⟩:=Ge ops [];have he:=(show TL ops=[]++ext from c).m (Œ _);have ⟨pre,f,g,k⟩:=d j o u;rw [he,k] at b;rcases Kc _ _ b with h|⟨e,l,m,a⟩;{simp at h};refine ⟨e,by simpa using l,m,?_⟩;rcases a with a|a;{exact .inl a};right;simp only [Œ] at a;rw [he,g];rcases ē e.on pre.length with n|n<;>grind
def Dd {ops:Array Oper}{E:zA ý}{F:zA Nat}:∀{l:zA Nat},Bt LF RF ops E F l=true->∀i u z,l=u++i::z->∀j∈z,(F.getD j 0).testBit i=true\/∃a b,ops[i]?=some a/\ops[j]?=some b/\ğ LF RF ops (E.getD i .free) (E.getD j .free) a b=true
 | [],_,i,u,z,e,_,_=>by simp at e
 | x::l,h,i,u,z,e,j,M=>by
  simp only [Bt,Č,ħ] at h
  cases u with
  | nil=>grind [TY.1]
  | cons y u=>
   simp at e;exact Dd h.2 i u z e.2 j M
def O_ {m:Nat->CM}{hint:Nat->ý}{ops:Array Oper}:∀{l:zA Nat} {st:St} {V:un} {K u:St->un->Prop},(∀s V',V.Le V'->K s V'->u s V')->W9 P T m hint ops l st V K->W9 P T m hint ops l st V u
 | [],_,V,_,_,y,h=>y _ _ (Ó.Le.refl V) h
 | i::r,st,V,K,u,y,h=>by
  simp only [W9] at h ⊢;split at h
  ·exact oS (λs V' hle h=>O_ (λs z hle' h=>y s z (hle.m hle') h) h) h
  ·exact h.elim
def xg {st:St}{β:Nat->Nat}{a:Act}{w:World}{V:un}(hT:eA.ok P T)(hmx:P.follows .mixedOrders=true)(E:ß n V0 bU β0 st β a w V){id:Nat}{ops:Array Oper}{draw:ut}(F:∀(i:Nat)(o:Oper),ops[i]?=some o->∀d,o.dst=some d->d<n){Q:Exit->Act->World->Prop}{K:Exit->St->un->Prop}(y:Mo P T LF RF ops draw st V (K .normal))(M:∀u β' z w' V',ß n V0 bU β0 u β' z w' V'->V.Le V'->K .normal u V'->Q .normal z w'):(Code.region id ops draw).wp P Q a w:=by
 cases draw with
 | false=>
  simp only [Mo] at y;exact wp_region (Hg (K:=λs V'=>V.Le V'/\K .normal s V') hT F (λu β' z w' V' b h=>M u β' z w' V' b h.1 h.2) _ st β a w V E (O_ (λs V' hle h=>⟨hle,h⟩) y))
 | true=>
  simp only [Mo] at y;split at y
  ·rename_i e;simp only [QA,Č,ħ,Wq0] at e;obtain ⟨⟨⟨f,g⟩,k⟩,l⟩:=e;refine wp_region_any hmx ?_
   have:=Rd (P:=P) (T:=T) (LF:=LF) (RF:=RF) (ops:=ops) (hint:=λi=>(ops.toList.map (UX LF RF st ops.toList)).getD i .free) (anc:=λj i=>((TL ops.toList).getD j 0).testBit i=true) (K:=λs V'=>V.Le V'/\K .normal s V')
    (λj o e=>Ns j o (by simpa using e)) (vB LF RF ops) [] (Array.replicate ops.size false) st V ψ (λj=>by
     simp only [jm,Array.getD];split<;>simp) (λj c=>.inr (dX.1 (g j c))) (λj c=>by
     exfalso;simp only [Array.getD] at c;split at c<;>simp at c) k (Dd l) (O_ (λs V' hle h=>⟨hle,h⟩) y)
   rw [beq_eq.1 f] at this;exact Ac hT F (λu β' z w' V' b h=>M u β' z w' V' b h.1 h.2) _ _ _ β _ _ _ E.drew this
  ·exact y.elim
end
section
variable{P:Program}{T:eA}{LF RF:List Nat}{n:Nat}{V0:Ó}{bU:Nl}{β0:Nat->Nat}{β:Nat->Nat}
def c_ {c:ut}{l:zA Prop}(h:∀p∈(cond c l [False]),p):c=true/\∀p∈l,p:=by (cases c with|true=>exact ⟨rfl,h⟩|false=>{exact (h False ψ).elim})
def GX {ρ:zA (Nat×Nat)}{β β':Nat->Nat}:∀{ss ts:zA Nat},(∀s'∈ts,∀s,u_ ρ s s'=true->β' s'=β s)->GW ρ ss ts=true->ss.map β=ts.map β'
 | [],[],_,_=>rfl
 | s::r,s'::r',hβ,h=>by
  simp only [GW,Č] at h;simp only [Ĺ];rw [hβ s' ψ s h.1,GX (λu hu=>hβ u (by simp [hu])) h.2]
 | [],_::_,_,h=>by simp [GW] at h
 | _::_,[],_,h=>by simp [GW] at h
def P9 {ρ:zA (Nat×Nat)}{β β':Nat->Nat}{a b:C}(hβ:∀s'∈b.ids,∀s,u_ ρ s s'=true->β' s'=β s)(h:∀p∈eqC ρ a b,p):a.den β=b.den β':=by unfold eqC at h;split at h;{have ⟨d,i⟩:=c_ h;have:=G9 d;have:=i _ (õ.2 rfl);subst_vars;rfl};{have:=h _ (õ.2 rfl);subst this;rfl};{have:=h _ (õ.2 rfl);subst this;rfl};{have:=h _ (õ.2 rfl);subst this;rfl};{rename_i a n c r j k;have d:=h (a=r) ψ;have i:=h (n=j) ψ;have l:=h (c=k) ψ;subst d i l;rfl};{rename_i a n c s' j k;have d:=h (a=none) ψ;have i:=h (n=j) ψ;have l:=h (c=k) ψ;have t:=h (c=0) ψ;subst d i l t;rfl};{have:=h _ (õ.2 rfl);subst this;rfl};{have:=h _ (õ.2 rfl);subst this;rfl};{have:=h _ (õ.2 rfl);subst this;rfl};{have:=h _ (õ.2 rfl);subst this;rfl};{have:=h _ (õ.2 rfl);subst this;rfl};{rfl};{rfl};{rename_i s o s' q;have ⟨d,i⟩:=c_ h;have e:=hβ s' (by simp [C.ids]) s d;have:=i (o=q) ψ;subst_vars;simp only [C.den,e]};{rename_i s o n c s' q j k;have ⟨m,h⟩:=c_ h;have e:=hβ s' (by simp [C.ids]) s m;have d:=h (o=q) ψ;have i:=h (n=j) ψ;have l:=h (c=k) ψ;grind [C.den]};{rename_i s o n c s' j k;have ⟨m,h⟩:=c_ h;have e:=hβ s' (by simp [C.ids]) s m;have d:=h (o=0) ψ;have i:=h (n=j) ψ;have l:=h (c=k) ψ;subst d i l;simp only [C.den,e,mA,(h (c≠0) ψ),Ð]};{rename_i s n c s' j k;have ⟨m,h⟩:=c_ h;have e:=hβ s' (by simp [C.ids]) s m;have i:=h (n=j) ψ;have l:=h (c=k) ψ;subst_vars;simp only [C.den,e]};{rename_i f u g ts;have ⟨m,h⟩:=c_ h;have d:=h (f=g) ψ;subst d;have v:(u.map λs=>Value.pointer (some ⟨β s,0,none⟩))=ts.map λs=>Value.pointer (some ⟨β' s,0,none⟩):=by{have:=Æ (List.map λb=>Value.pointer (some ⟨b,0,none⟩)) (GX (β:=β) (β':=β') (ts:=ts) (λs' w=>hβ s' w) m);grind [Function.comp_def]};simp only [C.den,v]};{rename_i f x g ws;have d:=h (f=g) ψ;have i:=h (x=ws) ψ;subst d i;rfl};exact (h False ψ).elim
def Ct {ρ:zA (Nat×Nat)}{β β':Nat->Nat}:∀{l m:zA C},(∀s'∈m.flatMap C.ids,∀s,u_ ρ s s'=true->β' s'=β s)->(∀p∈NY ρ l m,p)->l.map (C.den β)=m.map (C.den β')
 | [],[],_,_=>rfl
 | a::r,b::s,hβ,h=>by
  simp only [NY,ü] at h;simp only [Ĺ];rw [P9 (λu hu=>hβ u (by simp [hu])) λp y=>h p (.inl y),Ct (λu hu=>hβ u (by rw [Ġ];exact ĝ _ hu)) λp y=>h p (.inr y)]
 | [],_::_,_,h=>(h False (by simp [NY])).elim
 | _::_,[],_,h=>(h False (by simp [NY])).elim
def UG {ρ:zA (Nat×Nat)}{β β':Nat->Nat}{a b:SV}(hβ:∀s'∈b.ids,∀s,u_ ρ s s'=true->β' s'=β s)(h:∀p∈eqSV ρ a b,p):a.den β=b.den β':=by unfold eqSV at h;split at h;{exact P9 hβ h};{simp only [SV.den];rw [Ct hβ h]};exact (h False ψ).elim
def Sg {ρ:zA (Nat×Nat)}{β β':Nat->Nat}{a b:aZ}(hβ:∀s'∈b.cs.ids,∀s,u_ ρ s s'=true->β' s'=β s)(h:∀p∈UF ρ a b,p):a.obj β=b.obj β'/\(b.live->a.live):=by unfold UF at h;obtain ⟨ac,at'⟩:=a;obtain ⟨f,g⟩:=b;dsimp only at h;split at h;{have ⟨d,c⟩:=c_ h;simp only [aZ.obj,æ.den];rw [Ct hβ c,beq_eq.1 d];grind [dP]};{have ⟨d,c⟩:=c_ h;have:=c _ (õ.2 rfl);grind [aZ.obj,æ.den,beq_eq.1]};{have ⟨d,c⟩:=c_ h;have:=c _ (õ.2 rfl);grind [aZ.obj,æ.den,beq_eq.1]};{have ⟨d,c⟩:=c_ h;have:=c _ (õ.2 rfl);grind [aZ.obj,æ.den,beq_eq.1,dQ]};{split at h;{rename_i ws e;have ⟨d,c⟩:=c_ h;have:=c _ (õ.2 rfl);grind [aZ.obj,æ.den,gO,beq_eq.1,dP]};exact (h False ψ).elim};{split at h;{rename_i ws e;have ⟨d,c⟩:=c_ h;have:=c _ (õ.2 rfl);grind [aZ.obj,æ.den,gO,beq_eq.1,dP]};exact (h False ψ).elim};exact (h False ψ).elim
def cV {α:Type}:∀{l:zA (Nat×α)} {t:Nat} {x:α},aI l t=some x->(t,x)∈l
 | [],_,_,h=>by cases h
 | (s,y)::r,t,x,h=>by
  simp only [aI] at h;by_cases e:t=s
  ·subst e;rw [Qb8] at h;cases h;simp
  ·rw [iC e] at h;exact ø _ (cV h)
def iR {α:Type}:∀{l:zA (Nat×α)} {t:Nat},t∈l.map (·.1)->∃x,aI l t=some x
 | [],_,h=>by simp at h
 | (s,y)::r,t,h=>by
  simp only [aI];by_cases e:t=s
  ·subst e;rw [Qb8];exact ⟨_,rfl⟩
  ·rw [iC e];exact iR (by simpa [e] using h)
def G0 {ρ:zA (Nat×Nat)}{β β':Nat->Nat}{st:St}:∀{l:zA (Nat×SV)},(∀t x,(t,x)∈l->∀s'∈x.ids,∀s,u_ ρ s s'=true->β' s'=β s)->(∀p∈Yn ρ st l,p)->∀t x,(t,x)∈l->∃y,st.aF t=some y/\y.den β=x.den β'
 | [],_,_,_,_,h=>nomatch h
 | (s,z)::r,hβ,h,t,x,hm=>by
  simp only [Yn] at h;split at h
  ·rename_i y E;simp only [ü] at h;rcases ç.1 hm with e|hm
   ·cases e;exact ⟨y,E,UG (hβ _ _ ą) λp u=>h p (.inl u)⟩
   ·exact G0 (λt x h=>hβ t x (by simp [h])) (λp u=>h p (.inr u)) t x hm
  ·exact (h False ψ).elim
def GZ {ρ:zA (Nat×Nat)}{β β':Nat->Nat}{st:St}:∀{l:zA (Nat×aZ)},(∀t x,(t,x)∈l->∀s'∈x.cs.ids,∀s,u_ ρ s s'=true->β' s'=β s)->(∀p∈Sk ρ st l,p)->∀t x,(t,x)∈l->x.live ->t∈rV ρ l/\∃y,st.boxes (LS ρ t)=some y/\y.obj β=x.obj β'/\y.live
 | [],_,_,_,_,h,_=>nomatch h
 | (s,z)::r,hβ,h,t,x,hm,u=>by
  have hβr:∀t x,(t,x)∈r->∀s'∈x.cs.ids,∀s,u_ ρ s s'=true->β' s'=β s:=λt x h=>hβ t x (by simp [h])
  have tail:(∀p∈Sk ρ st r,p)->(t,x)∈r->t∈rV ρ ((s,z)::r)/\∃y,st.boxes (LS ρ t)=some y/\y.obj β=x.obj β'/\y.live:=by
   intro h hm;have ⟨c,a⟩:=GZ hβr h t x hm u;refine ⟨?_,a⟩;unfold rV;grind
  simp only [Sk] at h;split at h
  ·rename_i d b f;rcases ç.1 hm with e|hm;{cases e;have:=h (d=[]) ψ;subst this;exact Å (u [] b) ψ};grind
  ·rename_i g;split at h;{rename_i y i;simp only [ü] at h;rcases ç.1 hm with e|hm;{cases e;have ⟨c,a⟩:=Sg (hβ _ _ ą) λp j=>h p (.inl j);refine ⟨?_,y,i,c,a u⟩;unfold rV;grind};grind};exact (h False ψ).elim
def LU {ρ:zA (Nat×Nat)}:∀{l:zA (Nat×aZ)} {t:Nat} {x:aZ},(t,x)∈l->(∃s,aI ρ t=some s)->t∈rV ρ l
 | [],_,_,h,_=>nomatch h
 | (s,z)::r,t,x,hm,u=>by
  rcases ç.1 hm with e|hm
  ·cases e;unfold rV;grind
  ·have:=LU hm u;unfold rV;grind
def Dp {ρ:zA (Nat×Nat)}:∀{l:zA Nat},Hm ρ l=true->(∀t∈l,(t<100000↔LS ρ t<100000)/\(100000<=t->t<200000->LS ρ t=t))/\∀t∈l,∀t'∈l,LS ρ t=LS ρ t'->t=t'
 | [],_=>⟨λt h=>(nomatch h),λt h=>(nomatch h)⟩
 | t::r,h=>by
  simp only [Hm,Č,ħ] at h;obtain ⟨⟨⟨z,u⟩,E⟩,y⟩:=h;have ⟨i1,i2⟩:=Dp y;have c:∀a b:Nat,Nat.blt a b=true↔a<b:=λa b=>by rw [Nat.blt_eq]
  have d:t<100000↔LS ρ t<100000:=χ
  have e:100000<=t->t<200000->LS ρ t=t:=by
   intro f g;simp only [Qf9] at u;rcases u with (u|u)|u
   ·rw [c] at u;omega
   ·have:=Ŕ u;omega
   ·exact beq_eq.1 u
  grind [Nat.beq_refl]
def DT {ss:zA (Nat×SV)}{u:zA (Nat×aZ)}(h:sE ss u=true):(∀t x,aI ss t=some x->∀s∈x.ids,∃b,aI u s=some b)/\(∀t x,aI u t=some x->∀s∈x.cs.ids,∃b,aI u s=some b):=by unfold sE at h;simp only [Č,ħ] at h;refine ⟨λt x a s c=>iR (dX.1 (h.1 _ (cV a) s c)),λt x a s c=>iR (dX.1 (h.2 _ (cV a) s c))⟩
def Gc:∀{l:zA Prop},allL l->∀p∈l,p
 | [],_,_,h=>nomatch h
 | [q],h,p,u=>by rw [õ.1 u];exact h
 | q::r::s,h,p,u=>by
  rcases ç.1 u with e|e
  ·rw [e];exact h.1
  ·exact Gc h.2 p e
theorem lT {st:St}{a:Act}{w:World}{V:un}(Z:ß n V0 bU β0 st β a w V){A:Ann}{x:A.τ}{k:Prop}(ht:sE (A.aF x) (A.boxes x)=true)(h:A.fits st x k):(∃β',ß n V0 bU β0 (A.st x) β' a w V)/\k:=by unfold Ann.fits at h;dsimp only at h;generalize Wq st (A.aF x) (A.boxes x)=ρ at h;obtain ⟨o,F⟩:=h;refine ⟨?_,F⟩;replace o:=Gc o;have ⟨t1,t2⟩:=DT ht;have G:Hm ρ (rV ρ (A.boxes x))=true:=by{have:=λp q=>o p (ĝ _ q);unfold fitR at this;(cases hc:Hm ρ (rV ρ (A.boxes x)) with|true=>rfl|false=>{rw [hc] at this;exact (this False ψ).elim})};have ⟨O,P⟩:=Dp G;let β':Nat->Nat:=λt=>if t∈rV ρ (A.boxes x) then β (LS ρ t) else β t;have c:∀t,t∈rV ρ (A.boxes x)->β' t=β (LS ρ t):=λt h=>Ä h;have hβ:∀i,(∃b,aI (A.boxes x) i=some b)->∀s,u_ ρ s i=true->β' i=β s:=by{rintro i ⟨b,d⟩ s he;unfold u_ at he;split at he;{rename_i u hu;have e:=beq_eq.1 he;subst e;rw [c i (LU (cV d) ⟨_,hu⟩)];simp only [LS,hu]};rename_i hu;have e:=beq_eq.1 he;subst e;by_cases hm:s∈rV ρ (A.boxes x);{rw [c s hm];simp only [LS,hu]};exact Ã hm};have r:∀t y,(t,y)∈A.aF x->∀s∈y.ids,∃b,aI (A.boxes x) s=some b:=by{intro t y f s g;unfold sE at ht;simp only [Č,ħ] at ht;exact iR (dX.1 (ht.1 _ f s g))};have v:∀t y,(t,y)∈A.boxes x->∀s∈y.cs.ids,∃b,aI (A.boxes x) s=some b:=by{intro t y f s g;unfold sE at ht;simp only [Č,ħ] at ht;exact iR (dX.1 (ht.2 _ f s g))};have B:=GZ (ρ:=ρ) (β:=β) (β':=β') (st:=st) (l:=A.boxes x) (λt y f s g=>hβ s (v t y f s g)) λp q=>o p (Ĕ _ (ĝ _ q));refine ⟨β',Z.defers,Z.size,?_,t1,t2,?_,?_,Z.tK,?_,Z.ext,?_,?_,Z.nt,Z.small⟩;{intro t y f;obtain ⟨z,j,m⟩:=(G0 (ρ:=ρ) (β:=β) (β':=β') (st:=st) (l:=A.aF x) (λt y f s g=>hβ s (r t y f s g)) λp q=>o p (Ĕ _ (Ĕ _ q))) t y (cV f);rw [Z.aF t z j,m]};{intro s b d l;obtain ⟨C,z,j,m,D⟩:=B s b (cV d) l;rw [c s C,Z.boxes _ z j D,m]};{intro s i b H d l E I he;obtain ⟨C,z,j,m,D⟩:=B s b (cV d) l;obtain ⟨J,Q,K,L,M⟩:=B i H (cV E) I;grind [Z.inj]};{intro s b d l;obtain ⟨C,z,j,m,D⟩:=B s b (cV d) l;grind [Z.Ar]};{intro s b d l;obtain ⟨C,z,j,m,D⟩:=B s b (cV d) l;rw [c s C];refine (Z.own _ z j D).imp id λh=>⟨?_,h.2⟩<;>grind};intro s g;have ⟨N,R⟩:=Z.pf s g;refine ⟨N,?_⟩;by_cases hm:s∈rV ρ (A.boxes x)<;>grind
def NT (hT:eA.ok P T)(hmx:P.follows .mixedOrders=true){L J:J1}:∀(c:Code)(st:St)(β:Nat->Nat)(a:Act)(w:World)(V:un)(K:Exit->St->un->Prop)(Q:Exit->Act->World->Prop),ß n V0 bU β0 st β a w V->kv n c=true->vc P T LF RF L J c st V K->(∀e st' β' a' w' V',ß n V0 bU β0 st' β' a' w' V'->V.Le V'->K e st' V'->Q e a' w')->c.wp P Q a w:=by
 intro c
 induction c with
 | skip=>intro st β a w V K Q g _ f k;exact wp_skip (k _ _ _ _ _ _ g (Ó.Le.refl V) f)
 | region id ops draw=>
  intro st β a w V K Q g p f k
  have Z:∀(i:Nat)(o:Oper),ops[i]?=some o->∀d,o.dst=some d->d<n:=by intro i o ho d Z;simp only [kv,ħ] at p;grind [Nat.blt_eq]
  simp only [vc] at f;split at f
  ·have ⟨a0,V1,E,u,F⟩:=g.release f;exact xg hT hmx E Z F (λst' β' a' w' V' h hle r=>k _ _ _ _ _ _ h (u.m hle) r)
  ·rename_i A hA;obtain ⟨I,f,Y⟩:=f;have ⟨a0,V1,E,u,F⟩:=g.release f;refine xg (K:=λ_ s V'=>∃x,(A.at st).fits s x (I x V')) hT hmx E Z F (λst' β' a' w' V' h hle r=>?_);obtain ⟨x,v⟩:=r;have hinv:=v.2;have ⟨O,R⟩:=Y x V' (u.m hle) hinv;obtain ⟨β2,q⟩:=(lT h O v).1;exact k _ _ _ _ _ _ q (u.m hle) R
 | seq x y ihx ihy=>
  intro st β a w V K Q g p f k;simp only [kv,Č] at p;refine wp_seq (ihx st β a w V _ _ g p.1 f ?_);intro e st' β' a' w' V' h hle r
  cases e with
  | normal=>exact ihy st' β' a' w' V' K Q h p.2 r (λe s b a w C O R h3=>k e s b a w C O (hle.m R) h3)
  | _=>exact k _ _ _ _ _ _ h hle r
 | cond c x y ihx ihy=>
  intro st β a w V K Q g p f k;simp only [kv,Č] at p;simp only [vc] at f;split at f
  ·split at f;{rename_i z;exact wp_cond_true (g.eval z) (ihx st β a w V K Q g p.1 f k)};{rename_i z;exact wp_cond_false (g.eval z) (ihy st β a w V K Q g p.2 f k)};{rename_i t z;exact wp_cond_split (g.eval z) (λG=>ihx st β a w V K Q g p.1 (f.1 G) k) (λG=>ihy st β a w V K Q g p.2 (f.2 G) k)};exact f.elim
  ·rename_i A hA;split at f;{rename_i z;exact wp_cond_true (g.eval z) (ihx st β a w V K Q g p.1 f k)};{rename_i z;exact wp_cond_false (g.eval z) (ihy st β a w V K Q g p.2 f k)};{rename_i t z;obtain ⟨I,⟨hx,hy⟩,Y⟩:=f;have join:∀e st' β' a' w' V',ß n V0 bU β0 st' β' a' w' V'->V.Le V'->(match e with|.normal=>∃x,(A.at st).fits st' x (I x V')|e=>K e st' V')->Q e a' w':=by{intro e st' β' a' w' V' h hle r;(cases e with|normal=>{obtain ⟨x,v⟩:=r;have hinv:=v.2;grind [lT]}|_=>exact k _ _ _ _ _ _ h hle r)};exact wp_cond_split (g.eval z) (λG=>ihx st β a w V _ Q g p.1 (hx G) join) (λG=>ihy st β a w V _ Q g p.2 (hy G) join)};exact f.elim
 | block id x ih=>
  intro st β a w V K Q g p f k;simp only [vc] at f;split at f
  ·refine wp_block (ih st β a w V _ _ g p f ?_)<;>grind [Exit.inBlock,Nat.beq_refl,iC]
  ·rename_i A hA;obtain ⟨I,f,Y⟩:=f;refine wp_block (ih st β a w V _ _ g p f ?_);intro e st' β' a' w' V' h hle r;have join:(∃x,(A.at st).fits st' x (I x V'))->Q .normal a' w':=by{rintro ⟨x,v⟩;have hinv:=v.2;have ⟨O,R⟩:=Y x V' hle hinv;obtain ⟨β2,q⟩:=(lT h O v).1;exact k _ _ _ _ _ _ q hle R};grind [Exit.inBlock,Nat.beq_refl,iC]
 | loop x ih=>
  intro st β a w V K Q g p f k;simp only [vc] at f;split at f
  ·refine wp_loop_ghost (λm a w=>∃st β V',ß n V0 bU β0 st β a w V'/\V.Le V'/\unr (λst V K=>vc P T LF RF L J x st V K) m st V' K) 3 ⟨st,β,V,g,Ó.Le.refl V,f⟩ ?_;rintro m a w ⟨st',β',V',h,hle,hu⟩;(cases m with|zero=>exact hu.elim|succ m=>{refine ih st' β' a w V' _ _ h p hu ?_;intro e WO β'' S U C D j r;(cases e with|normal=>exact ⟨m,Nat.lt_succ_self m,WO,β'',C,D,hle.m j,r⟩|_=>exact k _ _ _ _ _ _ D (hle.m j) r)})
  ·rename_i A hA;split at f;{obtain ⟨I,ms,⟨N,B⟩,H⟩:=f;have W:=B.2;refine wp_loop_ghost (λm a w=>∃x β V',ß n V0 bU β0 ((A.at st).st x) β a w V'/\V.Le V'/\I x V'/\ms x=m) (ms N) ?_ ?_;{obtain ⟨β2,q⟩:=(lT g (H N V (Ó.Le.refl V) W).1 B).1;exact ⟨N,β2,V,q,Ó.Le.refl V,W,rfl⟩};rintro m a w ⟨x,β,V',h,hle,hinv,rfl⟩;refine ih ((A.at st).st x) β a w V' _ _ h p (H x V' hle hinv).2 ?_;intro e WO β'' S U C D j r;(cases e with|normal=>{obtain ⟨y,M,v⟩:=r;have X:=v.2;obtain ⟨β2,q⟩:=(lT D (H y C (hle.m j) X).1 v).1;exact ⟨ms y,M,y,β2,C,q,hle.m j,X,rfl⟩}|_=>exact k _ _ _ _ _ _ D (hle.m j) r)};obtain ⟨I,⟨N,k0,B⟩,H⟩:=f;have W:=B.2;refine wp_loop_ghost (λm a w=>∃x β V',ß n V0 bU β0 ((A.at st).st x) β a w V'/\V.Le V'/\I x m V') k0 ?_ ?_;{obtain ⟨β2,q⟩:=(lT g (H N k0 V (Ó.Le.refl V) W).1 B).1;exact ⟨N,β2,V,q,Ó.Le.refl V,W⟩};rintro m a w ⟨x,β,V',h,hle,hinv⟩;refine ih ((A.at st).st x) β a w V' _ _ h p (H x m V' hle hinv).2 ?_;intro e WO β'' S U C D j r;(cases e with|normal=>{obtain ⟨y,k',M,v⟩:=r;have X:=v.2;obtain ⟨β2,q⟩:=(lT D (H y k' C (hle.m j) X).1 v).1;exact ⟨k',M,y,β2,C,q,hle.m j,X⟩}|_=>exact k _ _ _ _ _ _ D (hle.m j) r)
 | exit id=>intro st β a w V K Q g _ f k;exact wp_exit (k _ _ _ _ _ _ g (Ó.Le.refl V) f)
 | scope x ih=>
  intro st β a w V K Q g p f k;simp only [vc] at f;refine wp_scope_straight (ih st β a w V _ _ g p f ?_);intro e st' β' a' w' V' h hle r
  cases e with
  | goto l=>exact r.elim
  | _=>exact k _ _ _ _ _ _ h hle r
 | label l=>intro st β a w V K Q g _ f k;exact wp_label (k _ _ _ _ _ _ g (Ó.Le.refl V) f)
 | ret=>intro st β a w V K Q g _ f k;exact wp_ret (k _ _ _ _ _ _ g (Ó.Le.refl V) f)
 | _=>intro st β a w V K Q g _ f k;exact f.elim
end
section
variable{P:Program}{T:eA}{LF RF:List Nat}{n:Nat}{V0:Ó}{bU:Nl}{β0:Nat->Nat}{β:Nat->Nat}{st:St}{a:Act}{w:World}{V:Ó}
def Zv (tmps:Array Value):ResultVar->Sem Value
 | .tmp t=>pure (tmps.getD t undef)
 | .cell c t=>do loadVar t (<-asAddr (tmps.getD c undef))
def OV (fn:Func)(tmps:Array um):results fn tmps=(do let vs <-fn.results.mapM (Zv tmps);pure (if h:vs.size=1 then vs[0] else .tuple vs)):=by unfold results;congr 1
def rW (hT:eA.ok P T)(u:ß n V0 bU β0 st β a w V):∀{l:zA ResultVar} {xs:zA SV},qh T st l=some xs ->(l.mapM (Zv a.tmps)).run P w=.ok (xs.map (SV.den β)) w/\∀x∈xs,Ē st x
 | [],xs,h=>by cases h;exact ⟨rfl,λx z=>nomatch z⟩
 | .tmp t::r,xs,h=>by
  simp only [qh] at h;split at h
  ·rename_i x l z E;cases h;have ⟨M,F⟩:=rW hT u E;refine ⟨?_,λy b=>?_⟩
   ·grind [Zv,Sem.run_bind,Sem.run_pure,Result.andThen_ok,u.aF]
   ·rcases ç.1 b with rfl|b
    ·exact u.EK t y z
    ·exact F y b
  ·cases h
 | .cell c t::r,xs,h=>by
  simp only [qh] at h;split at h
  ·rename_i s o i l z d E;split at h
   ·rename_i g x e;cases h;have ⟨M,F⟩:=rW hT u E;have ⟨f,j⟩:=Hi u (hT _ _ d) e;have k:(loadVar t ⟨β s,o,none⟩).run P w=.ok (x.den β) w:=f;refine ⟨?_,λy b=>?_⟩
    ·have m:a.tmps.getD c undef=.pointer (some ⟨β s,o,none⟩):=u.aF c _ z;have p:asAddr (.pointer (some ⟨β s,o,none⟩))=pure ⟨β s,o,none⟩:=rfl;grind [Zv,Sem.run_bind,Result.andThen_ok,Sem.run_pure]
    grind
   ·cases h
  ·cases h
def LV (hT:eA.ok P T)(u:ß n V0 bU β0 st β a w V){fn:Func}{xs:zA SV}(h:qh T st fn.results.toList=some xs):(results fn a.tmps).run P w=.ok (qg β xs) w/\∀x∈xs,Ē st x:=by
 have ⟨b,c⟩:=rW hT u h;refine ⟨?_,c⟩;rw [OV,Wy8];simp only [map_eq_pure_bind,bind_assoc,pure_bind,Sem.run_bind];rw [b];simp only [Result.andThen_ok,Sem.run_pure]
 match xs with
 | []=>simp [qg]
 | [x]=>simp [qg]
 | x::y::r=>simp [qg]
def T0 (β0:Nat->Nat)(s:Nat)(b:aZ):List (Nat×aZ)->Prop
 | []=>True
 | (t,b')::r=>wI (Tv b++Tv b') (β0 s≠β0 t)/\T0 β0 s b r
def XX (β0:Nat->Nat)(V:Ó):List (Nat×aZ)->Prop
 | []=>True
 | (s,b)::r=>(wI (Tv b) (V.w.heap[β0 s]?=some (b.obj β0))/\wI (Tv b) (V.X (β0 s)))/\T0 β0 s b r/\XX β0 V r
def uO {s:Nat}{b:aZ}:∀{r:zA (Nat×aZ)},T0 β0 s b r->∀t b',aI r t=some b'->b.live->b'.live->β0 s≠β0 t
 | [],_,_,_,h=>by cases h
 | (u,c)::r,h,t,b',y=>by
  simp only [aI] at y;by_cases e:t=u
  ·subst e;rw [Qb8] at y;cases y;have z:=h.1;grind [zO,kX.1]
  ·rw [iC e] at y;exact uO h.2 t b' y
def Gl:∀{u:zA (Nat×aZ)},XX β0 V u->(∀s b,aI u s=some b->b.live->V.w.heap[β0 s]?=some (b.obj β0)/\V.X (β0 s))/\∀s s' b b',aI u s=some b->b.live->aI u s'=some b'->b'.live->β0 s=β0 s'->s=s'
 | [],_=>⟨λs b h=>(by cases h),λs s' b b' h=>(by cases h)⟩
 | (s,b)::r,⟨E,y,z⟩=>by
  have ⟨g1,g2⟩:=Gl z;refine ⟨λt x h l=>?_,λt f x i a l c g he=>?_⟩
  ·simp only [aI] at h;grind [kX.1,iC]
  ·simp only [aI] at a c;by_cases e:t=s<;>by_cases d:f=s
   ·rw [e,d]
   ·subst e;rw [Qb8] at a;cases a;rw [iC d] at c;exact Å he (uO y f i c l g)
   ·subst d;rw [Qb8] at c;cases c;rw [iC e] at a;exact Å he.symm (uO y t x a g l)
   grind [iC]
def sf:∀{l:zA (Nat×SV)} {i:Nat},tE i l=true->∀t x,aI l t=some x->∃k,t=i+k/\l[k]?=some (t,x)
 | [],_,_,_,_,h=>by cases h
 | (j,y)::r,i,u,t,x,h=>by
  simp only [tE,Č] at u;obtain ⟨⟨z,-⟩,E⟩:=u;have z:=beq_eq.1 z;simp only [aI] at h;by_cases e:t=j
  ·subst e;rw [Qb8] at h;cases h;exact ⟨0,ω,rfl⟩
  ·rw [iC e] at h;have ⟨k,b,a⟩:=sf E t x h;exact ⟨k+1,ω,by simpa using a⟩
def yf {bx:Nat->Option aZ}{V':un}:∀{l:zA Nat} {k:Prop},TZ bx β V' l k->(∀s∈l,∀b,bx s=some b->b.live->V'.w.heap[β s]?=some (b.obj β))->(∀s∈l,∃b,bx s=some b/\b.live)/\k
 | [],_,h,_=>⟨λs y=>(nomatch y),h⟩
 | s::r,k,h,u=>by
  simp only [TZ] at h;split at h
  ·exact h.elim
  ·rename_i b hne z
   have lb:b.live:=by
    intro c e;obtain ⟨cs,ty⟩:=b;dsimp only at e;subst e;grind
   have ⟨d,f⟩:=yf (h (u s ψ b z lb)) λt a=>u t (ø _ a);grind
  ·exact h.elim
def G1:∀{u:zA (Nat×aZ)} {m:Nat} {b:aZ},(m,b)∈u->(∃vs,b.cs=.aH vs)\/m∈mF u
 | [],_,_,h=>nomatch h
 | (s,x)::r,m,b,h=>by
  rcases ç.1 h with e|h
  ·cases e;unfold mF;grind
  ·refine (G1 h).imp id λh=>?_;unfold mF;grind
def Cy:∀{u:zA (Nat×aZ)} {m:Nat},m∈mF u->m∈u.map (·.1)
 | [],_,h=>nomatch h
 | (s,x)::r,m,h=>by
  unfold mF at h;split at h
  ·exact ø _ (Cy h)
  ·rcases ç.1 h with rfl|h
   ·simp
   ·exact ø _ (Cy h)
def Hd {b:Nat}{k:Prop}:∀{u:zA (Nat×aZ)} {m:Nat} {vs:zA um} {ty:TypeId},(m,(⟨.aH vs,ty⟩:aZ))∈u->vs≠[]->b=β0 m->Vt u β0 b k
 | [],_,_,_,h,_,_=>nomatch h
 | (s,x)::r,m,vs,ty,h,y,he=>by
  rcases ç.1 h with e|h
  ·cases e;exact .inl ⟨y,he⟩
  ·have:=Hd (k:=k) h y he;unfold Vt;grind
def oJ {l m:zA Nat}{s:Nat}:s∈Ā l m↔s∈l/\s∉m:=by unfold Ā;grind [dX.2,dX.1]
def Rb {bx:Nat->Option aZ}{s:Nat}(h:z_ T bx s=false):s<100000:=by rcases ē s 100000 with g|g;{exact g};unfold z_ at h;grind [Nat.ble_eq]
def Hn {bs:zA (Nat×aZ)}(hT:eA.ok P T)(hM:ß n V0 ⟨mF bs,λb=>∃m b0,aI bs m=some b0/\b0.live/\b=β0 m⟩ β0 st β a w V){fn:Func}{R:um->un->Prop}(hv:QK T fn.results.toList bs β0 V0.w.heap.size R st V):∃v,(results fn a.tmps).run P w=.ok v w/\R v (V0.to w hM.ext.size):=by
 unfold QK at hv;split at hv
 ·exact hv.elim
 ·rename_i xs M;have ⟨h1,h2⟩:=LV hT hM M;dsimp only at hv;split at hv
  ·exact hv.elim
  ·rename_i D;generalize hL:ï st.boxes 3 (ô (xs.flatMap SV.ids++mF bs))=L at hv D
   have k:∀s,s∈xs.flatMap SV.ids\/s∈mF bs->s∈L:=λs c=>by rw [<-hL];exact gJ 3 _ s (cE.2 (ü.2 c))
   have hle:V.Le (V0.to w hM.ext.size):=by intro b o d;obtain ⟨B,C⟩:=hM.tK b o d;exact ⟨C,B⟩
   have γf:∀γ:Nat->Nat,γ=(λt=>if t∈Ā L (mF bs) then β t else β0 t)->(∀s∈L,γ s=β s)/\qg γ xs=qg β xs:=by
    intro γ hγ
    have f:∀s∈L,γ s=β s:=by intro s c;rw [hγ];by_cases d:s∈mF bs;{have:s∉Ā L (mF bs):=λh=>(oJ.1 h).2 d;simp only [this,Ð];exact (hM.pf s d).2.symm};grind [oJ.2]
    refine ⟨f,?_⟩;have i:∀x∈xs,x.den γ=x.den β:=λx i=>SV.bZ λs c=>f s (k s (.inl (č.2 ⟨x,i,c⟩)))
    match xs,i with
    | [],_=>rfl
    | [x],i=>exact i x ψ
    | x::y::r,i=>simp only [qg];rw [Ř i]
   have J:∀γ:Nat->Nat,(∀s∈L,γ s=β s)->∀s∈L,∀b,st.boxes s=some b->b.live->(V0.to w hM.ext.size).w.heap[γ s]?=some (b.obj γ):=by intro γ f s c b d l;rw [f s c,aZ.dK λt p=>f t (fR D c d t p)];exact hM.boxes s b d l
   have j:∀γ:Nat->Nat,(∀s∈L,γ s=β s)->∀s∈L,s<100000->∀b,st.boxes s=some b->b.live->(V0.to w hM.ext.size).bo (γ s) (b.obj γ):=by intro γ f s c E b d l;refine ⟨λhH=>?_,J γ f s c b d l⟩;have hH:=hH;rw [f s c] at hH;rcases hM.own s b d l with h|⟨h,-⟩;{have:=V0.hH _ hH;omega};omega
   split at hv
   ·rename_i K;have E:∀s∈Ā L (mF bs),s<100000:=by{intro s c;(cases p:z_ T st.boxes s with|false=>exact Rb p|true=>{have:s∈(Ā L (mF bs)).filter (z_ T st.boxes):=ń.2 ⟨c,p⟩;rw [K] at this;cases this})};have g:=jq (hv _ hle) β;generalize hγ:(λt=>if t∈Ā L (mF bs) then β t else β0 t)=γ at g;have ⟨f,F⟩:=γf γ hγ.symm;obtain ⟨-,q⟩:=yf g (λs c b d l=>J γ f s (k s (.inr c)) b d l);obtain ⟨-,G⟩:=jB q (λs c b d l=>j γ f s (oJ.1 c).1 (E s c) b d l);grind
   ·rename_i s K;split at hv
    ·rename_i b d
     have c:s∈Ā L (mF bs):=by have:s∈(Ā L (mF bs)).filter (z_ T st.boxes):=by{rw [K];simp};exact (ń.1 this).1
     have ⟨z,N⟩:=oJ.1 c;have g:=jq (hv (V0.to w hM.ext.size)) β;generalize hγ:(λt=>if t∈Ā L (mF bs) then β t else β0 t)=γ at g;have ⟨f,F⟩:=γf γ hγ.symm
     have H:V.Le ((V0.to w hM.ext.size).aY (gdP b) (γ s)):=by intro x o i;obtain ⟨B,C⟩:=hle x o i;refine ⟨λO=>?_,C⟩;rcases O with O|⟨X,e,-⟩;{exact B O};rw [f s z] at e;exact hM.Ar s b d (Yu.1 X) o (e▸i)
     have ⟨Y,q⟩:=yf (g H) (λs c b d l=>J γ f s (k s (.inr c)) b d l)
     have G:=q (kX.2 λl=>J γ f s z b d l) (kX.2 λl=>by
      rw [f s z];rcases hM.own s b d l with h|⟨-,m,b0,hm,Z,he⟩
      ·exact .inl h
      ·right;rcases G1 (cV hm) with ⟨vs,I⟩|A
       ·obtain ⟨cs,ty⟩:=b0;dsimp only at I;subst I;exact Hd (cV hm) (Z vs rfl) he
       ·exfalso;obtain ⟨b1,Q,l1⟩:=Y m A;have e:=(hM.pf m A).2;rw [<-e] at he;have:=hM.inj s m b b1 d l Q l1 he;exact N (this▸A))
     obtain ⟨-,a0⟩:=jB G (λu hu b' S l'=>by
      obtain ⟨B,C⟩:=ń.1 hu;have U:u≠s:=λe=>by subst e;rw [Qb8] at C;cases C
      have W:u<100000:=by (cases p:z_ T st.boxes u with|false=>exact Rb p|true=>{have:u∈(Ā L (mF bs)).filter (z_ T st.boxes):=ń.2 ⟨B,p⟩;rw [K] at this;exact Å (õ.1 this) U})
      exact j γ f u (oJ.1 B).1 W b' S l')
     grind
    ·exact hv.elim
   ·exact hv.elim
def UI (hT : eA.ok P T)(hmx : P.follows .mixedOrders=true){L J : J1}{f : FuncId}{fn : Func}(hf : P.funcs[f]? = some fn)(hn : (fn.name == "runtime.NumGoroutine")=false){ss:zA (Nat×SV)}{Z:zA (Nat×aZ)}{args:Array um}{R:um->un->Prop}(ha:args=(ss.map λx=>x.2.den β0).toArray)(hb:XX β0 V Z)(hv:Jw P T LF RF L J fn ss Z β0 V R):ae P f args V R:=by
 unfold Jw at hv;split at hv
 ·rename_i code c;split at hv
  ·rename_i z;simp only [Č,ħ,Nat.ble_eq] at z;obtain ⟨⟨⟨⟨⟨d,A⟩,hlen⟩,g⟩,B⟩,r⟩:=z
   have i:∀x∈Z,100000<=x.1/\x.1<200000:=λx n=>by
    obtain ⟨C,D⟩:=B x n;exact ⟨C,Ŕ D⟩
   refine ⟨⟨fn,hf,by rw [c];rfl,hn⟩,calls_of_wp hf c ?_⟩;obtain ⟨b1,b2⟩:=Gl hb;have ⟨t1,t2⟩:=DT r;have E:args.size=ss.length:=by rw [ha];simp
   have F:ß fn.ntmps V ⟨mF Z,λb=>∃m b0,aI Z m=some b0/\b0.live/\b=β0 m⟩ β0 ⟨aI ss,aI Z⟩ β0 { tmps:=args++Array.replicate (fn.ntmps-args.size) undef,defers:=[] } V.w V:=by
    refine ⟨rfl,by simp;omega,?_,t1,t2,λs b h l=>(b1 s b h l).1,λs G b H h l I K=>b2 s G b H h l I K,λb o h=>⟨h.2,h.1⟩,λs b h l o M=>M.1 (V.hX _ (b1 s b h l).2),kQ.refl _ _,?_,?_,?_,g⟩
    ·intro t x n;have ⟨k,p,j⟩:=sf A t x n;have q:k<ss.length:=χ
     have u:t=k:=ω
     subst u;have:args[t]?=some (x.den β0):=by rw [ha];simp [j]
     have y:t<args.size:=ω
     show (args++Array.replicate (fn.ntmps-args.size) undef).getD t undef=_;rw [Array.getD_eq_getD_getElem?,Array.getElem?_append_left y,this];rfl
    ·intro s b h l;exact .inr ⟨(i _ (cV h)).1,s,b,h,l,rfl⟩
    ·intro s N;obtain ⟨x,n,rfl⟩:=þ.1 (Cy N);grind
    grind
   refine NT hT hmx code _ β0 _ _ V _ _ F d hv ?_;intro e O β' Q S U a hle q
   cases e with
   | normal=>
    have ⟨v,p,j⟩:=Hn hT a q;exact ⟨a.defers,v,p,v,rfl,a.ext,j⟩
   | ret=>
    have ⟨v,p,j⟩:=Hn hT a q;exact ⟨a.defers,v,p,v,rfl,a.ext,j⟩
   | _=>exact q.elim
  ·exact hv.elim
 ·exact hv.elim
def bC (hT : eA.ok P T)(hmx : P.follows .mixedOrders=true)(L J : J1){f : FuncId}{fn : Func}(y : P.funcs[f]? = some fn)(z : (fn.name == "runtime.NumGoroutine")=false)(ss:zA (Nat×SV))(u:zA (Nat×aZ)){args:Array um}{R:um->un->Prop}(E:args=(ss.map λx=>x.2.den β0).toArray)(F:XX β0 V u){G:Prop}(h:G)(M:G=Jw P T LF RF L J fn ss u β0 V R):ae P f args V R:=by
 subst M;exact UI hT hmx y z E F h
def tabOk (h:T.map (λx=>pV P x.1)=T.map λx=>some x.2):eA.ok P T:=by intro t i a;have ⟨k,b⟩:=Qf3 (cV a);have:=Æ (λl=>l[k]?) h;grind
end
end Go.Eng
namespace Go.Proofs.Tryz
open Go.Eng
variable{l:List Value}
abbrev aR:List Nat:=[]
abbrev aa:C:=.v (.int Ŵ 0)
abbrev am:C:=.v (.slice none 0 0)
abbrev be:C:=.v (.pointer none)
abbrev bi:C:=.v (.int .u64 0)
abbrev bt:C:=.v (.nilFunc)
abbrev bv:C:=.v (.tuple #[.int Ŵ 0,.int Ŵ 0])
abbrev bA:C:=.v (.tuple #[.slice none 0 0,.slice none 0 0])
abbrev ce:C:=.v (.tuple #[.int Ŵ 0,.bool false])
abbrev ci:C:=.v (.tuple #[.slice none 0 0,.bool false])
abbrev cm:C:=.ff
abbrev dd(n e:Nat):Nat×TI:=(n,⟨.slice e,1,24,[am]⟩)
abbrev dg(n e:Nat):Nat×TI:=(n,⟨.ptr e,1,8,[be]⟩)
def tab:eA:=[(3,⟨.int Ŵ,1,8,[aa]⟩),(0,⟨.tuple [],1,0,[.v (.tuple #[])]⟩),(4,⟨.bool,1,1,[cm]⟩),(56,⟨.struct [(52,0),(50,2)],3,56,[cm,am,am]⟩),(111,⟨.struct [(2,0),(2,1),(109,2)],3,24,[aa,aa,be]⟩),(64,⟨.struct [(56,0),(56,3)],6,112,[cm,am,am,cm,am,am]⟩),(239,⟨.int .u64,1,8,[bi]⟩),dd 39 245,(127,⟨.struct [(111,0),(111,3),(111,6)],9,72,[aa,aa,be,aa,aa,be,aa,aa,be]⟩),(113,⟨.struct [(111,0),(111,3)],6,48,[aa,aa,be,aa,aa,be]⟩),(54,⟨.struct [(52,0),(52,2),(52,4)],6,96,[cm,am,cm,am,cm,am]⟩),(245,⟨.int .u32,1,4,[.v (.int .u32 0)]⟩),dd 50 245,(52,⟨.struct [(4,0),(50,1)],2,32,[cm,am]⟩),dd 184 113,(2,⟨.int Ŵ,1,8,[aa]⟩),(41,⟨.struct [(4,0),(39,1)],2,32,[cm,am]⟩),dd 157 127,dd 325 328,(328,⟨.struct [(111,0),(3,3),(3,4)],5,40,[aa,aa,be,aa,aa]⟩),(129,⟨.struct [(111,0),(111,3),(4,6),(4,7)],8,56,[aa,aa,be,aa,aa,be,cm,cm]⟩),dd 36 54,(58,⟨.struct [(56,0),(56,3),(4,6),(4,7)],8,120,[cm,am,am,cm,am,am,cm,cm]⟩),dg 25 88,(45,⟨.struct [(41,0),(39,2)],3,56,[cm,am,am]⟩),dd 96 131,(131,⟨.struct [(127,0),(129,9)],17,128,[aa,aa,be,aa,aa,be,aa,aa,be,aa,aa,be,aa,aa,be,cm,cm]⟩),dg 92 217,dd 144 64,(88,⟨.struct [(4,0),(4,1),(54,2),(25,8),(25,9)],10,120,[cm,cm,cm,am,cm,am,cm,am,be,be]⟩),(247,⟨.int .u64,1,8,[bi]⟩),dg 109 281,dd 38 245,dd 349 56,(43,⟨.struct [(41,0),(41,2),(41,4)],6,96,[cm,am,cm,am,cm,am]⟩),(47,⟨.struct [(45,0),(45,3),(4,6),(4,7)],8,120,[cm,am,am,cm,am,am,cm,cm]⟩),(60,⟨.struct [(54,0),(58,6)],14,216,[cm,am,cm,am,cm,am,cm,am,am,cm,am,am,cm,cm]⟩),dg 23 81,(33,⟨.iface,1,16,[.v (.nilIface)]⟩),(29,⟨.struct [(3,0),(27,1)],2,32,[aa,am]⟩),dd 209 60,(354,⟨.int .u64,1,8,[bi]⟩),(217,⟨.struct [(127,0),(92,9),(92,10),(4,11)],12,96,[aa,aa,be,aa,aa,be,aa,aa,be,be,be,cm]⟩),dd 310 58,(70,⟨.struct [(45,0),(45,3)],6,112,[cm,am,am,cm,am,am]⟩),(49,⟨.struct [(43,0),(47,6)],14,216,[cm,am,cm,am,cm,am,cm,am,am,cm,am,am,cm,cm]⟩),dd 27 154,(149,⟨.struct [(146,0),(3,1),(36,2)],3,56,[am,aa,am]⟩),dd 161 129,dd 160 129,(224,⟨.func,1,8,[bt]⟩),(255,⟨.func,1,8,[bt]⟩),(330,⟨.func,1,8,[bt]⟩),dd 146 144,dd 31 49,(315,⟨.int Ŵ,1,8,[aa]⟩),dd 22 3,dd 180 4,dg 358 3,(281,⟨.struct [(41,0),(39,2)],3,56,[cm,am,am]⟩),(182,⟨.struct [(27,0),(180,1),(3,2),(4,3)],4,64,[am,am,aa,cm]⟩),(154,⟨.struct [(43,0),(3,6),(3,7)],8,112,[cm,am,cm,am,cm,am,aa,aa]⟩),dd 275 92,(234,⟨.func,1,8,[bt]⟩),(81,⟨.struct [(22,0),(3,1)],2,32,[am,aa]⟩),(326,⟨.arr 2 3,2,16,[aa,aa]⟩),dd 151 213,dd 212 70,(285,⟨.arr 2 160,2,48,[am,am]⟩),(372,⟨.tuple [3,3],1,0,[bv]⟩),dg 179 182,(240,⟨.tuple [239,4],1,0,[.v (.tuple #[.int .u64 0,.bool false])]⟩),(309,⟨.arr 2 209,2,48,[am,am]⟩),(243,⟨.tuple [50,50],1,0,[bA]⟩),(5,⟨.int .u8,1,1,[.v (.int .u8 0)]⟩),(123,⟨.tuple [64,4],1,0,[.v (.tuple #[.agg #[.bool false,.slice none 0 0,.slice none 0 0,.bool false,.slice none 0 0,.slice none 0 0],.bool false])]⟩),(298,⟨.tuple [2,4],1,0,[ce]⟩),(99,⟨.tuple [54,4],1,0,[.v (.tuple #[.agg #[.bool false,.slice none 0 0,.bool false,.slice none 0 0,.bool false,.slice none 0 0],.bool false])]⟩),(9,⟨.str,1,16,[.v (.string ByteArray.empty)]⟩),(286,⟨.func,1,8,[bt]⟩),(67,⟨.tuple [3,33],1,0,[.v (.tuple #[.int Ŵ 0,.nilIface])]⟩),(197,⟨.tuple [129,4],1,0,[.v (.tuple #[.agg #[.int Ŵ 0,.int Ŵ 0,.pointer none,.int Ŵ 0,.int Ŵ 0,.pointer none,.bool false,.bool false],.bool false])]⟩),dd 213 70,dg 371 354,(400,⟨.struct [(9,0)],1,16,[.v (.string ByteArray.empty)]⟩),(90,⟨.tuple [27,3],1,0,[.v (.tuple #[.slice none 0 0,.int Ŵ 0])]⟩),(101,⟨.tuple [58,4],1,0,[.v (.tuple #[.agg #[.bool false,.slice none 0 0,.slice none 0 0,.bool false,.slice none 0 0,.slice none 0 0,.bool false,.bool false],.bool false])]⟩),(195,⟨.tuple [127,4],1,0,[.v (.tuple #[.agg #[.int Ŵ 0,.int Ŵ 0,.pointer none,.int Ŵ 0,.int Ŵ 0,.pointer none,.int Ŵ 0,.int Ŵ 0,.pointer none],.bool false])]⟩),(288,⟨.tuple [245,245],1,0,[.v (.tuple #[.int .u32 0,.int .u32 0])]⟩),(296,⟨.tuple [39,39,4],1,0,[.v (.tuple #[.slice none 0 0,.slice none 0 0,.bool false])]⟩),(316,⟨.tuple [3,315],1,0,[bv]⟩),(320,⟨.tuple [3,4],1,0,[ce]⟩),(34,⟨.tuple [31,33],1,0,[.v (.tuple #[.slice none 0 0,.nilIface])]⟩),(61,⟨.tuple [60,4],1,0,[.v (.tuple #[.agg #[.bool false,.slice none 0 0,.bool false,.slice none 0 0,.bool false,.slice none 0 0,.bool false,.slice none 0 0,.slice none 0 0,.bool false,.slice none 0 0,.slice none 0 0,.bool false,.bool false],.bool false])]⟩),(78,⟨.func,1,8,[bt]⟩),(106,⟨.tuple [92,4],1,0,[.v (.tuple #[.pointer none,.bool false])]⟩),(261,⟨.tuple [111,4],1,0,[.v (.tuple #[.agg #[.int Ŵ 0,.int Ŵ 0,.pointer none],.bool false])]⟩),(365,⟨.tuple [39,4],1,0,[ci]⟩),(222,⟨.func,1,8,[bt]⟩),(227,⟨.func,1,8,[bt]⟩),(257,⟨.func,1,8,[bt]⟩),(76,⟨.tuple [4,33],1,0,[.v (.tuple #[.bool false,.nilIface])]⟩),(93,⟨.tuple [92,33],1,0,[.v (.tuple #[.pointer none,.nilIface])]⟩),(132,⟨.tuple [131,4],1,0,[.v (.tuple #[.agg #[.int Ŵ 0,.int Ŵ 0,.pointer none,.int Ŵ 0,.int Ŵ 0,.pointer none,.int Ŵ 0,.int Ŵ 0,.pointer none,.int Ŵ 0,.int Ŵ 0,.pointer none,.int Ŵ 0,.int Ŵ 0,.pointer none,.bool false,.bool false],.bool false])]⟩),(187,⟨.tuple [4,4],1,0,[.v (.tuple #[.bool false,.bool false])]⟩),(205,⟨.tuple [36,4],1,0,[ci]⟩),(230,⟨.tuple [161,161],1,0,[bA]⟩),(270,⟨.tuple [209,209],1,0,[bA]⟩),(311,⟨.tuple [310,4],1,0,[ci]⟩),(344,⟨.tuple [39,245],1,0,[.v (.tuple #[.slice none 0 0,.int .u32 0])]⟩),(346,⟨.tuple [39,39],1,0,[bA]⟩),(362,⟨.tuple [239,239],1,0,[.v (.tuple #[.int .u64 0,.int .u64 0])]⟩),dg 383 400]
def tabD:eA:=tab++[
 (54,⟨.struct [(52,0),(52,2),(52,4)],6,96,[.ff,.v (.slice none 0 0),.ff,.v (.slice none 0 0),.ff,.v (.slice none 0 0)]⟩),
 (60,⟨.struct [(54,0),(58,6)],14,216,[.ff,.v (.slice none 0 0),.ff,.v (.slice none 0 0),.ff,.v (.slice none 0 0),.ff,.v (.slice none 0 0),.v (.slice none 0 0),.ff,.v (.slice none 0 0),.v (.slice none 0 0),.ff,.ff]⟩),
 (131,⟨.struct [(127,0),(129,9)],17,128,[.v (.int Ŵ 0),.v (.int Ŵ 0),.v (.pointer none),.v (.int Ŵ 0),.v (.int Ŵ 0),.v (.pointer none),.v (.int Ŵ 0),.v (.int Ŵ 0),.v (.pointer none),.v (.int Ŵ 0),.v (.int Ŵ 0),.v (.pointer none),.v (.int Ŵ 0),.v (.int Ŵ 0),.v (.pointer none),.ff,.ff]⟩)]
def ZR:eA.ok prog tabD:=tabOk ζ
def bX:eA.ok prog tab:=tabOk ζ
def Ĉ:prog.follows .mixedOrders=true:=ζ
abbrev VP:=Ó->Prop
abbrev qn:=Nat×Nat×List Value×Int
abbrev qr:=Int×Int×List Value
abbrev wd:=Int×List Value
abbrev wm:=Nat×Nat×List Value×Int×List Value
abbrev wt:=Bool×OA×Nat×Nat×OA×Nat×Nat×Bool×OA×Nat×Nat×OA×Nat×Nat×Bool×Bool
abbrev zg:=Int×Int
abbrev zh:=Int×Bool×OA×Nat×Nat×OA×Nat×Nat×Bool×OA×Nat×Nat×OA×Nat×Nat×Bool×Bool
abbrev km:=Nat×Nat×List Value×Bool×Int×List Value×Int×Int×OA×Int×Int×OA×Bool×Bool
abbrev kw:=Nat×Nat×List Value
abbrev jc:=Int×Nat×Nat×Nat×Nat×List Value×List Value
abbrev jp:=OA×Nat×Nat×OA×Nat×Nat
abbrev ve:=Nat×Nat×List Value×Int×Nat×Nat×Int×OA×Nat×Nat×List Value
abbrev vf:=Int×Bool×OA×Nat×Nat×OA×Nat×Nat
abbrev vn:=Nat×Nat×List Value×Nat×Nat×List Value
abbrev vz:=Nat×Nat×List Value×Int×OA×Nat×Nat×Int
abbrev qaa:=Nat×Nat×List Value×Nat×Nat×List Value×Int
abbrev qab:=Int×Int×OA×Int×Int×OA×Bool×Bool
abbrev qac:=OA×Nat×Nat×Int×List Value
abbrev qad:=Int×List Value×List Value
abbrev qae:=Nat×Nat×List Value×Int×Int×OA×Int×Int×OA×Bool×Bool
abbrev qaf:=OA×Nat×Nat×Bool×OA×Nat×Nat
abbrev qag:=Int×Int×Int×List Value
abbrev qah:=Nat×Nat×List Value×List Value
abbrev qai:=Nat×Nat×List Value×Int×Int
abbrev qaj:=Int×OA×Nat×Nat
abbrev qak:=OA×Nat×Nat×Int
abbrev qal:=Bool×Bool×Int
abbrev qam:=OA×Nat×Nat
abbrev qan:=Bool×Int
abbrev VR:=Value->VP
abbrev Rt (V:Ó)(R:VR)(x:Value):Prop:=∀v:Ó,V.Le v->R x v
section
variable{α0 α1 α2 α3 α4 α5 α6 α7 α8 α9 α10 α11:Type}(a:α0)(b:α1)(c:α2)(d:α3)(e:α4)(f:α5)(g:α6)(h:α7)(i:α8)(j:α9)(k:α10)(l:α11)(K:Prop)
abbrev s3:=sm a/\sm b/\sm c/\K
abbrev s4:=sm a/\sm b/\sm c/\sm d/\K
abbrev s5:=sm a/\sm b/\sm c/\sm d/\sm e/\K
abbrev s6:=sm a/\sm b/\sm c/\sm d/\sm e/\sm f/\K
abbrev s7:=sm a/\sm b/\sm c/\sm d/\sm e/\sm f/\sm g/\K
abbrev s8:=sm a/\sm b/\sm c/\sm d/\sm e/\sm f/\sm g/\sm h/\K
abbrev s9:=sm a/\sm b/\sm c/\sm d/\sm e/\sm f/\sm g/\sm h/\sm i/\K
abbrev zZ:=sm a/\sm b/\sm c/\sm d/\sm e/\sm f/\sm g/\sm h/\sm i/\sm j/\K
abbrev tR:=sm a/\sm b/\sm c/\sm d/\sm e/\sm f/\sm g/\sm h/\sm i/\sm j/\sm k/\K
abbrev aV:=sm a/\sm b/\sm c/\sm d/\sm e/\sm f/\sm g/\sm h/\sm i/\sm j/\sm k/\sm l/\K
end
section
variable(V:Ó)(f:Nat)(a:Array Value)
abbrev Ca(K:VR):=∀V1:Ó,V.Le V1->ae prog f a V1 K
def sV:Value->SV
  | .agg l=>.agg (l.toList.map C.v)
  | v=>.c (.v v)
def sA:Nat->List Value->List (Nat×SV)
  | _,[]=>[]
  | n,v::l=>(n,sV v)::sA (n+1) l
def fd {LF RF:zA Nat}(L K:J1){f:FuncId}{fn:Func}(u:prog.funcs[f]?=some fn){V:un}{R:VR}{G:Prop}(h:G)
 (y:(fn.name=="runtime.NumGoroutine")=false:=by kernel_rfl)(z:l.toArray=((sA 0 l).map λx=>x.2.den λ_=>0).toArray:=by kernel_rfl)
 (E:G=Jw prog tab LF RF L K fn (sA 0 l) [] (λ_=>0) V R:=by kernel_rfl):ae prog f l.toArray V R:=
  bC (LF:=LF) (RF:=RF) (β0:=λ_=>0) bX Ĉ L K u y (sA 0 l) [] z trivial h E
open Go.Value renaming int→I,pointer→P,slice→S,agg→A,bool→B,tuple→T
open Go.IntKind renaming i64→J,u64→U,u32→W
abbrev Yo (a:OA)(n:Nat)(m:Ó)(v:Value):Prop:=∃q,af a n=some q/\m.at q v
abbrev Xh (V:Ó)(b:Nat)(l:List Value)(t:Nat):Prop:=V.w.heap[b]?=some (.cells l.toArray t (0,0))
abbrev ŭ (V:Ó)(l:List Value)(t:Nat)(K:Ó->Nat->Prop):Prop:=∀v,V.Le v->∀a,v.bo a (.cells l.toArray t (0,0))->K v a
abbrev Ů (N y n c k z:Nat)(v x:List Value)(K:Nat->(C->Value)->List Value->Nat->Prop):Prop:=N*y<=2^47/\n<=c/\c*z<=v.length/\x.length=k*z/\(∀e∈x,e.oneCell'=true)/\∀i j s m,N<=m->m*z<=N*z+s.length->K i j s m
abbrev ů (N y c k z:Nat)(x:List Value)(K:List Value->Nat->Prop):Prop:=N*y<=2^47/\c<N/\x.length=k*z/\(∀e∈x,e.oneCell'=true)/\∀s m,N<=m->m*z<=N*z+s.length->K s m
abbrev Ű (N y n c k z:Nat)(v x:List Value)(K:List Value->Nat->Prop):Prop:=N*y<=2^47/\n<=c/\c*z<=v.length/\x.length=k*z/\(∀e∈x,e.oneCell'=true)/\∀s m,N<=m->m*z<=N*z+s.length->K s m
abbrev ű (V:Ó)(l:List Value)(t:Nat)(K:Ó->Nat->Prop):Prop:=∀v,V.Le v->∀a,(l≠[]->v.bo a (.cells l.toArray t (0,0)))->K v a
abbrev dk(t:Type):=OA->Nat->Nat->t
abbrev dv(t:Type):=Int->Int->OA->t
abbrev Z0 r(K:_->_->Prop):=∃a b,r=T #[I W a,I W b]/\K a b
abbrev Z1 r(K:_->_->Prop):=∃a b,r=T #[I U a,B b]/\K a b
abbrev Z2 r(K:dk (dk Prop)):=∃a b c d e f,r=T #[S a b c,S d e f]/\K a b c d e f
abbrev X3 a b c d e f:=T #[S a b c,S d e f]
abbrev Z4 r(K:dk (Int->Prop)):=∃a b c d,r=T #[S a b c,I W d]/\K a b c d
abbrev Z5 r(K:dk (dk (Bool->Prop))):=∃a b c d e f g,r=T #[S a b c,S d e f,B g]/\K a b c d e f g
abbrev Z6 r(K:Bool->dk Prop):=∃a b c d,r=A #[B a,S b c d]/\K a b c d
abbrev X7 a b c d:=A #[B a,S b c d]
abbrev X8 a b c d e f g:=A #[B a,S b c d,S e f g]
abbrev Z9 r(K:Bool->dk (dk Prop)):=∃a b c d e f g,r=A #[B a,S b c d,S e f g]/\K a b c d e f g
abbrev Z10 r(K:dk (Bool->Prop)):=∃a b c d,r=T #[S a b c,B d]/\K a b c d
abbrev fu r(K:dv Prop):=∃a b c,r=A #[I J a,I J b,P c]/\K a b c
abbrev a_ a b c:=A #[I J a,I J b,P c]
abbrev XJ r(K:_->_->Prop):=∃a b,r=T #[I J a,B b]/\K a b
abbrev Z14 r(K:_->_->Prop):=∃a b,r=T #[I U a,I U b]/\K a b
abbrev cq a b c d e f g h i j k l m n:=A #[B a,S b c d,S e f g,B h,S i j k,S l m n]
abbrev jh r(K:Bool->dk (dk (Bool->dk (dk Prop)))):=∃a b c d e f g h i j k l m n,r=cq a b c d e f g h i j k l m n/\K a b c d e f g h i j k l m n
abbrev eC a b c d e f g h i j k l:=A #[B a,S b c d,B e,S f g h,B i,S j k l]
abbrev gx a b c d e f g h i:=A #[I J a,I J b,P c,I J d,I J e,P f,I J g,I J h,P i]
abbrev TH r(K:Bool->dk (Bool->dk (Bool->dk Prop))):=∃a b c d e f g h i j k l,r=eC a b c d e f g h i j k l/\K a b c d e f g h i j k l
abbrev jj a b c d e f:=A #[I J a,I J b,P c,I J d,I J e,P f]
abbrev Nb r(K:dv (dv Prop)):=∃a b c d e f,r=jj a b c d e f/\K a b c d e f
abbrev Bb a b c d e f g h:=A #[I J a,I J b,P c,I J d,I J e,P f,B g,B h]
abbrev Y23 a n(m:Ó)(K:Bool->dk (dk (Bool->dk (dk (Bool->Bool->Addr->Prop))))):=∃b c d e f g h i j k l o p r s t q,af a n=some q/\m.at (q.add 0) (B b)/\m.at (q.add 1) (S c d e)/\m.at (q.add 2) (S f g h)/\m.at (q.add 3) (B i)/\m.at (q.add 4) (S j k l)/\m.at (q.add 5) (S o p r)/\m.at (q.add 6) (B s)/\m.at (q.add 7) (B t)/\K b c d e f g h i j k l o p r s t q
abbrev TF a b c d e f g h i j k l m n o p:=A #[B a,S b c d,S e f g,B h,S i j k,S l m n,B o,B p]
abbrev Np a b c d e f g h i j k l m n o p q:=A #[I J a,I J b,P c,I J d,I J e,P f,I J g,I J h,P i,I J j,I J k,P l,I J m,I J n,P o,B p,B q]
abbrev Z26 r(K:Bool->dk (dk (Bool->dk (dk (Bool->Bool->Prop))))):=∃a b c d e f g h i j k l m n o p,r=TF a b c d e f g h i j k l m n o p/\K a b c d e f g h i j k l m n o p
abbrev XH a b c d e f g h i j k l m n o p q r s t u v w x y z α β:=A #[B a,S b c d,B e,S f g h,B i,S j k l,B m,S n o p,S q r s,B t,S u v w,S x y z,B α,B β]
abbrev Z28 r(K:Bool->dk (Bool->dk (Bool->dk (Bool->dk (dk (Bool->dk (dk (Bool->Bool->Prop)))))))):=∃a b c d e f g h i j k l m n o p q s t u v w x y z α β γ,r=XH a b c d e f g h i j k l m n o p q s t u v w x y z α β γ/\K a b c d e f g h i j k l m n o p q s t u v w x y z α β γ
abbrev Y29 a n(m:Ó)(K:dv (dv (dv (dv (dv (Bool->Bool->Addr->Prop)))))):=∃b c d e f g h i j k l o p r s t u q,af a n=some q/\m.at (q.add 0) (I J b)/\m.at (q.add 1) (I J c)/\m.at (q.add 2) (P d)/\m.at (q.add 3) (I J e)/\m.at (q.add 4) (I J f)/\m.at (q.add 5) (P g)/\m.at (q.add 6) (I J h)/\m.at (q.add 7) (I J i)/\m.at (q.add 8) (P j)/\m.at (q.add 9) (I J k)/\m.at (q.add 10) (I J l)/\m.at (q.add 11) (P o)/\m.at (q.add 12) (I J p)/\m.at (q.add 13) (I J r)/\m.at (q.add 14) (P s)/\m.at (q.add 15) (B t)/\m.at (q.add 16) (B u)/\K b c d e f g h i j k l o p r s t u q
abbrev Z30 r(K:dv (dv (dv Prop))):=∃a b c d e f g h i,r=gx a b c d e f g h i/\K a b c d e f g h i
abbrev Tu a n(m:Ó)(K:dv (dv (dv (Addr->Prop)))):=∃b c d e f g h i j q,af a n=some q/\m.at (q.add 0) (I J b)/\m.at (q.add 1) (I J c)/\m.at (q.add 2) (P d)/\m.at (q.add 3) (I J e)/\m.at (q.add 4) (I J f)/\m.at (q.add 5) (P g)/\m.at (q.add 6) (I J h)/\m.at (q.add 7) (I J i)/\m.at (q.add 8) (P j)/\K b c d e f g h i j q
abbrev Y32 a n(m:Ó)(K:Bool->dk (dk (Addr->Prop))):=∃b c d e f g h q,af a n=some q/\m.at (q.add 0) (B b)/\m.at (q.add 1) (S c d e)/\m.at (q.add 2) (S f g h)/\K b c d e f g h q
abbrev X33 a b c d e f:=A #[S a b c,S d e f]
abbrev Y34 a n(m:Ó)(K:dv (dv (Addr->Prop))):=∃b c d e f g q,af a n=some q/\m.at (q.add 0) (I J b)/\m.at (q.add 1) (I J c)/\m.at (q.add 2) (P d)/\m.at (q.add 3) (I J e)/\m.at (q.add 4) (I J f)/\m.at (q.add 5) (P g)/\K b c d e f g q
abbrev Z35 r(K:_->_->Prop):=∃a b,r=T #[B a,B b]/\K a b
abbrev Z36 r(K:_->_->Prop):=∃a b,r=T #[P a,B b]/\K a b
abbrev XI a b c d:=A #[I J a,S b c d]
abbrev TG a n(m:Ó)(K:Bool->dk (Bool->dk (Bool->dk (Addr->Prop)))):=∃b c d e f g h i j k l o q,af a n=some q/\m.at (q.add 0) (B b)/\m.at (q.add 1) (S c d e)/\m.at (q.add 2) (B f)/\m.at (q.add 3) (S g h i)/\m.at (q.add 4) (B j)/\m.at (q.add 5) (S k l o)/\K b c d e f g h i j k l o q
abbrev Y39 a n(m:Ó)(K:Bool->dk (dk (Bool->dk (dk (Addr->Prop))))):=∃b c d e f g h i j k l o p r q,af a n=some q/\m.at (q.add 0) (B b)/\m.at (q.add 1) (S c d e)/\m.at (q.add 2) (S f g h)/\m.at (q.add 3) (B i)/\m.at (q.add 4) (S j k l)/\m.at (q.add 5) (S o p r)/\K b c d e f g h i j k l o p r q
abbrev Y40 a n(m:Ó)(K:Bool->dk (Bool->dk (Bool->dk (Bool->dk (dk (Bool->dk (dk (Bool->Bool->Addr->Prop)))))))):=∃b c d e f g h i j k l o p r s t u v w x y z α β γ δ ε ζ q,af a n=some q/\m.at (q.add 0) (B b)/\m.at (q.add 1) (S c d e)/\m.at (q.add 2) (B f)/\m.at (q.add 3) (S g h i)/\m.at (q.add 4) (B j)/\m.at (q.add 5) (S k l o)/\m.at (q.add 6) (B p)/\m.at (q.add 7) (S r s t)/\m.at (q.add 8) (S u v w)/\m.at (q.add 9) (B x)/\m.at (q.add 10) (S y z α)/\m.at (q.add 11) (S β γ δ)/\m.at (q.add 12) (B ε)/\m.at (q.add 13) (B ζ)/\K b c d e f g h i j k l o p r s t u v w x y z α β γ δ ε ζ q
abbrev X41 a b c d e f g:=A #[S a b c,I J d,S e f g]
abbrev Z42 r(K:dv (dv (Bool->Bool->Prop))):=∃a b c d e f g h,r=Bb a b c d e f g h/\K a b c d e f g h
abbrev Y43 a n(m:Ó)(K:_->_->_->_->_->_->_->_->_->Prop):=∃b c d e f g h i q,af a n=some q/\m.at (q.add 0) (I J b)/\m.at (q.add 1) (I J c)/\m.at (q.add 2) (P d)/\m.at (q.add 3) (I J e)/\m.at (q.add 4) (I J f)/\m.at (q.add 5) (P g)/\m.at (q.add 6) (B h)/\m.at (q.add 7) (B i)/\K b c d e f g h i q
abbrev Z44 r(K:Int->dk Prop):=∃a b c d,r=A #[I J a,S b c d]/\K a b c d
abbrev Z45 r(K:dk (Int->dk Prop)):=∃a b c d e f g,r=A #[S a b c,I J d,S e f g]/\K a b c d e f g
abbrev zB (b:Bool)(A B:Prop):Prop:=(b=true->A)/\(b=false->B)
abbrev nC (f:OA)(a d:Int)(K:Prop):Prop:=(f.isSome=true)/\(0<=a/\a<d)/\K
abbrev Ą (o n:Nat)(x l:List Value):Prop:=o+n<=x.length/\(x.drop o).take n=l
abbrev é (a d:Int):Prop:=0<=a/\a<d
abbrev ċ (V:Ó)(x:List Value)(t:Nat)(K:Ó->Nat->Prop):Prop:=∀W,V.Le W->∀b:Nat,Xh W b x t->W.H b->K W b
abbrev Ø(K:Ó->OA->Nat->Nat->Prop):=Ca V f a λr W=>∃a b c,r=S a b c/\K W a b c
abbrev ó(K:Ó->Bool->Prop):=Ca V f a λr W=>∃a,r=B a/\K W a
abbrev â(K:Ó->Int->Prop):=Ca V f a λr W=>∃a,r=I J a/\K W a
abbrev qqK(K:Ó->_):=Ca V f a λr W=>Z0 r (K W)
abbrev qwW(K:Ó->_):=Ca V f a λr W=>Z1 r (K W)
abbrev qwZ(K:Ó->_):=Ca V f a λr W=>Z2 r (K W)
abbrev qwK(K:Ó->_):=Ca V f a λr W=>Z4 r (K W)
abbrev qwJ(K:Ó->_):=Ca V f a λr W=>Z5 r (K W)
abbrev ê(K:Ó->_):=Ca V f a λr W=>Z6 r (K W)
abbrev á(K:Ó->_):=Ca V f a λr W=>Z9 r (K W)
abbrev qzK(K:Ó->_):=Ca V f a λr W=>Z10 r (K W)
abbrev ð(K:Ó->_):=Ca V f a λr W=>fu r (K W)
abbrev qzJ(K:Ó->_):=Ca V f a λr W=>XJ r (K W)
abbrev qkW(K:Ó->_):=Ca V f a λr W=>Z14 r (K W)
abbrev Ć(K:Ó->_):=Ca V f a λr W=>jh r (K W)
abbrev qjQ(K:Ó->_):=Ca V f a λr W=>TH r (K W)
abbrev Ł(K:Ó->_):=Ca V f a λr W=>Nb r (K W)
abbrev qjZ(K:Ó->_):=Ca V f a λr W=>Z26 r (K W)
abbrev qjK(K:Ó->_):=Ca V f a λr W=>Z28 r (K W)
abbrev qvQ(K:Ó->_):=Ca V f a λr W=>Z30 r (K W)
abbrev qvW(K:Ó->_):=Ca V f a λr W=>Z35 r (K W)
abbrev qvZ(K:Ó->_):=Ca V f a λr W=>Z36 r (K W)
abbrev qvK(K:Ó->_):=Ca V f a λr W=>Z42 r (K W)
abbrev YC(K:Ó->_->Prop):=Ø V f a λW b c d=>K W (b,c,d)
abbrev YB(K:Ó->_->Prop):=á V f a λW b c d e g h i=>K W (b,c,d,e,g,h,i)
abbrev Yx(K:Ó->_->Prop):=ê V f a λW b c d e=>K W (b,c,d,e)
abbrev Yv(K:Ó->_->Prop):=ð V f a λW b c d=>K W (b,c,d)
abbrev XM(K:Ó->_->Prop):=Ć V f a λW b c d e g h i j k l m n o p=>K W (b,c,d,e,g,h,i,j,k,l,m,n,o,p)
abbrev Xt(K:Ó->_->Prop):=Ł V f a λW b c d e g h=>K W (b,c,d,e,g,h)
end
abbrev Xr {A0 A1 A2 D}(f:A0->A1->A2->D)(t:A0×A1×A2):D:=f t.1 t.2.1 t.2.2
abbrev W2 {A0 A1 A2 A3 D}(f:A0->A1->A2->A3->D)(t:A0×A1×A2×A3):D:=f t.1 t.2.1 t.2.2.1 t.2.2.2
abbrev W1 {A0 A1 A2 A3 A4 A5 A6 D}(f:A0->A1->A2->A3->A4->A5->A6->D)(t:A0×A1×A2×A3×A4×A5×A6):D:=f t.1 t.2.1 t.2.2.1 t.2.2.2.1 t.2.2.2.2.1 t.2.2.2.2.2.1 t.2.2.2.2.2.2
abbrev VE {A0 A1 A2 A3 A4 A5 A6 A7 A8 A9 A10 A11 A12 A13 D}(f:A0->A1->A2->A3->A4->A5->A6->A7->A8->A9->A10->A11->A12->A13->D)(t:A0×A1×A2×A3×A4×A5×A6×A7×A8×A9×A10×A11×A12×A13):D:=f t.1 t.2.1 t.2.2.1 t.2.2.2.1 t.2.2.2.2.1 t.2.2.2.2.2.1 t.2.2.2.2.2.2.1 t.2.2.2.2.2.2.2.1 t.2.2.2.2.2.2.2.2.1 t.2.2.2.2.2.2.2.2.2.1 t.2.2.2.2.2.2.2.2.2.2.1 t.2.2.2.2.2.2.2.2.2.2.2.1 t.2.2.2.2.2.2.2.2.2.2.2.2.1 t.2.2.2.2.2.2.2.2.2.2.2.2.2
abbrev Ty {A0 A1 A2 A3 A4 A5 D}(f:A0->A1->A2->A3->A4->A5->D)(t:A0×A1×A2×A3×A4×A5):D:=f t.1 t.2.1 t.2.2.1 t.2.2.2.1 t.2.2.2.2.1 t.2.2.2.2.2
abbrev Tw:=Xr Go.Value.slice
abbrev To:=W2 X7
abbrev Sy:=W1 X8
abbrev Sv:=Xr a_
abbrev Sd:=VE cq
abbrev R2:=Ty jj
abbrev bB (f:Nat)(a:Array Value)(G:Ó->VR->Prop):Prop:=∀V R,G V R->ae prog f a V R
def Ú {f:FuncId}(u:prog.funcs[f]?=some (prog.funcs.getD f f0):=by kernel_rfl){G:un->VR->Prop}(y:((prog.funcs.getD f f0).name=="runtime.NumGoroutine")=false:=by kernel_rfl)(z:l.toArray=((sA 0 l).map λx=>x.2.den λ_=>0).toArray:=by kernel_rfl)(E:G=λV R=>Jw prog tab aR [] [] [] (prog.funcs.getD f f0) (sA 0 l) [] (λ_=>0) V R:=by kernel_rfl):bB f l.toArray G:=
 λV R h=>fd (LF:=aR) (RF:=[]) [] [] u h y z (congrFun (congrFun E V) R)
def ù (LF RF:zA Nat)(L K:J1){f:FuncId}(u:prog.funcs[f]?=some (prog.funcs.getD f f0):=by kernel_rfl){G:un->VR->Prop}(y:((prog.funcs.getD f f0).name=="runtime.NumGoroutine")=false:=by kernel_rfl)(z:l.toArray=((sA 0 l).map λx=>x.2.den λ_=>0).toArray:=by kernel_rfl)(E:G=λV R=>Jw prog tab LF RF L K (prog.funcs.getD f f0) (sA 0 l) [] (λ_=>0) V R:=by kernel_rfl):bB f l.toArray G:=
 λV R h=>fd (LF:=LF) (RF:=RF) L K u h y z (congrFun (congrFun E V) R)
def Ĥ {T:eA}(hT:eA.ok prog T)(k:Nat){p q:Prop}(au:p)(aw:q)(LF RF:zA Nat)(L K:J1){f:FuncId}{fn:Func}(u:prog.funcs[f]?=some fn)(ss:zA (Nat×SV))(x:aZ){V:un}{R:VR}{G:Prop}(h:G)(y:(fn.name=="runtime.NumGoroutine")=false:=by kernel_rfl)(z:l.toArray=(ss.map λx=>x.2.den (cF (λ_=>0) 100000 k)).toArray:=by kernel_rfl)(E:XX (cF (λ_=>0) 100000 k) V [(100000,x)]=((p/\q)/\True/\True):=by kernel_rfl)(F:G=Jw prog T LF RF L K fn ss [(100000,x)] (cF (λ_=>0) 100000 k) V R:=by kernel_rfl):ae prog f l.toArray V R:=
 bC (LF:=LF) (RF:=RF) (β0:=cF (λ_=>0) 100000 k) hT Ĉ L K u y ss [(100000,x)] z (E.symm.mp ⟨⟨au,aw⟩,trivial,trivial⟩) h F
def _root_.qyK {a b c d:Sort _}{p:a->b->c->d->Prop}{A B C D}(h:p A B C D):∃A B C D,p A B C D:=⟨_,_,_,_,h⟩
def _root_.qyJ {a b c d e f:Sort _}{p:a->b->c->d->e->f->Prop}{A B C D E F}(h:p A B C D E F):∃A B C D E F,p A B C D E F:=⟨_,_,_,_,_,_,h⟩
def _root_.qxQ {a b c d e f g:Sort _}{p:a->b->c->d->e->f->g->Prop}{A B C D E F G}(h:p A B C D E F G):∃A B C D E F G,p A B C D E F G:=⟨_,_,_,_,_,_,_,h⟩
def _root_.wqQ {a b c d e f g i j k l m:Sort _}{p:a->b->c->d->e->f->g->i->j->k->l->m->Prop}{A B C D E F G H I J K L}(h:p A B C D E F G H I J K L):∃A B C D E F G H I J K L,p A B C D E F G H I J K L:=⟨_,_,_,_,_,_,_,_,_,_,_,_,h⟩
def _root_.qxW {a b c d e f g i j k l m n o:Sort _}{p:a->b->c->d->e->f->g->i->j->k->l->m->n->o->Prop}{A B C D E F G H I J K L M N}(h:p A B C D E F G H I J K L M N):∃A B C D E F G H I J K L M N,p A B C D E F G H I J K L M N:=⟨_,_,_,_,_,_,_,_,_,_,_,_,_,_,h⟩
def _root_.wqK {a b c d e f g i j k l m n o q:Sort _}{p:a->b->c->d->e->f->g->i->j->k->l->m->n->o->q->Prop}{A B C D E F G H I J K L M N O}(h:p A B C D E F G H I J K L M N O):∃A B C D E F G H I J K L M N O,p A B C D E F G H I J K L M N O:=⟨_,_,_,_,_,_,_,_,_,_,_,_,_,_,_,h⟩
abbrev À:=ae prog
end Go.Proofs.Tryz
