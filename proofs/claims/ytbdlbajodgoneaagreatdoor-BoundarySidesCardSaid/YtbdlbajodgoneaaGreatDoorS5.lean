import Derived.Orders
import Derived.Scope
import Derived.Laws.Sem
import Derived.Test.YtbdlbajodgoneaaGreatDoorProg
import Derived.Test.YtbdlbajodgoneaaGreatDoorS4
set_option linter.all false
open Go.IntKind (i64 u64 u32)
namespace Go.Eng
section
variable{P:Program}{T:eA}{LF RF:List Nat}{n:Nat}{V0:Ó}{bQ:MN}{β0:Nat->Nat}
def Hj (P:Program)(T:eA)(m:Nat->CM)(hint:Nat->þ)(ops:Array Oper):Nat->Array Bool->St->Ó->(St->Ó->Prop)->Prop
 | 0,listed,st,V,K=>Region.ready .any ops listed=[]/\K st V
 | fuel+1,listed,st,V,K=>(Region.ready .any ops listed=[]->K st V) /\
  ∀i∈Region.ready .any ops listed,∀o,ops[i]?=some o->xw P T (m i) (hint i) ops o st V λu V'=>Hj P T m hint ops fuel (listed.setIfInBounds i true) u V' K
def zX (hT:eA.ok P T){m:Nat->CM}{hint:Nat->þ}{ops:Array Oper}(F:∀(i:Nat)(o:Oper),ops[i]?=some o->∀d,o.dst=some d->d<n){Q:Exit->Act->World->Prop}{K:St->ut->Prop}(E:∀u β' z w' V',à n V0 bQ β0 u β' z w' V'->K u V'->Q .normal z w'):∀(fuel:Nat)(listed:Array md)(st:St)(β:Nat->Nat)(a:Act)(w:World)(V:ut),à n V0 bQ β0 st β a w V->Hj P T m hint ops fuel listed st V K->wpAny P .any ops Q fuel listed a w
 | 0,_,_,_,_,_,_,D,y=>⟨y.1,E _ _ _ _ _ D y.2⟩
 | fuel+1,listed,st,β,a,w,V,D,y=>by
  refine ⟨λh=>E _ _ _ _ _ D (y.1 h),λi hi=>?_⟩;obtain ⟨-,o,M,-⟩:=mem_ready.1 hi;have:=KZ (Q:=Q) (next:=wpAny P .any ops Q fuel (listed.setIfInBounds i true)) hT D (F i o M) (y.2 i hi o M) (λu β' z w' V' b c=>zX hT F E fuel _ u β' z w' V' b c);unfold wpOp;grind
def xS {sc:zA Prop}{k k':Prop}(h:k->k')(g:Ho sc k):Ho sc k':=by obtain ⟨a,b⟩:=(fN sc _).1 g;exact (fN sc _).2 ⟨a,h b⟩
theorem Qv {s:Nat}{vs:zA un}{k c size bytes:Nat}{ty:TypeId}{d:Nat}{st:St}{V:ut}{K u:St->ut->Prop}{j:Nat}{xs:zA un}(y:∀s V',V.Le V'->K s V'->u s V')(h:JH s vs k c size bytes ty d st V K j xs):JH s vs k c size bytes ty d st V u j xs:=by unfold JH at h ⊢;obtain ⟨e,f,g,i,l,a⟩:=h;refine ⟨e,f,g,i,l,?_⟩;split at a;{exact a.elim};exact λb J spare m n o=>y _ _ (Ó.Le.refl V) (a b J spare m n o)
theorem NJ {s:Nat}{vs:zA un}{k c size bytes:Nat}{ty:TypeId}{d:Nat}{st:St}{V:ut}{K u:St->ut->Prop}{j:Nat}{xs:zA un}(y:∀s V',V.Le V'->K s V'->u s V')(h:zN s vs k c size bytes ty d st V K j xs):zN s vs k c size bytes ty d st V u j xs:=by unfold zN at h ⊢;obtain ⟨b,e,f,g,i,a⟩:=h;refine ⟨b,e,f,g,i,?_⟩;split at a;{exact a.elim};exact λspare l m n=>y _ _ (Ó.Le.refl V) (a spare l m n)
theorem Qw {vs:zA un}{k c size bytes:Nat}{ty:TypeId}{d:Nat}{st:St}{V:ut}{K u:St->ut->Prop}{j:Nat}{xs:zA un}(y:∀s V',V.Le V'->K s V'->u s V')(h:JI vs k c size bytes ty d st V K j xs):JI vs k c size bytes ty d st V u j xs:=by unfold JI at h ⊢;obtain ⟨b,e,f,g,a⟩:=h;refine ⟨b,e,f,g,?_⟩;split at a;{exact a.elim};grind [Ó.Le.refl]
def VM {y:Q}{dst:Option Nat}{st:St}{V:ut}{K z:St->ut->Prop}(u:∀s V',V.Le V'->K s V'->z s V')(h:At y dst st V K):At y dst st V z:=by (cases y with|fail=>exact h|ret sc x=>exact xS (u _ _ (Ó.Le.refl V)) h|new sc b x=>{simp only [At] at h ⊢;split at h;{split at h;{rename_i f;exact xS (u _ _ (Ó.Le.refl V)) h};exact h.elim};exact h.elim}|As sc s b=>{simp only [At] at h ⊢;split at h;{exact xS (u _ _ (Ó.Le.refl V)) h};exact h.elim}|rd a sh=>{have ⟨x,d,e⟩:=sh.split h;exact e _ (wQ.2 ⟨(wQ.1 d).1,u _ _ (Ó.Le.refl V) (wQ.1 d).2⟩)}|ur vs of size sh=>{have ⟨x,d,e⟩:=sh.split h;exact e _ ⟨d.1,u _ _ (Ó.Le.refl V) d.2⟩}|yJ s vs a c src size bytes ty=>{simp only [At] at h ⊢;split at h;{exact h.elim};grind [NJ]}|app old ba vs a c src size bytes ty=>{simp only [At] at h ⊢;split at h;{exact h.elim};cases old<;>grind [Qv,Qw,Ó.Le.refl]})
def tJ {bx:Nat->Option a_}{β:Nat->Nat}{V:ut}:∀{L:zA Nat} {k k':Prop},(k->k')->va bx β V L k->va bx β V L k'
 | [],_,_,h,g=>h g
 | s::r,k,k',h,g=>by
  simp only [va] at g ⊢;split at g
  ·exact λu=>tJ h (g u)
  ·exact g.elim
def uZ {give:md}{sh:Sh}{L:zA Nat}{u:Option Nat}{d:Nat}{ety:TypeId}{β:Nat->Nat}{st:St}{V V' y:ut}{K E:St->ut->Prop}{F:un}(hm:∀k,u=some k->k∈L)(M:V.Le V')(z:V.Le y)(hlv:∀s∈L,∃b,st.boxes s=some b/\(b.live->V'.H (β s)))(N:∀s V',V.Le V'->K s V'->E s V')(h:cM T give sh L u d ety β st V' K F y):cM T give sh L u d ety β st V' E F y:=by refine pJ (p:=λ_=>none) (q:=uq) (W:=ia u d::L) (D:=[d]) (λs c=>⟨rfl,ā _ c⟩) hm ⟨rfl,ψ⟩ ⟨rfl,ψ⟩ M z hlv (λs2 V2 a=>?_) h;exact N _ _ a.1 a.2.2.2
theorem xu {m:CM}{f:FuncId}{xs:zA SV}{ty:TypeId}{dst:Option Nat}{st:St}{V:ut}{K K':St->ut->Prop}(hk:∀s V',V.Le V'->K s V'->K' s V')(h:im P T m f xs ty dst st V K):im P T m f xs ty dst st V K':=by
 unfold im at h ⊢;split at h
 ·exact h.elim
 ·split at h
  ·split at h;{split at h;{split at h;{exact h.elim};exact λV' a=>(h V' a).s λ_ z hle g=>uZ (λk hk=>by cases hk) a (a.m hle) (λs r=>Å r ψ) hk g};{exact λV' a=>(h V' a).s λ_ _ hle g=>Sh.s g λx c=>⟨c.1,hk _ _ (a.m hle) c.2⟩};exact h.elim};{split at h;{split at h;{exact h.elim};split at h;{split at h;{split at h;{refine λV' a=>(h V' a).s λ_ z hle g=>?_;obtain ⟨b,e⟩:=g;obtain ⟨cs,⟨A,B,C,D⟩,E⟩:=tq _ e;refine ⟨b,E _ ⟨A,B,C,hk _ _ ?_ D⟩⟩;intro x o c;obtain ⟨F,G⟩:=(a.m hle) x o c;have ⟨R,H⟩:=a x o c;have:=aJ H;exact ⟨λh=>h.elim F λh=>by have:=h.1;omega,G⟩};exact h.elim};exact h.elim};exact h.elim};exact h.elim};exact λV' a=>(h V' a).s λ_ _ hle g=>Sh.s g λx c=>⟨c.1,hk _ _ (a.m hle) c.2⟩
  ·split at h
   ·exact h.elim
   ·rename_i I;rename_i S U X Y _
    have u:∀{i:md} {v:Sh} {t:Option Nat} {d:Nat} {l:TypeId} {L:zA Nat},(∀k,t=some k->k∈L) ->
      (∀V':ut,V.Le V'->nS L (λ_=>0) λβ=>kG st.boxes β V' L (aa P f (aI β xs) (V'.ao (L.map (fk st.boxes β V'.w.heap.size))) (cM T i v L t d l β st V' K))) ->
      ∀V':ut,V.Le V'->nS L (λ_=>0) λβ=>kG st.boxes β V' L (aa P f (aI β xs) (V'.ao (L.map (fk st.boxes β V'.w.heap.size))) (cM T i v L t d l β st V' K')):=by
     intro i v t d l L hm h V' a;exact fF (λβ e=>mc (λ_ _=>rfl) (λM n=>n.s λ_ _ hle g=>uZ hm a ((a.m (Bl V' _)).m hle) M hk g) e) (h V' a)
    split at h
    ·exact h.elim
    ·exact h.elim
    ·split at h;{split at h;{exact h.elim};exact u (λk hk=>by cases hk) h};{rename_i d l k Z h2 y;split at h;{split at h;{exact h.elim};refine u (λj N=>?_) h<;>grind [gO,cH.2,Cq]};split at h;{exact h.elim};split at h;{exact h.elim};exact λV' a=>fF (λβ e=>tJ (λn=>n.s λ_ _ hle g=>uZ (λk hk=>by cases hk) a (a.m hle) (λs r=>Å r ψ) hk g) e) (h V' a)};{split at h;{exact h.elim};exact λV' a=>fF (λβ e=>tJ (λn=>n.s λ_ _ hle g=>Sh.s g λx c=>⟨c.1,hk _ _ (a.m hle) c.2⟩) e) (h V' a)};exact h.elim
    ·split at h;{exact λV' a=>fF (λβ e=>mc (λ_ _=>rfl) (λ_ n=>n.s λ_ _ hle g=>Sh.s g λx c=>⟨c.1,mR (p:=λ_=>none) (q:=uq) (W:=_) (λs r=>⟨rfl,r⟩) (λO _ _ y=>hk _ _ (((a.m (Bl V' _)).m hle).m (Pz _)) y) c.2⟩) e) (h V' a)};{rename_i k Q;split at h;{split at h;{exact h.elim};refine u (λj N=>?_) h<;>grind [Ur]};exact h.elim};exact h.elim
    ·split at h;{exact h.elim};exact λV' a=>fF (λβ e=>tJ (λn=>n.s λ_ _ hle g=>Sh.s g λx c=>⟨c.1,λJ=>hk _ _ (a.m hle) (c.2 J)⟩) e) (h V' a)
def sH {m:CM}{f:FuncId}{xs:zA SV}{ty:TypeId}{dst:Option Nat}{st:St}{V:ut}{K u:St->ut->Prop}(y:∀s V',V.Le V'->K s V'->u s V')(h:mz P T m f xs ty dst st V K):mz P T m f xs ty dst st V u:=by unfold mz at h ⊢;split at h;{grind [xu]};exact xu y h
def xr {m:CM}{o:Oper}{st:St}{V:ut}{K y:St->ut->Prop}(u:∀s V',V.Le V'->K s V'->y s V')(h:ew P T m o st V K):ew P T m o st V y:=by unfold ew at h ⊢;split at h;{split at h;{split at h;{exact sH u h};{exact sH u h};exact h.elim};exact h.elim};{split at h;{split at h;{split at h;{exact sH u h};exact h.elim};exact h.elim};exact h.elim};exact VM u h
def LN {m:CM}{hi:þ}{o:Oper}{st:St}{V:ut}{K u:St->ut->Prop}(y:∀s V',V.Le V'->K s V'->u s V')(h:dW P T m hi o st V K):dW P T m hi o st V u:=by unfold dW at h ⊢;split at h;{exact xr y h};split at h;{split at h;{exact xr y h};exact h.elim};exact h.elim
def oK {m:CM}{hi:þ}{ops:Array Oper}{o:Oper}{st:St}{V:ut}{K u:St->ut->Prop}(y:∀s V',V.Le V'->K s V'->u s V')(h:xw P T m hi ops o st V K):xw P T m hi ops o st V u:=by rw [I1] at h ⊢;refine sJ (λs w a=>?_) h;(cases w with|true=>exact LN y a|false=>exact y _ _ (Ó.Le.refl V) a)
def Uo (LF RF:List Nat)(m:CM)(o:Oper):Prop:=
 rP (bI LF RF o.op)=true\/(bI LF RF o.op=.call/\m=.none)\/((bI LF RF o.op=.oA/\m=.ao)\/(bI LF RF o.op=.give/\m=.give)\/bI LF RF o.op=.app)
def UN {m:CM}{h:þ}{ops:Array Oper}{o:Oper}{st:St}{V:ut}{R W:zA Nat}(y:rP (bI LF RF o.op)=true)(hrw:wX (bI LF RF o.op) h (fV o)=some (R,W))(u:xw P T m h ops o st V λ_ _=>False):False:=by rw [I1] at u;have ⟨p,w,a⟩:=iF u;have:=a.next;(cases w with|true=>{have ⟨p,q,b⟩:=tI y hrw this;exact b.next}|false=>exact this)
def zL {ops:Array Oper}{z D:þ}{u y:Oper}(hi:ĝ LF RF ops z D u y=true):rP (bI LF RF u.op)=true/\(∃R W,wX (bI LF RF u.op) z (fV u)=some (R,W))/\∃R W,wX (bI LF RF y.op) D (fV y)=some (R,W):=by unfold ĝ at hi;simp only [Đ] at hi;obtain ⟨⟨⟨⟨⟨b,-⟩,-⟩,-⟩,-⟩,a⟩:=hi;split at a;{grind};cases a
def Ry {ops:Array Oper}{i:Nat}{o:Oper}(u:ops[i]?=some o){h:þ}{R W:zA Nat}(hrw:wX (bI LF RF o.op) h (fV o)=some (R,W)):Uo LF RF (nw LF RF ops i) o:=by unfold Uo nw;rw [u];dsimp only;generalize bI LF RF o.op=c at hrw;(cases c with|odd=>{cases h<;>cases hrw}|kE=>{cases h<;>cases hrw}|call=>exact .inr (.inl ⟨rfl,rfl⟩)|oA=>exact .inr (.inr (.inl ⟨rfl,rfl⟩))|give=>exact .inr (.inr (.inr (.inl ⟨rfl,rfl⟩)))|app=>exact .inr (.inr (.inr (.inr rfl)))|_=>exact .inl rfl)
section
variable{ops:Array Oper}{hint:Nat->þ}{anc:Nat->Nat->Prop}{K:St->Ó->Prop}
def LM (hA:∀j o,ops[j]?=some o->∀i,anc j i->∃e∈o.after,Region.binds .any e=true/\(e.on=i\/anc e.on i)){i:Nat}{N:Oper}(hi:ops[i]?=some N):∀(fuel:Nat)(listed:Array md)(st:St)(V:ut),(∀j,listed.getD j false=true->∀k,anc j k->listed.getD k false=true) ->(∀j M,ops[j]?=some M->j≠i->listed.getD j true=false->¬anc j i->ĝ LF RF ops (hint i) (hint j) N M=true)->i∈Region.ready .any ops listed ->(xw P T (nw LF RF ops i) (hint i) ops N st V λO V'=>Hj P T (nw LF RF ops) hint ops fuel (listed.setIfInBounds i true) O V' K) ->Hj P T (nw LF RF ops) hint ops (fuel+1) listed st V K:=by
 have x:∀(listed:Array md)(j:Nat),(∀j,listed.getD j false=true->∀k,anc j k->listed.getD k false=true)->i∈Region.ready .any ops listed->j∈Region.ready .any ops listed->¬anc j i:=by intro listed j g d f B;obtain ⟨p,-⟩:=mem_ready.1 d;have q:listed.getD i false=true->False:=χ;grind [mem_ready.1]
 intro fuel
 induction fuel with
 | zero=>
  intro listed st V g a d H;refine ⟨λh=>(by rw [h] at d;cases d),λj f o u=>?_⟩;by_cases b:j=i
  ·subst b;rw [hi] at u;cases u;exact H
  ·exfalso;have t:=a j o u b (mem_ready.1 f).1 (x listed j g d f);obtain ⟨y,⟨R,W,z⟩,-⟩:=zL t;refine UN y z (oK (λs V' _ h=>?_) H);have:=ready_mono f b;rw [h.1] at this;cases this
 | succ fuel Z=>
  intro listed st V g a d H;refine ⟨λh=>(by rw [h] at d;cases d),λj f M c=>?_⟩;by_cases b:j=i
  ·subst b;rw [hi] at c;cases c;exact H
  ·have r:=x listed j g d f;have t:=a j M c b (mem_ready.1 f).1 r;obtain ⟨y,⟨R,W,z⟩,F,G,C⟩:=zL t;refine oK (λs V' _ h=>?_) (X3 t (Ry c C) (oK (λs V' _ h=>h.2 j (ready_mono f b) M c) H));obtain ⟨-,D,n,A⟩:=mem_ready.1 f;rw [c] at n;cases n;have E:j<ops.size:=χ;refine Z (listed.setIfInBounds j true) s V' ?_ ?_ (ready_mono d (Ne.symm b)) ?_;{intro k v l I;by_cases m:j=k;{grind [getD_set_true]};rw [getD_set_ne false m] at v;grind [getD_set_true]};{intro k ok v w p q;refine a k ok v w ?_ q;by_cases m:j=k;{subst m;exact (mem_ready.1 f).1};rw [getD_set_ne true m] at p;exact p};grind [Array.setIfInBounds_comm]
def Qo (hA:∀j o,ops[j]?=some o->∀i,anc j i->∃e∈o.after,Region.binds .any e=true/\(e.on=i\/anc e.on i)):∀(l done:zA Nat)(listed:Array md)(st:St)(V:ut),listed.size=ops.size->(∀j,listed.getD j false=jf j done)->(∀j,j<ops.size->j∈done\/j∈l) ->(∀j,listed.getD j false=true->∀k,anc j k->listed.getD k false=true)->wR ops done l=true ->(∀i r1 r2,l=r1++i::r2->∀j∈r2,anc j i\/∃a b,ops[i]?=some a/\ops[j]?=some b/\ĝ LF RF ops (hint i) (hint j) a b=true) ->VL P T (nw LF RF ops) hint ops l st V K->Hj P T (nw LF RF ops) hint ops l.length listed st V K
 | [],done,listed,st,V,Z,hrel,Xt,_,_,_,hv=>by
  refine ⟨?_,hv⟩
  cases hr:Region.ready .any ops listed with
  | nil=>rfl
  | cons x xs=>
   exfalso;have hx:x∈Region.ready .any ops listed:=by rw [hr];simp
   obtain ⟨w,o,M,-⟩:=mem_ready.1 hx
   have y:x<ops.size:=by
    rcases ę x ops.size with f|f
    ·exact f
    ·rw [Qh9 f] at M;cases M
   rcases Xt x y with h|h
   ·have m:=hrel x;rw [d_.2 h] at m;simp [Z,y] at w m;rw [w] at m;cases m
   ·cases h
 | i::r,done,listed,st,V,Z,hrel,Xt,hcl,n,Zh,hv=>by
  simp only [wR,Đ] at n;obtain ⟨z,n⟩:=n;unfold N_ at z;split at z
  ·rename_i H c;simp only [Đ,ŋ,Į,Qp4] at z;obtain ⟨A,B⟩:=z;have C:i<ops.size:=by{rcases ę i ops.size with f|f;{exact f};rw [Qh9 f] at c;cases c};have d:∀e∈H.after,Region.binds .any e=true->listed.getD e.on false=true:=by{intro e he u;rw [hrel];rcases B e (by simpa using he) with h|h;{rw [u] at h;cases h};exact h};have p:i∈Region.ready .any ops listed:=by{refine mem_ready.2 ⟨?_,H,c,d⟩;have:=hrel i;rw [A] at this;simp [Z,C] at this ⊢;exact this};have D:∀j,(listed.setIfInBounds i true).getD j false=true->∀k,anc j k->(listed.setIfInBounds i true).getD k false=true:=by{intro k N l O;by_cases E:i=k;{subst E;have ⟨e,he,u,h⟩:=hA i H c l O;have w:=d e he u;rcases h with h|h;{rw [<-h];exact getD_set_true w};exact getD_set_true (hcl _ w l h)};rw [getD_set_ne false E] at N;exact getD_set_true (hcl k N l O)};refine LM hA c r.length listed st V hcl (λj S q g F I=>?_) p ?_;{have G:j<ops.size:=by{rcases ę j ops.size with f|f;{exact f};rw [Qh9 f] at q;cases q};have J:j∈r:=by{rcases Xt j G with h|h;{exfalso;have m:=hrel j;rw [d_.2 h] at m;simp [Z,G] at F m;rw [F] at m;cases m};rcases í.1 h with h|h;{exact Å h g};exact h};rcases Zh i [] r rfl j J with h|⟨a,b,Q,u,h⟩;{exact Å h I};rw [c] at Q;rw [q] at u;cases Q;cases u;exact h};simp only [VL,c] at hv;have t:∀s v,VL P T (nw LF RF ops) hint ops r s v K->Hj P T (nw LF RF ops) hint ops r.length (listed.setIfInBounds i true) s v K:=by{intro s v R;refine Qo hA r (i::done) (listed.setIfInBounds i true) s v (by simp [Z]) ?_ ?_ D n (λk r1 r2 e j L=>Zh k (i::r1) r2 (by rw [e];rfl) j L) R;{intro j;by_cases g:i=j;{subst g;simp [jf,Qn3,Z,C]};rw [getD_set_ne false g,hrel j];simp [jf,iu (Ne.symm g)]};intro j L;rcases Xt j L with h|h;{exact .inl (by simp [h])};rcases í.1 h with h|h;{exact .inl (by simp [h])};exact .inr h};exact oK (λs v _ h=>t s v h) hv
  ·cases z
end
def SX {m i:Nat}:bitB m i=true↔m.testBit i=true:=by unfold bitB;rw [beq_eq,Qg4,decide_eq_true_iff];show Nat.land (m >>> i) 1=1↔_;rw [show Nat.land (m >>> i) 1=(m >>> i) &&& 1 from rfl,Nat.and_one_is_mod,Nat.shiftRight_eq_div_pow]
def WB (acc:List Nat)(o:Oper):Nat:=o.after.toList.foldl (λs e=>cond (Region.binds .any e) (Nat.lor (Nat.lor (Nat.shiftLeft 1 e.on) (acc.getD e.on 0)) s) s) 0
def JG {acc:zA Nat}{i:Nat}:∀(es:zA Edge)(s:Nat),(es.foldl (λs e=>cond (Region.binds .any e) (Nat.lor (Nat.lor (Nat.shiftLeft 1 e.on) (acc.getD e.on 0)) s) s) s).testBit i=true ->s.testBit i=true\/∃e∈es,Region.binds .any e=true/\(e.on=i\/(acc.getD e.on 0).testBit i=true)
 | [],s,h=>.inl h
 | e::r,s,h=>by
  simp only [ř] at h;rcases JG r _ h with u|⟨z,u,D,E⟩
  ·cases y:Region.binds .any e with
   | false=>rw [y] at u;exact .inl u
   | true=>
    rw [y] at u;simp only [cond_true] at u;have u:(((1 <<< e.on) ||| (acc.getD e.on 0)) ||| s).testBit i=true:=u;grind [Nat.shiftLeft_eq]
  grind
def FZ:∀(l:zA Oper)(acc:zA Nat),∃ext,l.foldl (λacc o=>acc++[WB acc o]) acc=acc++ext/\∀k o,l[k]?=some o->∃pre suf,ext=pre++suf/\ext.getD k 0=WB (acc++pre) o
 | [],acc=>⟨[],ψ,λk o h=>by simp at h⟩
 | o::r,acc=>by
  have ⟨ext,u,y⟩:=FZ r (acc++[WB acc o]);refine ⟨WB acc o::ext,by simp [u],λk a h=>?_⟩
  cases k with
  | zero=>
   simp at h;subst h;exact ⟨[],_,rfl,ψ⟩
  | succ k=>grind
def MV {ops:zA Oper}(j:Nat)(o:Oper)(u:ops[j]?=some o):∀i,((SJ ops).getD j 0).testBit i=true->∃e∈o.after,Region.binds .any e=true/\(e.on=i\/((SJ ops).getD e.on 0).testBit i=true):=by intro i b;have ⟨ext,c,d⟩:=FZ ops [];have he:=(show SJ ops=[]++ext from c).m (Ŝ _);have ⟨pre,f,g,k⟩:=d j o u;rw [he,k] at b;rcases JG _ _ b with h|⟨e,l,m,a⟩;{simp at h};refine ⟨e,by simpa using l,m,?_⟩;rcases a with a|a;{exact .inl a};right;simp only [Ŝ] at a;rw [he,g];rcases ę e.on pre.length with n|n<;>grind
def C8 {ops:Array Oper}{D:zA þ}{E:zA Nat}:∀{l:zA Nat},Bq LF RF ops D E l=true->∀i u z,l=u++i::z->∀j∈z,(E.getD j 0).testBit i=true\/∃a b,ops[i]?=some a/\ops[j]?=some b/\ĝ LF RF ops (D.getD i .free) (D.getD j .free) a b=true
 | [],_,i,u,z,e,_,_=>by simp at e
 | x::l,h,i,u,z,e,j,F=>by
  simp only [Bq,Đ,Į] at h
  cases u with
  | nil=>grind [SX.1]
  | cons y u=>
   simp at e;exact C8 h.2 i u z e.2 j F
def Ov {m:Nat->CM}{hint:Nat->þ}{ops:Array Oper}:∀{l:zA Nat} {st:St} {V:ut} {K u:St->ut->Prop},(∀s V',V.Le V'->K s V'->u s V')->VL P T m hint ops l st V K->VL P T m hint ops l st V u
 | [],_,V,_,_,y,h=>y _ _ (Ó.Le.refl V) h
 | i::r,st,V,K,u,y,h=>by
  simp only [VL] at h ⊢;split at h
  ·exact oK (λs V' hle h=>Ov (λs z hle' h=>y s z (hle.m hle') h) h) h
  ·exact h.elim
def wT {st:St}{β:Nat->Nat}{a:Act}{w:World}{V:ut}(hT:eA.ok P T)(hmx:P.follows .mixedOrders=true)(D:à n V0 bQ β0 st β a w V){id:Nat}{ops:Array Oper}{draw:md}(E:∀(i:Nat)(o:Oper),ops[i]?=some o->∀d,o.dst=some d->d<n){Q:Exit->Act->World->Prop}{K:Exit->St->ut->Prop}(y:LO P T LF RF ops draw st V (K .normal))(F:∀u β' z w' V',à n V0 bQ β0 u β' z w' V'->V.Le V'->K .normal u V'->Q .normal z w'):(Code.region id ops draw).wp P Q a w:=by
 cases draw with
 | false=>
  simp only [LO] at y;exact wp_region (GV (K:=λs V'=>V.Le V'/\K .normal s V') hT E (λu β' z w' V' b h=>F u β' z w' V' b h.1 h.2) _ st β a w V D (Ov (λs V' hle h=>⟨hle,h⟩) y))
 | true=>
  simp only [LO] at y;split at y
  ·rename_i e;simp only [PR,Đ,Į,Wj6] at e;obtain ⟨⟨⟨f,g⟩,k⟩,l⟩:=e;refine wp_region_any hmx ?_
   have:=Qo (P:=P) (T:=T) (LF:=LF) (RF:=RF) (ops:=ops) (hint:=λi=>(ops.toList.map (T1 LF RF st ops.toList)).getD i .free) (anc:=λj i=>((SJ ops.toList).getD j 0).testBit i=true) (K:=λs V'=>V.Le V'/\K .normal s V')
    (λj o e=>MV j o (by simpa using e)) (vj LF RF ops) [] (Array.replicate ops.size false) st V ψ (λj=>by
     simp only [jf,Array.getD];split<;>simp) (λj c=>.inr (d_.1 (g j c))) (λj c=>by
     exfalso;simp only [Array.getD] at c;split at c<;>simp at c) k (C8 l) (Ov (λs V' hle h=>⟨hle,h⟩) y)
   rw [beq_eq.1 f] at this;exact zX hT E (λu β' z w' V' b h=>F u β' z w' V' b h.1 h.2) _ _ _ β _ _ _ D.drew this
  ·exact y.elim
end
section
variable{P:Program}{T:eA}{LF RF:List Nat}{n:Nat}{V0:Ó}{bQ:MN}{β0:Nat->Nat}{β:Nat->Nat}
def dm {c:md}{l:zA Prop}(h:∀p∈(cond c l [False]),p):c=true/\∀p∈l,p:=by (cases c with|true=>exact ⟨rfl,h⟩|false=>{exact (h False ψ).elim})
def Gw {ρ:zA (Nat×Nat)}{β β':Nat->Nat}:∀{ss ts:zA Nat},(∀s'∈ts,∀s,uQ ρ s s'=true->β' s'=β s)->Gv ρ ss ts=true->ss.map β=ts.map β'
 | [],[],_,_=>rfl
 | s::r,s'::r',hβ,h=>by
  simp only [Gv,Đ] at h;simp only [Ł];rw [hβ s' ψ s h.1,Gw (λu hu=>hβ u (by simp [hu])) h.2]
 | [],_::_,_,h=>by simp [Gv] at h
 | _::_,[],_,h=>by simp [Gv] at h
def Pm {ρ:zA (Nat×Nat)}{β β':Nat->Nat}{a b:C}(hβ:∀s'∈b.ids,∀s,uQ ρ s s'=true->β' s'=β s)(h:∀p∈eqC ρ a b,p):a.den β=b.den β':=by unfold eqC at h;split at h;{have ⟨d,i⟩:=dm h;have:=GN d;have:=i _ (ú.2 rfl);subst_vars;rfl};{have:=h _ (ú.2 rfl);subst this;rfl};{have:=h _ (ú.2 rfl);subst this;rfl};{have:=h _ (ú.2 rfl);subst this;rfl};{rename_i a n c r j k;have d:=h (a=r) ψ;have i:=h (n=j) ψ;have l:=h (c=k) ψ;subst d i l;rfl};{rename_i a n c s' j k;have d:=h (a=none) ψ;have i:=h (n=j) ψ;have l:=h (c=k) ψ;have t:=h (c=0) ψ;subst d i l t;rfl};{have:=h _ (ú.2 rfl);subst this;rfl};{have:=h _ (ú.2 rfl);subst this;rfl};{have:=h _ (ú.2 rfl);subst this;rfl};{have:=h _ (ú.2 rfl);subst this;rfl};{have:=h _ (ú.2 rfl);subst this;rfl};{rfl};{rfl};{rename_i s o s' q;have ⟨d,i⟩:=dm h;have e:=hβ s' (by simp [C.ids]) s d;have:=i (o=q) ψ;subst_vars;simp only [C.den,e]};{rename_i s o n c s' q j k;have ⟨m,h⟩:=dm h;have e:=hβ s' (by simp [C.ids]) s m;have d:=h (o=q) ψ;have i:=h (n=j) ψ;have l:=h (c=k) ψ;grind [C.den]};{rename_i s o n c s' j k;have ⟨m,h⟩:=dm h;have e:=hβ s' (by simp [C.ids]) s m;have d:=h (o=0) ψ;have i:=h (n=j) ψ;have l:=h (c=k) ψ;subst d i l;simp only [C.den,e,mA,(h (c≠0) ψ),Ð]};{rename_i s n c s' j k;have ⟨m,h⟩:=dm h;have e:=hβ s' (by simp [C.ids]) s m;have i:=h (n=j) ψ;have l:=h (c=k) ψ;subst_vars;simp only [C.den,e]};{rename_i f u g ts;have ⟨m,h⟩:=dm h;have d:=h (f=g) ψ;subst d;have v:(u.map λs=>Value.pointer (some ⟨β s,0,none⟩))=ts.map λs=>Value.pointer (some ⟨β' s,0,none⟩):=by{have:=Æ (List.map λb=>Value.pointer (some ⟨b,0,none⟩)) (Gw (β:=β) (β':=β') (ts:=ts) (λs' w=>hβ s' w) m);grind [Function.comp_def]};simp only [C.den,v]};{rename_i f x g ws;have d:=h (f=g) ψ;have i:=h (x=ws) ψ;subst d i;rfl};exact (h False ψ).elim
def Cm {ρ:zA (Nat×Nat)}{β β':Nat->Nat}:∀{l m:zA C},(∀s'∈m.flatMap C.ids,∀s,uQ ρ s s'=true->β' s'=β s)->(∀p∈Np ρ l m,p)->l.map (C.den β)=m.map (C.den β')
 | [],[],_,_=>rfl
 | a::r,b::s,hβ,h=>by
  simp only [Np,ü] at h;simp only [Ł];rw [Pm (λu hu=>hβ u (by simp [hu])) λp y=>h p (.inl y),Cm (λu hu=>hβ u (by rw [Ę];exact ŝ _ hu)) λp y=>h p (.inr y)]
 | [],_::_,_,h=>(h False (by simp [Np])).elim
 | _::_,[],_,h=>(h False (by simp [Np])).elim
def TH {ρ:zA (Nat×Nat)}{β β':Nat->Nat}{a b:SV}(hβ:∀s'∈b.ids,∀s,uQ ρ s s'=true->β' s'=β s)(h:∀p∈eqSV ρ a b,p):a.den β=b.den β':=by unfold eqSV at h;split at h;{exact Pm hβ h};{simp only [SV.den];rw [Cm hβ h]};exact (h False ψ).elim
def QW {ρ:zA (Nat×Nat)}{β β':Nat->Nat}{a b:a_}(hβ:∀s'∈b.cs.ids,∀s,uQ ρ s s'=true->β' s'=β s)(h:∀p∈TG ρ a b,p):a.obj β=b.obj β'/\(b.live->a.live):=by unfold TG at h;obtain ⟨ac,at'⟩:=a;obtain ⟨f,g⟩:=b;dsimp only at h;split at h;{have ⟨d,c⟩:=dm h;simp only [a_.obj,ë.den];rw [Cm hβ c,beq_eq.1 d];grind [dP]};{have ⟨d,c⟩:=dm h;have:=c _ (ú.2 rfl);grind [a_.obj,ë.den,beq_eq.1]};{have ⟨d,c⟩:=dm h;have:=c _ (ú.2 rfl);grind [a_.obj,ë.den,beq_eq.1]};{have ⟨d,c⟩:=dm h;have:=c _ (ú.2 rfl);grind [a_.obj,ë.den,beq_eq.1,dQ]};{split at h;{rename_i ws e;have ⟨d,c⟩:=dm h;have:=c _ (ú.2 rfl);grind [a_.obj,ë.den,gR,beq_eq.1,dP]};exact (h False ψ).elim};{split at h;{rename_i ws e;have ⟨d,c⟩:=dm h;have:=c _ (ú.2 rfl);grind [a_.obj,ë.den,gR,beq_eq.1,dP]};exact (h False ψ).elim};exact (h False ψ).elim
def cY {α:Type}:∀{l:zA (Nat×α)} {t:Nat} {x:α},aH l t=some x->(t,x)∈l
 | [],_,_,h=>by cases h
 | (s,y)::r,t,x,h=>by
  simp only [aH] at h;by_cases e:t=s
  ·subst e;rw [Qn3] at h;cases h;simp
  ·rw [iu e] at h;exact ā _ (cY h)
def iM {α:Type}:∀{l:zA (Nat×α)} {t:Nat},t∈l.map (·.1)->∃x,aH l t=some x
 | [],_,h=>by simp at h
 | (s,y)::r,t,h=>by
  simp only [aH];by_cases e:t=s
  ·subst e;rw [Qn3];exact ⟨_,rfl⟩
  ·rw [iu e];exact iM (by simpa [e] using h)
def Gz {ρ:zA (Nat×Nat)}{β β':Nat->Nat}{st:St}:∀{l:zA (Nat×SV)},(∀t x,(t,x)∈l->∀s'∈x.ids,∀s,uQ ρ s s'=true->β' s'=β s)->(∀p∈Xd ρ st l,p)->∀t x,(t,x)∈l->∃y,st.aC t=some y/\y.den β=x.den β'
 | [],_,_,_,_,h=>nomatch h
 | (s,z)::r,hβ,h,t,x,hm=>by
  simp only [Xd] at h;split at h
  ·rename_i y D;simp only [ü] at h;rcases í.1 hm with e|hm
   ·cases e;exact ⟨y,D,TH (hβ _ _ ď) λp u=>h p (.inl u)⟩
   ·exact Gz (λt x h=>hβ t x (by simp [h])) (λp u=>h p (.inr u)) t x hm
  ·exact (h False ψ).elim
def Gy {ρ:zA (Nat×Nat)}{β β':Nat->Nat}{st:St}:∀{l:zA (Nat×a_)},(∀t x,(t,x)∈l->∀s'∈x.cs.ids,∀s,uQ ρ s s'=true->β' s'=β s)->(∀p∈QZ ρ st l,p)->∀t x,(t,x)∈l->x.live ->t∈rS ρ l/\∃y,st.boxes (Ln ρ t)=some y/\y.obj β=x.obj β'/\y.live
 | [],_,_,_,_,h,_=>nomatch h
 | (s,z)::r,hβ,h,t,x,hm,u=>by
  have hβr:∀t x,(t,x)∈r->∀s'∈x.cs.ids,∀s,uQ ρ s s'=true->β' s'=β s:=λt x h=>hβ t x (by simp [h])
  have tail:(∀p∈QZ ρ st r,p)->(t,x)∈r->t∈rS ρ ((s,z)::r)/\∃y,st.boxes (Ln ρ t)=some y/\y.obj β=x.obj β'/\y.live:=by
   intro h hm;have ⟨c,a⟩:=Gy hβr h t x hm u;refine ⟨?_,a⟩;unfold rS;grind
  simp only [QZ] at h;split at h
  ·rename_i d b f;rcases í.1 hm with e|hm;{cases e;have:=h (d=[]) ψ;subst this;exact Å (u [] b) ψ};grind
  ·rename_i g;split at h;{rename_i y i;simp only [ü] at h;rcases í.1 hm with e|hm;{cases e;have ⟨c,a⟩:=QW (hβ _ _ ď) λp j=>h p (.inl j);refine ⟨?_,y,i,c,a u⟩;unfold rS;grind};grind};exact (h False ψ).elim
def Lo {ρ:zA (Nat×Nat)}:∀{l:zA (Nat×a_)} {t:Nat} {x:a_},(t,x)∈l->(∃s,aH ρ t=some s)->t∈rS ρ l
 | [],_,_,h,_=>nomatch h
 | (s,z)::r,t,x,hm,u=>by
  rcases í.1 hm with e|hm
  ·cases e;unfold rS;grind
  ·have:=Lo hm u;unfold rS;grind
def Dj {ρ:zA (Nat×Nat)}:∀{l:zA Nat},G3 ρ l=true->(∀t∈l,(t<100000↔Ln ρ t<100000)/\(100000<=t->t<200000->Ln ρ t=t))/\∀t∈l,∀t'∈l,Ln ρ t=Ln ρ t'->t=t'
 | [],_=>⟨λt h=>(nomatch h),λt h=>(nomatch h)⟩
 | t::r,h=>by
  simp only [G3,Đ,Į] at h;obtain ⟨⟨⟨z,u⟩,D⟩,y⟩:=h;have ⟨i1,i2⟩:=Dj y;have c:∀a b:Nat,Nat.blt a b=true↔a<b:=λa b=>by rw [Nat.blt_eq]
  have d:t<100000↔Ln ρ t<100000:=χ
  have e:100000<=t->t<200000->Ln ρ t=t:=by
   intro f g;simp only [Qp4] at u;rcases u with (u|u)|u
   ·rw [c] at u;omega
   ·have:=Ş u;omega
   ·exact beq_eq.1 u
  grind [Nat.beq_refl]
def DJ {ss:zA (Nat×SV)}{u:zA (Nat×a_)}(h:sG ss u=true):(∀t x,aH ss t=some x->∀s∈x.ids,∃b,aH u s=some b)/\(∀t x,aH u t=some x->∀s∈x.cs.ids,∃b,aH u s=some b):=by unfold sG at h;simp only [Đ,Į] at h;refine ⟨λt x a s c=>iM (d_.1 (h.1 _ (cY a) s c)),λt x a s c=>iM (d_.1 (h.2 _ (cY a) s c))⟩
def FY:∀{l:zA Prop},allL l->∀p∈l,p
 | [],_,_,h=>nomatch h
 | [q],h,p,u=>by rw [ú.1 u];exact h
 | q::r::s,h,p,u=>by
  rcases í.1 u with e|e
  ·rw [e];exact h.1
  ·exact FY h.2 p e
theorem lP {st:St}{a:Act}{w:World}{V:ut}(Z:à n V0 bQ β0 st β a w V){A:ZW}{x:A.τ}{k:Prop}(ht:sG (A.aC x) (A.boxes x)=true)(h:A.fits st x k):(∃β',à n V0 bQ β0 (A.st x) β' a w V)/\k:=by unfold ZW.fits at h;dsimp only at h;generalize Vc st (A.aC x) (A.boxes x)=ρ at h;obtain ⟨o,F⟩:=h;refine ⟨?_,F⟩;replace o:=FY o;have ⟨t1,t2⟩:=DJ ht;have G:G3 ρ (rS ρ (A.boxes x))=true:=by{have:=λp q=>o p (ŝ _ q);unfold fitR at this;(cases hc:G3 ρ (rS ρ (A.boxes x)) with|true=>rfl|false=>{rw [hc] at this;exact (this False ψ).elim})};have ⟨O,P⟩:=Dj G;let β':Nat->Nat:=λt=>if t∈rS ρ (A.boxes x) then β (Ln ρ t) else β t;have c:∀t,t∈rS ρ (A.boxes x)->β' t=β (Ln ρ t):=λt h=>Ä h;have hβ:∀i,(∃b,aH (A.boxes x) i=some b)->∀s,uQ ρ s i=true->β' i=β s:=by{rintro i ⟨b,d⟩ s he;unfold uQ at he;split at he;{rename_i u hu;have e:=beq_eq.1 he;subst e;rw [c i (Lo (cY d) ⟨_,hu⟩)];simp only [Ln,hu]};rename_i hu;have e:=beq_eq.1 he;subst e;by_cases hm:s∈rS ρ (A.boxes x);{rw [c s hm];simp only [Ln,hu]};exact Ã hm};have r:∀t y,(t,y)∈A.aC x->∀s∈y.ids,∃b,aH (A.boxes x) s=some b:=by{intro t y f s g;unfold sG at ht;simp only [Đ,Į] at ht;exact iM (d_.1 (ht.1 _ f s g))};have v:∀t y,(t,y)∈A.boxes x->∀s∈y.cs.ids,∃b,aH (A.boxes x) s=some b:=by{intro t y f s g;unfold sG at ht;simp only [Đ,Į] at ht;exact iM (d_.1 (ht.2 _ f s g))};have B:=Gy (ρ:=ρ) (β:=β) (β':=β') (st:=st) (l:=A.boxes x) (λt y f s g=>hβ s (v t y f s g)) λp q=>o p (Ń _ (ŝ _ q));refine ⟨β',Z.defers,Z.size,?_,t1,t2,?_,?_,Z.tP,?_,Z.ext,?_,?_,Z.nh,Z.small⟩;{intro t y f;obtain ⟨z,j,m⟩:=(Gz (ρ:=ρ) (β:=β) (β':=β') (st:=st) (l:=A.aC x) (λt y f s g=>hβ s (r t y f s g)) λp q=>o p (Ń _ (Ń _ q))) t y (cY f);rw [Z.aC t z j,m]};{intro s b d l;obtain ⟨C,z,j,m,D⟩:=B s b (cY d) l;rw [c s C,Z.boxes _ z j D,m]};{intro s i b H d l E I he;obtain ⟨C,z,j,m,D⟩:=B s b (cY d) l;obtain ⟨J,Q,K,L,M⟩:=B i H (cY E) I;grind [Z.inj]};{intro s b d l;obtain ⟨C,z,j,m,D⟩:=B s b (cY d) l;grind [Z.Ak]};{intro s b d l;obtain ⟨C,z,j,m,D⟩:=B s b (cY d) l;rw [c s C];refine (Z.own _ z j D).imp id λh=>⟨?_,h.2⟩<;>grind};intro s g;have ⟨N,R⟩:=Z.oP s g;refine ⟨N,?_⟩;by_cases hm:s∈rS ρ (A.boxes x)<;>grind
def Nk (hT:eA.ok P T)(hmx:P.follows .mixedOrders=true){L J:Jy}:∀(c:Code)(st:St)(β:Nat->Nat)(a:Act)(w:World)(V:ut)(K:Exit->St->ut->Prop)(Q:Exit->Act->World->Prop),à n V0 bQ β0 st β a w V->ki n c=true->vc P T LF RF L J c st V K->(∀e st' β' a' w' V',à n V0 bQ β0 st' β' a' w' V'->V.Le V'->K e st' V'->Q e a' w')->c.wp P Q a w:=by
 intro c
 induction c with
 | skip=>intro st β a w V K Q g _ f k;exact wp_skip (k _ _ _ _ _ _ g (Ó.Le.refl V) f)
 | region id ops draw=>
  intro st β a w V K Q g p f k
  have Z:∀(i:Nat)(o:Oper),ops[i]?=some o->∀d,o.dst=some d->d<n:=by intro i o ho d Z;simp only [ki,Į] at p;grind [Nat.blt_eq]
  simp only [vc] at f;split at f
  ·have ⟨a0,V1,E,u,F⟩:=g.release f;exact wT hT hmx E Z F (λst' β' a' w' V' h hle r=>k _ _ _ _ _ _ h (u.m hle) r)
  ·rename_i A hA;obtain ⟨I,f,Y⟩:=f;have ⟨a0,V1,E,u,F⟩:=g.release f;refine wT (K:=λ_ s V'=>∃x,(A.at st).fits s x (I x V')) hT hmx E Z F (λst' β' a' w' V' h hle r=>?_);obtain ⟨x,v⟩:=r;have hinv:=v.2;have ⟨O,R⟩:=Y x V' (u.m hle) hinv;obtain ⟨β2,q⟩:=(lP h O v).1;exact k _ _ _ _ _ _ q (u.m hle) R
 | seq x y Zl ihy=>
  intro st β a w V K Q g p f k;simp only [ki,Đ] at p;refine wp_seq (Zl st β a w V _ _ g p.1 f ?_);intro e st' β' a' w' V' h hle r
  cases e with
  | normal=>exact ihy st' β' a' w' V' K Q h p.2 r (λe s b a w C O R h3=>k e s b a w C O (hle.m R) h3)
  | _=>exact k _ _ _ _ _ _ h hle r
 | cond c x y Zl ihy=>
  intro st β a w V K Q g p f k;simp only [ki,Đ] at p;simp only [vc] at f;split at f
  ·split at f;{rename_i z;exact wp_cond_true (g.eval z) (Zl st β a w V K Q g p.1 f k)};{rename_i z;exact wp_cond_false (g.eval z) (ihy st β a w V K Q g p.2 f k)};{rename_i t z;exact wp_cond_split (g.eval z) (λG=>Zl st β a w V K Q g p.1 (f.1 G) k) (λG=>ihy st β a w V K Q g p.2 (f.2 G) k)};exact f.elim
  ·rename_i A hA;split at f;{rename_i z;exact wp_cond_true (g.eval z) (Zl st β a w V K Q g p.1 f k)};{rename_i z;exact wp_cond_false (g.eval z) (ihy st β a w V K Q g p.2 f k)};{rename_i t z;obtain ⟨I,⟨hx,hy⟩,Y⟩:=f;have join:∀e st' β' a' w' V',à n V0 bQ β0 st' β' a' w' V'->V.Le V'->(match e with|.normal=>∃x,(A.at st).fits st' x (I x V')|e=>K e st' V')->Q e a' w':=by{intro e st' β' a' w' V' h hle r;(cases e with|normal=>{obtain ⟨x,v⟩:=r;have hinv:=v.2;grind [lP]}|_=>exact k _ _ _ _ _ _ h hle r)};exact wp_cond_split (g.eval z) (λG=>Zl st β a w V _ Q g p.1 (hx G) join) (λG=>ihy st β a w V _ Q g p.2 (hy G) join)};exact f.elim
 | block id x ih=>
  intro st β a w V K Q g p f k;simp only [vc] at f;split at f
  ·refine wp_block (ih st β a w V _ _ g p f ?_)<;>grind [Exit.inBlock,Nat.beq_refl,iu]
  ·rename_i A hA;obtain ⟨I,f,Y⟩:=f;refine wp_block (ih st β a w V _ _ g p f ?_);intro e st' β' a' w' V' h hle r;have join:(∃x,(A.at st).fits st' x (I x V'))->Q .normal a' w':=by{rintro ⟨x,v⟩;have hinv:=v.2;have ⟨O,R⟩:=Y x V' hle hinv;obtain ⟨β2,q⟩:=(lP h O v).1;exact k _ _ _ _ _ _ q hle R};grind [Exit.inBlock,Nat.beq_refl,iu]
 | loop x ih=>
  intro st β a w V K Q g p f k;simp only [vc] at f;split at f
  ·refine wp_loop_ghost (λm a w=>∃st β V',à n V0 bQ β0 st β a w V'/\V.Le V'/\unr (λst V K=>vc P T LF RF L J x st V K) m st V' K) 3 ⟨st,β,V,g,Ó.Le.refl V,f⟩ ?_;rintro m a w ⟨st',β',V',h,hle,hu⟩;(cases m with|zero=>exact hu.elim|succ m=>{refine ih st' β' a w V' _ _ h p hu ?_;intro e Vw β'' S U C D j r;(cases e with|normal=>exact ⟨m,Nat.lt_succ_self m,Vw,β'',C,D,hle.m j,r⟩|_=>exact k _ _ _ _ _ _ D (hle.m j) r)})
  ·rename_i A hA;split at f;{obtain ⟨I,ms,⟨N,B⟩,H⟩:=f;have W:=B.2;refine wp_loop_ghost (λm a w=>∃x β V',à n V0 bQ β0 ((A.at st).st x) β a w V'/\V.Le V'/\I x V'/\ms x=m) (ms N) ?_ ?_;{obtain ⟨β2,q⟩:=(lP g (H N V (Ó.Le.refl V) W).1 B).1;exact ⟨N,β2,V,q,Ó.Le.refl V,W,rfl⟩};rintro m a w ⟨x,β,V',h,hle,hinv,rfl⟩;refine ih ((A.at st).st x) β a w V' _ _ h p (H x V' hle hinv).2 ?_;intro e Vw β'' S U C D j r;(cases e with|normal=>{obtain ⟨y,M,v⟩:=r;have X:=v.2;obtain ⟨β2,q⟩:=(lP D (H y C (hle.m j) X).1 v).1;exact ⟨ms y,M,y,β2,C,q,hle.m j,X,rfl⟩}|_=>exact k _ _ _ _ _ _ D (hle.m j) r)};obtain ⟨I,⟨N,k0,B⟩,H⟩:=f;have W:=B.2;refine wp_loop_ghost (λm a w=>∃x β V',à n V0 bQ β0 ((A.at st).st x) β a w V'/\V.Le V'/\I x m V') k0 ?_ ?_;{obtain ⟨β2,q⟩:=(lP g (H N k0 V (Ó.Le.refl V) W).1 B).1;exact ⟨N,β2,V,q,Ó.Le.refl V,W⟩};rintro m a w ⟨x,β,V',h,hle,hinv⟩;refine ih ((A.at st).st x) β a w V' _ _ h p (H x m V' hle hinv).2 ?_;intro e Vw β'' S U C D j r;(cases e with|normal=>{obtain ⟨y,k',M,v⟩:=r;have X:=v.2;obtain ⟨β2,q⟩:=(lP D (H y k' C (hle.m j) X).1 v).1;exact ⟨k',M,y,β2,C,q,hle.m j,X⟩}|_=>exact k _ _ _ _ _ _ D (hle.m j) r)
 | exit id=>intro st β a w V K Q g _ f k;exact wp_exit (k _ _ _ _ _ _ g (Ó.Le.refl V) f)
 | scope x ih=>
  intro st β a w V K Q g p f k;simp only [vc] at f;refine wp_scope_straight (ih st β a w V _ _ g p f ?_);intro e st' β' a' w' V' h hle r
  cases e with
  | goto l=>exact r.elim
  | _=>exact k _ _ _ _ _ _ h hle r
 | label l=>intro st β a w V K Q g _ f k;exact wp_label (k _ _ _ _ _ _ g (Ó.Le.refl V) f)
 | ret=>intro st β a w V K Q g _ f k;exact wp_ret (k _ _ _ _ _ _ g (Ó.Le.refl V) f)
 | _=>intro st β a w V K Q g _ f k;exact f.elim
end
section
variable{P:Program}{T:eA}{LF RF:List Nat}{n:Nat}{V0:Ó}{bQ:MN}{β0:Nat->Nat}{β:Nat->Nat}{st:St}{a:Act}{w:World}{V:Ó}
def Yn (tmps:Array Value):ResultVar->Sem Value
 | .tmp t=>pure (tmps.getD t undef)
 | .cell c t=>do loadVar t (<-asAddr (tmps.getD c undef))
def Od (fn:Func)(tmps:Array un):results fn tmps=(do let vs <-fn.results.mapM (Yn tmps);pure (if h:vs.size=1 then vs[0] else .tuple vs)):=by unfold results;congr 1
def rT (hT:eA.ok P T)(u:à n V0 bQ β0 st β a w V):∀{l:zA ResultVar} {xs:zA SV},pS T st l=some xs ->(l.mapM (Yn a.tmps)).run P w=.ok (xs.map (SV.den β)) w/\∀x∈xs,Ē st x
 | [],xs,h=>by cases h;exact ⟨rfl,λx z=>nomatch z⟩
 | .tmp t::r,xs,h=>by
  simp only [pS] at h;split at h
  ·rename_i x l z D;cases h;have ⟨F,E⟩:=rT hT u D;refine ⟨?_,λy b=>?_⟩
   ·grind [Yn,Sem.run_bind,Sem.run_pure,Result.andThen_ok,u.aC]
   ·rcases í.1 b with rfl|b
    ·exact u.Ew t y z
    ·exact E y b
  ·cases h
 | .cell c t::r,xs,h=>by
  simp only [pS] at h;split at h
  ·rename_i s o i l z d D;split at h
   ·rename_i g x e;cases h;have ⟨F,E⟩:=rT hT u D;have ⟨f,j⟩:=GY u (hT _ _ d) e;have k:(loadVar t ⟨β s,o,none⟩).run P w=.ok (x.den β) w:=f;refine ⟨?_,λy b=>?_⟩
    ·have m:a.tmps.getD c undef=.pointer (some ⟨β s,o,none⟩):=u.aC c _ z;have p:asAddr (.pointer (some ⟨β s,o,none⟩))=pure ⟨β s,o,none⟩:=rfl;grind [Yn,Sem.run_bind,Result.andThen_ok,Sem.run_pure]
    grind
   ·cases h
  ·cases h
def Lp (hT:eA.ok P T)(u:à n V0 bQ β0 st β a w V){fn:Func}{xs:zA SV}(h:pS T st fn.results.toList=some xs):(results fn a.tmps).run P w=.ok (pR β xs) w/\∀x∈xs,Ē st x:=by
 have ⟨b,c⟩:=rT hT u h;refine ⟨?_,c⟩;rw [Od,Wy8];simp only [map_eq_pure_bind,bind_assoc,pure_bind,Sem.run_bind];rw [b];simp only [Result.andThen_ok,Sem.run_pure]
 match xs with
 | []=>simp [pR]
 | [x]=>simp [pR]
 | x::y::r=>simp [pR]
def S0 (β0:Nat->Nat)(s:Nat)(b:a_):List (Nat×a_)->Prop
 | []=>True
 | (t,b')::r=>wD (Sr b++Sr b') (β0 s≠β0 t)/\S0 β0 s b r
def WJ (β0:Nat->Nat)(V:Ó):List (Nat×a_)->Prop
 | []=>True
 | (s,b)::r=>(wD (Sr b) (V.w.heap[β0 s]?=some (b.obj β0))/\wD (Sr b) (V.X (β0 s)))/\S0 β0 s b r/\WJ β0 V r
def uF {s:Nat}{b:a_}:∀{r:zA (Nat×a_)},S0 β0 s b r->∀t b',aH r t=some b'->b.live->b'.live->β0 s≠β0 t
 | [],_,_,_,h=>by cases h
 | (u,c)::r,h,t,b',y=>by
  simp only [aH] at y;by_cases e:t=u
  ·subst e;rw [Qn3] at y;cases y;have z:=h.1;grind [zK,kT.1]
  ·rw [iu e] at y;exact uF h.2 t b' y
def F6:∀{u:zA (Nat×a_)},WJ β0 V u->(∀s b,aH u s=some b->b.live->V.w.heap[β0 s]?=some (b.obj β0)/\V.X (β0 s))/\∀s s' b b',aH u s=some b->b.live->aH u s'=some b'->b'.live->β0 s=β0 s'->s=s'
 | [],_=>⟨λs b h=>(by cases h),λs s' b b' h=>(by cases h)⟩
 | (s,b)::r,⟨D,y,z⟩=>by
  have ⟨g1,g2⟩:=F6 z;refine ⟨λt x h l=>?_,λt f x i a l c g he=>?_⟩
  ·simp only [aH] at h;grind [kT.1,iu]
  ·simp only [aH] at a c;by_cases e:t=s<;>by_cases d:f=s
   ·rw [e,d]
   ·subst e;rw [Qn3] at a;cases a;rw [iu d] at c;exact Å he (uF y f i c l g)
   ·subst d;rw [Qn3] at c;cases c;rw [iu e] at a;exact Å he.symm (uF y t x a g l)
   grind [iu]
def sw:∀{l:zA (Nat×SV)} {i:Nat},tL i l=true->∀t x,aH l t=some x->∃k,t=i+k/\l[k]?=some (t,x)
 | [],_,_,_,_,h=>by cases h
 | (j,y)::r,i,u,t,x,h=>by
  simp only [tL,Đ] at u;obtain ⟨⟨z,-⟩,D⟩:=u;have z:=beq_eq.1 z;simp only [aH] at h;by_cases e:t=j
  ·subst e;rw [Qn3] at h;cases h;exact ⟨0,ω,rfl⟩
  ·rw [iu e] at h;have ⟨k,b,a⟩:=sw D t x h;exact ⟨k+1,ω,by simpa using a⟩
def xX {bx:Nat->Option a_}{V':ut}:∀{l:zA Nat} {k:Prop},SZ bx β V' l k->(∀s∈l,∀b,bx s=some b->b.live->V'.w.heap[β s]?=some (b.obj β))->(∀s∈l,∃b,bx s=some b/\b.live)/\k
 | [],_,h,_=>⟨λs y=>(nomatch y),h⟩
 | s::r,k,h,u=>by
  simp only [SZ] at h;split at h
  ·exact h.elim
  ·rename_i b hne z
   have lb:b.live:=by
    intro c e;obtain ⟨cs,ty⟩:=b;dsimp only at e;subst e;grind
   have ⟨d,f⟩:=xX (h (u s ψ b z lb)) λt a=>u t (ā _ a);grind
  ·exact h.elim
def GA:∀{u:zA (Nat×a_)} {m:Nat} {b:a_},(m,b)∈u->(∃vs,b.cs=.aF vs)\/m∈mE u
 | [],_,_,h=>nomatch h
 | (s,x)::r,m,b,h=>by
  rcases í.1 h with e|h
  ·cases e;unfold mE;grind
  ·refine (GA h).imp id λh=>?_;unfold mE;grind
def Cr:∀{u:zA (Nat×a_)} {m:Nat},m∈mE u->m∈u.map (·.1)
 | [],_,h=>nomatch h
 | (s,x)::r,m,h=>by
  unfold mE at h;split at h
  ·exact ā _ (Cr h)
  ·rcases í.1 h with rfl|h
   ·simp
   ·exact ā _ (Cr h)
def GQ {b:Nat}{k:Prop}:∀{u:zA (Nat×a_)} {m:Nat} {vs:zA un} {ty:TypeId},(m,(⟨.aF vs,ty⟩:a_))∈u->vs≠[]->b=β0 m->Up u β0 b k
 | [],_,_,_,h,_,_=>nomatch h
 | (s,x)::r,m,vs,ty,h,y,he=>by
  rcases í.1 h with e|h
  ·cases e;exact .inl ⟨y,he⟩
  ·have:=GQ (k:=k) h y he;unfold Up;grind
def oD {l m:zA Nat}{s:Nat}:s∈Ą l m↔s∈l/\s∉m:=by unfold Ą;grind [d_.2,d_.1]
def Qm {bx:Nat->Option a_}{s:Nat}(h:zU T bx s=false):s<100000:=by rcases ę s 100000 with g|g;{exact g};unfold zU at h;grind [Nat.ble_eq]
def G4 {bs:zA (Nat×a_)}(hT:eA.ok P T)(hM:à n V0 ⟨mE bs,λb=>∃m b0,aH bs m=some b0/\b0.live/\b=β0 m⟩ β0 st β a w V){fn:Func}{R:un->ut->Prop}(hv:P0 T fn.results.toList bs β0 V0.w.heap.size R st V):∃v,(results fn a.tmps).run P w=.ok v w/\R v (V0.to w hM.ext.size):=by
 unfold P0 at hv;split at hv
 ·exact hv.elim
 ·rename_i xs M;have ⟨h1,h2⟩:=Lp hT hM M;dsimp only at hv;split at hv
  ·exact hv.elim
  ·rename_i D;generalize hL:ó st.boxes 3 (ø (xs.flatMap SV.ids++mE bs))=L at hv D
   have k:∀s,s∈xs.flatMap SV.ids\/s∈mE bs->s∈L:=λs c=>by rw [<-hL];exact gO 3 _ s (cH.2 (ü.2 c))
   have hle:V.Le (V0.to w hM.ext.size):=by intro b o d;obtain ⟨B,C⟩:=hM.tP b o d;exact ⟨C,B⟩
   have γf:∀γ:Nat->Nat,γ=(λt=>if t∈Ą L (mE bs) then β t else β0 t)->(∀s∈L,γ s=β s)/\pR γ xs=pR β xs:=by
    intro γ hγ
    have f:∀s∈L,γ s=β s:=by intro s c;rw [hγ];by_cases d:s∈mE bs;{have:s∉Ą L (mE bs):=λh=>(oD.1 h).2 d;simp only [this,Ð];exact (hM.oP s d).2.symm};grind [oD.2]
    refine ⟨f,?_⟩;have i:∀x∈xs,x.den γ=x.den β:=λx i=>SV.cg λs c=>f s (k s (.inl (ė.2 ⟨x,i,c⟩)))
    match xs,i with
    | [],_=>rfl
    | [x],i=>exact i x ψ
    | x::y::r,i=>simp only [pR];rw [š i]
   have J:∀γ:Nat->Nat,(∀s∈L,γ s=β s)->∀s∈L,∀b,st.boxes s=some b->b.live->(V0.to w hM.ext.size).w.heap[γ s]?=some (b.obj γ):=by intro γ f s c b d l;rw [f s c,a_.dJ λt p=>f t (fU D c d t p)];exact hM.boxes s b d l
   have j:∀γ:Nat->Nat,(∀s∈L,γ s=β s)->∀s∈L,s<100000->∀b,st.boxes s=some b->b.live->(V0.to w hM.ext.size).aX (γ s) (b.obj γ):=by intro γ f s c E b d l;refine ⟨λhH=>?_,J γ f s c b d l⟩;have hH:=hH;rw [f s c] at hH;rcases hM.own s b d l with h|⟨h,-⟩;{have:=V0.hH _ hH;omega};omega
   split at hv
   ·rename_i K;have E:∀s∈Ą L (mE bs),s<100000:=by{intro s c;(cases p:zU T st.boxes s with|false=>exact Qm p|true=>{have:s∈(Ą L (mE bs)).filter (zU T st.boxes):=ļ.2 ⟨c,p⟩;rw [K] at this;cases this})};have g:=jg (hv _ hle) β;generalize hγ:(λt=>if t∈Ą L (mE bs) then β t else β0 t)=γ at g;have ⟨f,F⟩:=γf γ hγ.symm;obtain ⟨-,q⟩:=xX g (λs c b d l=>J γ f s (k s (.inr c)) b d l);obtain ⟨-,G⟩:=jA q (λs c b d l=>j γ f s (oD.1 c).1 (E s c) b d l);grind
   ·rename_i s K;split at hv
    ·rename_i b d
     have c:s∈Ą L (mE bs):=by have:s∈(Ą L (mE bs)).filter (zU T st.boxes):=by{rw [K];simp};exact (ļ.1 this).1
     have ⟨z,N⟩:=oD.1 c;have g:=jg (hv (V0.to w hM.ext.size)) β;generalize hγ:(λt=>if t∈Ą L (mE bs) then β t else β0 t)=γ at g;have ⟨f,F⟩:=γf γ hγ.symm
     have H:V.Le ((V0.to w hM.ext.size).bq (gdP b) (γ s)):=by intro x o i;obtain ⟨B,C⟩:=hle x o i;refine ⟨λO=>?_,C⟩;rcases O with O|⟨X,e,-⟩;{exact B O};rw [f s z] at e;exact hM.Ak s b d (Xl.1 X) o (e▸i)
     have ⟨Y,q⟩:=xX (g H) (λs c b d l=>J γ f s (k s (.inr c)) b d l)
     have G:=q (kT.2 λl=>J γ f s z b d l) (kT.2 λl=>by
      rw [f s z];rcases hM.own s b d l with h|⟨-,m,b0,hm,Z,he⟩
      ·exact .inl h
      ·right;rcases GA (cY hm) with ⟨vs,I⟩|A
       ·obtain ⟨cs,ty⟩:=b0;dsimp only at I;subst I;exact GQ (cY hm) (Z vs rfl) he
       ·exfalso;obtain ⟨b1,Q,l1⟩:=Y m A;have e:=(hM.oP m A).2;rw [<-e] at he;have:=hM.inj s m b b1 d l Q l1 he;exact N (this▸A))
     obtain ⟨-,a0⟩:=jA G (λu hu b' S l'=>by
      obtain ⟨B,C⟩:=ļ.1 hu;have U:u≠s:=λe=>by subst e;rw [Qn3] at C;cases C
      have W:u<100000:=by (cases p:zU T st.boxes u with|false=>exact Qm p|true=>{have:u∈(Ą L (mE bs)).filter (zU T st.boxes):=ļ.2 ⟨B,p⟩;rw [K] at this;exact Å (ú.1 this) U})
      exact j γ f u (oD.1 B).1 W b' S l')
     grind
    ·exact hv.elim
   ·exact hv.elim
def TN (hT : eA.ok P T)(hmx : P.follows .mixedOrders = true){L J : Jy}{f : FuncId}{fn : Func}(hf : P.funcs[f]? = some fn)(hn : (fn.name == "runtime.NumGoroutine") = false){ss:zA (Nat×SV)}{Z:zA (Nat×a_)}{args:Array un}{R:un->ut->Prop}(ha:args=(ss.map λx=>x.2.den β0).toArray)(hb:WJ β0 V Z)(hv:I0 P T LF RF L J fn ss Z β0 V R):aa P f args V R:=by
 unfold I0 at hv;split at hv
 ·rename_i code c;split at hv
  ·rename_i z;simp only [Đ,Į,Nat.ble_eq] at z;obtain ⟨⟨⟨⟨⟨d,B⟩,hlen⟩,g⟩,C⟩,r⟩:=z
   have i:∀x∈Z,100000<=x.1/\x.1<200000:=λx n=>by
    have ⟨D,E⟩:=C x n;exact ⟨D,Ş E⟩
   refine ⟨⟨fn,hf,by rw [c];rfl,hn⟩,calls_of_wp hf c ?_⟩;have ⟨A,F⟩:=F6 hb;have ⟨t1,t2⟩:=DJ r;have G:args.size=ss.length:=by rw [ha];simp
   have H:à fn.ntmps V ⟨mE Z,λb=>∃m b0,aH Z m=some b0/\b0.live/\b=β0 m⟩ β0 ⟨aH ss,aH Z⟩ β0 { tmps:=args++Array.replicate (fn.ntmps-args.size) undef,defers:=[] } V.w V:=by
    refine ⟨rfl,by simp;omega,?_,t1,t2,λs b h l=>(A s b h l).1,λs I b K h l M N=>F s I b K h l M N,λb o h=>⟨h.2,h.1⟩,λs b h l o O=>O.1 (V.hX _ (A s b h l).2),kI.refl _ _,?_,?_,?_,g⟩
    ·intro t x n;have ⟨k,p,j⟩:=sw B t x n;have q:k<ss.length:=χ
     have u:t=k:=ω
     subst u;have:args[t]?=some (x.den β0):=by rw [ha];simp [j]
     have y:t<args.size:=ω
     show (args++Array.replicate (fn.ntmps-args.size) undef).getD t undef=_;rw [Array.getD_eq_getD_getElem?,Array.getElem?_append_left y,this];rfl
    ·intro s b h l;exact .inr ⟨(i _ (cY h)).1,s,b,h,l,rfl⟩
    ·intro s Q;obtain ⟨x,n,rfl⟩:=ÿ.1 (Cr Q);grind
    grind
   refine Nk hT hmx code _ β0 _ _ V _ _ H d hv ?_;intro e S β' U W X a hle q
   cases e with
   | normal=>
    have ⟨v,p,j⟩:=G4 hT a q;exact ⟨a.defers,v,p,v,rfl,a.ext,j⟩
   | ret=>
    have ⟨v,p,j⟩:=G4 hT a q;exact ⟨a.defers,v,p,v,rfl,a.ext,j⟩
   | _=>exact q.elim
  ·exact hv.elim
 ·exact hv.elim
def bD (hT : eA.ok P T)(hmx : P.follows .mixedOrders = true)(L J : Jy){f : FuncId}{fn : Func}(y : P.funcs[f]? = some fn)(z : (fn.name == "runtime.NumGoroutine") = false)(ss:zA (Nat×SV))(u:zA (Nat×a_)){args:Array un}{R:un->ut->Prop}(D:args=(ss.map λx=>x.2.den β0).toArray)(E:WJ β0 V u){G:Prop}(h:G)(F:G=I0 P T LF RF L J fn ss u β0 V R):aa P f args V R:=by
 subst F;exact TN hT hmx y z D E h
def ZP (h:T.map (λx=>pI P x.1)=T.map λx=>some x.2):eA.ok P T:=by intro t i a;obtain ⟨k,b⟩:=List.getElem?_of_mem (cY a);have:=Æ (λl=>l[k]?) h;grind
end
end Go.Eng
namespace Go.Proofs.Tryz
open Go.Eng
variable{l:List Value}
abbrev aM:List Nat:=[]
abbrev am:C:=.v (.int .i64 0)
abbrev be:C:=.v (.slice none 0 0)
abbrev bi:C:=.v (.pointer none)
abbrev bt:C:=.v (.int .u64 0)
abbrev bv:C:=.v (.nilFunc)
abbrev bA:C:=.v (.tuple #[.int .i64 0,.int .i64 0])
abbrev ce:C:=.v (.tuple #[.slice none 0 0,.slice none 0 0])
abbrev ci:C:=.v (.tuple #[.int .i64 0,.bool false])
abbrev co:C:=.v (.tuple #[.slice none 0 0,.bool false])
abbrev dd:C:=.ff
abbrev dg(n e:Nat):Nat×TI:=(n,⟨.slice e,1,24,[be]⟩)
abbrev dk(n e:Nat):Nat×TI:=(n,⟨.ptr e,1,8,[bi]⟩)
def tab:eA:=[(3,⟨.int .i64,1,8,[am]⟩),(0,⟨.tuple [],1,0,[.v (.tuple #[])]⟩),(4,⟨.bool,1,1,[dd]⟩),(34,⟨.struct [(32,0),(30,2)],3,56,[dd,be,be]⟩),(97,⟨.struct [(2,0),(2,1),(95,2)],3,24,[am,am,bi]⟩),(36,⟨.struct [(34,0),(34,3)],6,112,[dd,be,be,dd,be,be]⟩),(228,⟨.int .u64,1,8,[bt]⟩),(105,⟨.struct [(97,0),(97,3),(97,6)],9,72,[am,am,bi,am,am,bi,am,am,bi]⟩),(69,⟨.struct [(32,0),(32,2),(32,4)],6,96,[dd,be,dd,be,dd,be]⟩),(99,⟨.struct [(97,0),(97,3)],6,48,[am,am,bi,am,am,bi]⟩),dg 50 271,(271,⟨.int .u32,1,4,[.v (.int .u32 0)]⟩),dg 30 271,(32,⟨.struct [(4,0),(30,1)],2,32,[dd,be]⟩),(2,⟨.int .i64,1,8,[am]⟩),dg 175 105,dg 101 99,(52,⟨.struct [(4,0),(50,1)],2,32,[dd,be]⟩),dg 347 350,(350,⟨.struct [(97,0),(3,3),(3,4)],5,40,[am,am,bi,am,am]⟩),(107,⟨.struct [(97,0),(97,3),(4,6),(4,7)],8,56,[am,am,bi,am,am,bi,dd,dd]⟩),dg 75 69,(81,⟨.struct [(34,0),(34,3),(4,6),(4,7)],8,120,[dd,be,be,dd,be,be,dd,dd]⟩),dk 25 73,dg 38 36,(109,⟨.struct [(105,0),(107,9)],17,128,[am,am,bi,am,am,bi,am,am,bi,am,am,bi,am,am,bi,dd,dd]⟩),(83,⟨.struct [(69,0),(81,6)],14,216,[dd,be,dd,be,dd,be,dd,be,be,dd,be,be,dd,dd]⟩),dg 102 109,(73,⟨.struct [(4,0),(4,1),(69,2),(25,8),(25,9)],10,120,[dd,dd,dd,be,dd,be,dd,be,bi,bi]⟩),dg 156 34,(266,⟨.int .u64,1,8,[bt]⟩),dg 27 83,dk 92 234,dk 95 256,dg 29 271,dg 78 81,(54,⟨.struct [(52,0),(50,2)],3,56,[dd,be,be]⟩),dk 23 65,(56,⟨.struct [(54,0),(54,3)],6,112,[dd,be,be,dd,be,be]⟩),(358,⟨.int .u64,1,8,[bt]⟩),(133,⟨.struct [(52,0),(52,2),(52,4)],6,96,[dd,be,dd,be,dd,be]⟩),dg 46 194,dg 41 56,(150,⟨.struct [(147,0),(3,1),(75,2)],3,56,[be,am,be]⟩),(48,⟨.struct [(3,0),(46,1)],2,32,[am,be]⟩),(43,⟨.iface,1,16,[.v (.nilIface)]⟩),(234,⟨.struct [(105,0),(92,9),(92,10),(4,11)],12,96,[am,am,bi,am,am,bi,am,am,bi,bi,bi,dd]⟩),dg 179 107,dg 178 107,(190,⟨.func,1,8,[bv]⟩),(241,⟨.func,1,8,[bv]⟩),(352,⟨.func,1,8,[bv]⟩),dg 147 38,dg 159 4,(313,⟨.int .i64,1,8,[am]⟩),dg 22 3,dk 362 3,(256,⟨.struct [(52,0),(50,2)],3,56,[dd,be,be]⟩),(231,⟨.struct [(46,0),(159,1),(3,2),(4,3)],4,64,[be,be,am,dd]⟩),dg 128 137,(135,⟨.struct [(54,0),(54,3),(4,6),(4,7)],8,120,[dd,be,be,dd,be,be,dd,dd]⟩),(194,⟨.struct [(133,0),(3,6),(3,7)],8,112,[dd,be,dd,be,dd,be,am,am]⟩),dg 298 92,(250,⟨.func,1,8,[bv]⟩),(65,⟨.struct [(22,0),(3,1)],2,32,[be,am]⟩),(137,⟨.struct [(133,0),(135,6)],14,216,[dd,be,dd,be,dd,be,dd,be,be,dd,be,be,dd,dd]⟩),(348,⟨.arr 2 3,2,16,[am,am]⟩),dg 152 219,(304,⟨.arr 2 178,2,48,[be,be]⟩),(376,⟨.tuple [3,3],1,0,[bA]⟩),(205,⟨.tuple [30,30],1,0,[ce]⟩),dk 229 231,(268,⟨.tuple [228,4],1,0,[.v (.tuple #[.int .u64 0,.bool false])]⟩),(328,⟨.arr 2 27,2,48,[be,be]⟩),(86,⟨.tuple [36,4],1,0,[.v (.tuple #[.agg #[.bool false,.slice none 0 0,.slice none 0 0,.bool false,.slice none 0 0,.slice none 0 0],.bool false])]⟩),(5,⟨.int .u8,1,1,[.v (.int .u8 0)]⟩),(294,⟨.tuple [2,4],1,0,[ci]⟩),(9,⟨.str,1,16,[.v (.string ByteArray.empty)]⟩),(125,⟨.tuple [69,4],1,0,[.v (.tuple #[.agg #[.bool false,.slice none 0 0,.bool false,.slice none 0 0,.bool false,.slice none 0 0],.bool false])]⟩),(305,⟨.func,1,8,[bv]⟩),dg 219 56,dk 375 358,(404,⟨.struct [(9,0)],1,16,[.v (.string ByteArray.empty)]⟩),(116,⟨.tuple [46,3],1,0,[.v (.tuple #[.slice none 0 0,.int .i64 0])]⟩),(272,⟨.tuple [271,271],1,0,[.v (.tuple #[.int .u32 0,.int .u32 0])]⟩),(292,⟨.tuple [50,50,4],1,0,[.v (.tuple #[.slice none 0 0,.slice none 0 0,.bool false])]⟩),(314,⟨.tuple [3,313],1,0,[bA]⟩),(318,⟨.tuple [3,4],1,0,[ci]⟩),(345,⟨.tuple [107,4],1,0,[.v (.tuple #[.agg #[.int .i64 0,.int .i64 0,.pointer none,.int .i64 0,.int .i64 0,.pointer none,.bool false,.bool false],.bool false])]⟩),(60,⟨.func,1,8,[bv]⟩),(93,⟨.tuple [92,43],1,0,[.v (.tuple #[.pointer none,.nilIface])]⟩),(112,⟨.tuple [99,4],1,0,[.v (.tuple #[.agg #[.int .i64 0,.int .i64 0,.pointer none,.int .i64 0,.int .i64 0,.pointer none],.bool false])]⟩),(161,⟨.tuple [4,4],1,0,[.v (.tuple #[.bool false,.bool false])]⟩),(237,⟨.tuple [105,4],1,0,[.v (.tuple #[.agg #[.int .i64 0,.int .i64 0,.pointer none,.int .i64 0,.int .i64 0,.pointer none,.int .i64 0,.int .i64 0,.pointer none],.bool false])]⟩),(277,⟨.tuple [81,4],1,0,[.v (.tuple #[.agg #[.bool false,.slice none 0 0,.slice none 0 0,.bool false,.slice none 0 0,.slice none 0 0,.bool false,.bool false],.bool false])]⟩),(373,⟨.tuple [50,4],1,0,[co]⟩),(192,⟨.func,1,8,[bv]⟩),(239,⟨.func,1,8,[bv]⟩),(244,⟨.func,1,8,[bv]⟩),(44,⟨.tuple [41,41,43],1,0,[.v (.tuple #[.slice none 0 0,.slice none 0 0,.nilIface])]⟩),(58,⟨.tuple [38,38],1,0,[ce]⟩),(129,⟨.tuple [128,43],1,0,[.v (.tuple #[.slice none 0 0,.nilIface])]⟩),(171,⟨.tuple [92,4],1,0,[.v (.tuple #[.pointer none,.bool false])]⟩),(213,⟨.tuple [75,4],1,0,[co]⟩),(246,⟨.tuple [179,179],1,0,[ce]⟩),(281,⟨.tuple [83,4],1,0,[.v (.tuple #[.agg #[.bool false,.slice none 0 0,.bool false,.slice none 0 0,.bool false,.slice none 0 0,.bool false,.slice none 0 0,.slice none 0 0,.bool false,.slice none 0 0,.slice none 0 0,.bool false,.bool false],.bool false])]⟩),(284,⟨.tuple [27,27],1,0,[ce]⟩),(329,⟨.tuple [78,4],1,0,[co]⟩),(336,⟨.tuple [50,271],1,0,[.v (.tuple #[.slice none 0 0,.int .u32 0])]⟩),(338,⟨.tuple [50,50],1,0,[ce]⟩),(355,⟨.tuple [228,228],1,0,[.v (.tuple #[.int .u64 0,.int .u64 0])]⟩),dk 387 404]
def tabD:eA:=tab++[
 (69,⟨.struct [(32,0),(32,2),(32,4)],6,96,[.ff,.v (.slice none 0 0),.ff,.v (.slice none 0 0),.ff,.v (.slice none 0 0)]⟩),
 (83,⟨.struct [(69,0),(81,6)],14,216,[.ff,.v (.slice none 0 0),.ff,.v (.slice none 0 0),.ff,.v (.slice none 0 0),.ff,.v (.slice none 0 0),.v (.slice none 0 0),.ff,.v (.slice none 0 0),.v (.slice none 0 0),.ff,.ff]⟩),
 (109,⟨.struct [(105,0),(107,9)],17,128,[.v (.int .i64 0),.v (.int .i64 0),.v (.pointer none),.v (.int .i64 0),.v (.int .i64 0),.v (.pointer none),.v (.int .i64 0),.v (.int .i64 0),.v (.pointer none),.v (.int .i64 0),.v (.int .i64 0),.v (.pointer none),.v (.int .i64 0),.v (.int .i64 0),.v (.pointer none),.ff,.ff]⟩)]
def YI:eA.ok prog tabD:=ZP ζ
def bY:eA.ok prog tab:=ZP ζ
def Ċ:prog.follows .mixedOrders=true:=ζ
abbrev VP:=Ó->Prop
abbrev qn:=Nat×Nat×List Value×Int
abbrev qr:=Int×Int×List Value
abbrev wd:=Nat×Nat×List Value×Int×List Value
abbrev wt:=Int×List Value
abbrev zh:=Nat×Nat×List Value×Nat×Nat×List Value×Int
abbrev zi:=Bool×OA×Nat×Nat×OA×Nat×Nat×Bool×OA×Nat×Nat×OA×Nat×Nat×Bool×Bool
abbrev km:=Int×Int
abbrev kw:=Int×Bool×OA×Nat×Nat×OA×Nat×Nat×Bool×OA×Nat×Nat×OA×Nat×Nat×Bool×Bool
abbrev jc:=Nat×Nat×List Value×Bool×Int×List Value×Int×Int×OA×Int×Int×OA×Bool×Bool
abbrev jp:=Int×Nat×Nat×Nat×Nat×List Value×List Value
abbrev ve:=OA×Nat×Nat×OA×Nat×Nat
abbrev vf:=OA×Nat×Nat×OA×Nat×Nat×Int
abbrev vn:=Nat×Nat×List Value
abbrev qaa:=Nat×Nat×List Value×Int×Nat×Nat×Int×OA×Nat×Nat×List Value
abbrev qab:=Int×Bool×OA×Nat×Nat×OA×Nat×Nat
abbrev qac:=Nat×Nat×List Value×Nat×Nat×List Value
abbrev qad:=Nat×Nat×List Value×Int×OA×Nat×Nat×Int
abbrev qae:=Int×Int×OA×Int×Int×OA×Bool×Bool
abbrev qaf:=Int×List Value×List Value
abbrev qag:=OA×Nat×Nat×Int×List Value
abbrev qah:=Nat×Nat×List Value×Int×Int×OA×Int×Int×OA×Bool×Bool
abbrev qai:=OA×Nat×Nat×Bool×OA×Nat×Nat
abbrev qaj:=Int×Int×Int×List Value
abbrev qak:=Nat×Nat×List Value×List Value
abbrev qal:=Nat×Nat×List Value×Int×Int
abbrev qam:=Int×OA×Nat×Nat
abbrev qan:=OA×Nat×Nat×Int
abbrev qao:=OA×Nat×Nat
abbrev qap:=Bool×OA×Nat×Nat×Int
abbrev VR:=Value->VP
abbrev Rt (V:Ó)(R:VR)(x:Value):Prop:=∀v:Ó,V.Le v->R x v
section
variable{α0 α1 α2 α3 α4 α5 α6 α7 α8 α9 α10 α11:Type}(a:α0)(b:α1)(c:α2)(d:α3)(e:α4)(f:α5)(g:α6)(h:α7)(i:α8)(j:α9)(k:α10)(l:α11)(K:Prop)
abbrev s3:=sm a/\sm b/\sm c/\K
abbrev s4:=sm a/\sm b/\sm c/\sm d/\K
abbrev s5:=sm a/\sm b/\sm c/\sm d/\sm e/\K
abbrev s6:=sm a/\sm b/\sm c/\sm d/\sm e/\sm f/\K
abbrev s7:=sm a/\sm b/\sm c/\sm d/\sm e/\sm f/\sm g/\K
abbrev s8:=sm a/\sm b/\sm c/\sm d/\sm e/\sm f/\sm g/\sm h/\K
abbrev s9:=sm a/\sm b/\sm c/\sm d/\sm e/\sm f/\sm g/\sm h/\sm i/\K
abbrev xN:=sm a/\sm b/\sm c/\sm d/\sm e/\sm f/\sm g/\sm h/\sm i/\sm j/\K
abbrev xO:=sm a/\sm b/\sm c/\sm d/\sm e/\sm f/\sm g/\sm h/\sm i/\sm j/\sm k/\K
abbrev aL:=sm a/\sm b/\sm c/\sm d/\sm e/\sm f/\sm g/\sm h/\sm i/\sm j/\sm k/\sm l/\K
end
section
variable(V:Ó)(f:Nat)(a:Array Value)
abbrev Ca(K:VR):=∀V1:Ó,V.Le V1->aa prog f a V1 K
def sV:Value->SV
  | .agg l=>.agg (l.toList.map C.v)
  | v=>.c (.v v)
def sA:Nat->List Value->List (Nat×SV)
  | _,[]=>[]
  | n,v::l=>(n,sV v)::sA (n+1) l
def fd {LF RF:zA Nat}(L K:Jy){f:FuncId}{fn:Func}(u:prog.funcs[f]?=some fn){V:ut}{R:VR}{G:Prop}(h:G)
 (y:(fn.name=="runtime.NumGoroutine")=false:=by kernel_rfl)(z:l.toArray=((sA 0 l).map λx=>x.2.den λ_=>0).toArray:=by kernel_rfl)
 (D:G=I0 prog tab LF RF L K fn (sA 0 l) [] (λ_=>0) V R:=by kernel_rfl):aa prog f l.toArray V R:=
  bD (LF:=LF) (RF:=RF) (β0:=λ_=>0) bY Ċ L K u y (sA 0 l) [] z trivial h D
open Go.Value renaming int→I,pointer→P,slice→S,agg→A,bool→B,tuple→T
open Go.IntKind renaming i64→J,u64→U,u32→W
abbrev Yo (a:OA)(n:Nat)(m:Ó)(v:Value):Prop:=∃q,ae a n=some q/\m.at q v
abbrev Xh (V:Ó)(b:Nat)(l:List Value)(t:Nat):Prop:=V.w.heap[b]?=some (.cells l.toArray t (0,0))
abbrev Ų (V:Ó)(l:List Value)(t:Nat)(K:Ó->Nat->Prop):Prop:=∀v,V.Le v->∀a,v.aX a (.cells l.toArray t (0,0))->K v a
abbrev ų (N y n c k z:Nat)(v x:List Value)(K:Nat->(C->Value)->List Value->Nat->Prop):Prop:=N*y<=2^47/\n<=c/\c*z<=v.length/\x.length=k*z/\(∀e∈x,e.oneCell'=true)/\∀i j s m,N<=m->m*z<=N*z+s.length->K i j s m
abbrev Ŵ (N y c k z:Nat)(x:List Value)(K:List Value->Nat->Prop):Prop:=N*y<=2^47/\c<N/\x.length=k*z/\(∀e∈x,e.oneCell'=true)/\∀s m,N<=m->m*z<=N*z+s.length->K s m
abbrev ŵ (N y n c k z:Nat)(v x:List Value)(K:List Value->Nat->Prop):Prop:=N*y<=2^47/\n<=c/\c*z<=v.length/\x.length=k*z/\(∀e∈x,e.oneCell'=true)/\∀s m,N<=m->m*z<=N*z+s.length->K s m
abbrev Ŷ (V:Ó)(l:List Value)(t:Nat)(K:Ó->Nat->Prop):Prop:=∀v,V.Le v->∀a,(l≠[]->v.aX a (.cells l.toArray t (0,0)))->K v a
abbrev ŷ (V:Ó)(l:List Value)(t:Nat)(K:Ó->Nat->Prop):Prop:=∀v,V.Le v->∀a,(l≠[]->Xh v a l t)->(l≠[]->v.H a)->K v a
abbrev dv(t:Type):=OA->Nat->Nat->t
abbrev dw(t:Type):=Int->Int->OA->t
abbrev Z0 r(K:dv (Int->Prop)):=∃a b c d,r=T #[S a b c,I W d]/\K a b c d
abbrev Z1 r(K:dv (dv Prop)):=∃a b c d e f,r=T #[S a b c,S d e f]/\K a b c d e f
abbrev Z2 r(K:dv (dv (Bool->Prop))):=∃a b c d e f g,r=T #[S a b c,S d e f,B g]/\K a b c d e f g
abbrev Z3 r(K:_->_->Prop):=∃a b,r=T #[I U a,B b]/\K a b
abbrev X4 a b c d e f:=T #[S a b c,S d e f]
abbrev Z5 r(K:Bool->dv Prop):=∃a b c d,r=A #[B a,S b c d]/\K a b c d
abbrev X6 a b c d:=A #[B a,S b c d]
abbrev Z7 r(K:dv (Bool->Prop)):=∃a b c d,r=T #[S a b c,B d]/\K a b c d
abbrev Z8 r(K:dw Prop):=∃a b c,r=A #[I J a,I J b,P c]/\K a b c
abbrev X9 a b c:=A #[I J a,I J b,P c]
abbrev Wz r(K:_->_->Prop):=∃a b,r=T #[I J a,B b]/\K a b
abbrev aQ a b c d e f g:=A #[B a,S b c d,S e f g]
abbrev Z12 r(K:_->_->Prop):=∃a b,r=T #[I U a,I U b]/\K a b
abbrev Z13 r(K:_->_->Prop):=∃a b,r=T #[I W a,I W b]/\K a b
abbrev bU r(K:Bool->dv (dv Prop)):=∃a b c d e f g,r=A #[B a,S b c d,S e f g]/\K a b c d e f g
abbrev bR a b c d e f g h i j k l m n:=A #[B a,S b c d,S e f g,B h,S i j k,S l m n]
abbrev gZ r(K:Bool->dv (dv (Bool->dv (dv Prop)))):=∃a b c d e f g h i j k l m n,r=bR a b c d e f g h i j k l m n/\K a b c d e f g h i j k l m n
abbrev dh a b c d e f g h i j k l:=A #[B a,S b c d,B e,S f g h,B i,S j k l]
abbrev gE a b c d e f g h i:=A #[I J a,I J b,P c,I J d,I J e,P f,I J g,I J h,P i]
abbrev iJ a b c d e f:=A #[I J a,I J b,P c,I J d,I J e,P f]
abbrev Ex r(K:dw (dw Prop)):=∃a b c d e f,r=iJ a b c d e f/\K a b c d e f
abbrev Hm a b c d e f g h:=A #[I J a,I J b,P c,I J d,I J e,P f,B g,B h]
abbrev Y22 a n(m:Ó)(K:Bool->dv (dv (Bool->dv (dv (Bool->Bool->Addr->Prop))))):=∃b c d e f g h i j k l o p r s t q,ae a n=some q/\m.at (q.add 0) (B b)/\m.at (q.add 1) (S c d e)/\m.at (q.add 2) (S f g h)/\m.at (q.add 3) (B i)/\m.at (q.add 4) (S j k l)/\m.at (q.add 5) (S o p r)/\m.at (q.add 6) (B s)/\m.at (q.add 7) (B t)/\K b c d e f g h i j k l o p r s t q
abbrev Sm r(K:Bool->dv (Bool->dv (Bool->dv Prop))):=∃a b c d e f g h i j k l,r=dh a b c d e f g h i j k l/\K a b c d e f g h i j k l
abbrev X24 a b c d e f g h i j k l m n o p:=A #[B a,S b c d,S e f g,B h,S i j k,S l m n,B o,B p]
abbrev Z25 r(K:Bool->dv (dv (Bool->dv (dv (Bool->Bool->Prop))))):=∃a b c d e f g h i j k l m n o p,r=X24 a b c d e f g h i j k l m n o p/\K a b c d e f g h i j k l m n o p
abbrev X26 a b c d e f g h i j k l m n o p q r s t u v w x y z α β:=A #[B a,S b c d,B e,S f g h,B i,S j k l,B m,S n o p,S q r s,B t,S u v w,S x y z,B α,B β]
abbrev Z27 r(K:Bool->dv (Bool->dv (Bool->dv (Bool->dv (dv (Bool->dv (dv (Bool->Bool->Prop)))))))):=∃a b c d e f g h i j k l m n o p q s t u v w x y z α β γ,r=X26 a b c d e f g h i j k l m n o p q s t u v w x y z α β γ/\K a b c d e f g h i j k l m n o p q s t u v w x y z α β γ
abbrev Y28 a n(m:Ó)(K:dw (dw (dw (dw (dw (Bool->Bool->Addr->Prop)))))):=∃b c d e f g h i j k l o p r s t u q,ae a n=some q/\m.at (q.add 0) (I J b)/\m.at (q.add 1) (I J c)/\m.at (q.add 2) (P d)/\m.at (q.add 3) (I J e)/\m.at (q.add 4) (I J f)/\m.at (q.add 5) (P g)/\m.at (q.add 6) (I J h)/\m.at (q.add 7) (I J i)/\m.at (q.add 8) (P j)/\m.at (q.add 9) (I J k)/\m.at (q.add 10) (I J l)/\m.at (q.add 11) (P o)/\m.at (q.add 12) (I J p)/\m.at (q.add 13) (I J r)/\m.at (q.add 14) (P s)/\m.at (q.add 15) (B t)/\m.at (q.add 16) (B u)/\K b c d e f g h i j k l o p r s t u q
abbrev MR a b c d e f g h i j k l m n o p q:=A #[I J a,I J b,P c,I J d,I J e,P f,I J g,I J h,P i,I J j,I J k,P l,I J m,I J n,P o,B p,B q]
abbrev Y30 a n(m:Ó)(K:Bool->dv (dv (Addr->Prop))):=∃b c d e f g h q,ae a n=some q/\m.at (q.add 0) (B b)/\m.at (q.add 1) (S c d e)/\m.at (q.add 2) (S f g h)/\K b c d e f g h q
abbrev Z31 r(K:dw (dw (dw Prop))):=∃a b c d e f g h i,r=gE a b c d e f g h i/\K a b c d e f g h i
abbrev YW a n(m:Ó)(K:dw (dw (dw (Addr->Prop)))):=∃b c d e f g h i j q,ae a n=some q/\m.at (q.add 0) (I J b)/\m.at (q.add 1) (I J c)/\m.at (q.add 2) (P d)/\m.at (q.add 3) (I J e)/\m.at (q.add 4) (I J f)/\m.at (q.add 5) (P g)/\m.at (q.add 6) (I J h)/\m.at (q.add 7) (I J i)/\m.at (q.add 8) (P j)/\K b c d e f g h i j q
abbrev X33 a b c d e f:=A #[S a b c,S d e f]
abbrev Z34 r(K:dw (dw (Bool->Bool->Prop))):=∃a b c d e f g h,r=Hm a b c d e f g h/\K a b c d e f g h
abbrev Y35 a n(m:Ó)(K:_->_->_->_->_->_->_->_->_->Prop):=∃b c d e f g h i q,ae a n=some q/\m.at (q.add 0) (I J b)/\m.at (q.add 1) (I J c)/\m.at (q.add 2) (P d)/\m.at (q.add 3) (I J e)/\m.at (q.add 4) (I J f)/\m.at (q.add 5) (P g)/\m.at (q.add 6) (B h)/\m.at (q.add 7) (B i)/\K b c d e f g h i q
abbrev Z36 r(K:_->_->Prop):=∃a b,r=T #[P a,B b]/\K a b
abbrev X37 a b c d:=A #[I J a,S b c d]
abbrev MS a n(m:Ó)(K:Bool->dv (Bool->dv (Bool->dv (Addr->Prop)))):=∃b c d e f g h i j k l o q,ae a n=some q/\m.at (q.add 0) (B b)/\m.at (q.add 1) (S c d e)/\m.at (q.add 2) (B f)/\m.at (q.add 3) (S g h i)/\m.at (q.add 4) (B j)/\m.at (q.add 5) (S k l o)/\K b c d e f g h i j k l o q
abbrev Wc a n(m:Ó)(K:Bool->dv (dv (Bool->dv (dv (Addr->Prop))))):=∃b c d e f g h i j k l o p r q,ae a n=some q/\m.at (q.add 0) (B b)/\m.at (q.add 1) (S c d e)/\m.at (q.add 2) (S f g h)/\m.at (q.add 3) (B i)/\m.at (q.add 4) (S j k l)/\m.at (q.add 5) (S o p r)/\K b c d e f g h i j k l o p r q
abbrev Y40 a n(m:Ó)(K:Bool->dv (Bool->dv (Bool->dv (Bool->dv (dv (Bool->dv (dv (Bool->Bool->Addr->Prop)))))))):=∃b c d e f g h i j k l o p r s t u v w x y z α β γ δ ε ζ q,ae a n=some q/\m.at (q.add 0) (B b)/\m.at (q.add 1) (S c d e)/\m.at (q.add 2) (B f)/\m.at (q.add 3) (S g h i)/\m.at (q.add 4) (B j)/\m.at (q.add 5) (S k l o)/\m.at (q.add 6) (B p)/\m.at (q.add 7) (S r s t)/\m.at (q.add 8) (S u v w)/\m.at (q.add 9) (B x)/\m.at (q.add 10) (S y z α)/\m.at (q.add 11) (S β γ δ)/\m.at (q.add 12) (B ε)/\m.at (q.add 13) (B ζ)/\K b c d e f g h i j k l o p r s t u v w x y z α β γ δ ε ζ q
abbrev X41 a b c d e f g:=A #[S a b c,I J d,S e f g]
abbrev Z42 r(K:Int->dv Prop):=∃a b c d,r=A #[I J a,S b c d]/\K a b c d
abbrev Z43 r(K:_->_->Prop):=∃a b,r=T #[B a,B b]/\K a b
abbrev Y44 a n(m:Ó)(K:dw (dw (Addr->Prop))):=∃b c d e f g q,ae a n=some q/\m.at (q.add 0) (I J b)/\m.at (q.add 1) (I J c)/\m.at (q.add 2) (P d)/\m.at (q.add 3) (I J e)/\m.at (q.add 4) (I J f)/\m.at (q.add 5) (P g)/\K b c d e f g q
abbrev Z45 r(K:dv (Int->dv Prop)):=∃a b c d e f g,r=A #[S a b c,I J d,S e f g]/\K a b c d e f g
abbrev zB (b:Bool)(A B:Prop):Prop:=(b=true->A)/\(b=false->B)
abbrev nC (f:OA)(a d:Int)(K:Prop):Prop:=(f.isSome=true)/\(0<=a/\a<d)/\K
abbrev Ă (o n:Nat)(x l:List Value):Prop:=o+n<=x.length/\(x.drop o).take n=l
abbrev è (a d:Int):Prop:=0<=a/\a<d
abbrev ċ (V:Ó)(x:List Value)(t:Nat)(K:Ó->Nat->Prop):Prop:=∀W,V.Le W->∀b:Nat,Xh W b x t->W.H b->K W b
abbrev Ù(K:Ó->OA->Nat->Nat->Prop):=Ca V f a λr W=>∃a b c,r=S a b c/\K W a b c
abbrev û(K:Ó->Bool->Prop):=Ca V f a λr W=>∃a,r=B a/\K W a
abbrev ä(K:Ó->Int->Prop):=Ca V f a λr W=>∃a,r=I J a/\K W a
abbrev qqJ(K:Ó->_):=Ca V f a λr W=>Z0 r (K W)
abbrev Ŕ(K:Ó->_):=Ca V f a λr W=>Z1 r (K W)
abbrev qwW(K:Ó->_):=Ca V f a λr W=>Z2 r (K W)
abbrev qwZ(K:Ó->_):=Ca V f a λr W=>Z3 r (K W)
abbrev î(K:Ó->_):=Ca V f a λr W=>Z5 r (K W)
abbrev qzQ(K:Ó->_):=Ca V f a λr W=>Z7 r (K W)
abbrev ö(K:Ó->_):=Ca V f a λr W=>Z8 r (K W)
abbrev qzW(K:Ó->_):=Ca V f a λr W=>Wz r (K W)
abbrev qzK(K:Ó->_):=Ca V f a λr W=>Z12 r (K W)
abbrev qzJ(K:Ó->_):=Ca V f a λr W=>Z13 r (K W)
abbrev ã(K:Ó->_):=Ca V f a λr W=>bU r (K W)
abbrev ă(K:Ó->_):=Ca V f a λr W=>gZ r (K W)
abbrev ĭ(K:Ó->_):=Ca V f a λr W=>Ex r (K W)
abbrev qjQ(K:Ó->_):=Ca V f a λr W=>Sm r (K W)
abbrev qjW(K:Ó->_):=Ca V f a λr W=>Z25 r (K W)
abbrev qjZ(K:Ó->_):=Ca V f a λr W=>Z27 r (K W)
abbrev qjJ(K:Ó->_):=Ca V f a λr W=>Z31 r (K W)
abbrev qvQ(K:Ó->_):=Ca V f a λr W=>Z34 r (K W)
abbrev qvW(K:Ó->_):=Ca V f a λr W=>Z36 r (K W)
abbrev qvK(K:Ó->_):=Ca V f a λr W=>Z42 r (K W)
abbrev ZY(K:Ó->_->Prop):=Ù V f a λW b c d=>K W (b,c,d)
abbrev ZV(K:Ó->_->Prop):=ã V f a λW b c d e g h i=>K W (b,c,d,e,g,h,i)
abbrev ZU(K:Ó->_->Prop):=î V f a λW b c d e=>K W (b,c,d,e)
abbrev ZT(K:Ó->_->Prop):=ö V f a λW b c d=>K W (b,c,d)
abbrev ZS(K:Ó->_->Prop):=ă V f a λW b c d e g h i j k l m n o p=>K W (b,c,d,e,g,h,i,j,k,l,m,n,o,p)
abbrev ZN(K:Ó->_->Prop):=ĭ V f a λW b c d e g h=>K W (b,c,d,e,g,h)
abbrev ZM {A0 A1 A2 D}(f:A0->A1->A2->D)(t:A0×A1×A2):D:=f t.1 t.2.1 t.2.2
abbrev ZL {A0 A1 A2 A3 D}(f:A0->A1->A2->A3->D)(t:A0×A1×A2×A3):D:=f t.1 t.2.1 t.2.2.1 t.2.2.2
abbrev ZK {A0 A1 A2 A3 A4 A5 A6 D}(f:A0->A1->A2->A3->A4->A5->A6->D)(t:A0×A1×A2×A3×A4×A5×A6):D:=f t.1 t.2.1 t.2.2.1 t.2.2.2.1 t.2.2.2.2.1 t.2.2.2.2.2.1 t.2.2.2.2.2.2
abbrev Zp {A0 A1 A2 A3 A4 A5 A6 A7 A8 A9 A10 A11 A12 A13 D}(f:A0->A1->A2->A3->A4->A5->A6->A7->A8->A9->A10->A11->A12->A13->D)(t:A0×A1×A2×A3×A4×A5×A6×A7×A8×A9×A10×A11×A12×A13):D:=f t.1 t.2.1 t.2.2.1 t.2.2.2.1 t.2.2.2.2.1 t.2.2.2.2.2.1 t.2.2.2.2.2.2.1 t.2.2.2.2.2.2.2.1 t.2.2.2.2.2.2.2.2.1 t.2.2.2.2.2.2.2.2.2.1 t.2.2.2.2.2.2.2.2.2.2.1 t.2.2.2.2.2.2.2.2.2.2.2.1 t.2.2.2.2.2.2.2.2.2.2.2.2.1 t.2.2.2.2.2.2.2.2.2.2.2.2.2
abbrev Zn {A0 A1 A2 A3 A4 A5 D}(f:A0->A1->A2->A3->A4->A5->D)(t:A0×A1×A2×A3×A4×A5):D:=f t.1 t.2.1 t.2.2.1 t.2.2.2.1 t.2.2.2.2.1 t.2.2.2.2.2
abbrev Zk:=ZM S
abbrev Ze:=ZL X6
abbrev Zd:=ZM X9
abbrev Zc:=ZK aQ
abbrev Zb:=Zp bR
abbrev Za:=Zn iJ
abbrev qvZ(K:Ó->_):=Ca V f a λr W=>Z43 r (K W)
end
abbrev bB (f:Nat)(a:Array Value)(G:Ó->VR->Prop):Prop:=∀V R,G V R->aa prog f a V R
def Þ {f:FuncId}(u:prog.funcs[f]?=some (prog.funcs.getD f f0):=by kernel_rfl){G:ut->VR->Prop}(y:((prog.funcs.getD f f0).name=="runtime.NumGoroutine")=false:=by kernel_rfl)(z:l.toArray=((sA 0 l).map λx=>x.2.den λ_=>0).toArray:=by kernel_rfl)(D:G=λV R=>I0 prog tab aM [] [] [] (prog.funcs.getD f f0) (sA 0 l) [] (λ_=>0) V R:=by kernel_rfl):bB f l.toArray G:=
 λV R h=>fd (LF:=aM) (RF:=[]) [] [] u h y z (congrFun (congrFun D V) R)
def cB (LF RF:zA Nat)(L K:Jy){f:FuncId}(u:prog.funcs[f]?=some (prog.funcs.getD f f0):=by kernel_rfl){G:ut->VR->Prop}(y:((prog.funcs.getD f f0).name=="runtime.NumGoroutine")=false:=by kernel_rfl)(z:l.toArray=((sA 0 l).map λx=>x.2.den λ_=>0).toArray:=by kernel_rfl)(D:G=λV R=>I0 prog tab LF RF L K (prog.funcs.getD f f0) (sA 0 l) [] (λ_=>0) V R:=by kernel_rfl):bB f l.toArray G:=
 λV R h=>fd (LF:=LF) (RF:=RF) L K u h y z (congrFun (congrFun D V) R)
def Ĩ {T:eA}(hT:eA.ok prog T)(k:Nat){p q:Prop}(au:p)(aw:q)(LF RF:zA Nat)(L K:Jy){f:FuncId}{fn:Func}(u:prog.funcs[f]?=some fn)(ss:zA (Nat×SV))(x:a_){V:ut}{R:VR}{G:Prop}(h:G)(y:(fn.name=="runtime.NumGoroutine")=false:=by kernel_rfl)(z:l.toArray=(ss.map λx=>x.2.den (cK (λ_=>0) 100000 k)).toArray:=by kernel_rfl)(D:WJ (cK (λ_=>0) 100000 k) V [(100000,x)]=((p/\q)/\True/\True):=by kernel_rfl)(E:G=I0 prog T LF RF L K fn ss [(100000,x)] (cK (λ_=>0) 100000 k) V R:=by kernel_rfl):aa prog f l.toArray V R:=
 bD (LF:=LF) (RF:=RF) (β0:=cK (λ_=>0) 100000 k) hT Ċ L K u y ss [(100000,x)] z (D.symm.mp ⟨⟨au,aw⟩,trivial,trivial⟩) h E
def _root_.qyK {a b c d:Sort _}{p:a->b->c->d->Prop}{A B C D}(h:p A B C D):∃A B C D,p A B C D:=⟨_,_,_,_,h⟩
def _root_.qyJ {a b c d e f:Sort _}{p:a->b->c->d->e->f->Prop}{A B C D E F}(h:p A B C D E F):∃A B C D E F,p A B C D E F:=⟨_,_,_,_,_,_,h⟩
def _root_.qxQ {a b c d e f g:Sort _}{p:a->b->c->d->e->f->g->Prop}{A B C D E F G}(h:p A B C D E F G):∃A B C D E F G,p A B C D E F G:=⟨_,_,_,_,_,_,_,h⟩
def _root_.qxJ {a b c d e f g i j k l m:Sort _}{p:a->b->c->d->e->f->g->i->j->k->l->m->Prop}{A B C D E F G H I J K L}(h:p A B C D E F G H I J K L):∃A B C D E F G H I J K L,p A B C D E F G H I J K L:=⟨_,_,_,_,_,_,_,_,_,_,_,_,h⟩
def _root_.qxW {a b c d e f g i j k l m n o:Sort _}{p:a->b->c->d->e->f->g->i->j->k->l->m->n->o->Prop}{A B C D E F G H I J K L M N}(h:p A B C D E F G H I J K L M N):∃A B C D E F G H I J K L M N,p A B C D E F G H I J K L M N:=⟨_,_,_,_,_,_,_,_,_,_,_,_,_,_,h⟩
def _root_.wwQ {a b c d e f g i j k l m n o q:Sort _}{p:a->b->c->d->e->f->g->i->j->k->l->m->n->o->q->Prop}{A B C D E F G H I J K L M N O}(h:p A B C D E F G H I J K L M N O):∃A B C D E F G H I J K L M N O,p A B C D E F G H I J K L M N O:=⟨_,_,_,_,_,_,_,_,_,_,_,_,_,_,_,h⟩
abbrev À:=aa prog
end Go.Proofs.Tryz
