import Derived.Orders
import Derived.Scope
import Derived.Laws.Sem
import Derived.Test.YtlhmddanbgcbjaaGreatDoorProg
import Derived.Test.YtlhmddanbgcbjaaGreatDoorF4
set_option linter.all false
open Go.IntKind (i64 u64 u32)
namespace Go.Eng
section
variable {P:Program} {T:eu} {LF RF:List Nat} {n:Nat} {V0:Ó} {bQ:Lt} {β0:Nat->Nat}
def Gr (P:Program)(T:eu)(m:Nat->CM)(hint:Nat->û)(ops:Array Oper):Nat->Array Bool->St->Ó->(St->Ó->Prop)->Prop
 | 0,listed,st,V,K=>Region.ready .any ops listed=[]/\K st V
 | fuel+1,listed,st,V,K=>(Region.ready .any ops listed=[]->K st V) /\
  ∀i∈Region.ready .any ops listed,∀o,ops[i]?=some o->wc P T (m i) (hint i) ops o st V λst' V'=>Gr P T m hint ops fuel (listed.setIfInBounds i true) st' V' K
def yW (hT:eu.ok P T){m:Nat->CM}{hint:Nat->û}{ops:Array Oper}(hd:∀(i:Nat)(o:Oper),ops[i]?=some o->∀d,o.dst=some d->d<n){Q:Exit->Act->World->Prop}{K:St->ut->Prop}(hK:∀st' β' a' w' V',Ü n V0 bQ β0 st' β' a' w' V'->K st' V'->Q .normal a' w'):∀(fuel:Nat)(listed:Array md)(st:St)(β:Nat->Nat)(a:Act)(w:World)(V:ut),Ü n V0 bQ β0 st β a w V->Gr P T m hint ops fuel listed st V K->wpAny P .any ops Q fuel listed a w
 | 0,_,_,_,_,_,_,hM,hv=>⟨hv.1,hK _ _ _ _ _ hM hv.2⟩
 | fuel+1,listed,st,β,a,w,V,hM,hv=>by
  refine ⟨λh=>hK _ _ _ _ _ hM (hv.1 h),λi hi=>?_⟩;obtain ⟨-,o,ho,-⟩:=mem_ready.1 hi;have:=J_ (Q:=Q) (next:=wpAny P .any ops Q fuel (listed.setIfInBounds i true)) hT hM (hd i o ho) (hv.2 i hi o ho) (λst' β' a' w' V' b c=>yW hT hd hK fuel _ st' β' a' w' V' b c);unfold wpOp;grind
def wJ {sc:pz Prop}{k k':Prop}(h:k->k')(g:Gw sc k):Gw sc k':=by obtain ⟨a,b⟩:=(fG sc _).1 g;exact (fG sc _).2 ⟨a,h b⟩
theorem O9 {s:Nat}{vs:pz un}{k c size bytes:Nat}{ty:TypeId}{d:Nat}{st:St}{V:ut}{K K':St->ut->Prop}{j:Nat}{xs:pz un}(hk:∀s V',V.Le V'->K s V'->K' s V')(h:II s vs k c size bytes ty d st V K j xs):II s vs k c size bytes ty d st V K' j xs:=by unfold II at h ⊢;obtain ⟨e,f,g,i,l,a⟩:=h;refine ⟨e,f,g,i,l,?_⟩;split at a;{exact a.elim};{exact λb J spare m n o=>hk _ _ (Ó.Le.refl V) (a b J spare m n o)}
theorem Mx {s:Nat}{vs:pz un}{k c size bytes:Nat}{ty:TypeId}{d:Nat}{st:St}{V:ut}{K K':St->ut->Prop}{j:Nat}{xs:pz un}(hk:∀s V',V.Le V'->K s V'->K' s V')(h:yJ s vs k c size bytes ty d st V K j xs):yJ s vs k c size bytes ty d st V K' j xs:=by unfold yJ at h ⊢;obtain ⟨b,e,f,g,i,a⟩:=h;refine ⟨b,e,f,g,i,?_⟩;split at a;{exact a.elim};{exact λspare l m n=>hk _ _ (Ó.Le.refl V) (a spare l m n)}
theorem O_ {vs:pz un}{k c size bytes:Nat}{ty:TypeId}{d:Nat}{st:St}{V:ut}{K K':St->ut->Prop}{j:Nat}{xs:pz un}(hk:∀s V',V.Le V'->K s V'->K' s V')(h:IJ vs k c size bytes ty d st V K j xs):IJ vs k c size bytes ty d st V K' j xs:=by unfold IJ at h ⊢;obtain ⟨b,e,f,g,a⟩:=h;refine ⟨b,e,f,g,?_⟩;split at a;{exact a.elim};{grind [Ó.Le.refl]}
def U1 {Q0:Q}{dst:Option Nat}{st:St}{V:ut}{K K':St->ut->Prop}(hk:∀s V',V.Le V'->K s V'->K' s V')(h:zO Q0 dst st V K):zO Q0 dst st V K':=by (cases Q0 with|fail=>exact h|ret sc x=>exact wJ (hk _ _ (Ó.Le.refl V)) h|new sc b x=>{simp only [zO] at h ⊢;split at h;{split at h;{rename_i f;exact wJ (hk _ _ (Ó.Le.refl V)) h};{exact h.elim}};{exact h.elim}}|zN sc s b=>{simp only [zO] at h ⊢;split at h;{exact wJ (hk _ _ (Ó.Le.refl V)) h};{exact h.elim}}|rd a sh=>{have ⟨x,d,e⟩:=sh.split h;exact e _ (vD.2 ⟨(vD.1 d).1,hk _ _ (Ó.Le.refl V) (vD.1 d).2⟩)}|sS vs of size sh=>{have ⟨x,d,e⟩:=sh.split h;exact e _ ⟨d.1,hk _ _ (Ó.Le.refl V) d.2⟩}|xF s vs a c src size bytes ty=>{simp only [zO] at h ⊢;split at h;{exact h.elim};grind [Mx]}|app old ba vs a c src size bytes ty=>{simp only [zO] at h ⊢;split at h;{exact h.elim};{cases old<;>grind [O9,O_,Ó.Le.refl]}})
def rN {bx:Nat->Option aX}{β:Nat->Nat}{V:ut}:∀{L:pz Nat} {k k':Prop},(k->k')->tX bx β V L k->tX bx β V L k'
 | [],_,_,h,g=>h g
 | s::r,k,k',h,g=>by
  simp only [tX] at g ⊢;split at g
  ·exact λh1=>rN h (g h1)
  ·exact g.elim
def tU {give:md}{sh:Sh}{L:pz Nat}{mm:Option Nat}{d:Nat}{ety:TypeId}{β:Nat->Nat}{st:St}{V V' fF:ut}{K K':St->ut->Prop}{r':un}(hm:∀k,mm=some k->k∈L)(hV:V.Le V')(hV2:V.Le fF)(hlv:∀s∈L,∃b,st.boxes s=some b/\(b.live->V'.H (β s)))(hk:∀s V',V.Le V'->K s V'->K' s V')(h:cN T give sh L mm d ety β st V' K r' fF):cN T give sh L mm d ety β st V' K' r' fF:=by refine oP (p:=λ_=>none) (q:=sR) (W:=gT mm d::L) (D:=[d]) (λs c=>⟨rfl,ó _ c⟩) hm ⟨rfl,ψ⟩ ⟨rfl,ψ⟩ hV hV2 hlv (λs2 V2 a=>?_) h;exact hk _ _ a.1 a.2.2.2
theorem v_ {m:CM}{f:FuncId}{xs:pz SV}{ty:TypeId}{dst:Option Nat}{st:St}{V:ut}{K K':St->ut->Prop}(hk:∀s V',V.Le V'->K s V'->K' s V')(h:h_ P T m f xs ty dst st V K):h_ P T m f xs ty dst st V K':=by
 unfold h_ at h ⊢;split at h
 ·exact h.elim
 ·split at h
  ·split at h;{split at h;{split at h;{exact h.elim};{exact λV' a=>(h V' a).s λ_ z hle g=>tU (λk hk=>by cases hk) a (a.m hle) (λs r=>Å r ψ) hk g}};{exact λV' a=>(h V' a).s λ_ _ hle g=>Sh.s g λx c=>⟨c.1,hk _ _ (a.m hle) c.2⟩};{exact h.elim}};{split at h;{split at h;{exact h.elim};{split at h;{split at h;{split at h;{refine λV' a=>(h V' a).s λ_ z hle g=>?_;obtain ⟨b,e⟩:=g;obtain ⟨cs,⟨A,B,C,D⟩,E⟩:=rB _ e;refine ⟨b,E _ ⟨A,B,C,hk _ _ ?_ D⟩⟩;intro x o c;obtain ⟨F,G⟩:=(a.m hle) x o c;have ⟨R,H⟩:=a x o c;have:=aG H;exact ⟨λh=>h.elim F λh=>by have:=h.1;omega,G⟩};{exact h.elim}};{exact h.elim}};{exact h.elim}}};{exact h.elim}};{exact λV' a=>(h V' a).s λ_ _ hle g=>Sh.s g λx c=>⟨c.1,hk _ _ (a.m hle) c.2⟩}
  ·split at h
   ·exact h.elim
   ·rename_i I;rename_i S U X Y _
    have u:∀{i:md} {v:Sh} {t:Option Nat} {d:Nat} {l:TypeId} {L:pz Nat},(∀k,t=some k->k∈L) ->
      (∀V':ut,V.Le V'->nf L (λ_=>0) λβ=>kn st.boxes β V' L (aa P f (aI β xs) (V'.aq (L.map (eQ st.boxes β V'.w.heap.size))) (cN T i v L t d l β st V' K))) ->
      ∀V':ut,V.Le V'->nf L (λ_=>0) λβ=>kn st.boxes β V' L (aa P f (aI β xs) (V'.aq (L.map (eQ st.boxes β V'.w.heap.size))) (cN T i v L t d l β st V' K')):=by
     intro i v t d l L hm h V' a;exact fl (λβ e=>lB (λ_ _=>rfl) (λM n=>n.s λ_ _ hle g=>tU hm a ((a.m (AB V' _)).m hle) M hk g) e) (h V' a)
    split at h
    ·exact h.elim
    ·exact h.elim
    ·split at h;{split at h;{exact h.elim};{exact u (λk hk=>by cases hk) h}};{rename_i d l k Z h2 y;split at h;{split at h;{exact h.elim};{refine u (λj N=>?_) h<;>grind [gF,cB.2,BK]}};{split at h;{exact h.elim};{split at h;{exact h.elim};{exact λV' a=>fl (λβ e=>rN (λn=>n.s λ_ _ hle g=>tU (λk hk=>by cases hk) a (a.m hle) (λs r=>Å r ψ) hk g) e) (h V' a)}}}};{split at h;{exact h.elim};{exact λV' a=>fl (λβ e=>rN (λn=>n.s λ_ _ hle g=>Sh.s g λx c=>⟨c.1,hk _ _ (a.m hle) c.2⟩) e) (h V' a)}};{exact h.elim}
    ·split at h;{exact λV' a=>fl (λβ e=>lB (λ_ _=>rfl) (λ_ n=>n.s λ_ _ hle g=>Sh.s g λx c=>⟨c.1,mB (p:=λ_=>none) (q:=sR) (W:=_) (λs r=>⟨rfl,r⟩) (λO _ _ y=>hk _ _ (((a.m (AB V' _)).m hle).m (Oh _)) y) c.2⟩) e) (h V' a)};{rename_i k Q;split at h;{split at h;{exact h.elim};{refine u (λj N=>?_) h<;>grind [TG]}};{exact h.elim}};{exact h.elim}
    ·split at h;{exact h.elim};{exact λV' a=>fl (λβ e=>rN (λn=>n.s λ_ _ hle g=>Sh.s g λx c=>⟨c.1,λJ=>hk _ _ (a.m hle) (c.2 J)⟩) e) (h V' a)}
def yX {m:CM}{f:FuncId}{xs:pz SV}{ty:TypeId}{dst:Option Nat}{st:St}{V:ut}{K K':St->ut->Prop}(hk:∀s V',V.Le V'->K s V'->K' s V')(h:mV P T m f xs ty dst st V K):mV P T m f xs ty dst st V K':=by unfold mV at h ⊢;split at h;{grind [v_]};{exact v_ hk h}
def vZ {m:CM}{o:Oper}{st:St}{V:ut}{K K':St->ut->Prop}(hk:∀s V',V.Le V'->K s V'->K' s V')(h:d_ P T m o st V K):d_ P T m o st V K':=by unfold d_ at h ⊢;split at h;{split at h;{split at h;{exact yX hk h};{exact h.elim}};{exact h.elim}};{split at h;{split at h;{split at h;{exact yX hk h};{exact h.elim}};{exact h.elim}};{exact h.elim}};{exact U1 hk h}
def KL {m:CM}{hi:û}{o:Oper}{st:St}{V:ut}{K K':St->ut->Prop}(hk:∀s V',V.Le V'->K s V'->K' s V')(h:dT P T m hi o st V K):dT P T m hi o st V K':=by unfold dT at h ⊢;split at h;{exact vZ hk h};{split at h;{split at h;{exact vZ hk h};{exact h.elim}};{exact h.elim}}
def nV {m:CM}{hi:û}{ops:Array Oper}{o:Oper}{st:St}{V:ut}{K K':St->ut->Prop}(hk:∀s V',V.Le V'->K s V'->K' s V')(h:wc P T m hi ops o st V K):wc P T m hi ops o st V K':=by rw [H4] at h ⊢;refine qR (λs w a=>?_) h;(cases w with|true=>exact KL hk a|false=>exact hk _ _ (Ó.Le.refl V) a)
def TD (LF RF:List Nat)(m:CM)(o:Oper):Prop:=
 qH (bE LF RF o.op)=true\/(bE LF RF o.op=.call/\m=.none)\/((bE LF RF o.op=.nJ/\m=.aq)\/(bE LF RF o.op=.give/\m=.give)\/bE LF RF o.op=.app)
def T3 {m:CM}{h:û}{ops:Array Oper}{o:Oper}{st:St}{V:ut}{R W:pz Nat}(hq:qH (bE LF RF o.op)=true)(hrw:vL (bE LF RF o.op) h (fN o)=some (R,W))(hv:wc P T m h ops o st V λ_ _=>False):False:=by rw [H4] at hv;have ⟨p,w,a⟩:=iw hv;have:=a.next;(cases w with|true=>{have ⟨p,q,b⟩:=rM hq hrw this;exact b.next}|false=>exact this)
def yE {ops:Array Oper}{h1 h2:û}{o1 o2:Oper}(hi:Ĕ LF RF ops h1 h2 o1 o2=true):qH (bE LF RF o1.op)=true/\(∃R W,vL (bE LF RF o1.op) h1 (fN o1)=some (R,W))/\∃R W,vL (bE LF RF o2.op) h2 (fN o2)=some (R,W):=by unfold Ĕ at hi;simp only [ċ] at hi;obtain ⟨⟨⟨⟨⟨b,-⟩,-⟩,-⟩,-⟩,a⟩:=hi;split at a;{grind};{cases a}
def Qs {ops:Array Oper}{i:Nat}{o:Oper}(ho:ops[i]?=some o){h:û}{R W:pz Nat}(hrw:vL (bE LF RF o.op) h (fN o)=some (R,W)):TD LF RF (mP LF RF ops i) o:=by unfold TD mP;rw [ho];dsimp only;generalize bE LF RF o.op=c at hrw;(cases c with|odd=>{cases h<;>cases hrw}|kj=>{cases h<;>cases hrw}|call=>exact .inr (.inl ⟨rfl,rfl⟩)|nJ=>exact .inr (.inr (.inl ⟨rfl,rfl⟩))|give=>exact .inr (.inr (.inr (.inl ⟨rfl,rfl⟩)))|app=>exact .inr (.inr (.inr (.inr rfl)))|_=>exact .inl rfl)
section
variable {ops:Array Oper} {hint:Nat->û} {anc:Nat->Nat->Prop} {K:St->Ó->Prop}
def KK (hA:∀j o,ops[j]?=some o->∀i,anc j i->∃e∈o.after,Region.binds .any e=true/\(e.on=i\/anc e.on i)){i:Nat}{oi:Oper}(hi:ops[i]?=some oi):∀(fuel:Nat)(listed:Array md)(st:St)(V:ut),(∀j,listed.getD j false=true->∀k,anc j k->listed.getD k false=true) ->(∀j oj,ops[j]?=some oj->j≠i->listed.getD j true=false->¬anc j i->Ĕ LF RF ops (hint i) (hint j) oi oj=true)->i∈Region.ready .any ops listed ->(wc P T (mP LF RF ops i) (hint i) ops oi st V λst' V'=>Gr P T (mP LF RF ops) hint ops fuel (listed.setIfInBounds i true) st' V' K) ->Gr P T (mP LF RF ops) hint ops (fuel+1) listed st V K:=by
 have x:∀(listed:Array md)(j:Nat),(∀j,listed.getD j false=true->∀k,anc j k->listed.getD k false=true)->i∈Region.ready .any ops listed->j∈Region.ready .any ops listed->¬anc j i:=by intro listed j g d f B;obtain ⟨p,-⟩:=mem_ready.1 d;have q:listed.getD i false=true->False:=χ;grind [mem_ready.1]
 intro fuel
 induction fuel with
 | zero=>
  intro listed st V g a d H;refine ⟨λh=>(by rw [h] at d;cases d),λj f o u=>?_⟩;by_cases b:j=i
  ·subst b;rw [hi] at u;cases u;exact H
  ·exfalso;have t:=a j o u b (mem_ready.1 f).1 (x listed j g d f);obtain ⟨y,⟨R,W,z⟩,-⟩:=yE t;refine T3 y z (nV (λs V' _ h=>?_) H);have:=ready_mono f b;rw [h.1] at this;cases this
 | succ fuel ih=>
  intro listed st V g a d H;refine ⟨λh=>(by rw [h] at d;cases d),λj f oj c=>?_⟩;by_cases b:j=i
  ·subst b;rw [hi] at c;cases c;exact H
  ·have r:=x listed j g d f;have t:=a j oj c b (mem_ready.1 f).1 r;obtain ⟨y,⟨R,W,z⟩,F,G,C⟩:=yE t;refine nV (λs V' _ h=>?_) (W7 t (Qs c C) (nV (λs V' _ h=>h.2 j (ready_mono f b) oj c) H));obtain ⟨-,D,n,A⟩:=mem_ready.1 f;rw [c] at n;cases n;have E:j<ops.size:=χ;refine ih (listed.setIfInBounds j true) s V' ?_ ?_ (ready_mono d (Wv1 b)) ?_;{intro k v l I;by_cases m:j=k;{grind [getD_set_true]};{rw [getD_set_ne false m] at v;grind [getD_set_true]}};{intro k ok v w p q;refine a k ok v w ?_ q;by_cases m:j=k;{subst m;exact (mem_ready.1 f).1};{rw [getD_set_ne true m] at p;exact p}};grind [Array.setIfInBounds_comm]
def O2 (hA:∀j o,ops[j]?=some o->∀i,anc j i->∃e∈o.after,Region.binds .any e=true/\(e.on=i\/anc e.on i)):∀(l done:pz Nat)(listed:Array md)(st:St)(V:ut),listed.size=ops.size->(∀j,listed.getD j false=iZ j done)->(∀j,j<ops.size->j∈done\/j∈l) ->(∀j,listed.getD j false=true->∀k,anc j k->listed.getD k false=true)->vE ops done l=true ->(∀i r1 r2,l=r1++i::r2->∀j∈r2,anc j i\/∃a b,ops[i]?=some a/\ops[j]?=some b/\Ĕ LF RF ops (hint i) (hint j) a b=true) ->U0 P T (mP LF RF ops) hint ops l st V K->Gr P T (mP LF RF ops) hint ops l.length listed st V K
 | [],done,listed,st,V,hs,hrel,WC,_,_,_,hv=>by
  refine ⟨?_,hv⟩
  cases hr:Region.ready .any ops listed with
  | nil=>rfl
  | cons x xs=>
   exfalso;have hx:x∈Region.ready .any ops listed:=by rw [hr];simp
   obtain ⟨w,o,M,-⟩:=mem_ready.1 hx
   have y:x<ops.size:=by
    rcases ĉ x ops.size with f|f
    ·exact f
    ·rw [Qp2 f] at M;cases M
   rcases WC x y with h|h
   ·have m:=hrel x;rw [dX.2 h] at m;simp [hs,y] at w m;rw [w] at m;cases m
   ·cases h
 | i::r,done,listed,st,V,hs,hrel,WC,hcl,n,Yz,hv=>by
  simp only [vE,ċ] at n;obtain ⟨z,n⟩:=n;unfold MQ at z;split at z
  ·rename_i H c;simp only [ċ,Ĥ,ĩ,Qp5] at z;obtain ⟨A,B⟩:=z;have C:i<ops.size:=by{rcases ĉ i ops.size with f|f;{exact f};{rw [Qp2 f] at c;cases c}};have d:∀e∈H.after,Region.binds .any e=true->listed.getD e.on false=true:=by{intro e he u;rw [hrel];rcases B e (by simpa using he) with h|h;{rw [u] at h;cases h};{exact h}};have p:i∈Region.ready .any ops listed:=by{refine mem_ready.2 ⟨?_,H,c,d⟩;have:=hrel i;rw [A] at this;simp [hs,C] at this ⊢;exact this};have D:∀j,(listed.setIfInBounds i true).getD j false=true->∀k,anc j k->(listed.setIfInBounds i true).getD k false=true:=by{intro k N l O;by_cases E:i=k;{subst E;have ⟨e,he,u,h⟩:=hA i H c l O;have w:=d e he u;rcases h with h|h;{rw [<-h];exact getD_set_true w};{exact getD_set_true (hcl _ w l h)}};{rw [getD_set_ne false E] at N;exact getD_set_true (hcl k N l O)}};refine KK hA c r.length listed st V hcl (λj S q g F I=>?_) p ?_;{have G:j<ops.size:=by{rcases ĉ j ops.size with f|f;{exact f};{rw [Qp2 f] at q;cases q}};have J:j∈r:=by{rcases WC j G with h|h;{exfalso;have m:=hrel j;rw [dX.2 h] at m;simp [hs,G] at F m;rw [F] at m;cases m};{rcases å.1 h with h|h;{exact Å h g};{exact h}}};rcases Yz i [] r rfl j J with h|⟨a,b,Q,u,h⟩;{exact Å h I};{rw [c] at Q;rw [q] at u;cases Q;cases u;exact h}};{simp only [U0,c] at hv;have t:∀s v,U0 P T (mP LF RF ops) hint ops r s v K->Gr P T (mP LF RF ops) hint ops r.length (listed.setIfInBounds i true) s v K:=by{intro s v R;refine O2 hA r (i::done) (listed.setIfInBounds i true) s v (by simp [hs]) ?_ ?_ D n (λk r1 r2 e j L=>Yz k (i::r1) r2 (by rw [e];rfl) j L) R;{intro j;by_cases g:i=j;{subst g;simp [iZ,Qb6,hs,C]};{rw [getD_set_ne false g,hrel j];simp [iZ,ij (Wv1 g)]}};{intro j L;rcases WC j L with h|h;{exact .inl (by simp [h])};{rcases å.1 h with h|h;{exact .inl (by simp [h])};{exact .inr h}}}};exact nV (λs v _ h=>t s v h) hv}
  ·cases z
end
def RO {m i:Nat}:Zu m i=true↔m.testBit i=true:=by unfold Zu;rw [beq_eq,Qg4,decide_eq_true_iff];show Nat.land (m >>> i) 1=1↔_;rw [show Nat.land (m >>> i) 1=(m >>> i) &&& 1 from rfl,Nat.and_one_is_mod,Nat.shiftRight_eq_div_pow]
def VC (acc:List Nat)(o:Oper):Nat:=o.after.toList.foldl (λs e=>cond (Region.binds .any e) (Nat.lor (Nat.lor (Nat.shiftLeft 1 e.on) (acc.getD e.on 0)) s) s) 0
def IG {acc:pz Nat}{i:Nat}:∀(es:pz Edge)(s:Nat),(es.foldl (λs e=>cond (Region.binds .any e) (Nat.lor (Nat.lor (Nat.shiftLeft 1 e.on) (acc.getD e.on 0)) s) s) s).testBit i=true ->s.testBit i=true\/∃e∈es,Region.binds .any e=true/\(e.on=i\/(acc.getD e.on 0).testBit i=true)
 | [],s,h=>.inl h
 | e::r,s,h=>by
  simp only [Qc6] at h;rcases IG r _ h with h1|⟨e',h1,h2,h3⟩
  ·cases hb:Region.binds .any e with
   | false=>rw [hb] at h1;exact .inl h1
   | true=>
    rw [hb] at h1;simp only [cond_true] at h1;have h1:(((1 <<< e.on) ||| (acc.getD e.on 0)) ||| s).testBit i=true:=h1;grind [Nat.shiftLeft_eq]
  grind
def Fc:∀(l:pz Oper)(acc:pz Nat),∃ext,l.foldl (λacc o=>acc++[VC acc o]) acc=acc++ext/\∀k o,l[k]?=some o->∃pre suf,ext=pre++suf/\ext.getD k 0=VC (acc++pre) o
 | [],acc=>⟨[],ψ,λk o h=>by simp at h⟩
 | o::r,acc=>by
  have ⟨ext,h1,h2⟩:=Fc r (acc++[VC acc o]);refine ⟨VC acc o::ext,by simp [h1],λk a h=>?_⟩
  cases k with
  | zero=>
   simp at h;subst h;exact ⟨[],_,rfl,ψ⟩
  | succ k=>grind
def Lz {ops:pz Oper}(j:Nat)(o:Oper)(ho:ops[j]?=some o):∀i,((Ru ops).getD j 0).testBit i=true->∃e∈o.after,Region.binds .any e=true/\(e.on=i\/((Ru ops).getD e.on 0).testBit i=true):=by intro i b;have ⟨ext,c,d⟩:=Fc ops [];have he:=(show Ru ops=[]++ext from c).m (ō _);have ⟨pre,f,g,k⟩:=d j o ho;rw [he,k] at b;rcases IG _ _ b with h|⟨e,l,m,a⟩;{simp at h};{refine ⟨e,by simpa using l,m,?_⟩;rcases a with a|a;{exact .inl a};{right;simp only [ō] at a;rw [he,g];rcases ĉ e.on pre.length with n|n<;>grind}}
def Cq {ops:Array Oper}{hs:pz û}{an:pz Nat}:∀{l:pz Nat},AG LF RF ops hs an l=true->∀i r1 r2,l=r1++i::r2->∀j∈r2,(an.getD j 0).testBit i=true\/∃a b,ops[i]?=some a/\ops[j]?=some b/\Ĕ LF RF ops (hs.getD i .free) (hs.getD j .free) a b=true
 | [],_,i,r1,r2,e,_,_=>by simp at e
 | x::l,h,i,r1,r2,e,j,hj=>by
  simp only [AG,ċ,ĩ] at h
  cases r1 with
  | nil=>grind [RO.1]
  | cons y r1=>
   simp at e;exact Cq h.2 i r1 r2 e.2 j hj
def Nc {m:Nat->CM}{hint:Nat->û}{ops:Array Oper}:∀{l:pz Nat} {st:St} {V:ut} {K K':St->ut->Prop},(∀s V',V.Le V'->K s V'->K' s V')->U0 P T m hint ops l st V K->U0 P T m hint ops l st V K'
 | [],_,V,_,_,hk,h=>hk _ _ (Ó.Le.refl V) h
 | i::r,st,V,K,K',hk,h=>by
  simp only [U0] at h ⊢;split at h
  ·exact nV (λs V' hle h=>Nc (λs fF hle' h=>hk s fF (hle.m hle') h) h) h
  ·exact h.elim
def vG {st:St}{β:Nat->Nat}{a:Act}{w:World}{V:ut}(hT:eu.ok P T)(hmx:P.follows .mixedOrders=true)(hM:Ü n V0 bQ β0 st β a w V){id:Nat}{ops:Array Oper}{draw:md}(hd:∀(i:Nat)(o:Oper),ops[i]?=some o->∀d,o.dst=some d->d<n){Q:Exit->Act->World->Prop}{K:Exit->St->ut->Prop}(hv:KM P T LF RF ops draw st V (K .normal))(hK:∀st' β' a' w' V',Ü n V0 bQ β0 st' β' a' w' V'->V.Le V'->K .normal st' V'->Q .normal a' w'):(Code.region id ops draw).wp P Q a w:=by
 cases draw with
 | false=>
  simp only [KM] at hv;exact wp_region (F3 (K:=λs V'=>V.Le V'/\K .normal s V') hT hd (λst' β' a' w' V' b h=>hK st' β' a' w' V' b h.1 h.2) _ st β a w V hM (Nc (λs V' hle h=>⟨hle,h⟩) hv))
 | true=>
  simp only [KM] at hv;split at hv
  ·rename_i e;simp only [Ow,ċ,ĩ,Wj5] at e;obtain ⟨⟨⟨f,g⟩,k⟩,l⟩:=e;refine wp_region_any hmx ?_
   have:=O2 (P:=P) (T:=T) (LF:=LF) (RF:=RF) (ops:=ops) (hint:=λi=>(ops.toList.map (SX LF RF st ops.toList)).getD i .free) (anc:=λj i=>((Ru ops.toList).getD j 0).testBit i=true) (K:=λs V'=>V.Le V'/\K .normal s V')
    (λj o e=>Lz j o (by simpa using e)) (ue LF RF ops) [] (Array.replicate ops.size false) st V ψ (λj=>by
     simp only [iZ,Array.getD];split<;>simp) (λj c=>.inr (dX.1 (g j c))) (λj c=>by
     exfalso;simp only [Array.getD] at c;split at c<;>simp at c) k (Cq l) (Nc (λs V' hle h=>⟨hle,h⟩) hv)
   rw [beq_eq.1 f] at this;exact yW hT hd (λst' β' a' w' V' b h=>hK st' β' a' w' V' b h.1 h.2) _ _ _ β _ _ _ hM.drew this
  ·exact hv.elim
end
section
variable {P:Program} {T:eu} {LF RF:List Nat} {n:Nat} {V0:Ó} {bQ:Lt} {β0:Nat->Nat} {β:Nat->Nat}
def dq {c:md}{l:pz Prop}(h:∀p∈(cond c l [False]),p):c=true/\∀p∈l,p:=by (cases c with|true=>exact ⟨rfl,h⟩|false=>{exact (h False ψ).elim})
def FH {ρ:pz (Nat×Nat)}{β β':Nat->Nat}:∀{ss ts:pz Nat},(∀s'∈ts,∀s,tJ ρ s s'=true->β' s'=β s)->FG ρ ss ts=true->ss.map β=ts.map β'
 | [],[],_,_=>rfl
 | s::r,s'::r',hβ,h=>by
  simp only [FG,ċ] at h;simp only [Ļ];rw [hβ s' ψ s h.1,FH (λu hu=>hβ u (by simp [hu])) h.2]
 | [],_::_,_,h=>by simp [FG] at h
 | _::_,[],_,h=>by simp [FG] at h
def N5 {ρ:pz (Nat×Nat)}{β β':Nat->Nat}{a b:C}(hβ:∀s'∈b.ids,∀s,tJ ρ s s'=true->β' s'=β s)(h:∀p∈eqC ρ a b,p):a.den β=b.den β':=by unfold eqC at h;split at h;{have ⟨d,i⟩:=dq h;have:=FW d;have:=i _ (ö.2 rfl);subst_vars;rfl};{have:=h _ (ö.2 rfl);subst this;rfl};{have:=h _ (ö.2 rfl);subst this;rfl};{have:=h _ (ö.2 rfl);subst this;rfl};{rename_i a n c r j k;have d:=h (a=r) ψ;have i:=h (n=j) ψ;have l:=h (c=k) ψ;subst d i l;rfl};{rename_i a n c s' j k;have d:=h (a=none) ψ;have i:=h (n=j) ψ;have l:=h (c=k) ψ;have t:=h (c=0) ψ;subst d i l t;rfl};{have:=h _ (ö.2 rfl);subst this;rfl};{have:=h _ (ö.2 rfl);subst this;rfl};{have:=h _ (ö.2 rfl);subst this;rfl};{have:=h _ (ö.2 rfl);subst this;rfl};{have:=h _ (ö.2 rfl);subst this;rfl};{rfl};{rfl};{rename_i s o s' q;have ⟨d,i⟩:=dq h;have e:=hβ s' (by simp [C.ids]) s d;have:=i (o=q) ψ;subst_vars;simp only [C.den,e]};{rename_i s o n c s' q j k;have ⟨m,h⟩:=dq h;have e:=hβ s' (by simp [C.ids]) s m;have d:=h (o=q) ψ;have i:=h (n=j) ψ;have l:=h (c=k) ψ;grind [C.den]};{rename_i s o n c s' j k;have ⟨m,h⟩:=dq h;have e:=hβ s' (by simp [C.ids]) s m;have d:=h (o=0) ψ;have i:=h (n=j) ψ;have l:=h (c=k) ψ;subst d i l;simp only [C.den,e,mA,(h (c≠0) ψ),Ð]};{rename_i s n c s' j k;have ⟨m,h⟩:=dq h;have e:=hβ s' (by simp [C.ids]) s m;have i:=h (n=j) ψ;have l:=h (c=k) ψ;subst_vars;simp only [C.den,e]};{rename_i f u g ts;have ⟨m,h⟩:=dq h;have d:=h (f=g) ψ;subst d;have v:(u.map λs=>Value.pointer (some ⟨β s,0,none⟩))=ts.map λs=>Value.pointer (some ⟨β' s,0,none⟩):=by{have:=Æ (List.map λb=>Value.pointer (some ⟨b,0,none⟩)) (FH (β:=β) (β':=β') (ts:=ts) (λs' w=>hβ s' w) m);grind [Function.comp_def]};simp only [C.den,v]};{exact (h False ψ).elim}
def BG {ρ:pz (Nat×Nat)}{β β':Nat->Nat}:∀{l m:pz C},(∀s'∈m.flatMap C.ids,∀s,tJ ρ s s'=true->β' s'=β s)->(∀p∈Mc ρ l m,p)->l.map (C.den β)=m.map (C.den β')
 | [],[],_,_=>rfl
 | a::r,b::s,hβ,h=>by
  simp only [Mc,õ] at h;simp only [Ļ];rw [N5 (λu hu=>hβ u (by simp [hu])) λp hp=>h p (.inl hp),BG (λu hu=>hβ u (by rw [Ď];exact Ľ _ hu)) λp hp=>h p (.inr hp)]
 | [],_::_,_,h=>(h False (by simp [Mc])).elim
 | _::_,[],_,h=>(h False (by simp [Mc])).elim
def SE {ρ:pz (Nat×Nat)}{β β':Nat->Nat}{a b:SV}(hβ:∀s'∈b.ids,∀s,tJ ρ s s'=true->β' s'=β s)(h:∀p∈ZB ρ a b,p):a.den β=b.den β':=by unfold ZB at h;split at h;{exact N5 hβ h};{simp only [SV.den];rw [BG hβ h]};{exact (h False ψ).elim}
def PM {ρ:pz (Nat×Nat)}{β β':Nat->Nat}{a b:aX}(hβ:∀s'∈b.cs.ids,∀s,tJ ρ s s'=true->β' s'=β s)(h:∀p∈SD ρ a b,p):a.obj β=b.obj β'/\(b.live->a.live):=by unfold SD at h;obtain ⟨ac,at'⟩:=a;obtain ⟨f,g⟩:=b;dsimp only at h;split at h;{have ⟨d,c⟩:=dq h;simp only [aX.obj,ã.den];rw [BG hβ c,beq_eq.1 d];grind [dP]};{have ⟨d,c⟩:=dq h;have:=c _ (ö.2 rfl);grind [aX.obj,ã.den,beq_eq.1]};{have ⟨d,c⟩:=dq h;have:=c _ (ö.2 rfl);grind [aX.obj,ã.den,beq_eq.1]};{have ⟨d,c⟩:=dq h;have:=c _ (ö.2 rfl);grind [aX.obj,ã.den,beq_eq.1,dQ]};{split at h;{rename_i ws e;have ⟨d,c⟩:=dq h;have:=c _ (ö.2 rfl);grind [aX.obj,ã.den,gH,beq_eq.1,dP]};{exact (h False ψ).elim}};{split at h;{rename_i ws e;have ⟨d,c⟩:=dq h;have:=c _ (ö.2 rfl);grind [aX.obj,ã.den,gH,beq_eq.1,dP]};{exact (h False ψ).elim}};{exact (h False ψ).elim}
def df {α:Type}:∀{l:pz (Nat×α)} {t:Nat} {x:α},aF l t=some x->(t,x)∈l
 | [],_,_,h=>by cases h
 | (s,y)::r,t,x,h=>by
  simp only [aF] at h;by_cases e:t=s
  ·subst e;rw [Qb6] at h;cases h;simp
  ·rw [ij e] at h;exact ó _ (df h)
def iI {α:Type}:∀{l:pz (Nat×α)} {t:Nat},t∈l.map (·.1)->∃x,aF l t=some x
 | [],_,h=>by simp at h
 | (s,y)::r,t,h=>by
  simp only [aF];by_cases e:t=s
  ·subst e;rw [Qb6];exact ⟨_,rfl⟩
  ·rw [ij e];exact iI (by simpa [e] using h)
def FL {ρ:pz (Nat×Nat)}{β β':Nat->Nat}{st:St}:∀{l:pz (Nat×SV)},(∀t x,(t,x)∈l->∀s'∈x.ids,∀s,tJ ρ s s'=true->β' s'=β s)->(∀p∈Wo ρ st l,p)->∀t x,(t,x)∈l->∃y,st.ay t=some y/\y.den β=x.den β'
 | [],_,_,_,_,h=>nomatch h
 | (s,z)::r,hβ,h,t,x,hm=>by
  simp only [Wo] at h;split at h
  ·rename_i y hy;simp only [õ] at h;rcases å.1 hm with e|hm
   ·cases e;exact ⟨y,hy,SE (hβ _ _ þ) λp hp=>h p (.inl hp)⟩
   ·exact FL (λt x h=>hβ t x (by simp [h])) (λp hp=>h p (.inr hp)) t x hm
  ·exact (h False ψ).elim
def FK {ρ:pz (Nat×Nat)}{β β':Nat->Nat}{st:St}:∀{l:pz (Nat×aX)},(∀t x,(t,x)∈l->∀s'∈x.cs.ids,∀s,tJ ρ s s'=true->β' s'=β s)->(∀p∈PQ ρ st l,p)->∀t x,(t,x)∈l->x.live ->t∈qJ ρ l/\∃y,st.boxes (Ks ρ t)=some y/\y.obj β=x.obj β'/\y.live
 | [],_,_,_,_,h,_=>nomatch h
 | (s,z)::r,hβ,h,t,x,hm,hl=>by
  have hβr:∀t x,(t,x)∈r->∀s'∈x.cs.ids,∀s,tJ ρ s s'=true->β' s'=β s:=λt x h=>hβ t x (by simp [h])
  have tail:(∀p∈PQ ρ st r,p)->(t,x)∈r->t∈qJ ρ ((s,z)::r)/\∃y,st.boxes (Ks ρ t)=some y/\y.obj β=x.obj β'/\y.live:=by
   intro h hm;have ⟨c,a⟩:=FK hβr h t x hm hl;refine ⟨?_,a⟩;unfold qJ;grind
  simp only [PQ] at h;split at h
  ·rename_i d b f;rcases å.1 hm with e|hm;{cases e;have:=h (d=[]) ψ;subst this;exact Å (hl [] b) ψ};grind
  ·rename_i g;split at h;{rename_i y i;simp only [õ] at h;rcases å.1 hm with e|hm;{cases e;have ⟨c,a⟩:=PM (hβ _ _ þ) λp j=>h p (.inl j);refine ⟨?_,y,i,c,a hl⟩;unfold qJ;grind};grind};{exact (h False ψ).elim}
def Kt {ρ:pz (Nat×Nat)}:∀{l:pz (Nat×aX)} {t:Nat} {x:aX},(t,x)∈l->(∃s,aF ρ t=some s)->t∈qJ ρ l
 | [],_,_,h,_=>nomatch h
 | (s,z)::r,t,x,hm,ha=>by
  rcases å.1 hm with e|hm
  ·cases e;unfold qJ;grind
  ·have:=Kt hm ha;unfold qJ;grind
def CB {ρ:pz (Nat×Nat)}:∀{l:pz Nat},Ga ρ l=true->(∀t∈l,(t<100000↔Ks ρ t<100000)/\(100000<=t->t<200000->Ks ρ t=t))/\∀t∈l,∀t'∈l,Ks ρ t=Ks ρ t'->t=t'
 | [],_=>⟨λt h=>(nomatch h),λt h=>(nomatch h)⟩
 | t::r,h=>by
  simp only [Ga,ċ,ĩ] at h;obtain ⟨⟨⟨h1,h2⟩,h3⟩,h4⟩:=h;have ⟨i1,i2⟩:=CB h4;have c:∀a b:Nat,Nat.blt a b=true↔a<b:=λa b=>by rw [Nat.blt_eq]
  have d:t<100000↔Ks ρ t<100000:=χ
  have e:100000<=t->t<200000->Ks ρ t=t:=by
   intro f g;simp only [Qp5] at h2;rcases h2 with (h2|h2)|h2
   ·rw [c] at h2;omega
   ·have:=Œ h2;omega
   ·exact beq_eq.1 h2
  grind [Nat.beq_refl]
def C7 {ss:pz (Nat×SV)}{bs:pz (Nat×aX)}(h:qQ ss bs=true):(∀t x,aF ss t=some x->∀s∈x.ids,∃b,aF bs s=some b)/\(∀t x,aF bs t=some x->∀s∈x.cs.ids,∃b,aF bs s=some b):=by unfold qQ at h;simp only [ċ,ĩ] at h;refine ⟨λt x a s c=>iI (dX.1 (h.1 _ (df a) s c)),λt x a s c=>iI (dX.1 (h.2 _ (df a) s c))⟩
def Fb:∀{l:pz Prop},Zm l->∀p∈l,p
 | [],_,_,h=>nomatch h
 | [q],h,p,hp=>by rw [ö.1 hp];exact h
 | q::r::s,h,p,hp=>by
  rcases å.1 hp with e|e
  ·rw [e];exact h.1
  ·exact Fb h.2 p e
theorem lq {st:St}{a:Act}{w:World}{V:ut}(hM:Ü n V0 bQ β0 st β a w V){A:Y_}{x:A.τ}{k:Prop}(ht:qQ (A.ay x) (A.boxes x)=true)(h:A.fits st x k):(∃β',Ü n V0 bQ β0 (A.st x) β' a w V)/\k:=by unfold Y_.fits at h;dsimp only at h;generalize Uq st (A.ay x) (A.boxes x)=ρ at h;obtain ⟨o,F⟩:=h;refine ⟨?_,F⟩;replace o:=Fb o;have ⟨t1,t2⟩:=C7 ht;have G:Ga ρ (qJ ρ (A.boxes x))=true:=by{have:=λp q=>o p (Ľ _ q);unfold fitR at this;(cases hc:Ga ρ (qJ ρ (A.boxes x)) with|true=>rfl|false=>{rw [hc] at this;exact (this False ψ).elim})};have ⟨O,P⟩:=CB G;let β':Nat->Nat:=λt=>if t∈qJ ρ (A.boxes x) then β (Ks ρ t) else β t;have c:∀t,t∈qJ ρ (A.boxes x)->β' t=β (Ks ρ t):=λt h=>Ä h;have hβ:∀i,(∃b,aF (A.boxes x) i=some b)->∀s,tJ ρ s i=true->β' i=β s:=by{rintro i ⟨b,d⟩ s he;unfold tJ at he;split at he;{rename_i u hu;have e:=beq_eq.1 he;subst e;rw [c i (Kt (df d) ⟨_,hu⟩)];simp only [Ks,hu]};{rename_i hu;have e:=beq_eq.1 he;subst e;by_cases hm:s∈qJ ρ (A.boxes x);{rw [c s hm];simp only [Ks,hu]};{exact Ã hm}}};have r:∀t y,(t,y)∈A.ay x->∀s∈y.ids,∃b,aF (A.boxes x) s=some b:=by{intro t y f s g;unfold qQ at ht;simp only [ċ,ĩ] at ht;exact iI (dX.1 (ht.1 _ f s g))};have v:∀t y,(t,y)∈A.boxes x->∀s∈y.cs.ids,∃b,aF (A.boxes x) s=some b:=by{intro t y f s g;unfold qQ at ht;simp only [ċ,ĩ] at ht;exact iI (dX.1 (ht.2 _ f s g))};have B:=FK (ρ:=ρ) (β:=β) (β':=β') (st:=st) (l:=A.boxes x) (λt y f s g=>hβ s (v t y f s g)) λp q=>o p (ĭ _ (Ľ _ q));refine ⟨β',hM.defers,hM.size,?_,t1,t2,?_,?_,hM.rS,?_,hM.ext,?_,?_,hM.mJ,hM.small⟩;{intro t y f;obtain ⟨z,j,m⟩:=(FL (ρ:=ρ) (β:=β) (β':=β') (st:=st) (l:=A.ay x) (λt y f s g=>hβ s (r t y f s g)) λp q=>o p (ĭ _ (ĭ _ q))) t y (df f);rw [hM.ay t z j,m]};{intro s b d l;obtain ⟨C,z,j,m,D⟩:=B s b (df d) l;rw [c s C,hM.boxes _ z j D,m]};{intro s i b H d l E I he;obtain ⟨C,z,j,m,D⟩:=B s b (df d) l;obtain ⟨J,Q,K,L,M⟩:=B i H (df E) I;grind [hM.inj]};{intro s b d l;obtain ⟨C,z,j,m,D⟩:=B s b (df d) l;grind [hM.zy]};{intro s b d l;obtain ⟨C,z,j,m,D⟩:=B s b (df d) l;rw [c s C];refine (hM.own _ z j D).imp id λh=>⟨?_,h.2⟩<;>grind};{intro s g;have ⟨N,R⟩:=hM.n_ s g;refine ⟨N,?_⟩;by_cases hm:s∈qJ ρ (A.boxes x)<;>grind}
def LY (hT:eu.ok P T)(hmx:P.follows .mixedOrders=true){L J:IA}:∀(c:Code)(st:St)(β:Nat->Nat)(a:Act)(w:World)(V:ut)(K:Exit->St->ut->Prop)(Q:Exit->Act->World->Prop),Ü n V0 bQ β0 st β a w V->j9 n c=true->vc P T LF RF L J c st V K->(∀e st' β' a' w' V',Ü n V0 bQ β0 st' β' a' w' V'->V.Le V'->K e st' V'->Q e a' w')->c.wp P Q a w:=by
 intro c
 induction c with
 | skip=>intro st β a w V K Q g _ f k;exact wp_skip (k _ _ _ _ _ _ g (Ó.Le.refl V) f)
 | region id ops draw=>
  intro st β a w V K Q g p f k
  have Z:∀(i:Nat)(o:Oper),ops[i]?=some o->∀d,o.dst=some d->d<n:=by intro i o ho d Z;simp only [j9,ĩ] at p;grind [Nat.blt_eq]
  simp only [vc] at f;split at f
  ·have ⟨a0,V1,E,u,F⟩:=g.release f;exact vG hT hmx E Z F (λst' β' a' w' V' h hle r=>k _ _ _ _ _ _ h (u.m hle) r)
  ·rename_i A hA;obtain ⟨I,f,Y⟩:=f;have ⟨a0,V1,E,u,F⟩:=g.release f;refine vG (K:=λ_ s V'=>∃x,(A.at st).fits s x (I x V')) hT hmx E Z F (λst' β' a' w' V' h hle r=>?_);obtain ⟨x,v⟩:=r;have hinv:=v.2;have ⟨O,R⟩:=Y x V' (u.m hle) hinv;obtain ⟨β2,q⟩:=(lq h O v).1;exact k _ _ _ _ _ _ q (u.m hle) R
 | seq x y Vm ihy=>
  intro st β a w V K Q g p f k;simp only [j9,ċ] at p;refine wp_seq (Vm st β a w V _ _ g p.1 f ?_);intro e st' β' a' w' V' h hle r
  cases e with
  | normal=>exact ihy st' β' a' w' V' K Q h p.2 r (λe s b a w C O R h3=>k e s b a w C O (hle.m R) h3)
  | _=>exact k _ _ _ _ _ _ h hle r
 | cond c x y Vm ihy=>
  intro st β a w V K Q g p f k;simp only [j9,ċ] at p;simp only [vc] at f;split at f
  ·split at f;{rename_i z;exact wp_cond_true (g.eval z) (Vm st β a w V K Q g p.1 f k)};{rename_i z;exact wp_cond_false (g.eval z) (ihy st β a w V K Q g p.2 f k)};{rename_i t z;exact wp_cond_split (g.eval z) (λG=>Vm st β a w V K Q g p.1 (f.1 G) k) (λG=>ihy st β a w V K Q g p.2 (f.2 G) k)};{exact f.elim}
  ·rename_i A hA;split at f;{rename_i z;exact wp_cond_true (g.eval z) (Vm st β a w V K Q g p.1 f k)};{rename_i z;exact wp_cond_false (g.eval z) (ihy st β a w V K Q g p.2 f k)};{rename_i t z;obtain ⟨I,⟨hx,hy⟩,Y⟩:=f;have join:∀e st' β' a' w' V',Ü n V0 bQ β0 st' β' a' w' V'->V.Le V'->(match e with|.normal=>∃x,(A.at st).fits st' x (I x V')|e=>K e st' V')->Q e a' w':=by{intro e st' β' a' w' V' h hle r;(cases e with|normal=>{obtain ⟨x,v⟩:=r;have hinv:=v.2;grind [lq]}|_=>exact k _ _ _ _ _ _ h hle r)};exact wp_cond_split (g.eval z) (λG=>Vm st β a w V _ Q g p.1 (hx G) join) (λG=>ihy st β a w V _ Q g p.2 (hy G) join)};{exact f.elim}
 | block id x ih=>
  intro st β a w V K Q g p f k;simp only [vc] at f;split at f
  ·refine wp_block (ih st β a w V _ _ g p f ?_)<;>grind [Exit.inBlock,Nat.beq_refl,ij]
  ·rename_i A hA;obtain ⟨I,f,Y⟩:=f;refine wp_block (ih st β a w V _ _ g p f ?_);intro e st' β' a' w' V' h hle r;have join:(∃x,(A.at st).fits st' x (I x V'))->Q .normal a' w':=by{rintro ⟨x,v⟩;have hinv:=v.2;have ⟨O,R⟩:=Y x V' hle hinv;obtain ⟨β2,q⟩:=(lq h O v).1;exact k _ _ _ _ _ _ q hle R};grind [Exit.inBlock,Nat.beq_refl,ij]
 | loop x ih=>
  intro st β a w V K Q g p f k;simp only [vc] at f;split at f
  ·refine wp_loop_ghost (λm a w=>∃st β V',Ü n V0 bQ β0 st β a w V'/\V.Le V'/\unr (λst V K=>vc P T LF RF L J x st V K) m st V' K) 3 ⟨st,β,V,g,Ó.Le.refl V,f⟩ ?_;rintro m a w ⟨st',β',V',h,hle,hu⟩;(cases m with|zero=>exact hu.elim|succ m=>{refine ih st' β' a w V' _ _ h p hu ?_;intro e UL β'' S U C D j r;(cases e with|normal=>exact ⟨m,Nat.lt_succ_self m,UL,β'',C,D,hle.m j,r⟩|_=>exact k _ _ _ _ _ _ D (hle.m j) r)})
  ·rename_i A hA;split at f;{obtain ⟨I,ms,⟨N,B⟩,H⟩:=f;have W:=B.2;refine wp_loop_ghost (λm a w=>∃x β V',Ü n V0 bQ β0 ((A.at st).st x) β a w V'/\V.Le V'/\I x V'/\ms x=m) (ms N) ?_ ?_;{obtain ⟨β2,q⟩:=(lq g (H N V (Ó.Le.refl V) W).1 B).1;exact ⟨N,β2,V,q,Ó.Le.refl V,W,rfl⟩};{rintro m a w ⟨x,β,V',h,hle,hinv,rfl⟩;refine ih ((A.at st).st x) β a w V' _ _ h p (H x V' hle hinv).2 ?_;intro e UL β'' S U C D j r;(cases e with|normal=>{obtain ⟨y,M,v⟩:=r;have X:=v.2;obtain ⟨β2,q⟩:=(lq D (H y C (hle.m j) X).1 v).1;exact ⟨ms y,M,y,β2,C,q,hle.m j,X,rfl⟩}|_=>exact k _ _ _ _ _ _ D (hle.m j) r)}};{obtain ⟨I,⟨N,k0,B⟩,H⟩:=f;have W:=B.2;refine wp_loop_ghost (λm a w=>∃x β V',Ü n V0 bQ β0 ((A.at st).st x) β a w V'/\V.Le V'/\I x m V') k0 ?_ ?_;{obtain ⟨β2,q⟩:=(lq g (H N k0 V (Ó.Le.refl V) W).1 B).1;exact ⟨N,β2,V,q,Ó.Le.refl V,W⟩};{rintro m a w ⟨x,β,V',h,hle,hinv⟩;refine ih ((A.at st).st x) β a w V' _ _ h p (H x m V' hle hinv).2 ?_;intro e UL β'' S U C D j r;(cases e with|normal=>{obtain ⟨y,k',M,v⟩:=r;have X:=v.2;obtain ⟨β2,q⟩:=(lq D (H y k' C (hle.m j) X).1 v).1;exact ⟨k',M,y,β2,C,q,hle.m j,X⟩}|_=>exact k _ _ _ _ _ _ D (hle.m j) r)}}
 | exit id=>intro st β a w V K Q g _ f k;exact wp_exit (k _ _ _ _ _ _ g (Ó.Le.refl V) f)
 | scope x ih=>
  intro st β a w V K Q g p f k;simp only [vc] at f;refine wp_scope_straight (ih st β a w V _ _ g p f ?_);intro e st' β' a' w' V' h hle r
  cases e with
  | goto l=>exact r.elim
  | _=>exact k _ _ _ _ _ _ h hle r
 | label l=>intro st β a w V K Q g _ f k;exact wp_label (k _ _ _ _ _ _ g (Ó.Le.refl V) f)
 | ret=>intro st β a w V K Q g _ f k;exact wp_ret (k _ _ _ _ _ _ g (Ó.Le.refl V) f)
 | _=>intro st β a w V K Q g _ f k;exact f.elim
end
section
variable {P:Program} {T:eu} {LF RF:List Nat} {n:Nat} {V0:Ó} {bQ:Lt} {β0:Nat->Nat} {β:Nat->Nat} {st:St} {a:Act} {w:World} {V:Ó}
def Xs (tmps:Array Value):ResultVar->Sem Value
 | .tmp t=>pure (tmps.getD t undef)
 | .cell c t=>do loadVar t (<-asAddr (tmps.getD c undef))
def MU (fn:Func)(tmps:Array un):results fn tmps=(do let vs <-fn.results.mapM (Xs tmps);pure (if h:vs.size=1 then vs[0] else .tuple vs)):=by unfold results;congr 1
def qK (hT:eu.ok P T)(hM:Ü n V0 bQ β0 st β a w V):∀{l:pz ResultVar} {xs:pz SV},oY T st l=some xs ->(l.mapM (Xs a.tmps)).run P w=.ok (xs.map (SV.den β)) w/\∀x∈xs,Č st x
 | [],xs,h=>by cases h;exact ⟨rfl,λx hx=>nomatch hx⟩
 | .tmp t::r,xs,h=>by
  simp only [oY] at h;split at h
  ·rename_i x l hx hl;cases h;have ⟨h1,h2⟩:=qK hT hM hl;refine ⟨?_,λy b=>?_⟩
   ·grind [Xs,Sem.run_bind,Sem.run_pure,Result.andThen_ok,hM.ay]
   ·rcases å.1 b with rfl|b
    ·exact hM.DX t y hx
    ·exact h2 y b
  ·cases h
 | .cell c t::r,xs,h=>by
  simp only [oY] at h;split at h
  ·rename_i s o i l hx d hl;split at h
   ·rename_i g x e;cases h;have ⟨h1,h2⟩:=qK hT hM hl;have ⟨f,j⟩:=F7 hM (hT _ _ d) e;have k:(loadVar t ⟨β s,o,none⟩).run P w=.ok (x.den β) w:=f;refine ⟨?_,λy b=>?_⟩
    ·have m:a.tmps.getD c undef=.pointer (some ⟨β s,o,none⟩):=hM.ay c _ hx;have p:asAddr (.pointer (some ⟨β s,o,none⟩))=pure ⟨β s,o,none⟩:=rfl;grind [Xs,Sem.run_bind,Result.andThen_ok,Sem.run_pure]
    grind
   ·cases h
  ·cases h
def Ku (hT:eu.ok P T)(hM:Ü n V0 bQ β0 st β a w V){fn:Func}{xs:pz SV}(h:oY T st fn.results.toList=some xs):(results fn a.tmps).run P w=.ok (oX β xs) w/\∀x∈xs,Č st x:=by
 have ⟨b,c⟩:=qK hT hM h;refine ⟨?_,c⟩;rw [MU,Wy1];simp only [map_eq_pure_bind,bind_assoc,pure_bind,Sem.run_bind];rw [b];simp only [Result.andThen_ok,Sem.run_pure]
 match xs with
 | []=>simp [oX]
 | [x]=>simp [oX]
 | x::y::r=>simp [oX]
def RY (β0:Nat->Nat)(s:Nat)(b:aX):List (Nat×aX)->Prop
 | []=>True
 | (t,b')::r=>vj (Re b++Re b') (β0 s≠β0 t)/\RY β0 s b r
def VK (β0:Nat->Nat)(V:Ó):List (Nat×aX)->Prop
 | []=>True
 | (s,b)::r=>(vj (Re b) (V.w.heap[β0 s]?=some (b.obj β0))/\vj (Re b) (V.X (β0 s)))/\RY β0 s b r/\VK β0 V r
def tz {s:Nat}{b:aX}:∀{r:pz (Nat×aX)},RY β0 s b r->∀t b',aF r t=some b'->b.live->b'.live->β0 s≠β0 t
 | [],_,_,_,h=>by cases h
 | (u,c)::r,h,t,b',ha=>by
  simp only [aF] at ha;by_cases e:t=u
  ·subst e;rw [Qb6] at ha;cases ha;have h1:=h.1;grind [yD,kH.1]
  ·rw [ij e] at ha;exact tz h.2 t b' ha
def Fi:∀{bs:pz (Nat×aX)},VK β0 V bs->(∀s b,aF bs s=some b->b.live->V.w.heap[β0 s]?=some (b.obj β0)/\V.X (β0 s))/\∀s s' b b',aF bs s=some b->b.live->aF bs s'=some b'->b'.live->β0 s=β0 s'->s=s'
 | [],_=>⟨λs b h=>(by cases h),λs s' b b' h=>(by cases h)⟩
 | (s,b)::r,⟨h1,h2,h3⟩=>by
  have ⟨g1,g2⟩:=Fi h3;refine ⟨λt x h l=>?_,λt f x i a l c g he=>?_⟩
  ·simp only [aF] at h;grind [kH.1,ij]
  ·simp only [aF] at a c;by_cases e:t=s<;>by_cases d:f=s
   ·rw [e,d]
   ·subst e;rw [Qb6] at a;cases a;rw [ij d] at c;exact Å he (tz h2 f i c l g)
   ·subst d;rw [Qb6] at c;cases c;rw [ij e] at a;exact Å he.symm (tz h2 t x a g l)
   grind [ij]
def qN:∀{l:pz (Nat×SV)} {i:Nat},rO i l=true->∀t x,aF l t=some x->∃k,t=i+k/\l[k]?=some (t,x)
 | [],_,_,_,_,h=>by cases h
 | (j,y)::r,i,hs,t,x,h=>by
  simp only [rO,ċ] at hs;obtain ⟨⟨h1,-⟩,h2⟩:=hs;have h1:=beq_eq.1 h1;simp only [aF] at h;by_cases e:t=j
  ·subst e;rw [Qb6] at h;cases h;exact ⟨0,ω,rfl⟩
  ·rw [ij e] at h;have ⟨k,b,a⟩:=qN h2 t x h;exact ⟨k+1,ω,by simpa using a⟩
def wN {bx:Nat->Option aX}{V':ut}:∀{l:pz Nat} {k:Prop},RX bx β V' l k->(∀s∈l,∀b,bx s=some b->b.live->V'.w.heap[β s]?=some (b.obj β))->(∀s∈l,∃b,bx s=some b/\b.live)/\k
 | [],_,h,_=>⟨λs hs=>(nomatch hs),h⟩
 | s::r,k,h,hf=>by
  simp only [RX] at h;split at h
  ·exact h.elim
  ·rename_i b hne hb
   have lb:b.live:=by
    intro c e;obtain ⟨cs,ty⟩:=b;dsimp only at e;subst e;grind
   have ⟨d,f⟩:=wN (h (hf s ψ b hb lb)) λt a=>hf t (ó _ a);grind
  ·exact h.elim
def FM:∀{bs:pz (Nat×aX)} {m:Nat} {b:aX},(m,b)∈bs->(∃vs,b.cs=.aB vs)\/m∈lZ bs
 | [],_,_,h=>nomatch h
 | (s,x)::r,m,b,h=>by
  rcases å.1 h with e|h
  ·cases e;unfold lZ;grind
  ·refine (FM h).imp id λh=>?_;unfold lZ;grind
def BL:∀{bs:pz (Nat×aX)} {m:Nat},m∈lZ bs->m∈bs.map (·.1)
 | [],_,h=>nomatch h
 | (s,x)::r,m,h=>by
  unfold lZ at h;split at h
  ·exact ó _ (BL h)
  ·rcases å.1 h with rfl|h
   ·simp
   ·exact ó _ (BL h)
def F0 {b:Nat}{k:Prop}:∀{bs:pz (Nat×aX)} {m:Nat} {vs:pz un} {ty:TypeId},(m,(⟨.aB vs,ty⟩:aX))∈bs->vs≠[]->b=β0 m->TE bs β0 b k
 | [],_,_,_,h,_,_=>nomatch h
 | (s,x)::r,m,vs,ty,h,hv,he=>by
  rcases å.1 h with e|h
  ·cases e;exact .inl ⟨hv,he⟩
  ·have:=F0 (k:=k) h hv he;unfold TE;grind
def nN {l m:pz Nat}{s:Nat}:s∈ü l m↔s∈l/\s∉m:=by unfold ü;grind [dX.2,dX.1]
def O0 {bx:Nat->Option aX}{s:Nat}(h:yT T bx s=false):s<100000:=by rcases ĉ s 100000 with g|g;{exact g};{unfold yT at h;grind [Nat.ble_eq]}
def Gb {bs:pz (Nat×aX)}(hT:eu.ok P T)(hM:Ü n V0 ⟨lZ bs,λb=>∃m b0,aF bs m=some b0/\b0.live/\b=β0 m⟩ β0 st β a w V){fn:Func}{R:un->ut->Prop}(hv:OH T fn.results.toList bs β0 V0.w.heap.size R st V):∃v,(results fn a.tmps).run P w=.ok v w/\R v (V0.to w hM.ext.size):=by
 unfold OH at hv;split at hv
 ·exact hv.elim
 ·rename_i xs M;have ⟨h1,h2⟩:=Ku hT hM M;dsimp only at hv;split at hv
  ·exact hv.elim
  ·rename_i D;generalize hL:ì st.boxes 3 (ð (xs.flatMap SV.ids++lZ bs))=L at hv D
   have k:∀s,s∈xs.flatMap SV.ids\/s∈lZ bs->s∈L:=λs c=>by rw [<-hL];exact gF 3 _ s (cB.2 (õ.2 c))
   have hle:V.Le (V0.to w hM.ext.size):=by intro b o d;obtain ⟨B,C⟩:=hM.rS b o d;exact ⟨C,B⟩
   have γf:∀γ:Nat->Nat,γ=(λt=>if t∈ü L (lZ bs) then β t else β0 t)->(∀s∈L,γ s=β s)/\oX γ xs=oX β xs:=by
    intro γ hγ
    have f:∀s∈L,γ s=β s:=by intro s c;rw [hγ];by_cases d:s∈lZ bs;{have:s∉ü L (lZ bs):=λh=>(nN.1 h).2 d;simp only [this,Ð];exact (hM.n_ s d).2.symm};grind [nN.2]
    refine ⟨f,?_⟩;have i:∀x∈xs,x.den γ=x.den β:=λx i=>SV.b_ λs c=>f s (k s (.inl (Đ.2 ⟨x,i,c⟩)))
    match xs,i with
    | [],_=>rfl
    | [x],i=>exact i x ψ
    | x::y::r,i=>simp only [oX];rw [Ŗ i]
   have J:∀γ:Nat->Nat,(∀s∈L,γ s=β s)->∀s∈L,∀b,st.boxes s=some b->b.live->(V0.to w hM.ext.size).w.heap[γ s]?=some (b.obj γ):=by intro γ f s c b d l;rw [f s c,aX.dJ λt p=>f t (fM D c d t p)];exact hM.boxes s b d l
   have j:∀γ:Nat->Nat,(∀s∈L,γ s=β s)->∀s∈L,s<100000->∀b,st.boxes s=some b->b.live->(V0.to w hM.ext.size).bg (γ s) (b.obj γ):=by intro γ f s c E b d l;refine ⟨λhH=>?_,J γ f s c b d l⟩;have hH:=hH;rw [f s c] at hH;rcases hM.own s b d l with h|⟨h,-⟩;{have:=V0.hH _ hH;omega};{omega}
   split at hv
   ·rename_i K;have E:∀s∈ü L (lZ bs),s<100000:=by{intro s c;(cases p:yT T st.boxes s with|false=>exact O0 p|true=>{have:s∈(ü L (lZ bs)).filter (yT T st.boxes):=ĺ.2 ⟨c,p⟩;rw [K] at this;cases this})};have g:=jd (hv _ hle) β;generalize hγ:(λt=>if t∈ü L (lZ bs) then β t else β0 t)=γ at g;have ⟨f,F⟩:=γf γ hγ.symm;obtain ⟨-,q⟩:=wN g (λs c b d l=>J γ f s (k s (.inr c)) b d l);obtain ⟨-,G⟩:=ju q (λs c b d l=>j γ f s (nN.1 c).1 (E s c) b d l);grind
   ·rename_i s K;split at hv
    ·rename_i b d
     have c:s∈ü L (lZ bs):=by have:s∈(ü L (lZ bs)).filter (yT T st.boxes):=by{rw [K];simp};exact (ĺ.1 this).1
     have ⟨z,N⟩:=nN.1 c;have g:=jd (hv (V0.to w hM.ext.size)) β;generalize hγ:(λt=>if t∈ü L (lZ bs) then β t else β0 t)=γ at g;have ⟨f,F⟩:=γf γ hγ.symm
     have H:V.Le ((V0.to w hM.ext.size).aW (gdP b) (γ s)):=by intro x o i;obtain ⟨B,C⟩:=hle x o i;refine ⟨λO=>?_,C⟩;rcases O with O|⟨X,e,-⟩;{exact B O};{rw [f s z] at e;exact hM.zy s b d (Ww.1 X) o (e▸i)}
     have ⟨Y,q⟩:=wN (g H) (λs c b d l=>J γ f s (k s (.inr c)) b d l)
     have G:=q (kH.2 λl=>J γ f s z b d l) (kH.2 λl=>by
      rw [f s z];rcases hM.own s b d l with h|⟨-,m,b0,hm,Z,he⟩
      ·exact .inl h
      ·right;rcases FM (df hm) with ⟨vs,I⟩|A
       ·obtain ⟨cs,ty⟩:=b0;dsimp only at I;subst I;exact F0 (df hm) (Z vs rfl) he
       ·exfalso;obtain ⟨b1,Q,l1⟩:=Y m A;have e:=(hM.n_ m A).2;rw [<-e] at he;have:=hM.inj s m b b1 d l Q l1 he;exact N (this▸A))
     obtain ⟨-,a0⟩:=ju G (λu hu b' S l'=>by
      obtain ⟨B,C⟩:=ĺ.1 hu;have U:u≠s:=λe=>by subst e;rw [Qb6] at C;cases C
      have W:u<100000:=by (cases p:yT T st.boxes u with|false=>exact O0 p|true=>{have:u∈(ü L (lZ bs)).filter (yT T st.boxes):=ĺ.2 ⟨B,p⟩;rw [K] at this;exact Å (ö.1 this) U})
      exact j γ f u (nN.1 B).1 W b' S l')
     grind
    ·exact hv.elim
   ·exact hv.elim
def SG (hT : eu.ok P T)(hmx : P.follows .mixedOrders = true){L J : IA}{f : FuncId}{fn : Func}(hf : P.funcs[f]? = some fn)(hn : (fn.name == "runtime.NumGoroutine") = false){ss:pz (Nat×SV)}{bs:pz (Nat×aX)}{args:Array un}{R:un->ut->Prop}(ha:args=(ss.map λx=>x.2.den β0).toArray)(hb:VK β0 V bs)(hv:H3 P T LF RF L J fn ss bs β0 V R):aa P f args V R:=by
 unfold H3 at hv;split at hv
 ·rename_i code c;split at hv
  ·rename_i z;simp only [ċ,ĩ,Nat.ble_eq] at z;obtain ⟨⟨⟨⟨⟨d,B⟩,hlen⟩,g⟩,C⟩,r⟩:=z
   have i:∀x∈bs,100000<=x.1/\x.1<200000:=λx n=>by
    have ⟨D,E⟩:=C x n;exact ⟨D,Œ E⟩
   refine ⟨⟨fn,hf,by rw [c];rfl,hn⟩,calls_of_wp hf c ?_⟩;have ⟨A,F⟩:=Fi hb;have ⟨t1,t2⟩:=C7 r;have G:args.size=ss.length:=by rw [ha];simp
   have H:Ü fn.ntmps V ⟨lZ bs,λb=>∃m b0,aF bs m=some b0/\b0.live/\b=β0 m⟩ β0 ⟨aF ss,aF bs⟩ β0 { tmps:=args++Array.replicate (fn.ntmps-args.size) undef,defers:=[] } V.w V:=by
    refine ⟨rfl,by simp;omega,?_,t1,t2,λs b h l=>(A s b h l).1,λs I b K h l M N=>F s I b K h l M N,λb o h=>⟨h.2,h.1⟩,λs b h l o O=>O.1 (V.hX _ (A s b h l).2),kq.refl _ _,?_,?_,?_,g⟩
    ·intro t x n;have ⟨k,p,j⟩:=qN B t x n;have q:k<ss.length:=χ
     have u:t=k:=ω
     subst u;have:args[t]?=some (x.den β0):=by rw [ha];simp [j]
     have y:t<args.size:=ω
     show (args++Array.replicate (fn.ntmps-args.size) undef).getD t undef=_;rw [Array.getD_eq_getD_getElem?,Array.getElem?_append_left y,this];rfl
    ·intro s b h l;exact .inr ⟨(i _ (df h)).1,s,b,h,l,rfl⟩
    ·intro s Q;obtain ⟨x,n,rfl⟩:=ò.1 (BL Q);grind
    grind
   refine LY hT hmx code _ β0 _ _ V _ _ H d hv ?_;intro e S β' U W X a hle q
   cases e with
   | normal=>
    have ⟨v,p,j⟩:=Gb hT a q;exact ⟨a.defers,v,p,v,rfl,a.ext,j⟩
   | ret=>
    have ⟨v,p,j⟩:=Gb hT a q;exact ⟨a.defers,v,p,v,rfl,a.ext,j⟩
   | _=>exact q.elim
  ·exact hv.elim
 ·exact hv.elim
def bK (hT : eu.ok P T)(hmx : P.follows .mixedOrders = true)(L J : IA){f : FuncId}{fn : Func}(hf : P.funcs[f]? = some fn)(hn : (fn.name == "runtime.NumGoroutine") = false)(ss:pz (Nat×SV))(bs:pz (Nat×aX)){args:Array un}{R:un->ut->Prop}(ha:args=(ss.map λx=>x.2.den β0).toArray)(hb:VK β0 V bs){G:Prop}(h:G)(hG:G=H3 P T LF RF L J fn ss bs β0 V R):aa P f args V R:=by
 subst hG;exact SG hT hmx hf hn ha hb h
def YY (h:T.map (λx=>oO P x.1)=T.map λx=>some x.2):eu.ok P T:=by intro t i a;obtain ⟨k,b⟩:=List.getElem?_of_mem (df a);have:=Æ (λl=>l[k]?) h;grind
end
end Go.Eng
namespace Go.Proofs.Tryz
open Go.Eng
variable{l:List Value}
abbrev aS:List Nat:=[]
def tab:eu:=[
 (3,⟨.int .i64,1,8,[.v (.int .i64 0)]⟩),
 (0,⟨.tuple [],1,0,[.v (.tuple #[])]⟩),
 (4,⟨.bool,1,1,[.ff]⟩),
 (83,⟨.struct [(30,0),(28,2)],3,56,[.ff,.v (.slice none 0 0),.v (.slice none 0 0)]⟩),
 (95,⟨.struct [(2,0),(2,1),(93,2)],3,24,[.v (.int .i64 0),.v (.int .i64 0),.v (.pointer none)]⟩),
 (85,⟨.struct [(83,0),(83,3)],6,112,[.ff,.v (.slice none 0 0),.v (.slice none 0 0),.ff,.v (.slice none 0 0),.v (.slice none 0 0)]⟩),
 (230,⟨.int .u64,1,8,[.v (.int .u64 0)]⟩),
 (97,⟨.struct [(95,0),(95,3),(95,6)],9,72,[.v (.int .i64 0),.v (.int .i64 0),.v (.pointer none),.v (.int .i64 0),.v (.int .i64 0),.v (.pointer none),.v (.int .i64 0),.v (.int .i64 0),.v (.pointer none)]⟩),
 (47,⟨.slice 231,1,24,[.v (.slice none 0 0)]⟩),
 (32,⟨.struct [(30,0),(30,2),(30,4)],6,96,[.ff,.v (.slice none 0 0),.ff,.v (.slice none 0 0),.ff,.v (.slice none 0 0)]⟩),
 (231,⟨.int .u32,1,4,[.v (.int .u32 0)]⟩),
 (28,⟨.slice 231,1,24,[.v (.slice none 0 0)]⟩),
 (30,⟨.struct [(4,0),(28,1)],2,32,[.ff,.v (.slice none 0 0)]⟩),
 (193,⟨.slice 97,1,24,[.v (.slice none 0 0)]⟩),
 (2,⟨.int .i64,1,8,[.v (.int .i64 0)]⟩),
 (49,⟨.struct [(4,0),(47,1)],2,32,[.ff,.v (.slice none 0 0)]⟩),
 (299,⟨.slice 302,1,24,[.v (.slice none 0 0)]⟩),
 (135,⟨.struct [(95,0),(95,3),(4,6),(4,7)],8,56,[.v (.int .i64 0),.v (.int .i64 0),.v (.pointer none),.v (.int .i64 0),.v (.int .i64 0),.v (.pointer none),.ff,.ff]⟩),
 (302,⟨.struct [(95,0),(3,3),(3,4)],5,40,[.v (.int .i64 0),.v (.int .i64 0),.v (.pointer none),.v (.int .i64 0),.v (.int .i64 0)]⟩),
 (34,⟨.slice 32,1,24,[.v (.slice none 0 0)]⟩),
 (25,⟨.ptr 60,1,8,[.v (.pointer none)]⟩),
 (114,⟨.struct [(83,0),(83,3),(4,6),(4,7)],8,120,[.ff,.v (.slice none 0 0),.v (.slice none 0 0),.ff,.v (.slice none 0 0),.v (.slice none 0 0),.ff,.ff]⟩),
 (128,⟨.slice 137,1,24,[.v (.slice none 0 0)]⟩),
 (137,⟨.struct [(97,0),(135,9)],17,128,[.v (.int .i64 0),.v (.int .i64 0),.v (.pointer none),.v (.int .i64 0),.v (.int .i64 0),.v (.pointer none),.v (.int .i64 0),.v (.int .i64 0),.v (.pointer none),.v (.int .i64 0),.v (.int .i64 0),.v (.pointer none),.v (.int .i64 0),.v (.int .i64 0),.v (.pointer none),.ff,.ff]⟩),
 (100,⟨.ptr 202,1,8,[.v (.pointer none)]⟩),
 (60,⟨.struct [(4,0),(4,1),(32,2),(25,8),(25,9)],10,120,[.ff,.ff,.ff,.v (.slice none 0 0),.ff,.v (.slice none 0 0),.ff,.v (.slice none 0 0),.v (.pointer none),.v (.pointer none)]⟩),
 (68,⟨.struct [(49,0),(47,2)],3,56,[.ff,.v (.slice none 0 0),.v (.slice none 0 0)]⟩),
 (149,⟨.slice 85,1,24,[.v (.slice none 0 0)]⟩),
 (116,⟨.slice 83,1,24,[.v (.slice none 0 0)]⟩),
 (70,⟨.struct [(68,0),(68,3),(4,6),(4,7)],8,120,[.ff,.v (.slice none 0 0),.v (.slice none 0 0),.ff,.v (.slice none 0 0),.v (.slice none 0 0),.ff,.ff]⟩),
 (232,⟨.int .u64,1,8,[.v (.int .u64 0)]⟩),
 (45,⟨.struct [(3,0),(43,1)],2,32,[.v (.int .i64 0),.v (.slice none 0 0)]⟩),
 (93,⟨.ptr 295,1,8,[.v (.pointer none)]⟩),
 (27,⟨.slice 231,1,24,[.v (.slice none 0 0)]⟩),
 (40,⟨.iface,1,16,[.v (.nilIface)]⟩),
 (51,⟨.struct [(49,0),(49,2),(49,4)],6,96,[.ff,.v (.slice none 0 0),.ff,.v (.slice none 0 0),.ff,.v (.slice none 0 0)]⟩),
 (43,⟨.slice 179,1,24,[.v (.slice none 0 0)]⟩),
 (72,⟨.struct [(51,0),(70,6)],14,216,[.ff,.v (.slice none 0 0),.ff,.v (.slice none 0 0),.ff,.v (.slice none 0 0),.ff,.v (.slice none 0 0),.v (.slice none 0 0),.ff,.v (.slice none 0 0),.v (.slice none 0 0),.ff,.ff]⟩),
 (328,⟨.struct [(95,0),(95,3)],6,48,[.v (.int .i64 0),.v (.int .i64 0),.v (.pointer none),.v (.int .i64 0),.v (.int .i64 0),.v (.pointer none)]⟩),
 (61,⟨.slice 72,1,24,[.v (.slice none 0 0)]⟩),
 (56,⟨.slice 114,1,24,[.v (.slice none 0 0)]⟩),
 (218,⟨.slice 225,1,24,[.v (.slice none 0 0)]⟩),
 (23,⟨.ptr 77,1,8,[.v (.pointer none)]⟩),
 (202,⟨.struct [(97,0),(100,9),(100,10),(4,11)],12,96,[.v (.int .i64 0),.v (.int .i64 0),.v (.pointer none),.v (.int .i64 0),.v (.int .i64 0),.v (.pointer none),.v (.int .i64 0),.v (.int .i64 0),.v (.pointer none),.v (.pointer none),.v (.pointer none),.ff]⟩),
 (357,⟨.int .u64,1,8,[.v (.int .u64 0)]⟩),
 (225,⟨.struct [(32,0),(114,6)],14,216,[.ff,.v (.slice none 0 0),.ff,.v (.slice none 0 0),.ff,.v (.slice none 0 0),.ff,.v (.slice none 0 0),.v (.slice none 0 0),.ff,.v (.slice none 0 0),.v (.slice none 0 0),.ff,.ff]⟩),
 (154,⟨.struct [(151,0),(3,1),(34,2)],3,56,[.v (.slice none 0 0),.v (.int .i64 0),.v (.slice none 0 0)]⟩),
 (104,⟨.slice 135,1,24,[.v (.slice none 0 0)]⟩),
 (103,⟨.slice 135,1,24,[.v (.slice none 0 0)]⟩),
 (258,⟨.func,1,8,[.v (.nilFunc)]⟩),
 (304,⟨.func,1,8,[.v (.nilFunc)]⟩),
 (38,⟨.slice 70,1,24,[.v (.slice none 0 0)]⟩),
 (120,⟨.slice 4,1,24,[.v (.slice none 0 0)]⟩),
 (151,⟨.slice 149,1,24,[.v (.slice none 0 0)]⟩),
 (22,⟨.slice 3,1,24,[.v (.slice none 0 0)]⟩),
 (179,⟨.struct [(51,0),(3,6),(3,7)],8,112,[.ff,.v (.slice none 0 0),.ff,.v (.slice none 0 0),.ff,.v (.slice none 0 0),.v (.int .i64 0),.v (.int .i64 0)]⟩),
 (295,⟨.struct [(49,0),(47,2)],3,56,[.ff,.v (.slice none 0 0),.v (.slice none 0 0)]⟩),
 (198,⟨.struct [(43,0),(120,1),(3,2),(4,3)],4,64,[.v (.slice none 0 0),.v (.slice none 0 0),.v (.int .i64 0),.ff]⟩),
 (277,⟨.struct [(68,0),(68,3)],6,112,[.ff,.v (.slice none 0 0),.v (.slice none 0 0),.ff,.v (.slice none 0 0),.v (.slice none 0 0)]⟩),
 (334,⟨.int .i64,1,8,[.v (.int .i64 0)]⟩),
 (305,⟨.slice 100,1,24,[.v (.slice none 0 0)]⟩),
 (211,⟨.func,1,8,[.v (.nilFunc)]⟩),
 (361,⟨.ptr 3,1,8,[.v (.pointer none)]⟩),
 (77,⟨.struct [(22,0),(3,1)],2,32,[.v (.slice none 0 0),.v (.int .i64 0)]⟩),
 (300,⟨.arr 2 3,2,16,[.v (.int .i64 0),.v (.int .i64 0)]⟩),
 (156,⟨.slice 222,1,24,[.v (.slice none 0 0)]⟩),
 (221,⟨.slice 277,1,24,[.v (.slice none 0 0)]⟩),
 (250,⟨.arr 2 103,2,48,[.v (.slice none 0 0),.v (.slice none 0 0)]⟩),
 (204,⟨.func,1,8,[.v (.nilFunc)]⟩),
 (196,⟨.ptr 198,1,8,[.v (.pointer none)]⟩),
 (281,⟨.tuple [230,4],1,0,[.v (.tuple #[.int .u64 0,.bool false])]⟩),
 (315,⟨.arr 2 218,2,48,[.v (.slice none 0 0),.v (.slice none 0 0)]⟩),
 (235,⟨.tuple [28,28],1,0,[.v (.tuple #[.slice none 0 0,.slice none 0 0])]⟩),
 (5,⟨.int .u8,1,1,[.v (.int .u8 0)]⟩),
 (185,⟨.tuple [85,4],1,0,[.v (.tuple #[.agg #[.bool false,.slice none 0 0,.slice none 0 0,.bool false,.slice none 0 0,.slice none 0 0],.bool false])]⟩),
 (289,⟨.tuple [2,4],1,0,[.v (.tuple #[.int .i64 0,.bool false])]⟩),
 (372,⟨.tuple [3,3],1,0,[.v (.tuple #[.int .i64 0,.int .i64 0])]⟩),
 (9,⟨.str,1,16,[.v (.string ByteArray.empty)]⟩),
 (62,⟨.tuple [61,40],1,0,[.v (.tuple #[.slice none 0 0,.nilIface])]⟩),
 (87,⟨.tuple [32,4],1,0,[.v (.tuple #[.agg #[.bool false,.slice none 0 0,.bool false,.slice none 0 0,.bool false,.slice none 0 0],.bool false])]⟩),
 (251,⟨.func,1,8,[.v (.nilFunc)]⟩),
 (98,⟨.tuple [97,4],1,0,[.v (.tuple #[.agg #[.int .i64 0,.int .i64 0,.pointer none,.int .i64 0,.int .i64 0,.pointer none,.int .i64 0,.int .i64 0,.pointer none],.bool false])]⟩),
 (206,⟨.tuple [135,4],1,0,[.v (.tuple #[.agg #[.int .i64 0,.int .i64 0,.pointer none,.int .i64 0,.int .i64 0,.pointer none,.bool false,.bool false],.bool false])]⟩),
 (222,⟨.slice 277,1,24,[.v (.slice none 0 0)]⟩),
 (371,⟨.ptr 357,1,8,[.v (.pointer none)]⟩),
 (391,⟨.struct [(9,0)],1,16,[.v (.string ByteArray.empty)]⟩),
 (107,⟨.tuple [43,3],1,0,[.v (.tuple #[.slice none 0 0,.int .i64 0])]⟩),
 (283,⟨.tuple [231,231],1,0,[.v (.tuple #[.int .u32 0,.int .u32 0])]⟩),
 (287,⟨.tuple [47,47,4],1,0,[.v (.tuple #[.slice none 0 0,.slice none 0 0,.bool false])]⟩),
 (53,⟨.func,1,8,[.v (.nilFunc)]⟩),
 (101,⟨.tuple [100,40],1,0,[.v (.tuple #[.pointer none,.nilIface])]⟩),
 (123,⟨.tuple [4,4],1,0,[.v (.tuple #[.bool false,.bool false])]⟩),
 (130,⟨.tuple [100,4],1,0,[.v (.tuple #[.pointer none,.bool false])]⟩),
 (138,⟨.tuple [137,4],1,0,[.v (.tuple #[.agg #[.int .i64 0,.int .i64 0,.pointer none,.int .i64 0,.int .i64 0,.pointer none,.int .i64 0,.int .i64 0,.pointer none,.int .i64 0,.int .i64 0,.pointer none,.int .i64 0,.int .i64 0,.pointer none,.bool false,.bool false],.bool false])]⟩),
 (262,⟨.tuple [95,4],1,0,[.v (.tuple #[.agg #[.int .i64 0,.int .i64 0,.pointer none],.bool false])]⟩),
 (266,⟨.tuple [114,4],1,0,[.v (.tuple #[.agg #[.bool false,.slice none 0 0,.slice none 0 0,.bool false,.slice none 0 0,.slice none 0 0,.bool false,.bool false],.bool false])]⟩),
 (335,⟨.tuple [3,334],1,0,[.v (.tuple #[.int .i64 0,.int .i64 0])]⟩),
 (339,⟨.tuple [3,4],1,0,[.v (.tuple #[.int .i64 0,.bool false])]⟩),
 (367,⟨.tuple [47,4],1,0,[.v (.tuple #[.slice none 0 0,.bool false])]⟩),
 (256,⟨.func,1,8,[.v (.nilFunc)]⟩),
 (260,⟨.func,1,8,[.v (.nilFunc)]⟩),
 (41,⟨.tuple [38,40],1,0,[.v (.tuple #[.slice none 0 0,.nilIface])]⟩),
 (64,⟨.tuple [45,40],1,0,[.v (.tuple #[.agg #[.int .i64 0,.slice none 0 0],.nilIface])]⟩),
 (73,⟨.tuple [72,40],1,0,[.v (.tuple #[.agg #[.bool false,.slice none 0 0,.bool false,.slice none 0 0,.bool false,.slice none 0 0,.bool false,.slice none 0 0,.slice none 0 0,.bool false,.slice none 0 0,.slice none 0 0,.bool false,.bool false],.nilIface])]⟩),
 (142,⟨.tuple [128,4],1,0,[.v (.tuple #[.slice none 0 0,.bool false])]⟩),
 (174,⟨.tuple [104,104],1,0,[.v (.tuple #[.slice none 0 0,.slice none 0 0])]⟩),
 (215,⟨.tuple [34,4],1,0,[.v (.tuple #[.slice none 0 0,.bool false])]⟩),
 (271,⟨.tuple [225,4],1,0,[.v (.tuple #[.agg #[.bool false,.slice none 0 0,.bool false,.slice none 0 0,.bool false,.slice none 0 0,.bool false,.slice none 0 0,.slice none 0 0,.bool false,.slice none 0 0,.slice none 0 0,.bool false,.bool false],.bool false])]⟩),
 (274,⟨.tuple [218,218],1,0,[.v (.tuple #[.slice none 0 0,.slice none 0 0])]⟩),
 (316,⟨.tuple [56,4],1,0,[.v (.tuple #[.slice none 0 0,.bool false])]⟩),
 (323,⟨.tuple [47,231],1,0,[.v (.tuple #[.slice none 0 0,.int .u32 0])]⟩),
 (325,⟨.tuple [47,47],1,0,[.v (.tuple #[.slice none 0 0,.slice none 0 0])]⟩),
 (364,⟨.tuple [230,230],1,0,[.v (.tuple #[.int .u64 0,.int .u64 0])]⟩),
 (375,⟨.ptr 391,1,8,[.v (.pointer none)]⟩)]
def tabD:eu:=tab++[
 (32,⟨.struct [(30,0),(30,2),(30,4)],6,96,[.ff,.v (.slice none 0 0),.ff,.v (.slice none 0 0),.ff,.v (.slice none 0 0)]⟩),
 (137,⟨.struct [(97,0),(135,9)],17,128,[.v (.int .i64 0),.v (.int .i64 0),.v (.pointer none),.v (.int .i64 0),.v (.int .i64 0),.v (.pointer none),.v (.int .i64 0),.v (.int .i64 0),.v (.pointer none),.v (.int .i64 0),.v (.int .i64 0),.v (.pointer none),.v (.int .i64 0),.v (.int .i64 0),.v (.pointer none),.ff,.ff]⟩),
 (225,⟨.struct [(32,0),(114,6)],14,216,[.ff,.v (.slice none 0 0),.ff,.v (.slice none 0 0),.ff,.v (.slice none 0 0),.ff,.v (.slice none 0 0),.v (.slice none 0 0),.ff,.v (.slice none 0 0),.v (.slice none 0 0),.ff,.ff]⟩)]
def XK:eu.ok prog tabD:=YY ζ
def cI:eu.ok prog tab:=YY ζ
def Ă:prog.follows .mixedOrders=true:=ζ
abbrev VP:=Ó->Prop
abbrev qn:=Nat×Nat×List Value×Int
abbrev qr:=Int×Int×List Value
abbrev wd:=Int×List Value
abbrev wt:=Nat×Nat×List Value×Int×List Value
abbrev wz:=Bool×OA×Nat×Nat×OA×Nat×Nat×Bool×OA×Nat×Nat×OA×Nat×Nat×Bool×Bool
abbrev km:=Int×Bool×OA×Nat×Nat×OA×Nat×Nat×Bool×OA×Nat×Nat×OA×Nat×Nat×Bool×Bool
abbrev kr:=Int×Int
abbrev kw:=Nat×Nat×List Value×Bool×Int×List Value×Int×Int×OA×Int×Int×OA×Bool×Bool
abbrev jc:=Int×Nat×Nat×Nat×Nat×List Value×List Value
abbrev jp:=OA×Nat×Nat×OA×Nat×Nat
abbrev ve:=Nat×Nat×List Value
abbrev vu:=Nat×Nat×List Value×Int×Nat×Nat×Int×OA×Nat×Nat×List Value
abbrev vw:=Int×Bool×OA×Nat×Nat×OA×Nat×Nat
abbrev vz:=Nat×Nat×List Value×Nat×Nat×List Value
abbrev yz:=Nat×Nat×List Value×Int×OA×Nat×Nat×Int
abbrev qaa:=Nat×Nat×List Value×Nat×Nat×List Value×Int
abbrev qab:=Int×Int×OA×Int×Int×OA×Bool×Bool
abbrev qac:=Int×List Value×List Value
abbrev qad:=OA×Nat×Nat×Int×List Value
abbrev qae:=Nat×Nat×List Value×Int×Int×OA×Int×Int×OA×Bool×Bool
abbrev qaf:=OA×Nat×Nat×Bool×OA×Nat×Nat
abbrev qag:=Int×Int×Int×List Value
abbrev qah:=Nat×Nat×List Value×List Value
abbrev qai:=Nat×Nat×List Value×Int×Int
abbrev qaj:=Int×OA×Nat×Nat
abbrev qak:=OA×Nat×Nat×Int
abbrev qal:=OA×Nat×Nat
abbrev VR:=Value->VP
abbrev Rt (V:Ó)(R:VR)(x:Value):Prop:=∀v:Ó,V.Le v->R x v
abbrev s3 {α0 α1 α2:Type}(a:α0)(b:α1)(c:α2)(K:Prop):Prop:=sm a/\sm b/\sm c/\K
abbrev s4 {α0 α1 α2 α3:Type}(a:α0)(b:α1)(c:α2)(d:α3)(K:Prop):Prop:=sm a/\sm b/\sm c/\sm d/\K
abbrev s5 {α0 α1 α2 α3 α4:Type}(a:α0)(b:α1)(c:α2)(d:α3)(e:α4)(K:Prop):Prop:=sm a/\sm b/\sm c/\sm d/\sm e/\K
abbrev s6 {α0 α1 α2 α3 α4 α5:Type}(a:α0)(b:α1)(c:α2)(d:α3)(e:α4)(f:α5)(K:Prop):Prop:=sm a/\sm b/\sm c/\sm d/\sm e/\sm f/\K
abbrev s7 {α0 α1 α2 α3 α4 α5 α6:Type}(a:α0)(b:α1)(c:α2)(d:α3)(e:α4)(f:α5)(g:α6)(K:Prop):Prop:=sm a/\sm b/\sm c/\sm d/\sm e/\sm f/\sm g/\K
abbrev s8 {α0 α1 α2 α3 α4 α5 α6 α7:Type}(a:α0)(b:α1)(c:α2)(d:α3)(e:α4)(f:α5)(g:α6)(h:α7)(K:Prop):Prop:=sm a/\sm b/\sm c/\sm d/\sm e/\sm f/\sm g/\sm h/\K
abbrev s9 {α0 α1 α2 α3 α4 α5 α6 α7 α8:Type}(a:α0)(b:α1)(c:α2)(d:α3)(e:α4)(f:α5)(g:α6)(h:α7)(i:α8)(K:Prop):Prop:=sm a/\sm b/\sm c/\sm d/\sm e/\sm f/\sm g/\sm h/\sm i/\K
abbrev yP {α0 α1 α2 α3 α4 α5 α6 α7 α8 α9:Type}(a:α0)(b:α1)(c:α2)(d:α3)(e:α4)(f:α5)(g:α6)(h:α7)(i:α8)(j:α9)(K:Prop):Prop:=sm a/\sm b/\sm c/\sm d/\sm e/\sm f/\sm g/\sm h/\sm i/\sm j/\K
abbrev wE {α0 α1 α2 α3 α4 α5 α6 α7 α8 α9 α10:Type}(a:α0)(b:α1)(c:α2)(d:α3)(e:α4)(f:α5)(g:α6)(h:α7)(i:α8)(j:α9)(k:α10)(K:Prop):Prop:=sm a/\sm b/\sm c/\sm d/\sm e/\sm f/\sm g/\sm h/\sm i/\sm j/\sm k/\K
abbrev bD {α0 α1 α2 α3 α4 α5 α6 α7 α8 α9 α10 α11:Type}(a:α0)(b:α1)(c:α2)(d:α3)(e:α4)(f:α5)(g:α6)(h:α7)(i:α8)(j:α9)(k:α10)(l:α11)(K:Prop):Prop:=sm a/\sm b/\sm c/\sm d/\sm e/\sm f/\sm g/\sm h/\sm i/\sm j/\sm k/\sm l/\K
abbrev Ca (V:Ó)(f:Nat)(a:Array Value)(K:VR):Prop:=∀V1:Ó,V.Le V1->aa prog f a V1 K
def sV:Value->SV
  | .agg l=>.agg (l.toList.map C.v)
  | v=>.c (.v v)
def sA:Nat->List Value->List (Nat×SV)
  | _,[]=>[]
  | n,v::l=>(n,sV v)::sA (n+1) l
def fd {LF RF:pz Nat}(L K:IA){f:FuncId}{fn:Func}(hf:prog.funcs[f]?=some fn){V:ut}{R:VR}{G:Prop}(h:G)
 (hn:(fn.name=="runtime.NumGoroutine")=false:=by kernel_rfl)(ha:l.toArray=((sA 0 l).map λx=>x.2.den λ_=>0).toArray:=by kernel_rfl)
 (hG:G=H3 prog tab LF RF L K fn (sA 0 l) [] (λ_=>0) V R:=by kernel_rfl):aa prog f l.toArray V R:=
  bK (LF:=LF) (RF:=RF) (β0:=λ_=>0) cI Ă L K hf hn (sA 0 l) [] ha trivial h hG
open Go.Value renaming int→I,pointer→P,slice→S,agg→A,bool→B,tuple→T
open Go.IntKind renaming i64→J,u64→U,u32→W
abbrev Yo (a:OA)(n:Nat)(m:Ó)(v:Value):Prop:=∃q,ae a n=some q/\m.at q v
abbrev Xh (V:Ó)(b:Nat)(l:List Value)(t:Nat):Prop:=V.w.heap[b]?=some (.cells l.toArray t (0,0))
abbrev Z0 (r:Value)(K:OA->Nat->Nat->Int->Prop):Prop:=∃(v0:OA)(v1:Nat)(v2:Nat)(v3:Int),r=T #[S v0 v1 v2,I W v3]/\K v0 v1 v2 v3
abbrev Z1 (r:Value)(K:OA->Nat->Nat->OA->Nat->Nat->Prop):Prop:=∃(v0:OA)(v1:Nat)(v2:Nat)(v3:OA)(v4:Nat)(v5:Nat),r=T #[S v0 v1 v2,S v3 v4 v5]/\K v0 v1 v2 v3 v4 v5
abbrev Z2 (r:Value)(K:OA->Nat->Nat->OA->Nat->Nat->Bool->Prop):Prop:=∃(v0:OA)(v1:Nat)(v2:Nat)(v3:OA)(v4:Nat)(v5:Nat)(v6:Bool),r=T #[S v0 v1 v2,S v3 v4 v5,B v6]/\K v0 v1 v2 v3 v4 v5 v6
abbrev Z3 (r:Value)(K:Int->Bool->Prop):Prop:=∃(v0:Int)(v1:Bool),r=T #[I U v0,B v1]/\K v0 v1
abbrev X4 (v0:OA)(v1:Nat)(v2:Nat)(v3:OA)(v4:Nat)(v5:Nat):Value:=T #[S v0 v1 v2,S v3 v4 v5]
abbrev Z5 (r:Value)(K:Bool->OA->Nat->Nat->Prop):Prop:=∃(v0:Bool)(v1:OA)(v2:Nat)(v3:Nat),r=A #[B v0,S v1 v2 v3]/\K v0 v1 v2 v3
abbrev X6 (v0:Bool)(v1:OA)(v2:Nat)(v3:Nat):Value:=A #[B v0,S v1 v2 v3]
abbrev Z7 (r:Value)(K:OA->Nat->Nat->Bool->Prop):Prop:=∃(v0:OA)(v1:Nat)(v2:Nat)(v3:Bool),r=T #[S v0 v1 v2,B v3]/\K v0 v1 v2 v3
abbrev Z8 (r:Value)(K:Int->Int->OA->Prop):Prop:=∃(v0:Int)(v1:Int)(v2:OA),r=A #[I J v0,I J v1,P v2]/\K v0 v1 v2
abbrev X9 (v0:Int)(v1:Int)(v2:OA):Value:=A #[I J v0,I J v1,P v2]
abbrev VA (r:Value)(K:Int->Bool->Prop):Prop:=∃(v0:Int)(v1:Bool),r=T #[I J v0,B v1]/\K v0 v1
abbrev aH (v0:Bool)(v1:OA)(v2:Nat)(v3:Nat)(v4:OA)(v5:Nat)(v6:Nat):Value:=A #[B v0,S v1 v2 v3,S v4 v5 v6]
abbrev Z12 (r:Value)(K:Int->Int->Prop):Prop:=∃(v0:Int)(v1:Int),r=T #[I U v0,I U v1]/\K v0 v1
abbrev Z13 (r:Value)(K:Int->Int->Prop):Prop:=∃(v0:Int)(v1:Int),r=T #[I W v0,I W v1]/\K v0 v1
abbrev cu (r:Value)(K:Bool->OA->Nat->Nat->OA->Nat->Nat->Prop):Prop:=∃(v0:Bool)(v1:OA)(v2:Nat)(v3:Nat)(v4:OA)(v5:Nat)(v6:Nat),r=A #[B v0,S v1 v2 v3,S v4 v5 v6]/\K v0 v1 v2 v3 v4 v5 v6
abbrev dz (v0:Bool)(v1:OA)(v2:Nat)(v3:Nat)(v4:OA)(v5:Nat)(v6:Nat)(v7:Bool)(v8:OA)(v9:Nat)(v10:Nat)(v11:OA)(v12:Nat)(v13:Nat):Value:=A #[B v0,S v1 v2 v3,S v4 v5 v6,B v7,S v8 v9 v10,S v11 v12 v13]
abbrev mh (r:Value)(K:Bool->OA->Nat->Nat->OA->Nat->Nat->Bool->OA->Nat->Nat->OA->Nat->Nat->Prop):Prop:=∃(v0:Bool)(v1:OA)(v2:Nat)(v3:Nat)(v4:OA)(v5:Nat)(v6:Nat)(v7:Bool)(v8:OA)(v9:Nat)(v10:Nat)(v11:OA)(v12:Nat)(v13:Nat),r=A #[B v0,S v1 v2 v3,S v4 v5 v6,B v7,S v8 v9 v10,S v11 v12 v13]/\K v0 v1 v2 v3 v4 v5 v6 v7 v8 v9 v10 v11 v12 v13
abbrev eN (v0:Bool)(v1:OA)(v2:Nat)(v3:Nat)(v4:Bool)(v5:OA)(v6:Nat)(v7:Nat)(v8:Bool)(v9:OA)(v10:Nat)(v11:Nat):Value:=A #[B v0,S v1 v2 v3,B v4,S v5 v6 v7,B v8,S v9 v10 v11]
abbrev gY (v0:Int)(v1:Int)(v2:OA)(v3:Int)(v4:Int)(v5:OA)(v6:Int)(v7:Int)(v8:OA):Value:=A #[I J v0,I J v1,P v2,I J v3,I J v4,P v5,I J v6,I J v7,P v8]
abbrev Rd (v0:Int)(v1:Int)(v2:OA)(v3:Int)(v4:Int)(v5:OA):Value:=A #[I J v0,I J v1,P v2,I J v3,I J v4,P v5]
abbrev Z20 (r:Value)(K:Int->Int->OA->Int->Int->OA->Prop):Prop:=∃(v0:Int)(v1:Int)(v2:OA)(v3:Int)(v4:Int)(v5:OA),r=A #[I J v0,I J v1,P v2,I J v3,I J v4,P v5]/\K v0 v1 v2 v3 v4 v5
abbrev zd (v0:Int)(v1:Int)(v2:OA)(v3:Int)(v4:Int)(v5:OA)(v6:Bool)(v7:Bool):Value:=A #[I J v0,I J v1,P v2,I J v3,I J v4,P v5,B v6,B v7]
abbrev Zg (v0:Bool)(v1:OA)(v2:Nat)(v3:Nat)(v4:OA)(v5:Nat)(v6:Nat)(v7:Bool)(v8:OA)(v9:Nat)(v10:Nat)(v11:OA)(v12:Nat)(v13:Nat)(v14:Bool)(v15:Bool):Value:=A #[B v0,S v1 v2 v3,S v4 v5 v6,B v7,S v8 v9 v10,S v11 v12 v13,B v14,B v15]
abbrev Y23 (a:OA)(n:Nat)(m:Ó)(K:Bool->OA->Nat->Nat->OA->Nat->Nat->Bool->OA->Nat->Nat->OA->Nat->Nat->Bool->Bool->Addr->Prop):Prop:=∃(v0:Bool)(v1:OA)(v2:Nat)(v3:Nat)(v4:OA)(v5:Nat)(v6:Nat)(v7:Bool)(v8:OA)(v9:Nat)(v10:Nat)(v11:OA)(v12:Nat)(v13:Nat)(v14:Bool)(v15:Bool)(q:Addr),ae a n=some q/\m.at (q.add 0) (B v0)/\m.at (q.add 1) (S v1 v2 v3)/\m.at (q.add 2) (S v4 v5 v6)/\m.at (q.add 3) (B v7)/\m.at (q.add 4) (S v8 v9 v10)/\m.at (q.add 5) (S v11 v12 v13)/\m.at (q.add 6) (B v14)/\m.at (q.add 7) (B v15)/\K v0 v1 v2 v3 v4 v5 v6 v7 v8 v9 v10 v11 v12 v13 v14 v15 q
abbrev O7 (r:Value)(K:Bool->OA->Nat->Nat->Bool->OA->Nat->Nat->Bool->OA->Nat->Nat->Prop):Prop:=∃(v0:Bool)(v1:OA)(v2:Nat)(v3:Nat)(v4:Bool)(v5:OA)(v6:Nat)(v7:Nat)(v8:Bool)(v9:OA)(v10:Nat)(v11:Nat),r=A #[B v0,S v1 v2 v3,B v4,S v5 v6 v7,B v8,S v9 v10 v11]/\K v0 v1 v2 v3 v4 v5 v6 v7 v8 v9 v10 v11
abbrev Iv (v0:Int)(v1:Int)(v2:OA)(v3:Int)(v4:Int)(v5:OA)(v6:Int)(v7:Int)(v8:OA)(v9:Int)(v10:Int)(v11:OA)(v12:Int)(v13:Int)(v14:OA)(v15:Bool)(v16:Bool):Value:=A #[I J v0,I J v1,P v2,I J v3,I J v4,P v5,I J v6,I J v7,P v8,I J v9,I J v10,P v11,I J v12,I J v13,P v14,B v15,B v16]
abbrev Z26 (r:Value)(K:Bool->OA->Nat->Nat->OA->Nat->Nat->Bool->OA->Nat->Nat->OA->Nat->Nat->Bool->Bool->Prop):Prop:=∃(v0:Bool)(v1:OA)(v2:Nat)(v3:Nat)(v4:OA)(v5:Nat)(v6:Nat)(v7:Bool)(v8:OA)(v9:Nat)(v10:Nat)(v11:OA)(v12:Nat)(v13:Nat)(v14:Bool)(v15:Bool),r=A #[B v0,S v1 v2 v3,S v4 v5 v6,B v7,S v8 v9 v10,S v11 v12 v13,B v14,B v15]/\K v0 v1 v2 v3 v4 v5 v6 v7 v8 v9 v10 v11 v12 v13 v14 v15
abbrev Yd (v0:Bool)(v1:OA)(v2:Nat)(v3:Nat)(v4:Bool)(v5:OA)(v6:Nat)(v7:Nat)(v8:Bool)(v9:OA)(v10:Nat)(v11:Nat)(v12:Bool)(v13:OA)(v14:Nat)(v15:Nat)(v16:OA)(v17:Nat)(v18:Nat)(v19:Bool)(v20:OA)(v21:Nat)(v22:Nat)(v23:OA)(v24:Nat)(v25:Nat)(v26:Bool)(v27:Bool):Value:=A #[B v0,S v1 v2 v3,B v4,S v5 v6 v7,B v8,S v9 v10 v11,B v12,S v13 v14 v15,S v16 v17 v18,B v19,S v20 v21 v22,S v23 v24 v25,B v26,B v27]
abbrev Zi (r:Value)(K:Int->Int->OA->Int->Int->OA->Int->Int->OA->Prop):Prop:=∃(v0:Int)(v1:Int)(v2:OA)(v3:Int)(v4:Int)(v5:OA)(v6:Int)(v7:Int)(v8:OA),r=A #[I J v0,I J v1,P v2,I J v3,I J v4,P v5,I J v6,I J v7,P v8]/\K v0 v1 v2 v3 v4 v5 v6 v7 v8
abbrev Z29 (r:Value)(K:Int->Int->OA->Int->Int->OA->Bool->Bool->Prop):Prop:=∃(v0:Int)(v1:Int)(v2:OA)(v3:Int)(v4:Int)(v5:OA)(v6:Bool)(v7:Bool),r=A #[I J v0,I J v1,P v2,I J v3,I J v4,P v5,B v6,B v7]/\K v0 v1 v2 v3 v4 v5 v6 v7
abbrev Z30 (r:Value)(K:Int->Int->OA->Int->Int->OA->Int->Int->OA->Int->Int->OA->Int->Int->OA->Bool->Bool->Prop):Prop:=∃(v0:Int)(v1:Int)(v2:OA)(v3:Int)(v4:Int)(v5:OA)(v6:Int)(v7:Int)(v8:OA)(v9:Int)(v10:Int)(v11:OA)(v12:Int)(v13:Int)(v14:OA)(v15:Bool)(v16:Bool),r=A #[I J v0,I J v1,P v2,I J v3,I J v4,P v5,I J v6,I J v7,P v8,I J v9,I J v10,P v11,I J v12,I J v13,P v14,B v15,B v16]/\K v0 v1 v2 v3 v4 v5 v6 v7 v8 v9 v10 v11 v12 v13 v14 v15 v16
abbrev Z31 (r:Value)(K:Bool->OA->Nat->Nat->Bool->OA->Nat->Nat->Bool->OA->Nat->Nat->Bool->OA->Nat->Nat->OA->Nat->Nat->Bool->OA->Nat->Nat->OA->Nat->Nat->Bool->Bool->Prop):Prop:=∃(v0:Bool)(v1:OA)(v2:Nat)(v3:Nat)(v4:Bool)(v5:OA)(v6:Nat)(v7:Nat)(v8:Bool)(v9:OA)(v10:Nat)(v11:Nat)(v12:Bool)(v13:OA)(v14:Nat)(v15:Nat)(v16:OA)(v17:Nat)(v18:Nat)(v19:Bool)(v20:OA)(v21:Nat)(v22:Nat)(v23:OA)(v24:Nat)(v25:Nat)(v26:Bool)(v27:Bool),r=A #[B v0,S v1 v2 v3,B v4,S v5 v6 v7,B v8,S v9 v10 v11,B v12,S v13 v14 v15,S v16 v17 v18,B v19,S v20 v21 v22,S v23 v24 v25,B v26,B v27]/\K v0 v1 v2 v3 v4 v5 v6 v7 v8 v9 v10 v11 v12 v13 v14 v15 v16 v17 v18 v19 v20 v21 v22 v23 v24 v25 v26 v27
abbrev Y32 (a:OA)(n:Nat)(m:Ó)(K:Int->Int->OA->Int->Int->OA->Int->Int->OA->Int->Int->OA->Int->Int->OA->Bool->Bool->Addr->Prop):Prop:=∃(v0:Int)(v1:Int)(v2:OA)(v3:Int)(v4:Int)(v5:OA)(v6:Int)(v7:Int)(v8:OA)(v9:Int)(v10:Int)(v11:OA)(v12:Int)(v13:Int)(v14:OA)(v15:Bool)(v16:Bool)(q:Addr),ae a n=some q/\m.at (q.add 0) (I J v0)/\m.at (q.add 1) (I J v1)/\m.at (q.add 2) (P v2)/\m.at (q.add 3) (I J v3)/\m.at (q.add 4) (I J v4)/\m.at (q.add 5) (P v5)/\m.at (q.add 6) (I J v6)/\m.at (q.add 7) (I J v7)/\m.at (q.add 8) (P v8)/\m.at (q.add 9) (I J v9)/\m.at (q.add 10) (I J v10)/\m.at (q.add 11) (P v11)/\m.at (q.add 12) (I J v12)/\m.at (q.add 13) (I J v13)/\m.at (q.add 14) (P v14)/\m.at (q.add 15) (B v15)/\m.at (q.add 16) (B v16)/\K v0 v1 v2 v3 v4 v5 v6 v7 v8 v9 v10 v11 v12 v13 v14 v15 v16 q
abbrev Y33 (a:OA)(n:Nat)(m:Ó)(K:Bool->OA->Nat->Nat->OA->Nat->Nat->Addr->Prop):Prop:=∃(v0:Bool)(v1:OA)(v2:Nat)(v3:Nat)(v4:OA)(v5:Nat)(v6:Nat)(q:Addr),ae a n=some q/\m.at (q.add 0) (B v0)/\m.at (q.add 1) (S v1 v2 v3)/\m.at (q.add 2) (S v4 v5 v6)/\K v0 v1 v2 v3 v4 v5 v6 q
abbrev Ve (a:OA)(n:Nat)(m:Ó)(K:Int->Int->OA->Int->Int->OA->Int->Int->OA->Addr->Prop):Prop:=∃(v0:Int)(v1:Int)(v2:OA)(v3:Int)(v4:Int)(v5:OA)(v6:Int)(v7:Int)(v8:OA)(q:Addr),ae a n=some q/\m.at (q.add 0) (I J v0)/\m.at (q.add 1) (I J v1)/\m.at (q.add 2) (P v2)/\m.at (q.add 3) (I J v3)/\m.at (q.add 4) (I J v4)/\m.at (q.add 5) (P v5)/\m.at (q.add 6) (I J v6)/\m.at (q.add 7) (I J v7)/\m.at (q.add 8) (P v8)/\K v0 v1 v2 v3 v4 v5 v6 v7 v8 q
abbrev Rq (v0:Int)(v1:OA)(v2:Nat)(v3:Nat):Value:=A #[I J v0,S v1 v2 v3]
abbrev X36 (v0:OA)(v1:Nat)(v2:Nat)(v3:OA)(v4:Nat)(v5:Nat):Value:=A #[S v0 v1 v2,S v3 v4 v5]
abbrev Y37 (a:OA)(n:Nat)(m:Ó)(K:Int->Int->OA->Int->Int->OA->Bool->Bool->Addr->Prop):Prop:=∃(v0:Int)(v1:Int)(v2:OA)(v3:Int)(v4:Int)(v5:OA)(v6:Bool)(v7:Bool)(q:Addr),ae a n=some q/\m.at (q.add 0) (I J v0)/\m.at (q.add 1) (I J v1)/\m.at (q.add 2) (P v2)/\m.at (q.add 3) (I J v3)/\m.at (q.add 4) (I J v4)/\m.at (q.add 5) (P v5)/\m.at (q.add 6) (B v6)/\m.at (q.add 7) (B v7)/\K v0 v1 v2 v3 v4 v5 v6 v7 q
abbrev Z38 (r:Value)(K:OA->Bool->Prop):Prop:=∃(v0:OA)(v1:Bool),r=T #[P v0,B v1]/\K v0 v1
abbrev Rr (a:OA)(n:Nat)(m:Ó)(K:Bool->OA->Nat->Nat->Bool->OA->Nat->Nat->Bool->OA->Nat->Nat->Addr->Prop):Prop:=∃(v0:Bool)(v1:OA)(v2:Nat)(v3:Nat)(v4:Bool)(v5:OA)(v6:Nat)(v7:Nat)(v8:Bool)(v9:OA)(v10:Nat)(v11:Nat)(q:Addr),ae a n=some q/\m.at (q.add 0) (B v0)/\m.at (q.add 1) (S v1 v2 v3)/\m.at (q.add 2) (B v4)/\m.at (q.add 3) (S v5 v6 v7)/\m.at (q.add 4) (B v8)/\m.at (q.add 5) (S v9 v10 v11)/\K v0 v1 v2 v3 v4 v5 v6 v7 v8 v9 v10 v11 q
abbrev Zh (a:OA)(n:Nat)(m:Ó)(K:Bool->OA->Nat->Nat->OA->Nat->Nat->Bool->OA->Nat->Nat->OA->Nat->Nat->Addr->Prop):Prop:=∃(v0:Bool)(v1:OA)(v2:Nat)(v3:Nat)(v4:OA)(v5:Nat)(v6:Nat)(v7:Bool)(v8:OA)(v9:Nat)(v10:Nat)(v11:OA)(v12:Nat)(v13:Nat)(q:Addr),ae a n=some q/\m.at (q.add 0) (B v0)/\m.at (q.add 1) (S v1 v2 v3)/\m.at (q.add 2) (S v4 v5 v6)/\m.at (q.add 3) (B v7)/\m.at (q.add 4) (S v8 v9 v10)/\m.at (q.add 5) (S v11 v12 v13)/\K v0 v1 v2 v3 v4 v5 v6 v7 v8 v9 v10 v11 v12 v13 q
abbrev Y41 (a:OA)(n:Nat)(m:Ó)(K:Bool->OA->Nat->Nat->Bool->OA->Nat->Nat->Bool->OA->Nat->Nat->Bool->OA->Nat->Nat->OA->Nat->Nat->Bool->OA->Nat->Nat->OA->Nat->Nat->Bool->Bool->Addr->Prop):Prop:=∃(v0:Bool)(v1:OA)(v2:Nat)(v3:Nat)(v4:Bool)(v5:OA)(v6:Nat)(v7:Nat)(v8:Bool)(v9:OA)(v10:Nat)(v11:Nat)(v12:Bool)(v13:OA)(v14:Nat)(v15:Nat)(v16:OA)(v17:Nat)(v18:Nat)(v19:Bool)(v20:OA)(v21:Nat)(v22:Nat)(v23:OA)(v24:Nat)(v25:Nat)(v26:Bool)(v27:Bool)(q:Addr),ae a n=some q/\m.at (q.add 0) (B v0)/\m.at (q.add 1) (S v1 v2 v3)/\m.at (q.add 2) (B v4)/\m.at (q.add 3) (S v5 v6 v7)/\m.at (q.add 4) (B v8)/\m.at (q.add 5) (S v9 v10 v11)/\m.at (q.add 6) (B v12)/\m.at (q.add 7) (S v13 v14 v15)/\m.at (q.add 8) (S v16 v17 v18)/\m.at (q.add 9) (B v19)/\m.at (q.add 10) (S v20 v21 v22)/\m.at (q.add 11) (S v23 v24 v25)/\m.at (q.add 12) (B v26)/\m.at (q.add 13) (B v27)/\K v0 v1 v2 v3 v4 v5 v6 v7 v8 v9 v10 v11 v12 v13 v14 v15 v16 v17 v18 v19 v20 v21 v22 v23 v24 v25 v26 v27 q
abbrev X42 (v0:OA)(v1:Nat)(v2:Nat)(v3:Int)(v4:OA)(v5:Nat)(v6:Nat):Value:=A #[S v0 v1 v2,I J v3,S v4 v5 v6]
abbrev Z43 (r:Value)(K:Int->OA->Nat->Nat->Prop):Prop:=∃(v0:Int)(v1:OA)(v2:Nat)(v3:Nat),r=A #[I J v0,S v1 v2 v3]/\K v0 v1 v2 v3
abbrev Z44 (r:Value)(K:OA->Nat->Nat->Int->OA->Nat->Nat->Prop):Prop:=∃(v0:OA)(v1:Nat)(v2:Nat)(v3:Int)(v4:OA)(v5:Nat)(v6:Nat),r=A #[S v0 v1 v2,I J v3,S v4 v5 v6]/\K v0 v1 v2 v3 v4 v5 v6
abbrev zX (b:Bool)(A B:Prop):Prop:=(b=true->A)/\(b=false->B)
abbrev zB (f:OA)(a d:Int)(K:Prop):Prop:=(f.isSome=true)/\(0<=a/\a<d)/\K
abbrev ă (o n:Nat)(x l:List Value):Prop:=o+n<=x.length/\(x.drop o).take n=l
abbrev æ (a d:Int):Prop:=0<=a/\a<d
abbrev Ĉ (V:Ó)(x:List Value)(t:Nat)(K:Ó->Nat->Prop):Prop:=∀W,V.Le W->∀b:Nat,Xh W b x t->W.H b->K W b
abbrev bB (V:Ó)(f:Nat)(a:Array Value)(K:Ó->OA->Nat->Nat->Prop):Prop:=Ca V f a λr W=>∃a b c,r=S a b c/\K W a b c
abbrev î (V:Ó)(f:Nat)(a:Array Value)(K:Ó->Bool->Prop):Prop:=Ca V f a λr W=>∃a,r=B a/\K W a
abbrev ä (V:Ó)(f:Nat)(a:Array Value)(K:Ó->Int->Prop):Prop:=Ca V f a λr W=>∃a,r=I J a/\K W a
abbrev qqK (V:Ó)(f:Nat)(a:Array Value)(K:Ó->OA->Nat->Nat->Int->Prop):Prop:=Ca V f a λr W=>Z0 r (K W)
abbrev qqJ (V:Ó)(f:Nat)(a:Array Value)(K:Ó->OA->Nat->Nat->OA->Nat->Nat->Prop):Prop:=Ca V f a λr W=>Z1 r (K W)
abbrev qwQ (V:Ó)(f:Nat)(a:Array Value)(K:Ó->OA->Nat->Nat->OA->Nat->Nat->Bool->Prop):Prop:=Ca V f a λr W=>Z2 r (K W)
abbrev qwW (V:Ó)(f:Nat)(a:Array Value)(K:Ó->Int->Bool->Prop):Prop:=Ca V f a λr W=>Z3 r (K W)
abbrev ê (V:Ó)(f:Nat)(a:Array Value)(K:Ó->Bool->OA->Nat->Nat->Prop):Prop:=Ca V f a λr W=>Z5 r (K W)
abbrev qwJ (V:Ó)(f:Nat)(a:Array Value)(K:Ó->OA->Nat->Nat->Bool->Prop):Prop:=Ca V f a λr W=>Z7 r (K W)
abbrev ú (V:Ó)(f:Nat)(a:Array Value)(K:Ó->Int->Int->OA->Prop):Prop:=Ca V f a λr W=>Z8 r (K W)
abbrev qzQ (V:Ó)(f:Nat)(a:Array Value)(K:Ó->Int->Bool->Prop):Prop:=Ca V f a λr W=>VA r (K W)
abbrev qzZ (V:Ó)(f:Nat)(a:Array Value)(K:Ó->Int->Int->Prop):Prop:=Ca V f a λr W=>Z12 r (K W)
abbrev qzK (V:Ó)(f:Nat)(a:Array Value)(K:Ó->Int->Int->Prop):Prop:=Ca V f a λr W=>Z13 r (K W)
abbrev á (V:Ó)(f:Nat)(a:Array Value)(K:Ó->Bool->OA->Nat->Nat->OA->Nat->Nat->Prop):Prop:=Ca V f a λr W=>cu r (K W)
abbrev ć (V:Ó)(f:Nat)(a:Array Value)(K:Ó->Bool->OA->Nat->Nat->OA->Nat->Nat->Bool->OA->Nat->Nat->OA->Nat->Nat->Prop):Prop:=Ca V f a λr W=>mh r (K W)
abbrev qkW (V:Ó)(f:Nat)(a:Array Value)(K:Ó->Int->Int->OA->Int->Int->OA->Prop):Prop:=Ca V f a λr W=>Z20 r (K W)
abbrev qkJ (V:Ó)(f:Nat)(a:Array Value)(K:Ó->Bool->OA->Nat->Nat->Bool->OA->Nat->Nat->Bool->OA->Nat->Nat->Prop):Prop:=Ca V f a λr W=>O7 r (K W)
abbrev qjQ (V:Ó)(f:Nat)(a:Array Value)(K:Ó->Bool->OA->Nat->Nat->OA->Nat->Nat->Bool->OA->Nat->Nat->OA->Nat->Nat->Bool->Bool->Prop):Prop:=Ca V f a λr W=>Z26 r (K W)
abbrev qjW (V:Ó)(f:Nat)(a:Array Value)(K:Ó->Int->Int->OA->Int->Int->OA->Int->Int->OA->Prop):Prop:=Ca V f a λr W=>Zi r (K W)
abbrev qjZ (V:Ó)(f:Nat)(a:Array Value)(K:Ó->Int->Int->OA->Int->Int->OA->Bool->Bool->Prop):Prop:=Ca V f a λr W=>Z29 r (K W)
abbrev qjK (V:Ó)(f:Nat)(a:Array Value)(K:Ó->Int->Int->OA->Int->Int->OA->Int->Int->OA->Int->Int->OA->Int->Int->OA->Bool->Bool->Prop):Prop:=Ca V f a λr W=>Z30 r (K W)
abbrev qjJ (V:Ó)(f:Nat)(a:Array Value)(K:Ó->Bool->OA->Nat->Nat->Bool->OA->Nat->Nat->Bool->OA->Nat->Nat->Bool->OA->Nat->Nat->OA->Nat->Nat->Bool->OA->Nat->Nat->OA->Nat->Nat->Bool->Bool->Prop):Prop:=Ca V f a λr W=>Z31 r (K W)
abbrev qvW (V:Ó)(f:Nat)(a:Array Value)(K:Ó->OA->Bool->Prop):Prop:=Ca V f a λr W=>Z38 r (K W)
abbrev qvZ (V:Ó)(f:Nat)(a:Array Value)(K:Ó->Int->OA->Nat->Nat->Prop):Prop:=Ca V f a λr W=>Z43 r (K W)
abbrev vX (f:Nat)(a:Array Value)(G:Ó->VR->Prop):Prop:=∀V R,G V R->aa prog f a V R
def Û {f:FuncId}{fn:Func}(hf:prog.funcs[f]?=some fn){G:ut->VR->Prop}(hn:(fn.name=="runtime.NumGoroutine")=false:=by kernel_rfl)(ha:l.toArray=((sA 0 l).map λx=>x.2.den λ_=>0).toArray:=by kernel_rfl)(hG:G=λV R=>H3 prog tab aS [] [] [] fn (sA 0 l) [] (λ_=>0) V R:=by kernel_rfl):vX f l.toArray G:=
 λV R h=>fd (LF:=aS) (RF:=[]) [] [] hf h hn ha (congrFun (congrFun hG V) R)
def nC (LF RF:pz Nat)(L K:IA){f:FuncId}{fn:Func}(hf:prog.funcs[f]?=some fn){G:ut->VR->Prop}(hn:(fn.name=="runtime.NumGoroutine")=false:=by kernel_rfl)(ha:l.toArray=((sA 0 l).map λx=>x.2.den λ_=>0).toArray:=by kernel_rfl)(hG:G=λV R=>H3 prog tab LF RF L K fn (sA 0 l) [] (λ_=>0) V R:=by kernel_rfl):vX f l.toArray G:=
 λV R h=>fd (LF:=LF) (RF:=RF) L K hf h hn ha (congrFun (congrFun hG V) R)
def ķ {T:eu}(hT:eu.ok prog T)(k:Nat){p q:Prop}(au:p)(aw:q)(LF RF:pz Nat)(L K:IA){f:FuncId}{fn:Func}(hf:prog.funcs[f]?=some fn)(ss:pz (Nat×SV))(x:aX){V:ut}{R:VR}{G:Prop}(h:G)(hn:(fn.name=="runtime.NumGoroutine")=false:=by kernel_rfl)(ha:l.toArray=(ss.map λx=>x.2.den (cU (λ_=>0) 100000 k)).toArray:=by kernel_rfl)(hb:VK (cU (λ_=>0) 100000 k) V [(100000,x)]=((p/\q)/\True/\True):=by kernel_rfl)(hG:G=H3 prog T LF RF L K fn ss [(100000,x)] (cU (λ_=>0) 100000 k) V R:=by kernel_rfl):aa prog f l.toArray V R:=
 bK (LF:=LF) (RF:=RF) (β0:=cU (λ_=>0) 100000 k) hT Ă L K hf hn ss [(100000,x)] ha (hb.symm.mp ⟨⟨au,aw⟩,trivial,trivial⟩) h hG
def _root_.qyQ {a b c d:Sort _}{p:a->b->c->d->Prop}{A B C D}(h:p A B C D):∃A B C D,p A B C D:=⟨_,_,_,_,h⟩
def _root_.qyW {a b c d e f:Sort _}{p:a->b->c->d->e->f->Prop}{A B C D E F}(h:p A B C D E F):∃A B C D E F,p A B C D E F:=⟨_,_,_,_,_,_,h⟩
def _root_.qyZ {a b c d e f g:Sort _}{p:a->b->c->d->e->f->g->Prop}{A B C D E F G}(h:p A B C D E F G):∃A B C D E F G,p A B C D E F G:=⟨_,_,_,_,_,_,_,h⟩
def _root_.qyJ {a b c d e f g i j:Sort _}{p:a->b->c->d->e->f->g->i->j->Prop}{A B C D E F G H I}(h:p A B C D E F G H I):∃A B C D E F G H I,p A B C D E F G H I:=⟨_,_,_,_,_,_,_,_,_,h⟩
def _root_.qxW {a b c d e f g i j k l m:Sort _}{p:a->b->c->d->e->f->g->i->j->k->l->m->Prop}{A B C D E F G H I J K L}(h:p A B C D E F G H I J K L):∃A B C D E F G H I J K L,p A B C D E F G H I J K L:=⟨_,_,_,_,_,_,_,_,_,_,_,_,h⟩
def _root_.qyK {a b c d e f g i j k l m n o:Sort _}{p:a->b->c->d->e->f->g->i->j->k->l->m->n->o->Prop}{A B C D E F G H I J K L M N}(h:p A B C D E F G H I J K L M N):∃A B C D E F G H I J K L M N,p A B C D E F G H I J K L M N:=⟨_,_,_,_,_,_,_,_,_,_,_,_,_,_,h⟩
abbrev À:=aa prog
end Go.Proofs.Tryz
