import Derived.Orders
import Derived.Scope
import Derived.Laws.Sem
import Derived.Test.YtmamnfmhdcahmaaGreatDoorProg
import Derived.Test.YtmamnfmhdcahmaaGreatDoorW4
set_option linter.all false
open Go.IntKind (i64 u64 u32)
namespace Go.Eng
section
variable {P:Program} {T:dW} {LF RF:List Nat} {n:Nat} {V0:Ó} {bQ:Mw} {β0:Nat->Nat}
def G0 (P:Program)(T:dW)(m:Nat->CM)(hint:Nat->û)(ops:Array Oper):Nat->Array Bool->St->Ó->(St->Ó->Prop)->Prop
 | 0,listed,st,V,K=>Region.ready .any ops listed=[]/\K st V
 | fuel+1,listed,st,V,K=>(Region.ready .any ops listed=[]->K st V) /\
  ∀i∈Region.ready .any ops listed,∀o,ops[i]?=some o->xg P T (m i) (hint i) ops o st V λu V'=>G0 P T m hint ops fuel (listed.setIfInBounds i true) u V' K
def zQ (hT:dW.ok P T){m:Nat->CM}{hint:Nat->û}{ops:Array Oper}(M:∀(i:Nat)(o:Oper),ops[i]?=some o->∀d,o.dst=some d->d<n){Q:Exit->Act->World->Prop}{K:St->un->Prop}(F:∀u β' z w' V',Þ n V0 bQ β0 u β' z w' V'->K u V'->Q .normal z w'):∀(fuel:Nat)(listed:Array ut)(st:St)(β:Nat->Nat)(a:Act)(w:World)(V:un),Þ n V0 bQ β0 st β a w V->G0 P T m hint ops fuel listed st V K->wpAny P .any ops Q fuel listed a w
 | 0,_,_,_,_,_,_,E,y=>⟨y.1,F _ _ _ _ _ E y.2⟩
 | fuel+1,listed,st,β,a,w,V,E,y=>by
  refine ⟨λh=>F _ _ _ _ _ E (y.1 h),λi hi=>?_⟩;obtain ⟨-,o,N,-⟩:=mem_ready.1 hi;have:=KS (Q:=Q) (next:=wpAny P .any ops Q fuel (listed.setIfInBounds i true)) hT E (M i o N) (y.2 i hi o N) (λu β' z w' V' b c=>zQ hT M F fuel _ u β' z w' V' b c);unfold wpOp;grind
def xI {sc:zA Prop}{k k':Prop}(h:k->k')(g:G6 sc k):G6 sc k':=by obtain ⟨a,b⟩:=(fy sc _).1 g;exact (fy sc _).2 ⟨a,h b⟩
theorem Qo {s vs k c size bytes ty d st V}{K u:St->un->Prop}{j xs}(y:∀s V',V.Le V'->K s V'->u s V')(h:JA s vs k c size bytes ty d st V K j xs):JA s vs k c size bytes ty d st V u j xs:=by unfold JA at h ⊢;obtain ⟨e,f,g,i,l,a⟩:=h;refine ⟨e,f,g,i,l,?_⟩;split at a;{exact a.elim};{exact λb J spare m n o=>y _ _ (Ó.Le.refl V) (a b J spare m n o)}
theorem Ny {s vs k c size bytes ty d st V}{K u:St->un->Prop}{j xs}(y:∀s V',V.Le V'->K s V'->u s V')(h:zG s vs k c size bytes ty d st V K j xs):zG s vs k c size bytes ty d st V u j xs:=by unfold zG at h ⊢;obtain ⟨b,e,f,g,i,a⟩:=h;refine ⟨b,e,f,g,i,?_⟩;split at a;{exact a.elim};{exact λspare l m n=>y _ _ (Ó.Le.refl V) (a spare l m n)}
theorem Qp {vs k c size bytes ty d st V}{K u:St->un->Prop}{j xs}(y:∀s V',V.Le V'->K s V'->u s V')(h:JB vs k c size bytes ty d st V K j xs):JB vs k c size bytes ty d st V u j xs:=by unfold JB at h ⊢;obtain ⟨b,e,f,g,a⟩:=h;refine ⟨b,e,f,g,?_⟩;split at a;{exact a.elim};{grind [Ó.Le.refl]}
def Wa {y:Q}{dst:Option Nat}{st:St}{V:un}{K z:St->un->Prop}(u:∀s V',V.Le V'->K s V'->z s V')(h:Ap y dst st V K):Ap y dst st V z:=by (cases y with|fail=>exact h|ret sc x=>exact xI (u _ _ (Ó.Le.refl V)) h|new sc b x=>{simp only [Ap] at h ⊢;split at h;{split at h;{rename_i f;exact xI (u _ _ (Ó.Le.refl V)) h};{exact h.elim}};{exact h.elim}}|Ao sc s b=>{simp only [Ap] at h ⊢;split at h;{exact xI (u _ _ (Ó.Le.refl V)) h};{exact h.elim}}|rd a sh=>{have ⟨x,d,e⟩:=sh.split h;exact e _ (wF.2 ⟨(wF.1 d).1,u _ _ (Ó.Le.refl V) (wF.1 d).2⟩)}|ug vs of size sh=>{have ⟨x,d,e⟩:=sh.split h;exact e _ ⟨d.1,u _ _ (Ó.Le.refl V) d.2⟩}|yy s vs a c src size bytes ty=>{simp only [Ap] at h ⊢;split at h;{exact h.elim};grind [Ny]}|app old ba vs a c src size bytes ty=>{simp only [Ap] at h ⊢;split at h;{exact h.elim};{cases old<;>grind [Qo,Qp,Ó.Le.refl]}})
def tD {bx:Nat->Option aY}{β:Nat->Nat}{V:un}:∀{L:zA Nat} {k k':Prop},(k->k')->uZ bx β V L k->uZ bx β V L k'
 | [],_,_,h,g=>h g
 | s::r,k,k',h,g=>by
  simp only [uZ] at g ⊢;split at g
  ·exact λu=>tD h (g u)
  ·exact g.elim
def uW {give:ut}{sh:Sh}{L:zA Nat}{u:Option Nat}{d:Nat}{ety:TypeId}{β:Nat->Nat}{st:St}{V V' y:un}{K E:St->un->Prop}{F:um}(hm:∀k,u=some k->k∈L)(M:V.Le V')(z:V.Le y)(hlv:∀s∈L,∃b,st.boxes s=some b/\(b.live->V'.H (β s)))(N:∀s V',V.Le V'->K s V'->E s V')(h:cG T give sh L u d ety β st V' K F y):cG T give sh L u d ety β st V' E F y:=by refine pO (p:=λ_=>none) (q:=uf) (W:=gR u d::L) (D:=[d]) (λs c=>⟨rfl,ø _ c⟩) hm ⟨rfl,ψ⟩ ⟨rfl,ψ⟩ M z hlv (λs2 V2 a=>?_) h;exact N _ _ a.1 a.2.2.2
theorem xf {m f xs ty dst st V}{K K':St->un->Prop}(hk:∀s V',V.Le V'->K s V'->K' s V')(h:gY P T m f xs ty dst st V K):gY P T m f xs ty dst st V K':=by
 unfold gY at h ⊢;split at h
 ·exact h.elim
 ·split at h
  ·split at h;{split at h;{split at h;{exact h.elim};{exact λV' a=>(h V' a).s λ_ z hle g=>uW (λk hk=>by cases hk) a (a.m hle) (λs r=>Å r ψ) hk g}};{exact λV' a=>(h V' a).s λ_ _ hle g=>Sh.s g λx c=>⟨c.1,hk _ _ (a.m hle) c.2⟩};{exact h.elim}};{split at h;{split at h;{exact h.elim};{split at h;{split at h;{split at h;{refine λV' a=>(h V' a).s λ_ z hle g=>?_;obtain ⟨b,e⟩:=g;obtain ⟨cs,⟨A,B,C,D⟩,E⟩:=sW _ e;refine ⟨b,E _ ⟨A,B,C,hk _ _ ?_ D⟩⟩;intro x o c;obtain ⟨F,G⟩:=(a.m hle) x o c;have ⟨R,H⟩:=a x o c;have:=aK H;exact ⟨λh=>h.elim F λh=>by have:=h.1;omega,G⟩};{exact h.elim}};{exact h.elim}};{exact h.elim}}};{exact h.elim}};{exact λV' a=>(h V' a).s λ_ _ hle g=>Sh.s g λx c=>⟨c.1,hk _ _ (a.m hle) c.2⟩}
  ·split at h
   ·exact h.elim
   ·rename_i I;rename_i S U X Y _
    have u:∀{i:ut} {v:Sh} {t:Option Nat} {d:Nat} {l:TypeId} {L:zA Nat},(∀k,t=some k->k∈L) ->
      (∀V':un,V.Le V'->nN L (λ_=>0) λβ=>kq st.boxes β V' L (ae P f (aI β xs) (V'.aw (L.map (eJ st.boxes β V'.w.heap.size))) (cG T i v L t d l β st V' K))) ->
      ∀V':un,V.Le V'->nN L (λ_=>0) λβ=>kq st.boxes β V' L (ae P f (aI β xs) (V'.aw (L.map (eJ st.boxes β V'.w.heap.size))) (cG T i v L t d l β st V' K')):=by
     intro i v t d l L hm h V' a;exact eX (λβ e=>lL (λ_ _=>rfl) (λM n=>n.s λ_ _ hle g=>uW hm a ((a.m (Bh V' _)).m hle) M hk g) e) (h V' a)
    split at h
    ·exact h.elim
    ·exact h.elim
    ·split at h;{split at h;{exact h.elim};{exact u (λk hk=>by cases hk) h}};{rename_i d l k Z h2 y;split at h;{split at h;{exact h.elim};{refine u (λj N=>?_) h<;>grind [gg,cA.2,Ch]}};{split at h;{exact h.elim};{split at h;{exact h.elim};{exact λV' a=>eX (λβ e=>tD (λn=>n.s λ_ _ hle g=>uW (λk hk=>by cases hk) a (a.m hle) (λs r=>Å r ψ) hk g) e) (h V' a)}}}};{split at h;{exact h.elim};{exact λV' a=>eX (λβ e=>tD (λn=>n.s λ_ _ hle g=>Sh.s g λx c=>⟨c.1,hk _ _ (a.m hle) c.2⟩) e) (h V' a)}};{exact h.elim}
    ·split at h;{exact λV' a=>eX (λβ e=>lL (λ_ _=>rfl) (λ_ n=>n.s λ_ _ hle g=>Sh.s g λx c=>⟨c.1,mM (p:=λ_=>none) (q:=uf) (W:=_) (λs r=>⟨rfl,r⟩) (λO _ _ y=>hk _ _ (((a.m (Bh V' _)).m hle).m (Pq _)) y) c.2⟩) e) (h V' a)};{rename_i k Q;split at h;{split at h;{exact h.elim};{refine u (λj N=>?_) h<;>grind [UB]}};{exact h.elim}};{exact h.elim}
    ·split at h;{exact h.elim};{exact λV' a=>eX (λβ e=>tD (λn=>n.s λ_ _ hle g=>Sh.s g λx c=>⟨c.1,λJ=>hk _ _ (a.m hle) (c.2 J)⟩) e) (h V' a)}
def sf {m:CM}{f:FuncId}{xs:zA SV}{ty:TypeId}{dst:Option Nat}{st:St}{V:un}{K u:St->un->Prop}(y:∀s V',V.Le V'->K s V'->u s V')(h:mc P T m f xs ty dst st V K):mc P T m f xs ty dst st V u:=by unfold mc at h ⊢;split at h;{grind [xf]};{exact xf y h}
def w_ {m:CM}{o:Oper}{st:St}{V:un}{K y:St->un->Prop}(u:∀s V',V.Le V'->K s V'->y s V')(h:dV P T m o st V K):dV P T m o st V y:=by unfold dV at h ⊢;split at h;{split at h;{split at h;{exact sf u h};{exact sf u h};{exact h.elim}};{exact h.elim}};{split at h;{split at h;{split at h;{exact sf u h};{exact h.elim}};{exact h.elim}};{exact h.elim}};{exact Wa u h}
def Lz {m:CM}{hi:û}{o:Oper}{st:St}{V:un}{K u:St->un->Prop}(y:∀s V',V.Le V'->K s V'->u s V')(h:dO P T m hi o st V K):dO P T m hi o st V u:=by unfold dO at h ⊢;split at h;{exact w_ y h};{split at h;{split at h;{exact w_ y h};{exact h.elim}};{exact h.elim}}
def oO {m:CM}{hi:û}{ops:Array Oper}{o:Oper}{st:St}{V:un}{K u:St->un->Prop}(y:∀s V',V.Le V'->K s V'->u s V')(h:xg P T m hi ops o st V K):xg P T m hi ops o st V u:=by rw [IU] at h ⊢;refine sC (λs w a=>?_) h;(cases w with|true=>exact Lz y a|false=>exact y _ _ (Ó.Le.refl V) a)
def Ux (LF RF:List Nat)(m:CM)(o:Oper):Prop:=
 rL (bG LF RF o.op)=true\/(bG LF RF o.op=.call/\m=.none)\/((bG LF RF o.op=.oD/\m=.aw)\/(bG LF RF o.op=.give/\m=.give)\/bG LF RF o.op=.app)
def UZ {m:CM}{h:û}{ops:Array Oper}{o:Oper}{st:St}{V:un}{R W:zA Nat}(y:rL (bG LF RF o.op)=true)(hrw:wO (bG LF RF o.op) h (fI o)=some (R,W))(u:xg P T m h ops o st V λ_ _=>False):False:=by rw [IU] at u;have ⟨p,w,a⟩:=iA u;have:=a.next;(cases w with|true=>{have ⟨p,q,b⟩:=tC y hrw this;exact b.next}|false=>exact this)
def zz {ops:Array Oper}{z E:û}{u y:Oper}(hi:Ě LF RF ops z E u y=true):rL (bG LF RF u.op)=true/\(∃R W,wO (bG LF RF u.op) z (fI u)=some (R,W))/\∃R W,wO (bG LF RF y.op) E (fI y)=some (R,W):=by unfold Ě at hi;simp only [Ċ] at hi;obtain ⟨⟨⟨⟨⟨b,-⟩,-⟩,-⟩,-⟩,a⟩:=hi;split at a;{grind};{cases a}
def Rz {ops:Array Oper}{i:Nat}{o:Oper}(u:ops[i]?=some o){h:û}{R W:zA Nat}(hrw:wO (bG LF RF o.op) h (fI o)=some (R,W)):Ux LF RF (ni LF RF ops i) o:=by unfold Ux ni;rw [u];dsimp only;generalize bG LF RF o.op=c at hrw;(cases c with|odd=>{cases h<;>cases hrw}|ko=>{cases h<;>cases hrw}|call=>exact .inr (.inl ⟨rfl,rfl⟩)|oD=>exact .inr (.inr (.inl ⟨rfl,rfl⟩))|give=>exact .inr (.inr (.inr (.inl ⟨rfl,rfl⟩)))|app=>exact .inr (.inr (.inr (.inr rfl)))|_=>exact .inl rfl)
section
variable {ops:Array Oper} {hint:Nat->û} {anc:Nat->Nat->Prop} {K:St->Ó->Prop}
def Ly (hA:∀j o,ops[j]?=some o->∀i,anc j i->∃e∈o.after,Region.binds .any e=true/\(e.on=i\/anc e.on i)){i:Nat}{N:Oper}(hi:ops[i]?=some N):∀(fuel:Nat)(listed:Array ut)(st:St)(V:un),(∀j,listed.getD j false=true->∀k,anc j k->listed.getD k false=true) ->(∀j M,ops[j]?=some M->j≠i->listed.getD j true=false->¬anc j i->Ě LF RF ops (hint i) (hint j) N M=true)->i∈Region.ready .any ops listed ->(xg P T (ni LF RF ops i) (hint i) ops N st V λO V'=>G0 P T (ni LF RF ops) hint ops fuel (listed.setIfInBounds i true) O V' K) ->G0 P T (ni LF RF ops) hint ops (fuel+1) listed st V K:=by
 have x:∀(listed:Array ut)(j:Nat),(∀j,listed.getD j false=true->∀k,anc j k->listed.getD k false=true)->i∈Region.ready .any ops listed->j∈Region.ready .any ops listed->¬anc j i:=by intro listed j g d f B;obtain ⟨p,-⟩:=mem_ready.1 d;have q:listed.getD i false=true->False:=χ;grind [mem_ready.1]
 intro fuel
 induction fuel with
 | zero=>
  intro listed st V g a d H;refine ⟨λh=>(by rw [h] at d;cases d),λj f o u=>?_⟩;by_cases b:j=i
  ·subst b;rw [hi] at u;cases u;exact H
  ·exfalso;have t:=a j o u b (mem_ready.1 f).1 (x listed j g d f);obtain ⟨y,⟨R,W,z⟩,-⟩:=zz t;refine UZ y z (oO (λs V' _ h=>?_) H);have:=ready_mono f b;rw [h.1] at this;cases this
 | succ fuel Z=>
  intro listed st V g a d H;refine ⟨λh=>(by rw [h] at d;cases d),λj f M c=>?_⟩;by_cases b:j=i
  ·subst b;rw [hi] at c;cases c;exact H
  ·have r:=x listed j g d f;have t:=a j M c b (mem_ready.1 f).1 r;obtain ⟨y,⟨R,W,z⟩,F,G,C⟩:=zz t;refine oO (λs V' _ h=>?_) (X3 t (Rz c C) (oO (λs V' _ h=>h.2 j (ready_mono f b) M c) H));obtain ⟨-,D,n,A⟩:=mem_ready.1 f;rw [c] at n;cases n;have E:j<ops.size:=χ;refine Z (listed.setIfInBounds j true) s V' ?_ ?_ (ready_mono d (Ne.symm b)) ?_;{intro k v l I;by_cases m:j=k;{grind [getD_set_true]};{rw [getD_set_ne false m] at v;grind [getD_set_true]}};{intro k ok v w p q;refine a k ok v w ?_ q;by_cases m:j=k;{subst m;exact (mem_ready.1 f).1};{rw [getD_set_ne true m] at p;exact p}};grind [Array.setIfInBounds_comm]
def Qi (hA:∀j o,ops[j]?=some o->∀i,anc j i->∃e∈o.after,Region.binds .any e=true/\(e.on=i\/anc e.on i)):∀(l done:zA Nat)(listed:Array ut)(st:St)(V:un),listed.size=ops.size->(∀j,listed.getD j false=iZ j done)->(∀j,j<ops.size->j∈done\/j∈l) ->(∀j,listed.getD j false=true->∀k,anc j k->listed.getD k false=true)->wG ops done l=true ->(∀i r1 r2,l=r1++i::r2->∀j∈r2,anc j i\/∃a b,ops[i]?=some a/\ops[j]?=some b/\Ě LF RF ops (hint i) (hint j) a b=true) ->V_ P T (ni LF RF ops) hint ops l st V K->G0 P T (ni LF RF ops) hint ops l.length listed st V K
 | [],done,listed,st,V,Z,hrel,Xw,_,_,_,hv=>by
  refine ⟨?_,hv⟩
  cases hr:Region.ready .any ops listed with
  | nil=>rfl
  | cons x xs=>
   exfalso;have hx:x∈Region.ready .any ops listed:=by rw [hr];simp
   obtain ⟨w,o,M,-⟩:=mem_ready.1 hx
   have y:x<ops.size:=by
    rcases Ď x ops.size with f|f
    ·exact f
    ·rw [Qp0 f] at M;cases M
   rcases Xw x y with h|h
   ·have m:=hrel x;rw [dS.2 h] at m;simp [Z,y] at w m;rw [w] at m;cases m
   ·cases h
 | i::r,done,listed,st,V,Z,hrel,Xw,hcl,n,Zr,hv=>by
  simp only [wG,Ċ] at n;obtain ⟨z,n⟩:=n;unfold NW at z;split at z
  ·rename_i H c;simp only [Ċ,Ł,Ħ,Qf6] at z;obtain ⟨A,B⟩:=z;have C:i<ops.size:=by{rcases Ď i ops.size with f|f;{exact f};{rw [Qp0 f] at c;cases c}};have d:∀e∈H.after,Region.binds .any e=true->listed.getD e.on false=true:=by{intro e he u;rw [hrel];rcases B e (by simpa using he) with h|h;{rw [u] at h;cases h};{exact h}};have p:i∈Region.ready .any ops listed:=by{refine mem_ready.2 ⟨?_,H,c,d⟩;have:=hrel i;rw [A] at this;simp [Z,C] at this ⊢;exact this};have D:∀j,(listed.setIfInBounds i true).getD j false=true->∀k,anc j k->(listed.setIfInBounds i true).getD k false=true:=by{intro k N l O;by_cases E:i=k;{subst E;have ⟨e,he,u,h⟩:=hA i H c l O;have w:=d e he u;rcases h with h|h;{rw [<-h];exact getD_set_true w};{exact getD_set_true (hcl _ w l h)}};{rw [getD_set_ne false E] at N;exact getD_set_true (hcl k N l O)}};refine Ly hA c r.length listed st V hcl (λj S q g F I=>?_) p ?_;{have G:j<ops.size:=by{rcases Ď j ops.size with f|f;{exact f};{rw [Qp0 f] at q;cases q}};have J:j∈r:=by{rcases Xw j G with h|h;{exfalso;have m:=hrel j;rw [dS.2 h] at m;simp [Z,G] at F m;rw [F] at m;cases m};{rcases ç.1 h with h|h;{exact Å h g};{exact h}}};rcases Zr i [] r rfl j J with h|⟨a,b,Q,u,h⟩;{exact Å h I};{rw [c] at Q;rw [q] at u;cases Q;cases u;exact h}};{simp only [V_,c] at hv;have t:∀s v,V_ P T (ni LF RF ops) hint ops r s v K->G0 P T (ni LF RF ops) hint ops r.length (listed.setIfInBounds i true) s v K:=by{intro s v R;refine Qi hA r (i::done) (listed.setIfInBounds i true) s v (by simp [Z]) ?_ ?_ D n (λk r1 r2 e j L=>Zr k (i::r1) r2 (by rw [e];rfl) j L) R;{intro j;by_cases g:i=j;{subst g;simp [iZ,Qb7,Z,C]};{rw [getD_set_ne false g,hrel j];simp [iZ,g_ (Ne.symm g)]}};{intro j L;rcases Xw j L with h|h;{exact .inl (by simp [h])};{rcases ç.1 h with h|h;{exact .inl (by simp [h])};{exact .inr h}}}};exact oO (λs v _ h=>t s v h) hv}
  ·cases z
end
def SU {m i:Nat}:bitB m i=true↔m.testBit i=true:=by unfold bitB;rw [beq_eq,Qg3,decide_eq_true_iff];show Nat.land (m >>> i) 1=1↔_;rw [show Nat.land (m >>> i) 1=(m >>> i) &&& 1 from rfl,Nat.and_one_is_mod,Nat.shiftRight_eq_div_pow]
def WJ (acc:List Nat)(o:Oper):Nat:=o.after.toList.foldl (λs e=>cond (Region.binds .any e) (Nat.lor (Nat.lor (Nat.shiftLeft 1 e.on) (acc.getD e.on 0)) s) s) 0
def Jz {acc:zA Nat}{i:Nat}:∀(es:zA Edge)(s:Nat),(es.foldl (λs e=>cond (Region.binds .any e) (Nat.lor (Nat.lor (Nat.shiftLeft 1 e.on) (acc.getD e.on 0)) s) s) s).testBit i=true ->s.testBit i=true\/∃e∈es,Region.binds .any e=true/\(e.on=i\/(acc.getD e.on 0).testBit i=true)
 | [],s,h=>.inl h
 | e::r,s,h=>by
  simp only [Š] at h;rcases Jz r _ h with u|⟨z,u,E,F⟩
  ·cases y:Region.binds .any e with
   | false=>rw [y] at u;exact .inl u
   | true=>
    rw [y] at u;simp only [cond_true] at u;have u:(((1 <<< e.on) ||| (acc.getD e.on 0)) ||| s).testBit i=true:=u;grind [Nat.shiftLeft_eq]
  grind
def FE:∀(l:zA Oper)(acc:zA Nat),∃ext,l.foldl (λacc o=>acc++[WJ acc o]) acc=acc++ext/\∀k o,l[k]?=some o->∃pre suf,ext=pre++suf/\ext.getD k 0=WJ (acc++pre) o
 | [],acc=>⟨[],ψ,λk o h=>by simp at h⟩
 | o::r,acc=>by
  have ⟨ext,u,y⟩:=FE r (acc++[WJ acc o]);refine ⟨WJ acc o::ext,by simp [u],λk a h=>?_⟩
  cases k with
  | zero=>
   simp at h;subst h;exact ⟨[],_,rfl,ψ⟩
  | succ k=>grind
def MC {ops:zA Oper}(j:Nat)(o:Oper)(u:ops[j]?=some o):∀i,((SH ops).getD j 0).testBit i=true->∃e∈o.after,Region.binds .any e=true/\(e.on=i\/((SH ops).getD e.on 0).testBit i=true):=by intro i b;have ⟨ext,c,d⟩:=FE ops [];have he:=(show SH ops=[]++ext from c).m (ŗ _);have ⟨pre,f,g,k⟩:=d j o u;rw [he,k] at b;rcases Jz _ _ b with h|⟨e,l,m,a⟩;{simp at h};{refine ⟨e,by simpa using l,m,?_⟩;rcases a with a|a;{exact .inl a};{right;simp only [ŗ] at a;rw [he,g];rcases Ď e.on pre.length with n|n<;>grind}}
def CT {ops:Array Oper}{E:zA û}{F:zA Nat}:∀{l:zA Nat},Bj LF RF ops E F l=true->∀i u z,l=u++i::z->∀j∈z,(F.getD j 0).testBit i=true\/∃a b,ops[i]?=some a/\ops[j]?=some b/\Ě LF RF ops (E.getD i .free) (E.getD j .free) a b=true
 | [],_,i,u,z,e,_,_=>by simp at e
 | x::l,h,i,u,z,e,j,M=>by
  simp only [Bj,Ċ,Ħ] at h
  cases u with
  | nil=>grind [SU.1]
  | cons y u=>
   simp at e;exact CT h.2 i u z e.2 j M
def Oj {m:Nat->CM}{hint:Nat->û}{ops:Array Oper}:∀{l:zA Nat} {st:St} {V:un} {K u:St->un->Prop},(∀s V',V.Le V'->K s V'->u s V')->V_ P T m hint ops l st V K->V_ P T m hint ops l st V u
 | [],_,V,_,_,y,h=>y _ _ (Ó.Le.refl V) h
 | i::r,st,V,K,u,y,h=>by
  simp only [V_] at h ⊢;split at h
  ·exact oO (λs V' hle h=>Oj (λs z hle' h=>y s z (hle.m hle') h) h) h
  ·exact h.elim
def wI {st:St}{β:Nat->Nat}{a:Act}{w:World}{V:un}(hT:dW.ok P T)(hmx:P.follows .mixedOrders=true)(E:Þ n V0 bQ β0 st β a w V){id:Nat}{ops:Array Oper}{draw:ut}(F:∀(i:Nat)(o:Oper),ops[i]?=some o->∀d,o.dst=some d->d<n){Q:Exit->Act->World->Prop}{K:Exit->St->un->Prop}(y:LC P T LF RF ops draw st V (K .normal))(M:∀u β' z w' V',Þ n V0 bQ β0 u β' z w' V'->V.Le V'->K .normal u V'->Q .normal z w'):(Code.region id ops draw).wp P Q a w:=by
 cases draw with
 | false=>
  simp only [LC] at y;exact wp_region (Gw (K:=λs V'=>V.Le V'/\K .normal s V') hT F (λu β' z w' V' b h=>M u β' z w' V' b h.1 h.2) _ st β a w V E (Oj (λs V' hle h=>⟨hle,h⟩) y))
 | true=>
  simp only [LC] at y;split at y
  ·rename_i e;simp only [PF,Ċ,Ħ,Wv3] at e;obtain ⟨⟨⟨f,g⟩,k⟩,l⟩:=e;refine wp_region_any hmx ?_
   have:=Qi (P:=P) (T:=T) (LF:=LF) (RF:=RF) (ops:=ops) (hint:=λi=>(ops.toList.map (T8 LF RF st ops.toList)).getD i .free) (anc:=λj i=>((SH ops.toList).getD j 0).testBit i=true) (K:=λs V'=>V.Le V'/\K .normal s V')
    (λj o e=>MC j o (by simpa using e)) (vg LF RF ops) [] (Array.replicate ops.size false) st V ψ (λj=>by
     simp only [iZ,Array.getD];split<;>simp) (λj c=>.inr (dS.1 (g j c))) (λj c=>by
     exfalso;simp only [Array.getD] at c;split at c<;>simp at c) k (CT l) (Oj (λs V' hle h=>⟨hle,h⟩) y)
   rw [beq_eq.1 f] at this;exact zQ hT F (λu β' z w' V' b h=>M u β' z w' V' b h.1 h.2) _ _ _ β _ _ _ E.drew this
  ·exact y.elim
end
section
variable {P:Program} {T:dW} {LF RF:List Nat} {n:Nat} {V0:Ó} {bQ:Mw} {β0:Nat->Nat} {β:Nat->Nat}
def di {c:ut}{l:zA Prop}(h:∀p∈(cond c l [False]),p):c=true/\∀p∈l,p:=by (cases c with|true=>exact ⟨rfl,h⟩|false=>{exact (h False ψ).elim})
def Gb {ρ:zA (Nat×Nat)}{β β':Nat->Nat}:∀{ss ts:zA Nat},(∀s'∈ts,∀s,uP ρ s s'=true->β' s'=β s)->Ga ρ ss ts=true->ss.map β=ts.map β'
 | [],[],_,_=>rfl
 | s::r,s'::r',hβ,h=>by
  simp only [Ga,Ċ] at h;simp only [ĺ];rw [hβ s' ψ s h.1,Gb (λu hu=>hβ u (by simp [hu])) h.2]
 | [],_::_,_,h=>by simp [Ga] at h
 | _::_,[],_,h=>by simp [Ga] at h
def Pc {ρ:zA (Nat×Nat)}{β β':Nat->Nat}{a b:C}(hβ:∀s'∈b.ids,∀s,uP ρ s s'=true->β' s'=β s)(h:∀p∈eqC ρ a b,p):a.den β=b.den β':=by unfold eqC at h;split at h;{have ⟨d,i⟩:=di h;have:=Gn d;have:=i _ (õ.2 rfl);subst_vars;rfl};{have:=h _ (õ.2 rfl);subst this;rfl};{have:=h _ (õ.2 rfl);subst this;rfl};{have:=h _ (õ.2 rfl);subst this;rfl};{rename_i a n c r j k;have d:=h (a=r) ψ;have i:=h (n=j) ψ;have l:=h (c=k) ψ;subst d i l;rfl};{rename_i a n c s' j k;have d:=h (a=none) ψ;have i:=h (n=j) ψ;have l:=h (c=k) ψ;have t:=h (c=0) ψ;subst d i l t;rfl};{have:=h _ (õ.2 rfl);subst this;rfl};{have:=h _ (õ.2 rfl);subst this;rfl};{have:=h _ (õ.2 rfl);subst this;rfl};{have:=h _ (õ.2 rfl);subst this;rfl};{have:=h _ (õ.2 rfl);subst this;rfl};{rfl};{rfl};{rename_i s o s' q;have ⟨d,i⟩:=di h;have e:=hβ s' (by simp [C.ids]) s d;have:=i (o=q) ψ;subst_vars;simp only [C.den,e]};{rename_i s o n c s' q j k;have ⟨m,h⟩:=di h;have e:=hβ s' (by simp [C.ids]) s m;have d:=h (o=q) ψ;have i:=h (n=j) ψ;have l:=h (c=k) ψ;grind [C.den]};{rename_i s o n c s' j k;have ⟨m,h⟩:=di h;have e:=hβ s' (by simp [C.ids]) s m;have d:=h (o=0) ψ;have i:=h (n=j) ψ;have l:=h (c=k) ψ;subst d i l;simp only [C.den,e,mA,(h (c≠0) ψ),Ð]};{rename_i s n c s' j k;have ⟨m,h⟩:=di h;have e:=hβ s' (by simp [C.ids]) s m;have i:=h (n=j) ψ;have l:=h (c=k) ψ;subst_vars;simp only [C.den,e]};{rename_i f u g ts;have ⟨m,h⟩:=di h;have d:=h (f=g) ψ;subst d;have v:(u.map λs=>Value.pointer (some ⟨β s,0,none⟩))=ts.map λs=>Value.pointer (some ⟨β' s,0,none⟩):=by{have:=Æ (List.map λb=>Value.pointer (some ⟨b,0,none⟩)) (Gb (β:=β) (β':=β') (ts:=ts) (λs' w=>hβ s' w) m);grind [Function.comp_def]};simp only [C.den,v]};{rename_i f x g ws;have d:=h (f=g) ψ;have i:=h (x=ws) ψ;subst d i;rfl};{exact (h False ψ).elim}
def Cd {ρ:zA (Nat×Nat)}{β β':Nat->Nat}:∀{l m:zA C},(∀s'∈m.flatMap C.ids,∀s,uP ρ s s'=true->β' s'=β s)->(∀p∈M8 ρ l m,p)->l.map (C.den β)=m.map (C.den β')
 | [],[],_,_=>rfl
 | a::r,b::s,hβ,h=>by
  simp only [M8,ú] at h;simp only [ĺ];rw [Pc (λu hu=>hβ u (by simp [hu])) λp y=>h p (.inl y),Cd (λu hu=>hβ u (by rw [Ė];exact Ĺ _ hu)) λp y=>h p (.inr y)]
 | [],_::_,_,h=>(h False (by simp [M8])).elim
 | _::_,[],_,h=>(h False (by simp [M8])).elim
def TO {ρ:zA (Nat×Nat)}{β β':Nat->Nat}{a b:SV}(hβ:∀s'∈b.ids,∀s,uP ρ s s'=true->β' s'=β s)(h:∀p∈eqSV ρ a b,p):a.den β=b.den β':=by unfold eqSV at h;split at h;{exact Pc hβ h};{simp only [SV.den];rw [Cd hβ h]};{exact (h False ψ).elim}
def QW {ρ:zA (Nat×Nat)}{β β':Nat->Nat}{a b:aY}(hβ:∀s'∈b.cs.ids,∀s,uP ρ s s'=true->β' s'=β s)(h:∀p∈TN ρ a b,p):a.obj β=b.obj β'/\(b.live->a.live):=by unfold TN at h;obtain ⟨ac,at'⟩:=a;obtain ⟨f,g⟩:=b;dsimp only at h;split at h;{have ⟨d,c⟩:=di h;simp only [aY.obj,è.den];rw [Cd hβ c,beq_eq.1 d];grind [dI]};{have ⟨d,c⟩:=di h;have:=c _ (õ.2 rfl);grind [aY.obj,è.den,beq_eq.1]};{have ⟨d,c⟩:=di h;have:=c _ (õ.2 rfl);grind [aY.obj,è.den,beq_eq.1]};{have ⟨d,c⟩:=di h;have:=c _ (õ.2 rfl);grind [aY.obj,è.den,beq_eq.1,dJ]};{split at h;{rename_i ws e;have ⟨d,c⟩:=di h;have:=c _ (õ.2 rfl);grind [aY.obj,è.den,gj,beq_eq.1,dI]};{exact (h False ψ).elim}};{split at h;{rename_i ws e;have ⟨d,c⟩:=di h;have:=c _ (õ.2 rfl);grind [aY.obj,è.den,gj,beq_eq.1,dI]};{exact (h False ψ).elim}};{exact (h False ψ).elim}
def cX {α:Type}:∀{l:zA (Nat×α)} {t:Nat} {x:α},aH l t=some x->(t,x)∈l
 | [],_,_,h=>by cases h
 | (s,y)::r,t,x,h=>by
  simp only [aH] at h;by_cases e:t=s
  ·subst e;rw [Qb7] at h;cases h;simp
  ·rw [g_ e] at h;exact ø _ (cX h)
def iG {α:Type}:∀{l:zA (Nat×α)} {t:Nat},t∈l.map (·.1)->∃x,aH l t=some x
 | [],_,h=>by simp at h
 | (s,y)::r,t,h=>by
  simp only [aH];by_cases e:t=s
  ·subst e;rw [Qb7];exact ⟨_,rfl⟩
  ·rw [g_ e];exact iG (by simpa [e] using h)
def Ge {ρ:zA (Nat×Nat)}{β β':Nat->Nat}{st:St}:∀{l:zA (Nat×SV)},(∀t x,(t,x)∈l->∀s'∈x.ids,∀s,uP ρ s s'=true->β' s'=β s)->(∀p∈Xk ρ st l,p)->∀t x,(t,x)∈l->∃y,st.aA t=some y/\y.den β=x.den β'
 | [],_,_,_,_,h=>nomatch h
 | (s,z)::r,hβ,h,t,x,hm=>by
  simp only [Xk] at h;split at h
  ·rename_i y E;simp only [ú] at h;rcases ç.1 hm with e|hm
   ·cases e;exact ⟨y,E,TO (hβ _ _ Ć) λp u=>h p (.inl u)⟩
   ·exact Ge (λt x h=>hβ t x (by simp [h])) (λp u=>h p (.inr u)) t x hm
  ·exact (h False ψ).elim
def Gd {ρ:zA (Nat×Nat)}{β β':Nat->Nat}{st:St}:∀{l:zA (Nat×aY)},(∀t x,(t,x)∈l->∀s'∈x.cs.ids,∀s,uP ρ s s'=true->β' s'=β s)->(∀p∈QZ ρ st l,p)->∀t x,(t,x)∈l->x.live ->t∈rO ρ l/\∃y,st.boxes (La ρ t)=some y/\y.obj β=x.obj β'/\y.live
 | [],_,_,_,_,h,_=>nomatch h
 | (s,z)::r,hβ,h,t,x,hm,u=>by
  have hβr:∀t x,(t,x)∈r->∀s'∈x.cs.ids,∀s,uP ρ s s'=true->β' s'=β s:=λt x h=>hβ t x (by simp [h])
  have tail:(∀p∈QZ ρ st r,p)->(t,x)∈r->t∈rO ρ ((s,z)::r)/\∃y,st.boxes (La ρ t)=some y/\y.obj β=x.obj β'/\y.live:=by
   intro h hm;have ⟨c,a⟩:=Gd hβr h t x hm u;refine ⟨?_,a⟩;unfold rO;grind
  simp only [QZ] at h;split at h
  ·rename_i d b f;rcases ç.1 hm with e|hm;{cases e;have:=h (d=[]) ψ;subst this;exact Å (u [] b) ψ};grind
  ·rename_i g;split at h;{rename_i y i;simp only [ú] at h;rcases ç.1 hm with e|hm;{cases e;have ⟨c,a⟩:=QW (hβ _ _ Ć) λp j=>h p (.inl j);refine ⟨?_,y,i,c,a u⟩;unfold rO;grind};grind};{exact (h False ψ).elim}
def Lb {ρ:zA (Nat×Nat)}:∀{l:zA (Nat×aY)} {t:Nat} {x:aY},(t,x)∈l->(∃s,aH ρ t=some s)->t∈rO ρ l
 | [],_,_,h,_=>nomatch h
 | (s,z)::r,t,x,hm,u=>by
  rcases ç.1 hm with e|hm
  ·cases e;unfold rO;grind
  ·have:=Lb hm u;unfold rO;grind
def C9 {ρ:zA (Nat×Nat)}:∀{l:zA Nat},GD ρ l=true->(∀t∈l,(t<100000↔La ρ t<100000)/\(100000<=t->t<200000->La ρ t=t))/\∀t∈l,∀t'∈l,La ρ t=La ρ t'->t=t'
 | [],_=>⟨λt h=>(nomatch h),λt h=>(nomatch h)⟩
 | t::r,h=>by
  simp only [GD,Ċ,Ħ] at h;obtain ⟨⟨⟨z,u⟩,E⟩,y⟩:=h;have ⟨i1,i2⟩:=C9 y;have c:∀a b:Nat,Nat.blt a b=true↔a<b:=λa b=>by rw [Nat.blt_eq]
  have d:t<100000↔La ρ t<100000:=χ
  have e:100000<=t->t<200000->La ρ t=t:=by
   intro f g;simp only [Qf6] at u;rcases u with (u|u)|u
   ·rw [c] at u;omega
   ·have:=ő u;omega
   ·exact beq_eq.1 u
  grind [Nat.beq_refl]
def Dx {ss:zA (Nat×SV)}{u:zA (Nat×aY)}(h:rZ ss u=true):(∀t x,aH ss t=some x->∀s∈x.ids,∃b,aH u s=some b)/\(∀t x,aH u t=some x->∀s∈x.cs.ids,∃b,aH u s=some b):=by unfold rZ at h;simp only [Ċ,Ħ] at h;refine ⟨λt x a s c=>iG (dS.1 (h.1 _ (cX a) s c)),λt x a s c=>iG (dS.1 (h.2 _ (cX a) s c))⟩
def FD:∀{l:zA Prop},allL l->∀p∈l,p
 | [],_,_,h=>nomatch h
 | [q],h,p,u=>by rw [õ.1 u];exact h
 | q::r::s,h,p,u=>by
  rcases ç.1 u with e|e
  ·rw [e];exact h.1
  ·exact FD h.2 p e
theorem lF {st a w V}(Z:Þ n V0 bQ β0 st β a w V){A:Ann}{x}{k:Prop}(ht:rZ (A.aA x) (A.boxes x)=true)(h:A.fits st x k):(∃β',Þ n V0 bQ β0 (A.st x) β' a w V)/\k:=by unfold Ann.fits at h;dsimp only at h;generalize Vn st (A.aA x) (A.boxes x)=ρ at h;obtain ⟨o,F⟩:=h;refine ⟨?_,F⟩;replace o:=FD o;have ⟨t1,t2⟩:=Dx ht;have G:GD ρ (rO ρ (A.boxes x))=true:=by{have:=λp q=>o p (Ĺ _ q);unfold fitR at this;(cases hc:GD ρ (rO ρ (A.boxes x)) with|true=>rfl|false=>{rw [hc] at this;exact (this False ψ).elim})};have ⟨O,P⟩:=C9 G;let β':Nat->Nat:=λt=>if t∈rO ρ (A.boxes x) then β (La ρ t) else β t;have c:∀t,t∈rO ρ (A.boxes x)->β' t=β (La ρ t):=λt h=>Ä h;have hβ:∀i,(∃b,aH (A.boxes x) i=some b)->∀s,uP ρ s i=true->β' i=β s:=by{rintro i ⟨b,d⟩ s he;unfold uP at he;split at he;{rename_i u hu;have e:=beq_eq.1 he;subst e;rw [c i (Lb (cX d) ⟨_,hu⟩)];simp only [La,hu]};{rename_i hu;have e:=beq_eq.1 he;subst e;by_cases hm:s∈rO ρ (A.boxes x);{rw [c s hm];simp only [La,hu]};{exact Ã hm}}};have r:∀t y,(t,y)∈A.aA x->∀s∈y.ids,∃b,aH (A.boxes x) s=some b:=by{intro t y f s g;unfold rZ at ht;simp only [Ċ,Ħ] at ht;exact iG (dS.1 (ht.1 _ f s g))};have v:∀t y,(t,y)∈A.boxes x->∀s∈y.cs.ids,∃b,aH (A.boxes x) s=some b:=by{intro t y f s g;unfold rZ at ht;simp only [Ċ,Ħ] at ht;exact iG (dS.1 (ht.2 _ f s g))};have B:=Gd (ρ:=ρ) (β:=β) (β':=β') (st:=st) (l:=A.boxes x) (λt y f s g=>hβ s (v t y f s g)) λp q=>o p (Ĩ _ (Ĺ _ q));refine ⟨β',Z.defers,Z.size,?_,t1,t2,?_,?_,Z.tJ,?_,Z.ext,?_,?_,Z.mY,Z.small⟩;{intro t y f;obtain ⟨z,j,m⟩:=(Ge (ρ:=ρ) (β:=β) (β':=β') (st:=st) (l:=A.aA x) (λt y f s g=>hβ s (r t y f s g)) λp q=>o p (Ĩ _ (Ĩ _ q))) t y (cX f);rw [Z.aA t z j,m]};{intro s b d l;obtain ⟨C,z,j,m,D⟩:=B s b (cX d) l;rw [c s C,Z.boxes _ z j D,m]};{intro s i b H d l E I he;obtain ⟨C,z,j,m,D⟩:=B s b (cX d) l;obtain ⟨J,Q,K,L,M⟩:=B i H (cX E) I;grind [Z.inj]};{intro s b d l;obtain ⟨C,z,j,m,D⟩:=B s b (cX d) l;grind [Z.Af]};{intro s b d l;obtain ⟨C,z,j,m,D⟩:=B s b (cX d) l;rw [c s C];refine (Z.own _ z j D).imp id λh=>⟨?_,h.2⟩<;>grind};{intro s g;have ⟨N,R⟩:=Z.oV s g;refine ⟨N,?_⟩;by_cases hm:s∈rO ρ (A.boxes x)<;>grind}
def M4 (hT:dW.ok P T)(hmx:P.follows .mixedOrders=true){L J:Jp}:∀(c:Code)(st:St)(β:Nat->Nat)(a:Act)(w:World)(V:un)(K:Exit->St->un->Prop)(Q:Exit->Act->World->Prop),Þ n V0 bQ β0 st β a w V->j_ n c=true->vc P T LF RF L J c st V K->(∀e st' β' a' w' V',Þ n V0 bQ β0 st' β' a' w' V'->V.Le V'->K e st' V'->Q e a' w')->c.wp P Q a w:=by
 intro c
 induction c with
 | skip=>intro st β a w V K Q g _ f k;exact wp_skip (k _ _ _ _ _ _ g (Ó.Le.refl V) f)
 | region id ops draw=>
  intro st β a w V K Q g p f k
  have Z:∀(i:Nat)(o:Oper),ops[i]?=some o->∀d,o.dst=some d->d<n:=by intro i o ho d Z;simp only [j_,Ħ] at p;grind [Nat.blt_eq]
  simp only [vc] at f;split at f
  ·have ⟨a0,V1,E,u,F⟩:=g.release f;exact wI hT hmx E Z F (λst' β' a' w' V' h hle r=>k _ _ _ _ _ _ h (u.m hle) r)
  ·rename_i A hA;obtain ⟨I,f,Y⟩:=f;have ⟨a0,V1,E,u,F⟩:=g.release f;refine wI (K:=λ_ s V'=>∃x,(A.at st).fits s x (I x V')) hT hmx E Z F (λst' β' a' w' V' h hle r=>?_);obtain ⟨x,v⟩:=r;have hinv:=v.2;have ⟨O,R⟩:=Y x V' (u.m hle) hinv;obtain ⟨β2,q⟩:=(lF h O v).1;exact k _ _ _ _ _ _ q (u.m hle) R
 | seq x y Zv ihy=>
  intro st β a w V K Q g p f k;simp only [j_,Ċ] at p;refine wp_seq (Zv st β a w V _ _ g p.1 f ?_);intro e st' β' a' w' V' h hle r
  cases e with
  | normal=>exact ihy st' β' a' w' V' K Q h p.2 r (λe s b a w C O R h3=>k e s b a w C O (hle.m R) h3)
  | _=>exact k _ _ _ _ _ _ h hle r
 | cond c x y Zv ihy=>
  intro st β a w V K Q g p f k;simp only [j_,Ċ] at p;simp only [vc] at f;split at f
  ·split at f;{rename_i z;exact wp_cond_true (g.eval z) (Zv st β a w V K Q g p.1 f k)};{rename_i z;exact wp_cond_false (g.eval z) (ihy st β a w V K Q g p.2 f k)};{rename_i t z;exact wp_cond_split (g.eval z) (λG=>Zv st β a w V K Q g p.1 (f.1 G) k) (λG=>ihy st β a w V K Q g p.2 (f.2 G) k)};{exact f.elim}
  ·rename_i A hA;split at f;{rename_i z;exact wp_cond_true (g.eval z) (Zv st β a w V K Q g p.1 f k)};{rename_i z;exact wp_cond_false (g.eval z) (ihy st β a w V K Q g p.2 f k)};{rename_i t z;obtain ⟨I,⟨hx,hy⟩,Y⟩:=f;have join:∀e st' β' a' w' V',Þ n V0 bQ β0 st' β' a' w' V'->V.Le V'->(match e with|.normal=>∃x,(A.at st).fits st' x (I x V')|e=>K e st' V')->Q e a' w':=by{intro e st' β' a' w' V' h hle r;(cases e with|normal=>{obtain ⟨x,v⟩:=r;have hinv:=v.2;grind [lF]}|_=>exact k _ _ _ _ _ _ h hle r)};exact wp_cond_split (g.eval z) (λG=>Zv st β a w V _ Q g p.1 (hx G) join) (λG=>ihy st β a w V _ Q g p.2 (hy G) join)};{exact f.elim}
 | block id x ih=>
  intro st β a w V K Q g p f k;simp only [vc] at f;split at f
  ·refine wp_block (ih st β a w V _ _ g p f ?_)<;>grind [Exit.inBlock,Nat.beq_refl,g_]
  ·rename_i A hA;obtain ⟨I,f,Y⟩:=f;refine wp_block (ih st β a w V _ _ g p f ?_);intro e st' β' a' w' V' h hle r;have join:(∃x,(A.at st).fits st' x (I x V'))->Q .normal a' w':=by{rintro ⟨x,v⟩;have hinv:=v.2;have ⟨O,R⟩:=Y x V' hle hinv;obtain ⟨β2,q⟩:=(lF h O v).1;exact k _ _ _ _ _ _ q hle R};grind [Exit.inBlock,Nat.beq_refl,g_]
 | loop x ih=>
  intro st β a w V K Q g p f k;simp only [vc] at f;split at f
  ·refine wp_loop_ghost (λm a w=>∃st β V',Þ n V0 bQ β0 st β a w V'/\V.Le V'/\unr (λst V K=>vc P T LF RF L J x st V K) m st V' K) 3 ⟨st,β,V,g,Ó.Le.refl V,f⟩ ?_;rintro m a w ⟨st',β',V',h,hle,hu⟩;(cases m with|zero=>exact hu.elim|succ m=>{refine ih st' β' a w V' _ _ h p hu ?_;intro e VI β'' S U C D j r;(cases e with|normal=>exact ⟨m,Nat.lt_succ_self m,VI,β'',C,D,hle.m j,r⟩|_=>exact k _ _ _ _ _ _ D (hle.m j) r)})
  ·rename_i A hA;split at f;{obtain ⟨I,ms,⟨N,B⟩,H⟩:=f;have W:=B.2;refine wp_loop_ghost (λm a w=>∃x β V',Þ n V0 bQ β0 ((A.at st).st x) β a w V'/\V.Le V'/\I x V'/\ms x=m) (ms N) ?_ ?_;{obtain ⟨β2,q⟩:=(lF g (H N V (Ó.Le.refl V) W).1 B).1;exact ⟨N,β2,V,q,Ó.Le.refl V,W,rfl⟩};{rintro m a w ⟨x,β,V',h,hle,hinv,rfl⟩;refine ih ((A.at st).st x) β a w V' _ _ h p (H x V' hle hinv).2 ?_;intro e VI β'' S U C D j r;(cases e with|normal=>{obtain ⟨y,M,v⟩:=r;have X:=v.2;obtain ⟨β2,q⟩:=(lF D (H y C (hle.m j) X).1 v).1;exact ⟨ms y,M,y,β2,C,q,hle.m j,X,rfl⟩}|_=>exact k _ _ _ _ _ _ D (hle.m j) r)}};{obtain ⟨I,⟨N,k0,B⟩,H⟩:=f;have W:=B.2;refine wp_loop_ghost (λm a w=>∃x β V',Þ n V0 bQ β0 ((A.at st).st x) β a w V'/\V.Le V'/\I x m V') k0 ?_ ?_;{obtain ⟨β2,q⟩:=(lF g (H N k0 V (Ó.Le.refl V) W).1 B).1;exact ⟨N,β2,V,q,Ó.Le.refl V,W⟩};{rintro m a w ⟨x,β,V',h,hle,hinv⟩;refine ih ((A.at st).st x) β a w V' _ _ h p (H x m V' hle hinv).2 ?_;intro e VI β'' S U C D j r;(cases e with|normal=>{obtain ⟨y,k',M,v⟩:=r;have X:=v.2;obtain ⟨β2,q⟩:=(lF D (H y k' C (hle.m j) X).1 v).1;exact ⟨k',M,y,β2,C,q,hle.m j,X⟩}|_=>exact k _ _ _ _ _ _ D (hle.m j) r)}}
 | exit id=>intro st β a w V K Q g _ f k;exact wp_exit (k _ _ _ _ _ _ g (Ó.Le.refl V) f)
 | scope x ih=>
  intro st β a w V K Q g p f k;simp only [vc] at f;refine wp_scope_straight (ih st β a w V _ _ g p f ?_);intro e st' β' a' w' V' h hle r
  cases e with
  | goto l=>exact r.elim
  | _=>exact k _ _ _ _ _ _ h hle r
 | label l=>intro st β a w V K Q g _ f k;exact wp_label (k _ _ _ _ _ _ g (Ó.Le.refl V) f)
 | ret=>intro st β a w V K Q g _ f k;exact wp_ret (k _ _ _ _ _ _ g (Ó.Le.refl V) f)
 | _=>intro st β a w V K Q g _ f k;exact f.elim
end
section
variable {P:Program} {T:dW} {LF RF:List Nat} {n:Nat} {V0:Ó} {bQ:Mw} {β0:Nat->Nat} {β:Nat->Nat} {st:St} {a:Act} {w:World} {V:Ó}
def Yp (tmps:Array Value):ResultVar->Sem Value
 | .tmp t=>pure (tmps.getD t undef)
 | .cell c t=>do loadVar t (<-asAddr (tmps.getD c undef))
def N0 (fn:Func)(tmps:Array um):results fn tmps=(do let vs <-fn.results.mapM (Yp tmps);pure (if h:vs.size=1 then vs[0] else .tuple vs)):=by unfold results;congr 1
def rP (hT:dW.ok P T)(u:Þ n V0 bQ β0 st β a w V):∀{l:zA ResultVar} {xs:zA SV},pY T st l=some xs ->(l.mapM (Yp a.tmps)).run P w=.ok (xs.map (SV.den β)) w/\∀x∈xs,ď st x
 | [],xs,h=>by cases h;exact ⟨rfl,λx z=>nomatch z⟩
 | .tmp t::r,xs,h=>by
  simp only [pY] at h;split at h
  ·rename_i x l z E;cases h;have ⟨M,F⟩:=rP hT u E;refine ⟨?_,λy b=>?_⟩
   ·grind [Yp,Sem.run_bind,Sem.run_pure,Result.andThen_ok,u.aA]
   ·rcases ç.1 b with rfl|b
    ·exact u.Eh t y z
    ·exact F y b
  ·cases h
 | .cell c t::r,xs,h=>by
  simp only [pY] at h;split at h
  ·rename_i s o i l z d E;split at h
   ·rename_i g x e;cases h;have ⟨M,F⟩:=rP hT u E;have ⟨f,j⟩:=Gy u (hT _ _ d) e;have k:(loadVar t ⟨β s,o,none⟩).run P w=.ok (x.den β) w:=f;refine ⟨?_,λy b=>?_⟩
    ·have m:a.tmps.getD c undef=.pointer (some ⟨β s,o,none⟩):=u.aA c _ z;have p:asAddr (.pointer (some ⟨β s,o,none⟩))=pure ⟨β s,o,none⟩:=rfl;grind [Yp,Sem.run_bind,Result.andThen_ok,Sem.run_pure]
    grind
   ·cases h
  ·cases h
def Lc (hT:dW.ok P T)(u:Þ n V0 bQ β0 st β a w V){fn:Func}{xs:zA SV}(h:pY T st fn.results.toList=some xs):(results fn a.tmps).run P w=.ok (pX β xs) w/\∀x∈xs,ď st x:=by
 have ⟨b,c⟩:=rP hT u h;refine ⟨?_,c⟩;rw [N0,Wy7];simp only [map_eq_pure_bind,bind_assoc,pure_bind,Sem.run_bind];rw [b];simp only [Result.andThen_ok,Sem.run_pure]
 match xs with
 | []=>simp [pX]
 | [x]=>simp [pX]
 | x::y::r=>simp [pX]
def S0 (β0:Nat->Nat)(s:Nat)(b:aY):List (Nat×aY)->Prop
 | []=>True
 | (t,b')::r=>wc (So b++So b') (β0 s≠β0 t)/\S0 β0 s b r
def WS (β0:Nat->Nat)(V:Ó):List (Nat×aY)->Prop
 | []=>True
 | (s,b)::r=>(wc (So b) (V.w.heap[β0 s]?=some (b.obj β0))/\wc (So b) (V.X (β0 s)))/\S0 β0 s b r/\WS β0 V r
def uC {s:Nat}{b:aY}:∀{r:zA (Nat×aY)},S0 β0 s b r->∀t b',aH r t=some b'->b.live->b'.live->β0 s≠β0 t
 | [],_,_,_,h=>by cases h
 | (u,c)::r,h,t,b',y=>by
  simp only [aH] at y;by_cases e:t=u
  ·subst e;rw [Qb7] at y;cases y;have z:=h.1;grind [zy,kK.1]
  ·rw [g_ e] at y;exact uC h.2 t b' y
def FK:∀{u:zA (Nat×aY)},WS β0 V u->(∀s b,aH u s=some b->b.live->V.w.heap[β0 s]?=some (b.obj β0)/\V.X (β0 s))/\∀s s' b b',aH u s=some b->b.live->aH u s'=some b'->b'.live->β0 s=β0 s'->s=s'
 | [],_=>⟨λs b h=>(by cases h),λs s' b b' h=>(by cases h)⟩
 | (s,b)::r,⟨E,y,z⟩=>by
  have ⟨g1,g2⟩:=FK z;refine ⟨λt x h l=>?_,λt f x i a l c g he=>?_⟩
  ·simp only [aH] at h;grind [kK.1,g_]
  ·simp only [aH] at a c;by_cases e:t=s<;>by_cases d:f=s
   ·rw [e,d]
   ·subst e;rw [Qb7] at a;cases a;rw [g_ d] at c;exact Å he (uC y f i c l g)
   ·subst d;rw [Qb7] at c;cases c;rw [g_ e] at a;exact Å he.symm (uC y t x a g l)
   grind [g_]
def rW:∀{l:zA (Nat×SV)} {i:Nat},tE i l=true->∀t x,aH l t=some x->∃k,t=i+k/\l[k]?=some (t,x)
 | [],_,_,_,_,h=>by cases h
 | (j,y)::r,i,u,t,x,h=>by
  simp only [tE,Ċ] at u;obtain ⟨⟨z,-⟩,E⟩:=u;have z:=beq_eq.1 z;simp only [aH] at h;by_cases e:t=j
  ·subst e;rw [Qb7] at h;cases h;exact ⟨0,ω,rfl⟩
  ·rw [g_ e] at h;have ⟨k,b,a⟩:=rW E t x h;exact ⟨k+1,ω,by simpa using a⟩
def xN {bx:Nat->Option aY}{V':un}:∀{l:zA Nat} {k:Prop},SZ bx β V' l k->(∀s∈l,∀b,bx s=some b->b.live->V'.w.heap[β s]?=some (b.obj β))->(∀s∈l,∃b,bx s=some b/\b.live)/\k
 | [],_,h,_=>⟨λs y=>(nomatch y),h⟩
 | s::r,k,h,u=>by
  simp only [SZ] at h;split at h
  ·exact h.elim
  ·rename_i b hne z
   have lb:b.live:=by
    intro c e;obtain ⟨cs,ty⟩:=b;dsimp only at e;subst e;grind
   have ⟨d,f⟩:=xN (h (u s ψ b z lb)) λt a=>u t (ø _ a);grind
  ·exact h.elim
def Gf:∀{u:zA (Nat×aY)} {m:Nat} {b:aY},(m,b)∈u->(∃vs,b.cs=.aG vs)\/m∈mj u
 | [],_,_,h=>nomatch h
 | (s,x)::r,m,b,h=>by
  rcases ç.1 h with e|h
  ·cases e;unfold mj;grind
  ·refine (Gf h).imp id λh=>?_;unfold mj;grind
def Ci:∀{u:zA (Nat×aY)} {m:Nat},m∈mj u->m∈u.map (·.1)
 | [],_,h=>nomatch h
 | (s,x)::r,m,h=>by
  unfold mj at h;split at h
  ·exact ø _ (Ci h)
  ·rcases ç.1 h with rfl|h
   ·simp
   ·exact ø _ (Ci h)
def Gs {b:Nat}{k:Prop}:∀{u:zA (Nat×aY)} {m:Nat} {vs:zA um} {ty:TypeId},(m,(⟨.aG vs,ty⟩:aY))∈u->vs≠[]->b=β0 m->Uz u β0 b k
 | [],_,_,_,h,_,_=>nomatch h
 | (s,x)::r,m,vs,ty,h,y,he=>by
  rcases ç.1 h with e|h
  ·cases e;exact .inl ⟨y,he⟩
  ·have:=Gs (k:=k) h y he;unfold Uz;grind
def oG {l m:zA Nat}{s:Nat}:s∈þ l m↔s∈l/\s∉m:=by unfold þ;grind [dS.2,dS.1]
def Qg {bx:Nat->Option aY}{s:Nat}(h:zN T bx s=false):s<100000:=by rcases Ď s 100000 with g|g;{exact g};{unfold zN at h;grind [Nat.ble_eq]}
def GG {bs:zA (Nat×aY)}(hT:dW.ok P T)(hM:Þ n V0 ⟨mj bs,λb=>∃m b0,aH bs m=some b0/\b0.live/\b=β0 m⟩ β0 st β a w V){fn:Func}{R:um->un->Prop}(hv:PR T fn.results.toList bs β0 V0.w.heap.size R st V):∃v,(results fn a.tmps).run P w=.ok v w/\R v (V0.to w hM.ext.size):=by
 unfold PR at hv;split at hv
 ·exact hv.elim
 ·rename_i xs M;have ⟨h1,h2⟩:=Lc hT hM M;dsimp only at hv;split at hv
  ·exact hv.elim
  ·rename_i D;generalize hL:ð st.boxes 3 (ó (xs.flatMap SV.ids++mj bs))=L at hv D
   have k:∀s,s∈xs.flatMap SV.ids\/s∈mj bs->s∈L:=λs c=>by rw [<-hL];exact gg 3 _ s (cA.2 (ú.2 c))
   have hle:V.Le (V0.to w hM.ext.size):=by intro b o d;obtain ⟨B,C⟩:=hM.tJ b o d;exact ⟨C,B⟩
   have γf:∀γ:Nat->Nat,γ=(λt=>if t∈þ L (mj bs) then β t else β0 t)->(∀s∈L,γ s=β s)/\pX γ xs=pX β xs:=by
    intro γ hγ
    have f:∀s∈L,γ s=β s:=by intro s c;rw [hγ];by_cases d:s∈mj bs;{have:s∉þ L (mj bs):=λh=>(oG.1 h).2 d;simp only [this,Ð];exact (hM.oV s d).2.symm};grind [oG.2]
    refine ⟨f,?_⟩;have i:∀x∈xs,x.den γ=x.den β:=λx i=>SV.bW λs c=>f s (k s (.inl (ċ.2 ⟨x,i,c⟩)))
    match xs,i with
    | [],_=>rfl
    | [x],i=>exact i x ψ
    | x::y::r,i=>simp only [pX];rw [Ŗ i]
   have J:∀γ:Nat->Nat,(∀s∈L,γ s=β s)->∀s∈L,∀b,st.boxes s=some b->b.live->(V0.to w hM.ext.size).w.heap[γ s]?=some (b.obj γ):=by intro γ f s c b d l;rw [f s c,aY.dF λt p=>f t (fH D c d t p)];exact hM.boxes s b d l
   have j:∀γ:Nat->Nat,(∀s∈L,γ s=β s)->∀s∈L,s<100000->∀b,st.boxes s=some b->b.live->(V0.to w hM.ext.size).bh (γ s) (b.obj γ):=by intro γ f s c E b d l;refine ⟨λhH=>?_,J γ f s c b d l⟩;have hH:=hH;rw [f s c] at hH;rcases hM.own s b d l with h|⟨h,-⟩;{have:=V0.hH _ hH;omega};{omega}
   split at hv
   ·rename_i K;have E:∀s∈þ L (mj bs),s<100000:=by{intro s c;(cases p:zN T st.boxes s with|false=>exact Qg p|true=>{have:s∈(þ L (mj bs)).filter (zN T st.boxes):=ġ.2 ⟨c,p⟩;rw [K] at this;cases this})};have g:=je (hv _ hle) β;generalize hγ:(λt=>if t∈þ L (mj bs) then β t else β0 t)=γ at g;have ⟨f,F⟩:=γf γ hγ.symm;obtain ⟨-,q⟩:=xN g (λs c b d l=>J γ f s (k s (.inr c)) b d l);obtain ⟨-,G⟩:=jv q (λs c b d l=>j γ f s (oG.1 c).1 (E s c) b d l);grind
   ·rename_i s K;split at hv
    ·rename_i b d
     have c:s∈þ L (mj bs):=by have:s∈(þ L (mj bs)).filter (zN T st.boxes):=by{rw [K];simp};exact (ġ.1 this).1
     have ⟨z,N⟩:=oG.1 c;have g:=je (hv (V0.to w hM.ext.size)) β;generalize hγ:(λt=>if t∈þ L (mj bs) then β t else β0 t)=γ at g;have ⟨f,F⟩:=γf γ hγ.symm
     have H:V.Le ((V0.to w hM.ext.size).bf (gdP b) (γ s)):=by intro x o i;obtain ⟨B,C⟩:=hle x o i;refine ⟨λO=>?_,C⟩;rcases O with O|⟨X,e,-⟩;{exact B O};{rw [f s z] at e;exact hM.Af s b d (Xq.1 X) o (e▸i)}
     have ⟨Y,q⟩:=xN (g H) (λs c b d l=>J γ f s (k s (.inr c)) b d l)
     have G:=q (kK.2 λl=>J γ f s z b d l) (kK.2 λl=>by
      rw [f s z];rcases hM.own s b d l with h|⟨-,m,b0,hm,Z,he⟩
      ·exact .inl h
      ·right;rcases Gf (cX hm) with ⟨vs,I⟩|A
       ·obtain ⟨cs,ty⟩:=b0;dsimp only at I;subst I;exact Gs (cX hm) (Z vs rfl) he
       ·exfalso;obtain ⟨b1,Q,l1⟩:=Y m A;have e:=(hM.oV m A).2;rw [<-e] at he;have:=hM.inj s m b b1 d l Q l1 he;exact N (this▸A))
     obtain ⟨-,a0⟩:=jv G (λu hu b' S l'=>by
      obtain ⟨B,C⟩:=ġ.1 hu;have U:u≠s:=λe=>by subst e;rw [Qb7] at C;cases C
      have W:u<100000:=by (cases p:zN T st.boxes u with|false=>exact Qg p|true=>{have:u∈(þ L (mj bs)).filter (zN T st.boxes):=ġ.2 ⟨B,p⟩;rw [K] at this;exact Å (õ.1 this) U})
      exact j γ f u (oG.1 B).1 W b' S l')
     grind
    ·exact hv.elim
   ·exact hv.elim
def TS (hT : dW.ok P T)(hmx : P.follows .mixedOrders = true){L J : Jp}{f : FuncId}{fn : Func}(hf : P.funcs[f]? = some fn)(hn : (fn.name == "runtime.NumGoroutine") = false){ss:zA (Nat×SV)}{Z:zA (Nat×aY)}{args:Array um}{R:um->un->Prop}(ha:args=(ss.map λx=>x.2.den β0).toArray)(hb:WS β0 V Z)(hv:IQ P T LF RF L J fn ss Z β0 V R):ae P f args V R:=by
 unfold IQ at hv;split at hv
 ·rename_i code c;split at hv
  ·rename_i z;simp only [Ċ,Ħ,Nat.ble_eq] at z;obtain ⟨⟨⟨⟨⟨d,A⟩,hlen⟩,g⟩,B⟩,r⟩:=z
   have i:∀x∈Z,100000<=x.1/\x.1<200000:=λx n=>by
    obtain ⟨C,D⟩:=B x n;exact ⟨C,ő D⟩
   refine ⟨⟨fn,hf,by rw [c];rfl,hn⟩,calls_of_wp hf c ?_⟩;obtain ⟨b1,b2⟩:=FK hb;have ⟨t1,t2⟩:=Dx r;have E:args.size=ss.length:=by rw [ha];simp
   have F:Þ fn.ntmps V ⟨mj Z,λb=>∃m b0,aH Z m=some b0/\b0.live/\b=β0 m⟩ β0 ⟨aH ss,aH Z⟩ β0 { tmps:=args++Array.replicate (fn.ntmps-args.size) undef,defers:=[] } V.w V:=by
    refine ⟨rfl,by simp;omega,?_,t1,t2,λs b h l=>(b1 s b h l).1,λs G b H h l I K=>b2 s G b H h l I K,λb o h=>⟨h.2,h.1⟩,λs b h l o M=>M.1 (V.hX _ (b1 s b h l).2),kv.refl _ _,?_,?_,?_,g⟩
    ·intro t x n;have ⟨k,p,j⟩:=rW A t x n;have q:k<ss.length:=χ
     have u:t=k:=ω
     subst u;have:args[t]?=some (x.den β0):=by rw [ha];simp [j]
     have y:t<args.size:=ω
     show (args++Array.replicate (fn.ntmps-args.size) undef).getD t undef=_;rw [Array.getD_eq_getD_getElem?,Array.getElem?_append_left y,this];rfl
    ·intro s b h l;exact .inr ⟨(i _ (cX h)).1,s,b,h,l,rfl⟩
    ·intro s N;obtain ⟨x,n,rfl⟩:=ù.1 (Ci N);grind
    grind
   refine M4 hT hmx code _ β0 _ _ V _ _ F d hv ?_;intro e O β' Q S U a hle q
   cases e with
   | normal=>
    have ⟨v,p,j⟩:=GG hT a q;exact ⟨a.defers,v,p,v,rfl,a.ext,j⟩
   | ret=>
    have ⟨v,p,j⟩:=GG hT a q;exact ⟨a.defers,v,p,v,rfl,a.ext,j⟩
   | _=>exact q.elim
  ·exact hv.elim
 ·exact hv.elim
def bE (hT : dW.ok P T)(hmx : P.follows .mixedOrders = true)(L J : Jp){f : FuncId}{fn : Func}(y : P.funcs[f]? = some fn)(z : (fn.name == "runtime.NumGoroutine") = false)(ss:zA (Nat×SV))(u:zA (Nat×aY)){args:Array um}{R:um->un->Prop}(E:args=(ss.map λx=>x.2.den β0).toArray)(F:WS β0 V u){G:Prop}(h:G)(M:G=IQ P T LF RF L J fn ss u β0 V R):ae P f args V R:=by
 subst M;exact TS hT hmx y z E F h
def ZY (h:T.map (λx=>pN P x.1)=T.map λx=>some x.2):dW.ok P T:=by intro t i a;have ⟨k,b⟩:=Ww3 (cX a);have:=Æ (λl=>l[k]?) h;grind
end
end Go.Eng
namespace Go.Proofs.Tryz
open Go.Eng
variable{l:List Value}
abbrev aP:List Nat:=[]
def tab:dW:=[
 (3,⟨.int .i64,1,8,[.v (.int .i64 0)]⟩),
 (0,⟨.tuple [],1,0,[.v (.tuple #[])]⟩),
 (4,⟨.bool,1,1,[.ff]⟩),
 (74,⟨.struct [(2,0),(2,1),(72,2)],3,24,[.v (.int .i64 0),.v (.int .i64 0),.v (.pointer none)]⟩),
 (99,⟨.struct [(58,0),(56,2)],3,56,[.ff,.v (.slice none 0 0),.v (.slice none 0 0)]⟩),
 (221,⟨.int .u64,1,8,[.v (.int .u64 0)]⟩),
 (76,⟨.struct [(74,0),(74,3),(74,6)],9,72,[.v (.int .i64 0),.v (.int .i64 0),.v (.pointer none),.v (.int .i64 0),.v (.int .i64 0),.v (.pointer none),.v (.int .i64 0),.v (.int .i64 0),.v (.pointer none)]⟩),
 (84,⟨.struct [(74,0),(74,3)],6,48,[.v (.int .i64 0),.v (.int .i64 0),.v (.pointer none),.v (.int .i64 0),.v (.int .i64 0),.v (.pointer none)]⟩),
 (101,⟨.struct [(99,0),(99,3)],6,112,[.ff,.v (.slice none 0 0),.v (.slice none 0 0),.ff,.v (.slice none 0 0),.v (.slice none 0 0)]⟩),
 (37,⟨.slice 219,1,24,[.v (.slice none 0 0)]⟩),
 (219,⟨.int .u32,1,4,[.v (.int .u32 0)]⟩),
 (60,⟨.struct [(58,0),(58,2),(58,4)],6,96,[.ff,.v (.slice none 0 0),.ff,.v (.slice none 0 0),.ff,.v (.slice none 0 0)]⟩),
 (56,⟨.slice 219,1,24,[.v (.slice none 0 0)]⟩),
 (58,⟨.struct [(4,0),(56,1)],2,32,[.ff,.v (.slice none 0 0)]⟩),
 (69,⟨.slice 84,1,24,[.v (.slice none 0 0)]⟩),
 (137,⟨.slice 76,1,24,[.v (.slice none 0 0)]⟩),
 (2,⟨.int .i64,1,8,[.v (.int .i64 0)]⟩),
 (325,⟨.slice 328,1,24,[.v (.slice none 0 0)]⟩),
 (39,⟨.struct [(4,0),(37,1)],2,32,[.ff,.v (.slice none 0 0)]⟩),
 (328,⟨.struct [(74,0),(3,3),(3,4)],5,40,[.v (.int .i64 0),.v (.int .i64 0),.v (.pointer none),.v (.int .i64 0),.v (.int .i64 0)]⟩),
 (78,⟨.struct [(74,0),(74,3),(4,6),(4,7)],8,56,[.v (.int .i64 0),.v (.int .i64 0),.v (.pointer none),.v (.int .i64 0),.v (.int .i64 0),.v (.pointer none),.ff,.ff]⟩),
 (116,⟨.slice 60,1,24,[.v (.slice none 0 0)]⟩),
 (80,⟨.struct [(76,0),(78,9)],17,128,[.v (.int .i64 0),.v (.int .i64 0),.v (.pointer none),.v (.int .i64 0),.v (.int .i64 0),.v (.pointer none),.v (.int .i64 0),.v (.int .i64 0),.v (.pointer none),.v (.int .i64 0),.v (.int .i64 0),.v (.pointer none),.v (.int .i64 0),.v (.int .i64 0),.v (.pointer none),.ff,.ff]⟩),
 (181,⟨.struct [(99,0),(99,3),(4,6),(4,7)],8,120,[.ff,.v (.slice none 0 0),.v (.slice none 0 0),.ff,.v (.slice none 0 0),.v (.slice none 0 0),.ff,.ff]⟩),
 (27,⟨.ptr 64,1,8,[.v (.pointer none)]⟩),
 (70,⟨.slice 80,1,24,[.v (.slice none 0 0)]⟩),
 (43,⟨.struct [(41,0),(41,3)],6,112,[.ff,.v (.slice none 0 0),.v (.slice none 0 0),.ff,.v (.slice none 0 0),.v (.slice none 0 0)]⟩),
 (125,⟨.slice 101,1,24,[.v (.slice none 0 0)]⟩),
 (147,⟨.int .u64,1,8,[.v (.int .u64 0)]⟩),
 (64,⟨.struct [(4,0),(4,1),(60,2),(27,8),(27,9)],10,120,[.ff,.ff,.ff,.v (.slice none 0 0),.ff,.v (.slice none 0 0),.ff,.v (.slice none 0 0),.v (.pointer none),.v (.pointer none)]⟩),
 (66,⟨.ptr 192,1,8,[.v (.pointer none)]⟩),
 (72,⟨.ptr 227,1,8,[.v (.pointer none)]⟩),
 (36,⟨.slice 219,1,24,[.v (.slice none 0 0)]⟩),
 (346,⟨.slice 99,1,24,[.v (.slice none 0 0)]⟩),
 (31,⟨.slice 43,1,24,[.v (.slice none 0 0)]⟩),
 (175,⟨.slice 183,1,24,[.v (.slice none 0 0)]⟩),
 (274,⟨.int .u64,1,8,[.v (.int .u64 0)]⟩),
 (25,⟨.struct [(3,0),(23,1)],2,32,[.v (.int .i64 0),.v (.slice none 0 0)]⟩),
 (309,⟨.slice 181,1,24,[.v (.slice none 0 0)]⟩),
 (108,⟨.struct [(39,0),(39,2),(39,4)],6,96,[.ff,.v (.slice none 0 0),.ff,.v (.slice none 0 0),.ff,.v (.slice none 0 0)]⟩),
 (33,⟨.iface,1,16,[.v (.nilIface)]⟩),
 (183,⟨.struct [(60,0),(181,6)],14,216,[.ff,.v (.slice none 0 0),.ff,.v (.slice none 0 0),.ff,.v (.slice none 0 0),.ff,.v (.slice none 0 0),.v (.slice none 0 0),.ff,.v (.slice none 0 0),.v (.slice none 0 0),.ff,.ff]⟩),
 (28,⟨.ptr 52,1,8,[.v (.pointer none)]⟩),
 (41,⟨.struct [(39,0),(37,2)],3,56,[.ff,.v (.slice none 0 0),.v (.slice none 0 0)]⟩),
 (23,⟨.slice 115,1,24,[.v (.slice none 0 0)]⟩),
 (130,⟨.struct [(127,0),(3,1),(116,2)],3,56,[.v (.slice none 0 0),.v (.int .i64 0),.v (.slice none 0 0)]⟩),
 (192,⟨.struct [(76,0),(66,9),(66,10),(4,11)],12,96,[.v (.int .i64 0),.v (.int .i64 0),.v (.pointer none),.v (.int .i64 0),.v (.int .i64 0),.v (.pointer none),.v (.int .i64 0),.v (.int .i64 0),.v (.pointer none),.v (.pointer none),.v (.pointer none),.ff]⟩),
 (141,⟨.slice 78,1,24,[.v (.slice none 0 0)]⟩),
 (87,⟨.func,1,8,[.v (.nilFunc)]⟩),
 (140,⟨.slice 78,1,24,[.v (.slice none 0 0)]⟩),
 (198,⟨.func,1,8,[.v (.nilFunc)]⟩),
 (330,⟨.func,1,8,[.v (.nilFunc)]⟩),
 (127,⟨.slice 125,1,24,[.v (.slice none 0 0)]⟩),
 (211,⟨.int .i64,1,8,[.v (.int .i64 0)]⟩),
 (22,⟨.slice 3,1,24,[.v (.slice none 0 0)]⟩),
 (187,⟨.slice 4,1,24,[.v (.slice none 0 0)]⟩),
 (278,⟨.ptr 3,1,8,[.v (.pointer none)]⟩),
 (227,⟨.struct [(39,0),(37,2)],3,56,[.ff,.v (.slice none 0 0),.v (.slice none 0 0)]⟩),
 (189,⟨.struct [(23,0),(187,1),(3,2),(4,3)],4,64,[.v (.slice none 0 0),.v (.slice none 0 0),.v (.int .i64 0),.ff]⟩),
 (103,⟨.slice 112,1,24,[.v (.slice none 0 0)]⟩),
 (110,⟨.struct [(41,0),(41,3),(4,6),(4,7)],8,120,[.ff,.v (.slice none 0 0),.v (.slice none 0 0),.ff,.v (.slice none 0 0),.v (.slice none 0 0),.ff,.ff]⟩),
 (115,⟨.struct [(108,0),(3,6),(3,7)],8,112,[.ff,.v (.slice none 0 0),.ff,.v (.slice none 0 0),.ff,.v (.slice none 0 0),.v (.int .i64 0),.v (.int .i64 0)]⟩),
 (265,⟨.slice 66,1,24,[.v (.slice none 0 0)]⟩),
 (207,⟨.func,1,8,[.v (.nilFunc)]⟩),
 (52,⟨.struct [(22,0),(3,1)],2,32,[.v (.slice none 0 0),.v (.int .i64 0)]⟩),
 (112,⟨.struct [(108,0),(110,6)],14,216,[.ff,.v (.slice none 0 0),.ff,.v (.slice none 0 0),.ff,.v (.slice none 0 0),.ff,.v (.slice none 0 0),.v (.slice none 0 0),.ff,.v (.slice none 0 0),.v (.slice none 0 0),.ff,.ff]⟩),
 (326,⟨.arr 2 3,2,16,[.v (.int .i64 0),.v (.int .i64 0)]⟩),
 (132,⟨.slice 178,1,24,[.v (.slice none 0 0)]⟩),
 (271,⟨.arr 2 140,2,48,[.v (.slice none 0 0),.v (.slice none 0 0)]⟩),
 (334,⟨.tuple [3,3],1,0,[.v (.tuple #[.int .i64 0,.int .i64 0])]⟩),
 (186,⟨.ptr 189,1,8,[.v (.pointer none)]⟩),
 (285,⟨.tuple [221,4],1,0,[.v (.tuple #[.int .u64 0,.bool false])]⟩),
 (308,⟨.arr 2 175,2,48,[.v (.slice none 0 0),.v (.slice none 0 0)]⟩),
 (239,⟨.tuple [56,56],1,0,[.v (.tuple #[.slice none 0 0,.slice none 0 0])]⟩),
 (5,⟨.int .u8,1,1,[.v (.int .u8 0)]⟩),
 (283,⟨.tuple [2,4],1,0,[.v (.tuple #[.int .i64 0,.bool false])]⟩),
 (9,⟨.str,1,16,[.v (.string ByteArray.empty)]⟩),
 (165,⟨.tuple [101,4],1,0,[.v (.tuple #[.agg #[.bool false,.slice none 0 0,.slice none 0 0,.bool false,.slice none 0 0,.slice none 0 0],.bool false])]⟩),
 (81,⟨.func,1,8,[.v (.nilFunc)]⟩),
 (96,⟨.tuple [60,4],1,0,[.v (.tuple #[.agg #[.bool false,.slice none 0 0,.bool false,.slice none 0 0,.bool false,.slice none 0 0],.bool false])]⟩),
 (272,⟨.func,1,8,[.v (.nilFunc)]⟩),
 (82,⟨.slice 81,1,24,[.v (.slice none 0 0)]⟩),
 (178,⟨.slice 43,1,24,[.v (.slice none 0 0)]⟩),
 (333,⟨.ptr 274,1,8,[.v (.pointer none)]⟩),
 (388,⟨.struct [(9,0)],1,16,[.v (.string ByteArray.empty)]⟩),
 (49,⟨.tuple [23,3],1,0,[.v (.tuple #[.slice none 0 0,.int .i64 0])]⟩),
 (67,⟨.tuple [66,33],1,0,[.v (.tuple #[.pointer none,.nilIface])]⟩),
 (85,⟨.tuple [84,4],1,0,[.v (.tuple #[.agg #[.int .i64 0,.int .i64 0,.pointer none,.int .i64 0,.int .i64 0,.pointer none],.bool false])]⟩),
 (212,⟨.tuple [3,211],1,0,[.v (.tuple #[.int .i64 0,.int .i64 0])]⟩),
 (216,⟨.tuple [3,4],1,0,[.v (.tuple #[.int .i64 0,.bool false])]⟩),
 (281,⟨.tuple [37,37,4],1,0,[.v (.tuple #[.slice none 0 0,.slice none 0 0,.bool false])]⟩),
 (295,⟨.tuple [219,219],1,0,[.v (.tuple #[.int .u32 0,.int .u32 0])]⟩),
 (323,⟨.tuple [78,4],1,0,[.v (.tuple #[.agg #[.int .i64 0,.int .i64 0,.pointer none,.int .i64 0,.int .i64 0,.pointer none,.bool false,.bool false],.bool false])]⟩),
 (47,⟨.func,1,8,[.v (.nilFunc)]⟩),
 (91,⟨.func,1,8,[.v (.nilFunc)]⟩),
 (194,⟨.tuple [76,4],1,0,[.v (.tuple #[.agg #[.int .i64 0,.int .i64 0,.pointer none,.int .i64 0,.int .i64 0,.pointer none,.int .i64 0,.int .i64 0,.pointer none],.bool false])]⟩),
 (244,⟨.tuple [181,4],1,0,[.v (.tuple #[.agg #[.bool false,.slice none 0 0,.slice none 0 0,.bool false,.slice none 0 0,.slice none 0 0,.bool false,.bool false],.bool false])]⟩),
 (358,⟨.tuple [37,4],1,0,[.v (.tuple #[.slice none 0 0,.bool false])]⟩),
 (196,⟨.func,1,8,[.v (.nilFunc)]⟩),
 (201,⟨.func,1,8,[.v (.nilFunc)]⟩),
 (34,⟨.tuple [31,33],1,0,[.v (.tuple #[.slice none 0 0,.nilIface])]⟩),
 (44,⟨.tuple [31,31,33],1,0,[.v (.tuple #[.slice none 0 0,.slice none 0 0,.nilIface])]⟩),
 (104,⟨.tuple [103,33],1,0,[.v (.tuple #[.slice none 0 0,.nilIface])]⟩),
 (134,⟨.tuple [66,4],1,0,[.v (.tuple #[.pointer none,.bool false])]⟩),
 (167,⟨.tuple [116,4],1,0,[.v (.tuple #[.slice none 0 0,.bool false])]⟩),
 (203,⟨.tuple [141,141],1,0,[.v (.tuple #[.slice none 0 0,.slice none 0 0])]⟩),
 (254,⟨.tuple [183,4],1,0,[.v (.tuple #[.agg #[.bool false,.slice none 0 0,.bool false,.slice none 0 0,.bool false,.slice none 0 0,.bool false,.slice none 0 0,.slice none 0 0,.bool false,.slice none 0 0,.slice none 0 0,.bool false,.bool false],.bool false])]⟩),
 (257,⟨.tuple [175,175],1,0,[.v (.tuple #[.slice none 0 0,.slice none 0 0])]⟩),
 (310,⟨.tuple [309,4],1,0,[.v (.tuple #[.slice none 0 0,.bool false])]⟩),
 (337,⟨.tuple [37,219],1,0,[.v (.tuple #[.slice none 0 0,.int .u32 0])]⟩),
 (339,⟨.tuple [37,37],1,0,[.v (.tuple #[.slice none 0 0,.slice none 0 0])]⟩),
 (341,⟨.tuple [221,221],1,0,[.v (.tuple #[.int .u64 0,.int .u64 0])]⟩),
 (371,⟨.ptr 388,1,8,[.v (.pointer none)]⟩)]
def tabD:dW:=tab++[
 (60,⟨.struct [(58,0),(58,2),(58,4)],6,96,[.ff,.v (.slice none 0 0),.ff,.v (.slice none 0 0),.ff,.v (.slice none 0 0)]⟩),
 (80,⟨.struct [(76,0),(78,9)],17,128,[.v (.int .i64 0),.v (.int .i64 0),.v (.pointer none),.v (.int .i64 0),.v (.int .i64 0),.v (.pointer none),.v (.int .i64 0),.v (.int .i64 0),.v (.pointer none),.v (.int .i64 0),.v (.int .i64 0),.v (.pointer none),.v (.int .i64 0),.v (.int .i64 0),.v (.pointer none),.ff,.ff]⟩),
 (183,⟨.struct [(60,0),(181,6)],14,216,[.ff,.v (.slice none 0 0),.ff,.v (.slice none 0 0),.ff,.v (.slice none 0 0),.ff,.v (.slice none 0 0),.v (.slice none 0 0),.ff,.v (.slice none 0 0),.v (.slice none 0 0),.ff,.ff]⟩)]
def YJ:dW.ok prog tabD:=ZY ζ
def bZ:dW.ok prog tab:=ZY ζ
def ć:prog.follows .mixedOrders=true:=ζ
abbrev VP:=Ó->Prop
abbrev qn:=Nat×Nat×List Value×Int
abbrev qr:=Int×Int×List Value
abbrev wd:=Int×List Value
abbrev wm:=Nat×Nat×List Value×Int×List Value
abbrev wt:=Nat×Nat×List Value×Nat×Nat×List Value×Int
abbrev zh:=Bool×OA×Nat×Nat×OA×Nat×Nat×Bool×OA×Nat×Nat×OA×Nat×Nat×Bool×Bool
abbrev km:=Int×Int
abbrev kw:=Int×Bool×OA×Nat×Nat×OA×Nat×Nat×Bool×OA×Nat×Nat×OA×Nat×Nat×Bool×Bool
abbrev jc:=Nat×Nat×List Value×Bool×Int×List Value×Int×Int×OA×Int×Int×OA×Bool×Bool
abbrev jp:=Nat×Nat×List Value
abbrev ve:=Int×Nat×Nat×Nat×Nat×List Value×List Value
abbrev vf:=OA×Nat×Nat×OA×Nat×Nat
abbrev vn:=Nat×Nat×List Value×Int×Nat×Nat×Int×OA×Nat×Nat×List Value
abbrev vz:=Int×Bool×OA×Nat×Nat×OA×Nat×Nat
abbrev qaa:=Nat×Nat×List Value×Nat×Nat×List Value
abbrev qab:=Nat×Nat×List Value×Int×OA×Nat×Nat×Int
abbrev qac:=Int×Int×OA×Int×Int×OA×Bool×Bool
abbrev qad:=Int×List Value×List Value
abbrev qae:=OA×Nat×Nat×Int×List Value
abbrev qaf:=Nat×Nat×List Value×Int×Int×OA×Int×Int×OA×Bool×Bool
abbrev qag:=OA×Nat×Nat×Bool×OA×Nat×Nat
abbrev qah:=Int×Int×Int×List Value
abbrev qai:=Nat×Nat×List Value×List Value
abbrev qaj:=Nat×Nat×List Value×Int×Int
abbrev qak:=Int×OA×Nat×Nat
abbrev qal:=OA×Nat×Nat×Int
abbrev qam:=OA×Nat×Nat
abbrev VR:=Value->VP
abbrev Rt (V:Ó)(R:VR)(x:Value):Prop:=∀v:Ó,V.Le v->R x v
abbrev s3 {α0 α1 α2:Type}(a:α0)(b:α1)(c:α2)(K:Prop):Prop:=sm a/\sm b/\sm c/\K
abbrev s4 {α0 α1 α2 α3:Type}(a:α0)(b:α1)(c:α2)(d:α3)(K:Prop):Prop:=sm a/\sm b/\sm c/\sm d/\K
abbrev s5 {α0 α1 α2 α3 α4:Type}(a:α0)(b:α1)(c:α2)(d:α3)(e:α4)(K:Prop):Prop:=sm a/\sm b/\sm c/\sm d/\sm e/\K
abbrev s6 {α0 α1 α2 α3 α4 α5:Type}(a:α0)(b:α1)(c:α2)(d:α3)(e:α4)(f:α5)(K:Prop):Prop:=sm a/\sm b/\sm c/\sm d/\sm e/\sm f/\K
abbrev s7 {α0 α1 α2 α3 α4 α5 α6:Type}(a:α0)(b:α1)(c:α2)(d:α3)(e:α4)(f:α5)(g:α6)(K:Prop):Prop:=sm a/\sm b/\sm c/\sm d/\sm e/\sm f/\sm g/\K
abbrev s8 {α0 α1 α2 α3 α4 α5 α6 α7:Type}(a:α0)(b:α1)(c:α2)(d:α3)(e:α4)(f:α5)(g:α6)(h:α7)(K:Prop):Prop:=sm a/\sm b/\sm c/\sm d/\sm e/\sm f/\sm g/\sm h/\K
abbrev s9 {α0 α1 α2 α3 α4 α5 α6 α7 α8:Type}(a:α0)(b:α1)(c:α2)(d:α3)(e:α4)(f:α5)(g:α6)(h:α7)(i:α8)(K:Prop):Prop:=sm a/\sm b/\sm c/\sm d/\sm e/\sm f/\sm g/\sm h/\sm i/\K
abbrev qE {α0 α1 α2 α3 α4 α5 α6 α7 α8 α9:Type}(a:α0)(b:α1)(c:α2)(d:α3)(e:α4)(f:α5)(g:α6)(h:α7)(i:α8)(j:α9)(K:Prop):Prop:=sm a/\sm b/\sm c/\sm d/\sm e/\sm f/\sm g/\sm h/\sm i/\sm j/\K
abbrev xC {α0 α1 α2 α3 α4 α5 α6 α7 α8 α9 α10:Type}(a:α0)(b:α1)(c:α2)(d:α3)(e:α4)(f:α5)(g:α6)(h:α7)(i:α8)(j:α9)(k:α10)(K:Prop):Prop:=sm a/\sm b/\sm c/\sm d/\sm e/\sm f/\sm g/\sm h/\sm i/\sm j/\sm k/\K
abbrev bz {α0 α1 α2 α3 α4 α5 α6 α7 α8 α9 α10 α11:Type}(a:α0)(b:α1)(c:α2)(d:α3)(e:α4)(f:α5)(g:α6)(h:α7)(i:α8)(j:α9)(k:α10)(l:α11)(K:Prop):Prop:=sm a/\sm b/\sm c/\sm d/\sm e/\sm f/\sm g/\sm h/\sm i/\sm j/\sm k/\sm l/\K
abbrev Ca (V:Ó)(f:Nat)(a:Array Value)(K:VR):Prop:=∀V1:Ó,V.Le V1->ae prog f a V1 K
def sV:Value->SV
  | .agg l=>.agg (l.toList.map C.v)
  | v=>.c (.v v)
def sA:Nat->List Value->List (Nat×SV)
  | _,[]=>[]
  | n,v::l=>(n,sV v)::sA (n+1) l
def fd {LF RF:zA Nat}(L K:Jp){f:FuncId}{fn:Func}(u:prog.funcs[f]?=some fn){V:un}{R:VR}{G:Prop}(h:G)
 (y:(fn.name=="runtime.NumGoroutine")=false:=by kernel_rfl)(z:l.toArray=((sA 0 l).map λx=>x.2.den λ_=>0).toArray:=by kernel_rfl)
 (E:G=IQ prog tab LF RF L K fn (sA 0 l) [] (λ_=>0) V R:=by kernel_rfl):ae prog f l.toArray V R:=
  bE (LF:=LF) (RF:=RF) (β0:=λ_=>0) bZ ć L K u y (sA 0 l) [] z trivial h E
open Go.Value renaming int→I,pointer→P,slice→S,agg→A,bool→B,tuple→T
open Go.IntKind renaming i64→J,u64→U,u32→W
abbrev Yo (a:OA)(n:Nat)(m:Ó)(v:Value):Prop:=∃q,af a n=some q/\m.at q v
abbrev Xh (V:Ó)(b:Nat)(l:List Value)(t:Nat):Prop:=V.w.heap[b]?=some (.cells l.toArray t (0,0))
abbrev Z0 (r:Value)(K:OA->Nat->Nat->Int->Prop):Prop:=∃(v0:OA)(v1:Nat)(v2:Nat)(v3:Int),r=T #[S v0 v1 v2,I W v3]/\K v0 v1 v2 v3
abbrev Z1 (r:Value)(K:OA->Nat->Nat->OA->Nat->Nat->Prop):Prop:=∃(v0:OA)(v1:Nat)(v2:Nat)(v3:OA)(v4:Nat)(v5:Nat),r=T #[S v0 v1 v2,S v3 v4 v5]/\K v0 v1 v2 v3 v4 v5
abbrev Z2 (r:Value)(K:OA->Nat->Nat->OA->Nat->Nat->Bool->Prop):Prop:=∃(v0:OA)(v1:Nat)(v2:Nat)(v3:OA)(v4:Nat)(v5:Nat)(v6:Bool),r=T #[S v0 v1 v2,S v3 v4 v5,B v6]/\K v0 v1 v2 v3 v4 v5 v6
abbrev Z3 (r:Value)(K:Int->Bool->Prop):Prop:=∃(v0:Int)(v1:Bool),r=T #[I U v0,B v1]/\K v0 v1
abbrev X4 (v0:OA)(v1:Nat)(v2:Nat)(v3:OA)(v4:Nat)(v5:Nat):Value:=T #[S v0 v1 v2,S v3 v4 v5]
abbrev Z5 (r:Value)(K:Bool->OA->Nat->Nat->Prop):Prop:=∃(v0:Bool)(v1:OA)(v2:Nat)(v3:Nat),r=A #[B v0,S v1 v2 v3]/\K v0 v1 v2 v3
abbrev X6 (v0:Bool)(v1:OA)(v2:Nat)(v3:Nat):Value:=A #[B v0,S v1 v2 v3]
abbrev Z7 (r:Value)(K:OA->Nat->Nat->Bool->Prop):Prop:=∃(v0:OA)(v1:Nat)(v2:Nat)(v3:Bool),r=T #[S v0 v1 v2,B v3]/\K v0 v1 v2 v3
abbrev Z8 (r:Value)(K:Int->Int->OA->Prop):Prop:=∃(v0:Int)(v1:Int)(v2:OA),r=A #[I J v0,I J v1,P v2]/\K v0 v1 v2
abbrev X9 (v0:Int)(v1:Int)(v2:OA):Value:=A #[I J v0,I J v1,P v2]
abbrev WE (r:Value)(K:Int->Bool->Prop):Prop:=∃(v0:Int)(v1:Bool),r=T #[I J v0,B v1]/\K v0 v1
abbrev aW (v0:Bool)(v1:OA)(v2:Nat)(v3:Nat)(v4:OA)(v5:Nat)(v6:Nat):Value:=A #[B v0,S v1 v2 v3,S v4 v5 v6]
abbrev Z12 (r:Value)(K:Int->Int->Prop):Prop:=∃(v0:Int)(v1:Int),r=T #[I U v0,I U v1]/\K v0 v1
abbrev Z13 (r:Value)(K:Int->Int->Prop):Prop:=∃(v0:Int)(v1:Int),r=T #[I W v0,I W v1]/\K v0 v1
abbrev ch (r:Value)(K:Bool->OA->Nat->Nat->OA->Nat->Nat->Prop):Prop:=∃(v0:Bool)(v1:OA)(v2:Nat)(v3:Nat)(v4:OA)(v5:Nat)(v6:Nat),r=A #[B v0,S v1 v2 v3,S v4 v5 v6]/\K v0 v1 v2 v3 v4 v5 v6
abbrev cq (v0:Bool)(v1:OA)(v2:Nat)(v3:Nat)(v4:OA)(v5:Nat)(v6:Nat)(v7:Bool)(v8:OA)(v9:Nat)(v10:Nat)(v11:OA)(v12:Nat)(v13:Nat):Value:=A #[B v0,S v1 v2 v3,S v4 v5 v6,B v7,S v8 v9 v10,S v11 v12 v13]
abbrev mi (r:Value)(K:Bool->OA->Nat->Nat->OA->Nat->Nat->Bool->OA->Nat->Nat->OA->Nat->Nat->Prop):Prop:=∃(v0:Bool)(v1:OA)(v2:Nat)(v3:Nat)(v4:OA)(v5:Nat)(v6:Nat)(v7:Bool)(v8:OA)(v9:Nat)(v10:Nat)(v11:OA)(v12:Nat)(v13:Nat),r=A #[B v0,S v1 v2 v3,S v4 v5 v6,B v7,S v8 v9 v10,S v11 v12 v13]/\K v0 v1 v2 v3 v4 v5 v6 v7 v8 v9 v10 v11 v12 v13
abbrev eO (v0:Bool)(v1:OA)(v2:Nat)(v3:Nat)(v4:Bool)(v5:OA)(v6:Nat)(v7:Nat)(v8:Bool)(v9:OA)(v10:Nat)(v11:Nat):Value:=A #[B v0,S v1 v2 v3,B v4,S v5 v6 v7,B v8,S v9 v10 v11]
abbrev fR (v0:Int)(v1:Int)(v2:OA)(v3:Int)(v4:Int)(v5:OA)(v6:Int)(v7:Int)(v8:OA):Value:=A #[I J v0,I J v1,P v2,I J v3,I J v4,P v5,I J v6,I J v7,P v8]
abbrev eZ (v0:Int)(v1:Int)(v2:OA)(v3:Int)(v4:Int)(v5:OA):Value:=A #[I J v0,I J v1,P v2,I J v3,I J v4,P v5]
abbrev zU (r:Value)(K:Int->Int->OA->Int->Int->OA->Prop):Prop:=∃(v0:Int)(v1:Int)(v2:OA)(v3:Int)(v4:Int)(v5:OA),r=A #[I J v0,I J v1,P v2,I J v3,I J v4,P v5]/\K v0 v1 v2 v3 v4 v5
abbrev G5 (v0:Int)(v1:Int)(v2:OA)(v3:Int)(v4:Int)(v5:OA)(v6:Bool)(v7:Bool):Value:=A #[I J v0,I J v1,P v2,I J v3,I J v4,P v5,B v6,B v7]
abbrev Y22 (a:OA)(n:Nat)(m:Ó)(K:Bool->OA->Nat->Nat->OA->Nat->Nat->Bool->OA->Nat->Nat->OA->Nat->Nat->Bool->Bool->Addr->Prop):Prop:=∃(v0:Bool)(v1:OA)(v2:Nat)(v3:Nat)(v4:OA)(v5:Nat)(v6:Nat)(v7:Bool)(v8:OA)(v9:Nat)(v10:Nat)(v11:OA)(v12:Nat)(v13:Nat)(v14:Bool)(v15:Bool)(q:Addr),af a n=some q/\m.at (q.add 0) (B v0)/\m.at (q.add 1) (S v1 v2 v3)/\m.at (q.add 2) (S v4 v5 v6)/\m.at (q.add 3) (B v7)/\m.at (q.add 4) (S v8 v9 v10)/\m.at (q.add 5) (S v11 v12 v13)/\m.at (q.add 6) (B v14)/\m.at (q.add 7) (B v15)/\K v0 v1 v2 v3 v4 v5 v6 v7 v8 v9 v10 v11 v12 v13 v14 v15 q
abbrev SF (r:Value)(K:Bool->OA->Nat->Nat->Bool->OA->Nat->Nat->Bool->OA->Nat->Nat->Prop):Prop:=∃(v0:Bool)(v1:OA)(v2:Nat)(v3:Nat)(v4:Bool)(v5:OA)(v6:Nat)(v7:Nat)(v8:Bool)(v9:OA)(v10:Nat)(v11:Nat),r=A #[B v0,S v1 v2 v3,B v4,S v5 v6 v7,B v8,S v9 v10 v11]/\K v0 v1 v2 v3 v4 v5 v6 v7 v8 v9 v10 v11
abbrev X24 (v0:Bool)(v1:OA)(v2:Nat)(v3:Nat)(v4:OA)(v5:Nat)(v6:Nat)(v7:Bool)(v8:OA)(v9:Nat)(v10:Nat)(v11:OA)(v12:Nat)(v13:Nat)(v14:Bool)(v15:Bool):Value:=A #[B v0,S v1 v2 v3,S v4 v5 v6,B v7,S v8 v9 v10,S v11 v12 v13,B v14,B v15]
abbrev Z25 (r:Value)(K:Bool->OA->Nat->Nat->OA->Nat->Nat->Bool->OA->Nat->Nat->OA->Nat->Nat->Bool->Bool->Prop):Prop:=∃(v0:Bool)(v1:OA)(v2:Nat)(v3:Nat)(v4:OA)(v5:Nat)(v6:Nat)(v7:Bool)(v8:OA)(v9:Nat)(v10:Nat)(v11:OA)(v12:Nat)(v13:Nat)(v14:Bool)(v15:Bool),r=A #[B v0,S v1 v2 v3,S v4 v5 v6,B v7,S v8 v9 v10,S v11 v12 v13,B v14,B v15]/\K v0 v1 v2 v3 v4 v5 v6 v7 v8 v9 v10 v11 v12 v13 v14 v15
abbrev X26 (v0:Bool)(v1:OA)(v2:Nat)(v3:Nat)(v4:Bool)(v5:OA)(v6:Nat)(v7:Nat)(v8:Bool)(v9:OA)(v10:Nat)(v11:Nat)(v12:Bool)(v13:OA)(v14:Nat)(v15:Nat)(v16:OA)(v17:Nat)(v18:Nat)(v19:Bool)(v20:OA)(v21:Nat)(v22:Nat)(v23:OA)(v24:Nat)(v25:Nat)(v26:Bool)(v27:Bool):Value:=A #[B v0,S v1 v2 v3,B v4,S v5 v6 v7,B v8,S v9 v10 v11,B v12,S v13 v14 v15,S v16 v17 v18,B v19,S v20 v21 v22,S v23 v24 v25,B v26,B v27]
abbrev Z27 (r:Value)(K:Bool->OA->Nat->Nat->Bool->OA->Nat->Nat->Bool->OA->Nat->Nat->Bool->OA->Nat->Nat->OA->Nat->Nat->Bool->OA->Nat->Nat->OA->Nat->Nat->Bool->Bool->Prop):Prop:=∃(v0:Bool)(v1:OA)(v2:Nat)(v3:Nat)(v4:Bool)(v5:OA)(v6:Nat)(v7:Nat)(v8:Bool)(v9:OA)(v10:Nat)(v11:Nat)(v12:Bool)(v13:OA)(v14:Nat)(v15:Nat)(v16:OA)(v17:Nat)(v18:Nat)(v19:Bool)(v20:OA)(v21:Nat)(v22:Nat)(v23:OA)(v24:Nat)(v25:Nat)(v26:Bool)(v27:Bool),r=A #[B v0,S v1 v2 v3,B v4,S v5 v6 v7,B v8,S v9 v10 v11,B v12,S v13 v14 v15,S v16 v17 v18,B v19,S v20 v21 v22,S v23 v24 v25,B v26,B v27]/\K v0 v1 v2 v3 v4 v5 v6 v7 v8 v9 v10 v11 v12 v13 v14 v15 v16 v17 v18 v19 v20 v21 v22 v23 v24 v25 v26 v27
abbrev Y28 (a:OA)(n:Nat)(m:Ó)(K:Int->Int->OA->Int->Int->OA->Int->Int->OA->Int->Int->OA->Int->Int->OA->Bool->Bool->Addr->Prop):Prop:=∃(v0:Int)(v1:Int)(v2:OA)(v3:Int)(v4:Int)(v5:OA)(v6:Int)(v7:Int)(v8:OA)(v9:Int)(v10:Int)(v11:OA)(v12:Int)(v13:Int)(v14:OA)(v15:Bool)(v16:Bool)(q:Addr),af a n=some q/\m.at (q.add 0) (I J v0)/\m.at (q.add 1) (I J v1)/\m.at (q.add 2) (P v2)/\m.at (q.add 3) (I J v3)/\m.at (q.add 4) (I J v4)/\m.at (q.add 5) (P v5)/\m.at (q.add 6) (I J v6)/\m.at (q.add 7) (I J v7)/\m.at (q.add 8) (P v8)/\m.at (q.add 9) (I J v9)/\m.at (q.add 10) (I J v10)/\m.at (q.add 11) (P v11)/\m.at (q.add 12) (I J v12)/\m.at (q.add 13) (I J v13)/\m.at (q.add 14) (P v14)/\m.at (q.add 15) (B v15)/\m.at (q.add 16) (B v16)/\K v0 v1 v2 v3 v4 v5 v6 v7 v8 v9 v10 v11 v12 v13 v14 v15 v16 q
abbrev Jx (v0:Int)(v1:Int)(v2:OA)(v3:Int)(v4:Int)(v5:OA)(v6:Int)(v7:Int)(v8:OA)(v9:Int)(v10:Int)(v11:OA)(v12:Int)(v13:Int)(v14:OA)(v15:Bool)(v16:Bool):Value:=A #[I J v0,I J v1,P v2,I J v3,I J v4,P v5,I J v6,I J v7,P v8,I J v9,I J v10,P v11,I J v12,I J v13,P v14,B v15,B v16]
abbrev Y30 (a:OA)(n:Nat)(m:Ó)(K:Bool->OA->Nat->Nat->OA->Nat->Nat->Addr->Prop):Prop:=∃(v0:Bool)(v1:OA)(v2:Nat)(v3:Nat)(v4:OA)(v5:Nat)(v6:Nat)(q:Addr),af a n=some q/\m.at (q.add 0) (B v0)/\m.at (q.add 1) (S v1 v2 v3)/\m.at (q.add 2) (S v4 v5 v6)/\K v0 v1 v2 v3 v4 v5 v6 q
abbrev Z31 (r:Value)(K:Int->Int->OA->Int->Int->OA->Int->Int->OA->Prop):Prop:=∃(v0:Int)(v1:Int)(v2:OA)(v3:Int)(v4:Int)(v5:OA)(v6:Int)(v7:Int)(v8:OA),r=A #[I J v0,I J v1,P v2,I J v3,I J v4,P v5,I J v6,I J v7,P v8]/\K v0 v1 v2 v3 v4 v5 v6 v7 v8
abbrev YX (a:OA)(n:Nat)(m:Ó)(K:Int->Int->OA->Int->Int->OA->Int->Int->OA->Addr->Prop):Prop:=∃(v0:Int)(v1:Int)(v2:OA)(v3:Int)(v4:Int)(v5:OA)(v6:Int)(v7:Int)(v8:OA)(q:Addr),af a n=some q/\m.at (q.add 0) (I J v0)/\m.at (q.add 1) (I J v1)/\m.at (q.add 2) (P v2)/\m.at (q.add 3) (I J v3)/\m.at (q.add 4) (I J v4)/\m.at (q.add 5) (P v5)/\m.at (q.add 6) (I J v6)/\m.at (q.add 7) (I J v7)/\m.at (q.add 8) (P v8)/\K v0 v1 v2 v3 v4 v5 v6 v7 v8 q
abbrev X33 (v0:OA)(v1:Nat)(v2:Nat)(v3:OA)(v4:Nat)(v5:Nat):Value:=A #[S v0 v1 v2,S v3 v4 v5]
abbrev Z34 (r:Value)(K:Int->Int->OA->Int->Int->OA->Bool->Bool->Prop):Prop:=∃(v0:Int)(v1:Int)(v2:OA)(v3:Int)(v4:Int)(v5:OA)(v6:Bool)(v7:Bool),r=A #[I J v0,I J v1,P v2,I J v3,I J v4,P v5,B v6,B v7]/\K v0 v1 v2 v3 v4 v5 v6 v7
abbrev Y35 (a:OA)(n:Nat)(m:Ó)(K:Int->Int->OA->Int->Int->OA->Bool->Bool->Addr->Prop):Prop:=∃(v0:Int)(v1:Int)(v2:OA)(v3:Int)(v4:Int)(v5:OA)(v6:Bool)(v7:Bool)(q:Addr),af a n=some q/\m.at (q.add 0) (I J v0)/\m.at (q.add 1) (I J v1)/\m.at (q.add 2) (P v2)/\m.at (q.add 3) (I J v3)/\m.at (q.add 4) (I J v4)/\m.at (q.add 5) (P v5)/\m.at (q.add 6) (B v6)/\m.at (q.add 7) (B v7)/\K v0 v1 v2 v3 v4 v5 v6 v7 q
abbrev Z36 (r:Value)(K:OA->Bool->Prop):Prop:=∃(v0:OA)(v1:Bool),r=T #[P v0,B v1]/\K v0 v1
abbrev X37 (v0:Int)(v1:OA)(v2:Nat)(v3:Nat):Value:=A #[I J v0,S v1 v2 v3]
abbrev SE (a:OA)(n:Nat)(m:Ó)(K:Bool->OA->Nat->Nat->Bool->OA->Nat->Nat->Bool->OA->Nat->Nat->Addr->Prop):Prop:=∃(v0:Bool)(v1:OA)(v2:Nat)(v3:Nat)(v4:Bool)(v5:OA)(v6:Nat)(v7:Nat)(v8:Bool)(v9:OA)(v10:Nat)(v11:Nat)(q:Addr),af a n=some q/\m.at (q.add 0) (B v0)/\m.at (q.add 1) (S v1 v2 v3)/\m.at (q.add 2) (B v4)/\m.at (q.add 3) (S v5 v6 v7)/\m.at (q.add 4) (B v8)/\m.at (q.add 5) (S v9 v10 v11)/\K v0 v1 v2 v3 v4 v5 v6 v7 v8 v9 v10 v11 q
abbrev Jy (a:OA)(n:Nat)(m:Ó)(K:Bool->OA->Nat->Nat->OA->Nat->Nat->Bool->OA->Nat->Nat->OA->Nat->Nat->Addr->Prop):Prop:=∃(v0:Bool)(v1:OA)(v2:Nat)(v3:Nat)(v4:OA)(v5:Nat)(v6:Nat)(v7:Bool)(v8:OA)(v9:Nat)(v10:Nat)(v11:OA)(v12:Nat)(v13:Nat)(q:Addr),af a n=some q/\m.at (q.add 0) (B v0)/\m.at (q.add 1) (S v1 v2 v3)/\m.at (q.add 2) (S v4 v5 v6)/\m.at (q.add 3) (B v7)/\m.at (q.add 4) (S v8 v9 v10)/\m.at (q.add 5) (S v11 v12 v13)/\K v0 v1 v2 v3 v4 v5 v6 v7 v8 v9 v10 v11 v12 v13 q
abbrev Y40 (a:OA)(n:Nat)(m:Ó)(K:Bool->OA->Nat->Nat->Bool->OA->Nat->Nat->Bool->OA->Nat->Nat->Bool->OA->Nat->Nat->OA->Nat->Nat->Bool->OA->Nat->Nat->OA->Nat->Nat->Bool->Bool->Addr->Prop):Prop:=∃(v0:Bool)(v1:OA)(v2:Nat)(v3:Nat)(v4:Bool)(v5:OA)(v6:Nat)(v7:Nat)(v8:Bool)(v9:OA)(v10:Nat)(v11:Nat)(v12:Bool)(v13:OA)(v14:Nat)(v15:Nat)(v16:OA)(v17:Nat)(v18:Nat)(v19:Bool)(v20:OA)(v21:Nat)(v22:Nat)(v23:OA)(v24:Nat)(v25:Nat)(v26:Bool)(v27:Bool)(q:Addr),af a n=some q/\m.at (q.add 0) (B v0)/\m.at (q.add 1) (S v1 v2 v3)/\m.at (q.add 2) (B v4)/\m.at (q.add 3) (S v5 v6 v7)/\m.at (q.add 4) (B v8)/\m.at (q.add 5) (S v9 v10 v11)/\m.at (q.add 6) (B v12)/\m.at (q.add 7) (S v13 v14 v15)/\m.at (q.add 8) (S v16 v17 v18)/\m.at (q.add 9) (B v19)/\m.at (q.add 10) (S v20 v21 v22)/\m.at (q.add 11) (S v23 v24 v25)/\m.at (q.add 12) (B v26)/\m.at (q.add 13) (B v27)/\K v0 v1 v2 v3 v4 v5 v6 v7 v8 v9 v10 v11 v12 v13 v14 v15 v16 v17 v18 v19 v20 v21 v22 v23 v24 v25 v26 v27 q
abbrev X41 (v0:OA)(v1:Nat)(v2:Nat)(v3:Int)(v4:OA)(v5:Nat)(v6:Nat):Value:=A #[S v0 v1 v2,I J v3,S v4 v5 v6]
abbrev Y42 (a:OA)(n:Nat)(m:Ó)(K:Int->Int->OA->Int->Int->OA->Addr->Prop):Prop:=∃(v0:Int)(v1:Int)(v2:OA)(v3:Int)(v4:Int)(v5:OA)(q:Addr),af a n=some q/\m.at (q.add 0) (I J v0)/\m.at (q.add 1) (I J v1)/\m.at (q.add 2) (P v2)/\m.at (q.add 3) (I J v3)/\m.at (q.add 4) (I J v4)/\m.at (q.add 5) (P v5)/\K v0 v1 v2 v3 v4 v5 q
abbrev Z43 (r:Value)(K:Int->OA->Nat->Nat->Prop):Prop:=∃(v0:Int)(v1:OA)(v2:Nat)(v3:Nat),r=A #[I J v0,S v1 v2 v3]/\K v0 v1 v2 v3
abbrev Z44 (r:Value)(K:OA->Nat->Nat->Int->OA->Nat->Nat->Prop):Prop:=∃(v0:OA)(v1:Nat)(v2:Nat)(v3:Int)(v4:OA)(v5:Nat)(v6:Nat),r=A #[S v0 v1 v2,I J v3,S v4 v5 v6]/\K v0 v1 v2 v3 v4 v5 v6
abbrev zB (b:Bool)(A B:Prop):Prop:=(b=true->A)/\(b=false->B)
abbrev mB (f:OA)(a d:Int)(K:Prop):Prop:=(f.isSome=true)/\(0<=a/\a<d)/\K
abbrev ý (o n:Nat)(x l:List Value):Prop:=o+n<=x.length/\(x.drop o).take n=l
abbrev å (a d:Int):Prop:=0<=a/\a<d
abbrev Č (V:Ó)(x:List Value)(t:Nat)(K:Ó->Nat->Prop):Prop:=∀W,V.Le W->∀b:Nat,Xh W b x t->W.H b->K W b
abbrev cB (V:Ó)(f:Nat)(a:Array Value)(K:Ó->OA->Nat->Nat->Prop):Prop:=Ca V f a λr W=>∃a b c,r=S a b c/\K W a b c
abbrev ü (V:Ó)(f:Nat)(a:Array Value)(K:Ó->Bool->Prop):Prop:=Ca V f a λr W=>∃a,r=B a/\K W a
abbrev â (V:Ó)(f:Nat)(a:Array Value)(K:Ó->Int->Prop):Prop:=Ca V f a λr W=>∃a,r=I J a/\K W a
abbrev qqK (V:Ó)(f:Nat)(a:Array Value)(K:Ó->OA->Nat->Nat->Int->Prop):Prop:=Ca V f a λr W=>Z0 r (K W)
abbrev qqJ (V:Ó)(f:Nat)(a:Array Value)(K:Ó->OA->Nat->Nat->OA->Nat->Nat->Prop):Prop:=Ca V f a λr W=>Z1 r (K W)
abbrev qwQ (V:Ó)(f:Nat)(a:Array Value)(K:Ó->OA->Nat->Nat->OA->Nat->Nat->Bool->Prop):Prop:=Ca V f a λr W=>Z2 r (K W)
abbrev qwW (V:Ó)(f:Nat)(a:Array Value)(K:Ó->Int->Bool->Prop):Prop:=Ca V f a λr W=>Z3 r (K W)
abbrev ì (V:Ó)(f:Nat)(a:Array Value)(K:Ó->Bool->OA->Nat->Nat->Prop):Prop:=Ca V f a λr W=>Z5 r (K W)
abbrev qwJ (V:Ó)(f:Nat)(a:Array Value)(K:Ó->OA->Nat->Nat->Bool->Prop):Prop:=Ca V f a λr W=>Z7 r (K W)
abbrev ò (V:Ó)(f:Nat)(a:Array Value)(K:Ó->Int->Int->OA->Prop):Prop:=Ca V f a λr W=>Z8 r (K W)
abbrev qzQ (V:Ó)(f:Nat)(a:Array Value)(K:Ó->Int->Bool->Prop):Prop:=Ca V f a λr W=>WE r (K W)
abbrev qzZ (V:Ó)(f:Nat)(a:Array Value)(K:Ó->Int->Int->Prop):Prop:=Ca V f a λr W=>Z12 r (K W)
abbrev qzK (V:Ó)(f:Nat)(a:Array Value)(K:Ó->Int->Int->Prop):Prop:=Ca V f a λr W=>Z13 r (K W)
abbrev á (V:Ó)(f:Nat)(a:Array Value)(K:Ó->Bool->OA->Nat->Nat->OA->Nat->Nat->Prop):Prop:=Ca V f a λr W=>ch r (K W)
abbrev ĉ (V:Ó)(f:Nat)(a:Array Value)(K:Ó->Bool->OA->Nat->Nat->OA->Nat->Nat->Bool->OA->Nat->Nat->OA->Nat->Nat->Prop):Prop:=Ca V f a λr W=>mi r (K W)
abbrev Ğ (V:Ó)(f:Nat)(a:Array Value)(K:Ó->Int->Int->OA->Int->Int->OA->Prop):Prop:=Ca V f a λr W=>zU r (K W)
abbrev qkJ (V:Ó)(f:Nat)(a:Array Value)(K:Ó->Bool->OA->Nat->Nat->Bool->OA->Nat->Nat->Bool->OA->Nat->Nat->Prop):Prop:=Ca V f a λr W=>SF r (K W)
abbrev qjQ (V:Ó)(f:Nat)(a:Array Value)(K:Ó->Bool->OA->Nat->Nat->OA->Nat->Nat->Bool->OA->Nat->Nat->OA->Nat->Nat->Bool->Bool->Prop):Prop:=Ca V f a λr W=>Z25 r (K W)
abbrev qjW (V:Ó)(f:Nat)(a:Array Value)(K:Ó->Bool->OA->Nat->Nat->Bool->OA->Nat->Nat->Bool->OA->Nat->Nat->Bool->OA->Nat->Nat->OA->Nat->Nat->Bool->OA->Nat->Nat->OA->Nat->Nat->Bool->Bool->Prop):Prop:=Ca V f a λr W=>Z27 r (K W)
abbrev qjK (V:Ó)(f:Nat)(a:Array Value)(K:Ó->Int->Int->OA->Int->Int->OA->Int->Int->OA->Prop):Prop:=Ca V f a λr W=>Z31 r (K W)
abbrev qjJ (V:Ó)(f:Nat)(a:Array Value)(K:Ó->Int->Int->OA->Int->Int->OA->Bool->Bool->Prop):Prop:=Ca V f a λr W=>Z34 r (K W)
abbrev Z9 (V:Ó)(f:Nat)(a:Array Value)(K:Ó->OA×Nat×Nat->Prop):Prop:=cB V f a λW a0 a1 a2=>K W (a0,a1,a2)
abbrev Z6 (V:Ó)(f:Nat)(a:Array Value)(K:Ó->Bool×OA×Nat×Nat×OA×Nat×Nat->Prop):Prop:=á V f a λW a0 a1 a2 a3 a4 a5 a6=>K W (a0,a1,a2,a3,a4,a5,a6)
abbrev ZW (V:Ó)(f:Nat)(a:Array Value)(K:Ó->Bool×OA×Nat×Nat->Prop):Prop:=ì V f a λW a0 a1 a2 a3=>K W (a0,a1,a2,a3)
abbrev ZV (V:Ó)(f:Nat)(a:Array Value)(K:Ó->Int×Int×OA->Prop):Prop:=ò V f a λW a0 a1 a2=>K W (a0,a1,a2)
abbrev ZU (V:Ó)(f:Nat)(a:Array Value)(K:Ó->Bool×OA×Nat×Nat×OA×Nat×Nat×Bool×OA×Nat×Nat×OA×Nat×Nat->Prop):Prop:=ĉ V f a λW a0 a1 a2 a3 a4 a5 a6 a7 a8 a9 a10 a11 a12 a13=>K W (a0,a1,a2,a3,a4,a5,a6,a7,a8,a9,a10,a11,a12,a13)
abbrev ZT (V:Ó)(f:Nat)(a:Array Value)(K:Ó->Int×Int×OA×Int×Int×OA->Prop):Prop:=Ğ V f a λW a0 a1 a2 a3 a4 a5=>K W (a0,a1,a2,a3,a4,a5)
abbrev ZA {A0 A1 A2 D}(f:A0->A1->A2->D)(t:A0×A1×A2):D:=f t.1 t.2.1 t.2.2
abbrev Zy {A0 A1 A2 A3 D}(f:A0->A1->A2->A3->D)(t:A0×A1×A2×A3):D:=f t.1 t.2.1 t.2.2.1 t.2.2.2
abbrev Zu {A0 A1 A2 A3 A4 A5 A6 D}(f:A0->A1->A2->A3->A4->A5->A6->D)(t:A0×A1×A2×A3×A4×A5×A6):D:=f t.1 t.2.1 t.2.2.1 t.2.2.2.1 t.2.2.2.2.1 t.2.2.2.2.2.1 t.2.2.2.2.2.2
abbrev Zp {A0 A1 A2 A3 A4 A5 A6 A7 A8 A9 A10 A11 A12 A13 D}(f:A0->A1->A2->A3->A4->A5->A6->A7->A8->A9->A10->A11->A12->A13->D)(t:A0×A1×A2×A3×A4×A5×A6×A7×A8×A9×A10×A11×A12×A13):D:=f t.1 t.2.1 t.2.2.1 t.2.2.2.1 t.2.2.2.2.1 t.2.2.2.2.2.1 t.2.2.2.2.2.2.1 t.2.2.2.2.2.2.2.1 t.2.2.2.2.2.2.2.2.1 t.2.2.2.2.2.2.2.2.2.1 t.2.2.2.2.2.2.2.2.2.2.1 t.2.2.2.2.2.2.2.2.2.2.2.1 t.2.2.2.2.2.2.2.2.2.2.2.2.1 t.2.2.2.2.2.2.2.2.2.2.2.2.2
abbrev Zn {A0 A1 A2 A3 A4 A5 D}(f:A0->A1->A2->A3->A4->A5->D)(t:A0×A1×A2×A3×A4×A5):D:=f t.1 t.2.1 t.2.2.1 t.2.2.2.1 t.2.2.2.2.1 t.2.2.2.2.2
abbrev Zm:=ZA S
abbrev Zl:=Zy X6
abbrev Zk:=ZA X9
abbrev YS:=Zu aW
abbrev Xy:=Zp cq
abbrev Xx:=Zn eZ
abbrev qvQ (V:Ó)(f:Nat)(a:Array Value)(K:Ó->OA->Bool->Prop):Prop:=Ca V f a λr W=>Z36 r (K W)
abbrev nC (f:Nat)(a:Array Value)(G:Ó->VR->Prop):Prop:=∀V R,G V R->ae prog f a V R
def Ý {f:FuncId}{fn:Func}(u:prog.funcs[f]?=some fn){G:un->VR->Prop}(y:(fn.name=="runtime.NumGoroutine")=false:=by kernel_rfl)(z:l.toArray=((sA 0 l).map λx=>x.2.den λ_=>0).toArray:=by kernel_rfl)(E:G=λV R=>IQ prog tab aP [] [] [] fn (sA 0 l) [] (λ_=>0) V R:=by kernel_rfl):nC f l.toArray G:=
 λV R h=>fd (LF:=aP) (RF:=[]) [] [] u h y z (congrFun (congrFun E V) R)
def bB (LF RF:zA Nat)(L K:Jp){f:FuncId}{fn:Func}(u:prog.funcs[f]?=some fn){G:un->VR->Prop}(y:(fn.name=="runtime.NumGoroutine")=false:=by kernel_rfl)(z:l.toArray=((sA 0 l).map λx=>x.2.den λ_=>0).toArray:=by kernel_rfl)(E:G=λV R=>IQ prog tab LF RF L K fn (sA 0 l) [] (λ_=>0) V R:=by kernel_rfl):nC f l.toArray G:=
 λV R h=>fd (LF:=LF) (RF:=RF) L K u h y z (congrFun (congrFun E V) R)
def Ĭ {T:dW}(hT:dW.ok prog T)(k:Nat){p q:Prop}(au:p)(aw:q)(LF RF:zA Nat)(L K:Jp){f:FuncId}{fn:Func}(u:prog.funcs[f]?=some fn)(ss:zA (Nat×SV))(x:aY){V:un}{R:VR}{G:Prop}(h:G)(y:(fn.name=="runtime.NumGoroutine")=false:=by kernel_rfl)(z:l.toArray=(ss.map λx=>x.2.den (cJ (λ_=>0) 100000 k)).toArray:=by kernel_rfl)(E:WS (cJ (λ_=>0) 100000 k) V [(100000,x)]=((p/\q)/\True/\True):=by kernel_rfl)(F:G=IQ prog T LF RF L K fn ss [(100000,x)] (cJ (λ_=>0) 100000 k) V R:=by kernel_rfl):ae prog f l.toArray V R:=
 bE (LF:=LF) (RF:=RF) (β0:=cJ (λ_=>0) 100000 k) hT ć L K u y ss [(100000,x)] z (E.symm.mp ⟨⟨au,aw⟩,trivial,trivial⟩) h F
def _root_.qyW {a b c d:Sort _}{p:a->b->c->d->Prop}{A B C D}(h:p A B C D):∃A B C D,p A B C D:=⟨_,_,_,_,h⟩
def _root_.qyZ {a b c d e f:Sort _}{p:a->b->c->d->e->f->Prop}{A B C D E F}(h:p A B C D E F):∃A B C D E F,p A B C D E F:=⟨_,_,_,_,_,_,h⟩
def _root_.qyK {a b c d e f g:Sort _}{p:a->b->c->d->e->f->g->Prop}{A B C D E F G}(h:p A B C D E F G):∃A B C D E F G,p A B C D E F G:=⟨_,_,_,_,_,_,_,h⟩
def _root_.qxZ {a b c d e f g i j k l m:Sort _}{p:a->b->c->d->e->f->g->i->j->k->l->m->Prop}{A B C D E F G H I J K L}(h:p A B C D E F G H I J K L):∃A B C D E F G H I J K L,p A B C D E F G H I J K L:=⟨_,_,_,_,_,_,_,_,_,_,_,_,h⟩
def _root_.qyJ {a b c d e f g i j k l m n o:Sort _}{p:a->b->c->d->e->f->g->i->j->k->l->m->n->o->Prop}{A B C D E F G H I J K L M N}(h:p A B C D E F G H I J K L M N):∃A B C D E F G H I J K L M N,p A B C D E F G H I J K L M N:=⟨_,_,_,_,_,_,_,_,_,_,_,_,_,_,h⟩
abbrev À:=ae prog
end Go.Proofs.Tryz
