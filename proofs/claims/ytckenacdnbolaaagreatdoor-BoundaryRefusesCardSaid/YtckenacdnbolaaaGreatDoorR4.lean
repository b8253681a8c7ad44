import Derived.Test.YtckenacdnbolaaaGreatDoorR3
set_option linter.all false
open Go.IntKind (i64 u64 u32)
namespace Go.Eng
variable {P:Program} {T:d_} {n:Nat} {V0:View} {bO:JO} {β0:Nat->Nat} {st:St} {β:Nat->Nat} {a:Act} {w:World} {V:View}
def KI {t:TypeId}{name:String}{f:FuncId}(h:KH P t name=some f)(k:Nat)(v:un)(w:World):(Go.method (k+1) t v name).run P w=.ok (f,v) w:=by
 unfold KH at h;split at h
 ·rename_i i d b c;split at h
  ·rename_i m hm;split at h
   ·rename_i j l e g;cases h;have a:m.path=#[]:=by apply Qd6;exact e
    simp only [Go.method,typeInfo,Sem.run_bind,run_program,Result.andThen_ok,b,hm,Sem.run_pure,a,follow,g,receiverAt,ai c,Place.get]
   ·cases h
  ·cases h
 ·cases h
def wK (hT:d_.ok P T)(hM:Mod n V0 bO β0 st β a w V){m:CM}{o:Oper}{K:St->ut->Prop}{next:Act->World->Prop}{Q:Exit->Act->World->Prop}
  (hd:∀d,o.dst=some d->d<n)(hv:dX P T m o st V K)
  (hK:∀st' β' a' w' V',Mod n V0 bO β0 st' β' a' w' V'->K st' V'->next a' w'):o.wp P a w next Q:=by
 unfold dX at hv;split at hv
 ·rename_i A args r e;split at hv
  ·rename_i xs g;have ⟨h,u⟩:=ik hM _ _ g;split at hv
   ·rename_i f i j;have ⟨k,l⟩:=zS (Q:=Q) hM hd hv hK;have p:args.map a.eval=(xs.map (SV.den β)).toArray:=by apply Qd6;rw [Qf2];exact h
    have q:aH β (xs++zT i)=(xs.map (SV.den β)).toArray++(i.map λs=>Value.pointer (some ⟨β s,0,none⟩)).toArray:=by
     unfold aH zT;grind [SV.den,C.den]
    have b:(execOp a.eval o).run P w=.ok (.enter f (aH β (xs++zT i))) w:=by
     rw [q];simp only [execOp,e,resolve,hM.eval j,SV.den,C.den,Deferred.ofValue,pure_bind,invoke,p,Array.empty_append];exact k.run _
    unfold Oper.wp;rw [b];exact l
   ·exact hv.elim
  ·exact hv.elim
 ·rename_i recv name args r e;split at hv
  ·rename_i xs g;have ⟨h,u⟩:=ik hM _ _ g;split at hv
   ·rename_i t v j;split at hv
    ·rename_i f x;have ⟨k,l⟩:=zS (Q:=Q) hM hd hv hK;have p:args.map a.eval=(xs.map (SV.den β)).toArray:=by apply Qd6;rw [Qf2];exact h
     have q:aH β (.c (.w v)::xs)=#[v]++(xs.map (SV.den β)).toArray:=by
      unfold aH;grind [SV.den,C.den]
     have b:(execOp a.eval o).run P w=.ok (.enter f (aH β (.c (.w v)::xs))) w:=by
      rw [q];have y:(#[Value.iface t v]++(xs.map (SV.den β)).toArray).extract 1 (#[Value.iface t v]++(xs.map (SV.den β)).toArray).size=(xs.map (SV.den β)).toArray:=by grind
      have z:(#[Value.iface t v]++(xs.map (SV.den β)).toArray)[0]?=some (Value.iface t v):=by simp
      simp only [execOp,e,resolve,hM.eval j,SV.den,C.den,pure_bind,invoke,p,z,y,callMethod,Sem.run_bind,run_program,Result.andThen_ok,Made.depth];rw [KI x];exact k.run _
     unfold Oper.wp;rw [b];exact l
    ·exact hv.elim
   ·exact hv.elim
  ·exact hv.elim
 ·grind [IC]
theorem kF (hT:d_.ok P T)(hM:Mod n V0 bO β0 st β a w V){m:CM}{h:Hint}{o:Oper}{K:St->ut->Prop}{next:Act->World->Prop}{Q:Exit->Act->World->Prop}
  (hd:∀d,o.dst=some d->d<n)(hv:dP P T m h o st V K)
  (hK:∀st' β' a' w' V',Mod n V0 bO β0 st' β' a' w' V'->K st' V'->next a' w'):o.wp P a w next Q:=by
 unfold dP at hv;split at hv
 ·exact wK hT hM hd hv hK
 ·split at hv
  ·split at hv
   ·exact wK hT hM hd hv hK
   ·exact hv.elim
  ·exact hv.elim
def Mod.refine (hM:Mod n V0 bO β0 st β a w V){g:Nat}{x y:SV}(hx:st.ax g=some x)(he:x.den β=y.den β)(hy:y.ids=[]):Mod n V0 bO β0 (st.put (some g) y) β a w V:=by
 refine ⟨hM.defers,hM.size,?_,?_,hM.Cq,hM.boxes,hM.inj,hM.qW,hM.xM,hM.ext,hM.own,hM.nH,hM.me,hM.small⟩
 ·grind [eI,hM.ax]
 ·intro t z b;rw [eI] at b;split at b
  ·simp only [Qw1] at b;rw [←b,hy];exact λs c=>(nomatch c)
  ·exact hM.Cr t z b
def LJ {ops:Array Oper}{tmps:Array un}{j g:Nat}(hg:(ops[j]?).bind (·.dst)=some g):yielded ops tmps j=match tmps.getD g undef with|.bool b=>some b|_=>none:=by
 unfold yielded;rw [hg];simp only [Option.bind_some];by_cases h:g<tmps.size
 ·have a:tmps[g]?=some tmps[g]:=getElem?_pos tmps g h;have c:tmps.getD g undef=tmps[g]:=by simp [h]
  grind
 ·simp [h,undef]
def Ir (hT:d_.ok P T)(hM:Mod n V0 bO β0 st β a w V){m:CM}{h:Hint}{ops:Array Oper}{o:Oper}{K:St->ut->Prop}{next:Act->World->Prop}{Q:Exit->Act->World->Prop}
  (hd:∀d,o.dst=some d->d<n)(hv:uT P T m h ops o st V K)
  (hK:∀st' β' a' w' V',Mod n V0 bO β0 st' β' a' w' V'->K st' V'->next a' w') :
  if Region.wanted o (yielded ops a.tmps) then o.wp P a w next Q else next (a.put o.dst undef) w:=by
 unfold uT at hv;split at hv
 ·grind [Region.wanted,kF]
 ·rename_i j b u;split at hv
  ·exact hv.elim
  ·rename_i g p;have v:=LJ (tmps:=a.tmps) p;have f:∀c:md,a.tmps.getD g undef=.bool c->(Region.wanted o (yielded ops a.tmps)=true↔c=b):=by grind [Region.wanted]
   have skip:∀{l:St},Mod n V0 bO β0 l β a w V->K (l.put o.dst lk) V->next (a.put o.dst undef) w:=by
    intro l q r;exact hK _ _ _ _ _ (q.Iy hd rfl (ct rfl)) r
   split at hv
   ·rename_i k;have i:=hM.ax g _ k;split at hv
    ·rw [if_pos ((f true i).2 rfl)];exact kF hT hM hd hv hK
    ·rw [if_neg (λh=>by have:=(f true i).1 h;cases this)];exact skip hM hv
   ·rename_i k;have i:=hM.ax g _ k;split at hv
    ·rw [if_neg (λh=>by have:=(f false i).1 h;cases this)];exact skip hM hv
    ·rw [if_pos ((f false i).2 rfl)];exact kF hT hM hd hv hK
   ·rename_i c k;have i:=hM.ax g _ k;have s:c=true->Mod n V0 bO β0 (st.put (some g) (.c .tt)) β a w V:=λe=>hM.refine k (by rw [e];rfl) rfl;have t:c=false->Mod n V0 bO β0 (st.put (some g) (.c .ff)) β a w V:=λe=>hM.refine k (by rw [e];rfl) rfl;split at hv
    ·cases c with
     | true=>rw [if_pos ((f true i).2 rfl)];exact kF hT (s rfl) hd (hv.1 rfl) hK
     | false=>rw [if_neg (λh=>by have:=(f false i).1 h;cases this)];exact skip (t rfl) (hv.2 rfl)
    ·cases c with
     | true=>rw [if_neg (λh=>by have:=(f true i).1 h;cases this)];exact skip (s rfl) (hv.1 rfl)
     | false=>rw [if_pos ((f false i).2 rfl)];exact kF hT (t rfl) hd (hv.2 rfl) hK
   ·rename_i xs k;have i:=hM.ax g _ k;grind [Region.wanted,SV.den]
   ·exact hv.elim
def Ew (hT:d_.ok P T){m:Nat->CM}{hint:Nat->Hint}{ops:Array Oper}(hd:∀(i:Nat)(o:Oper),ops[i]?=some o->∀d,o.dst=some d->d<n){Q:Exit->Act->World->Prop}{K:St->ut->Prop}
  (hK:∀st' β' a' w' V',Mod n V0 bO β0 st' β' a' w' V'->K st' V'->Q .normal a' w') :
  ∀(l:pz Nat)(st:St)(β:Nat->Nat)(a:Act)(w:World)(V:ut),Mod n V0 bO β0 st β a w V->SL P T m hint ops l st V K->wpOps P ops Q l a w
 | [],st,β,a,w,V,hM,hv=>hK _ _ _ _ _ hM hv
 | i::r,st,β,a,w,V,hM,hv=>by
  simp only [SL] at hv;simp only [wpOps];split at hv
  ·rename_i o ho;rw [ho];dsimp only;have:=Ir (Q:=Q) (next:=wpOps P ops Q r) hT hM (hd i o ho) hv (λst' β' a' w' V' b c=>Ew hT hd hK r st' β' a' w' V' b c);grind
  ·exact hv.elim
end Go.Eng
namespace Go.Eng
def ov (p:Nat->Option SV)(q:Nat->Option aV)(st:St):St:=
 ⟨λt=>match p t with|some x=>some x|none=>st.ax t,λt=>match q t with|some x=>some x|none=>st.boxes t⟩
theorem g_ {a b:Nat}(h:a≠b):Nat.beq a b=false:=by
 cases hb:Nat.beq a b
 ·rfl
 ·exact absurd (beq_eq.1 hb) h
section
variable {p:Nat->Option SV} {q:Nat->Option aV} {st:St}
theorem kW {d:Option Nat}{x:SV}(h:∀k,d=some k->p k=none):(ov p q st).put d x=ov p q (st.put d x):=by
 cases d with
 | none=>rfl
 | some d=>
  have a:=h d rfl;simp only [ov,St.put];grind [g_]
theorem oz {s:Nat}{b:aV}(h:q s=none):(ov p q st).box s b=ov p q (st.box s b):=by
 simp only [ov,St.box];grind [g_]
theorem cJ {s:Nat}(h:q s=none):(ov p q st).boxes s=st.boxes s:=by simp [ov,h]
def UM {x:Operand}(h:∀t,x=.tmp t->p t=none):(ov p q st).bz x=st.bz x:=by
 cases x with
 | tmp t=>simp [St.bz,ov,h t rfl]
 | _=>rfl
def one {α:Type}(d:Option Nat)(x:α):Nat->Option α:=λt=>match d with|some k=>cond (Nat.beq t k) (some x) none|none=>none
theorem eZ {α:Type}{d:Option Nat}{x:α}{t:Nat}(h:d≠some t):one d x t=none:=by cases d<;>grind [one,g_]
theorem gC (d:Option Nat)(x:SV):st.put d x=ov (one d x) (λ_=>none) st:=by
 cases d with
 | none=>rfl
 | some d=>grind [ov,St.put,one]
theorem Pv (s:Nat)(b:aV):st.box s b=ov (λ_=>none) (one (some s) b) st:=by grind [ov,St.box,one]
def DU (s:Nat)(b:aV)(d:Option Nat)(x:SV):(st.box s b).put d x=ov (one d x) (one (some s) b) st:=by
 rw [gC,Pv];rfl
end
def fO {ρ ρ':Operand->Option SV}:∀l:pz Operand,(∀x∈l,ρ x=ρ' x)->cO ρ l=cO ρ' l
 | [],_=>rfl
 | o::r,h=>by simp only [cO];rw [h o (by simp),fO r λx hx=>h x (by simp [hx])]
def mo {ρ ρ':Operand->Option SV}:∀l:pz (Nat×Operand),(∀x∈l.map (·.2),ρ x=ρ' x)->partsOf ρ l=partsOf ρ' l
 | [],_=>rfl
 | (i,o)::r,h=>by simp only [partsOf];rw [h o (by simp),mo r λx hx=>h x (by simp only [Qn3,Qq6];exact .inr hx)]
theorem KN {ρ ρ':Operand->Option SV}:∀l:Option Operand,(∀x,l=some x->ρ x=ρ' x)->FV ρ l=FV ρ' l
 | none,_=>rfl
 | some o,h=>by simp only [FV];rw [h o rfl]
def pX {T:d_}{ρ ρ':Operand->Option SV}{bx:Nat->Option aV}{op:Op}(h:∀x∈op.operands.toList,ρ x=ρ' x):aR T ρ bx op=aR T ρ' bx op:=by
 cases op with
 | move x=>simp only [aR];rw [h x (by simp [Op.operands])]
 | assign x=>simp only [aR];rw [h x (by simp [Op.operands])]
 | pick c a b=>simp only [aR];rw [h c (by simp [Op.operands]),h a (by simp [Op.operands]),h b (by simp [Op.operands])]
 | box t x=>simp only [aR];rw [h x (by simp [Op.operands])]
 | build t ps=>simp only [aR];rw [mo _ λx g=>h x (by simpa [Op.operands] using g)]
 | buildSlice t n ps=>simp only [aR];rw [mo _ λx g=>h x (by simpa [Op.operands] using g)]
 | load t a=>simp only [aR];rw [h a (by simp [Op.operands])]
 | store t a x=>simp only [aR];rw [h a (by simp [Op.operands]),h x (by simp [Op.operands])]
 | nilCheck x=>simp only [aR];rw [h x (by simp [Op.operands])]
 | binOp o xt x y yt=>simp only [aR];rw [h x (by simp [Op.operands]),h y (by simp [Op.operands])]
 | unOp o xt x=>cases o<;>simp only [aR]<;>rw [h x (by simp [Op.operands])]
 | convert s d x=>simp only [aR];rw [h x (by simp [Op.operands])]
 | makeFunc fn first caps=>
  cases fn with
  | func f=>simp only [aR];rw [fO _ λx g=>h x (by simp [Op.operands];exact .inr (by simpa using g))]
  | _=>rfl
 | makeSlice t a b=>simp only [aR];rw [h a (by simp [Op.operands]),h b (by simp [Op.operands])]
 | slice t x lo hi mx=>
  simp only [aR];grind [Op.operands,KN]
 | fieldAddr t x f=>simp only [aR];rw [h x (by simp [Op.operands])]
 | field t x f=>simp only [aR];rw [h x (by simp [Op.operands])]
 | indexAddr t x i=>simp only [aR];rw [h x (by simp [Op.operands]),h i (by simp [Op.operands])]
 | extract x j=>simp only [aR];rw [h x (by simp [Op.operands])]
 | index t x i=>simp only [aR];rw [h x (by simp [Op.operands]),h i (by simp [Op.operands])]
 | makeInterface t x=>simp only [aR];rw [h x (by simp [Op.operands])]
 | call c=>
  obtain ⟨k,args,l⟩:=c
  cases k with
  | builtin b=>
   have e:cO ρ args.toList=cO ρ' args.toList:=fO _ λx g=>h x (by simpa [Op.operands,Call.operands] using g);cases b<;>simp only [aR]<;>rw [e]
  | _=>rfl
 | _=>rfl
def R7 {T:d_}{LF RF:pz Nat}{ρ:Operand->Option SV}{bx bx':Nat->Option aV}{op:Op}(h:bD LF RF op=.pure\/bD LF RF op=.alloc):aR T ρ bx op=aR T ρ bx' op:=by
 cases op with
 | load t a=>rcases h with h|h<;>cases h
 | store t a x=>rcases h with h|h<;>cases h
 | unOp o xt x=>cases o<;>rfl
 | makeFunc fn first caps=>cases fn<;>rfl
 | call c=>
  obtain ⟨d,args,e⟩:=c
  cases d with
  | builtin b=>cases b<;>first|rfl|(rcases h with h|h<;>cases h)
  | _=>rfl
 | _=>rfl
theorem R9 {bx bx':Nat->Option aV}{i:TI}{x:SV}(h:∀s∈x.ids,bx' s=bx s):k_ bx i x=k_ bx' i x:=by
 unfold k_;grind [SV.ids,C.ids]
def Ow {bx bx':Nat->Option aV}{i:TI}{x y:SV}(h:∀s∈x.ids,bx' s=bx s):i_ bx i x y=i_ bx' i x y:=by
 unfold i_;grind [SV.ids,C.ids]
def KW {bx:Nat->Option aV}{i:TI}{x y:SV}{sc:pz Prop}{s:Nat}{b:aV}(h:i_ bx i x y=.xU sc s b):s∈x.ids:=by
 unfold i_ at h;grind [SV.ids,C.ids]
def ME {V:ut}{p:Addr}:∀(cs:pz C) (i:Nat) {k:Prop},V.UY p i cs k↔V.UY p i cs True/\k
 | [],_,k=>by simp [View.UY]
 | c::r,i,k=>by
  simp only [View.UY];rw [ME r (i+1),and_assoc]
def Sb {V V':ut}(h:V.Le V'){p:Addr}:∀(cs:pz C) (i:Nat) {k:Prop},V.UY p i cs k->V'.UY p i cs k
 | [],_,_,hk=>hk
 | c::r,i,_,hk=>⟨h.at hk.1,Sb h r (i+1) hk.2⟩
def uu {V:ut}{p:OA}{x:SV}{k:Prop}:V.UX p x k↔V.UX p x True/\k:=by
 cases x with
 | agg cs=>
  simp only [View.UX];constructor
  ·rintro ⟨a,c,b⟩;rw [ME] at b;exact ⟨⟨a,c,b.1⟩,b.2⟩
  grind
 | _=>grind [View.UX]
def YI {V V':ut}(h:V.Le V'){p:OA}{x:SV}{k:Prop}(hk:V.UX p x k):V'.UX p x k:=by
 cases x with
 | c c=>obtain ⟨⟨a,b,d⟩,e⟩:=hk;exact ⟨⟨a,b,h.at d⟩,e⟩
 | agg cs=>obtain ⟨a,b,d⟩:=hk;exact ⟨a,b,Sb h _ _ d⟩
 | vk xs=>exact hk
def Cj.split:∀(s:Cj) {F:C->Prop},s.ex F->∃x,F x/\∀G:C->Prop,G x->s.ex G
 | .int _,_,⟨_,h⟩=>⟨_,h,λ_ g=>⟨_,g⟩⟩
 | .bool,_,⟨_,h⟩=>⟨_,h,λ_ g=>⟨_,g⟩⟩
 | .slice,_,⟨_,_,_,h⟩=>⟨_,h,λ_ g=>⟨_,_,_,g⟩⟩
 | .ptr,_,⟨_,h⟩=>⟨_,h,λ_ g=>⟨_,g⟩⟩
 | .str,_,⟨_,h⟩=>⟨_,h,λ_ g=>⟨_,g⟩⟩
 | .any,_,⟨_,h⟩=>⟨_,h,λ_ g=>⟨_,g⟩⟩
def qH:∀(l:pz Cj) {F:pz C->Prop},Xo l F->∃x,F x/\∀G:pz C->Prop,G x->Xo l G
 | [],_,h=>⟨_,h,λ_ g=>g⟩
 | s::r,_,h=>by
  have ⟨c,h1,h2⟩:=Cj.split s h;have ⟨cs,a,b⟩:=qH r h1;exact ⟨c::cs,a,λG g=>h2 _ (b _ g)⟩
def zj.split:∀(s:zj) {F:SV->Prop},s.ex F->∃x,F x/\∀G:SV->Prop,G x->s.ex G
 | .one s,_,h=>by have ⟨c,h1,h2⟩:=Cj.split s h;exact ⟨.c c,h1,λG g=>h2 _ g⟩
 | .agg l,_,h=>by have ⟨c,h1,h2⟩:=qH l h;exact ⟨.agg c,h1,λG g=>h2 _ g⟩
def vN:∀(l:pz zj) {F:pz (md×pz C)->Prop},Y8 l F->∃x,F x/\∀G:pz (md×pz C)->Prop,G x->Y8 l G
 | [],_,h=>⟨_,h,λ_ g=>g⟩
 | .one s::r,_,h=>by
  have ⟨c,h1,h2⟩:=Cj.split s h;have ⟨cs,a,b⟩:=vN r h1;exact ⟨_,a,λG g=>h2 _ (b _ g)⟩
 | .agg l::r,_,h=>by
  have ⟨c,h1,h2⟩:=qH l h;have ⟨cs,a,b⟩:=vN r h1;exact ⟨_,a,λG g=>h2 _ (b _ g)⟩
def Sh.split:∀(s:Sh) {F:SV->Prop},s.ex F->∃x,F x/\∀G:SV->Prop,G x->s.ex G
 | .val s,_,h=>zj.split s h
 | .vk l,_,h=>by have ⟨x,h1,h2⟩:=vN l h;exact ⟨_,h1,λG g=>h2 _ g⟩
 | .none,_,h=>⟨_,h,λ_ g=>g⟩
def Sh.s {s:Sh}{F G:SV->Prop}(h:s.ex F)(k:∀x,F x->G x):s.ex G:=by
 have ⟨x,a,b⟩:=s.split h;exact b G (k x a)
def Bp {l m:pz Nat}:SC l m=true↔∀x∈l,x∈m:=by
 simp only [SC,Qz3,dT]
def AF {op:Op}{x:Operand}(h:x∈op.operands.toList){t:Nat}(e:x=.tmp t):t∈jT op:=by
 subst e;exact List.mem_filterMap.2 ⟨_,h,rfl⟩
def qO {st st2:St}{op:Op}(h:∀t∈jT op,st2.ax t=st.ax t){x:Operand}(hx:x∈op.operands.toList):st2.bz x=st.bz x:=by
 cases x with
 | tmp t=>exact h t (AF hx rfl)
 | _=>rfl
def AE {op:Op}{x:Operand}(h:x∈jS op):x∈op.operands.toList:=by
 unfold jS at h;grind [Op.operands,Call.operands]
def vZ {ρ:Operand->Option SV}:∀{l:pz Operand} {xs:pz SV},cO ρ l=some xs->∀x∈l,∃v,ρ x=some v/\v∈xs
 | [],_,_,_,hx=>nomatch hx
 | o::r,xs,h,x,hx=>by
  simp only [cO] at h;split at h
  ·rename_i v l h1 h2;cases h;rcases Qq6.1 hx with e|hx
   ·exact ⟨v,by rw [e];exact h1,by simp⟩
   ·have ⟨u,hu,hm⟩:=vZ h2 x hx;grind
  ·cases h
structure Outcome (P:Program) (T:d_) (m:CM) (h:Hint) (o:Oper) (st:St) (V:View) (R W:List Nat) (K:St->View->Prop) (p:Nat->Option SV) (q:Nat->Option aV):Prop where
 pd:∀t,t∉fL o->p t=none
 qd:∀s,s∉W->q s=none
 next:K (ov p q st) V
 again:∀(st2:St)(V2:View)(K2:St->View->Prop),V.Le V2->(∀t∈jT o.op,st2.ax t=st.ax t)->(∀s∈R,st2.boxes s=st.boxes s)->K2 (ov p q st2) V2->dP P T m h o st2 V2 K2
variable {P:Program} {T:d_} {LF RF:List Nat} {m:CM}
def Fu {o:Oper}{t:Nat}(h:t∉fL o):o.dst≠some t:=by
 intro e;apply h;simp [fL,e]
def Vm {o:Oper}{st:St}{V:ut}{K:St->ut->Prop}{R W:pz Nat}{Q0:Q}
  (hnew:∀sc b x,Q0=.new sc b x->fL o=W/\fL o=R)(hupd:∀sc s b,Q0=.xU sc s b->s∈W)(happ:ew Q0≠6)
  (hv:xV Q0 o.dst st V K) :
  ∃p q,(∀t,t∉fL o->p t=none)/\(∀s,s∉W->q s=none)/\K (ov p q st) V /\
   ∀(st2:St)(V2:ut)(K2:St->ut->Prop),V.Le V2->(∀s∈R,st2.boxes s=st.boxes s)->K2 (ov p q st2) V2->xV Q0 o.dst st2 V2 K2:=by
 cases Q0 with
 | fail=>exact hv.elim
 | ret sc x=>
  obtain ⟨h,k⟩:=(fE sc _).1 hv;refine ⟨one o.dst x,λ_=>none,λt l=>eZ (Fu l),λ_ _=>rfl,by rw [←gC];exact k,?_⟩;intro st2 V2 K2 _ _ m;exact (fE sc _).2 ⟨h,by rw [gC];exact m⟩
 | new sc b x=>
  have ⟨r,u⟩:=hnew _ _ _ rfl;simp only [xV] at hv ⊢
  cases hd:o.dst with
  | none=>rw [hd] at hv;exact hv.elim
  | some d=>
   have n:fL o=[d]:=by simp [fL,hd]
   rw [hd] at hv;dsimp only at hv ⊢;split at hv
   ·rename_i v;obtain ⟨h,k⟩:=(fE sc _).1 hv;refine ⟨one (some d) (x d),one (some d) b,λt l=>eZ (by intro e;apply l;rw [n];simpa using e.symm),λs w=>eZ (by intro e;apply w;rw [←r,n];simpa using e.symm),by rw [←DU];exact k,?_⟩;intro st2 V2 K2 _ y m;rw [y d (by rw [←u,n];simp),v];exact (fE sc _).2 ⟨h,by rw [DU];exact m⟩
   ·exact hv.elim
 | xU sc s b=>
  simp only [xV] at hv ⊢
  cases hd:o.dst with
  | some d=>rw [hd] at hv;exact hv.elim
  | none=>grind [fE,eZ,Pv]
 | rd a sh=>
  have ⟨x,h,k⟩:=sh.split hv;have ⟨z,A⟩:=uu.1 h;refine ⟨one o.dst x,λ_=>none,λt l=>eZ (Fu l),λ_ _=>rfl,by rw [←gC];exact A,?_⟩;intro st2 V2 K2 hle _ m;exact k _ (uu.2 ⟨YI hle z,by rw [gC];exact m⟩)
 | rI vs of size sh=>
  have ⟨x,h,k⟩:=sh.split hv;refine ⟨one o.dst x,λ_=>none,λt l=>eZ (Fu l),λ_ _=>rfl,by rw [←gC];exact h.2,?_⟩;intro st2 V2 K2 hle _ m;exact k _ ⟨h.1,by rw [gC];exact m⟩
 | app a b c d e f g i j=>exact absurd rfl happ
 | vV a b c d e f g i=>exact absurd rfl happ
def Ba {o:Oper}(h:pY (bD LF RF o.op)=true)(st:St)(V:ut)(K:St->ut->Prop):dX P T m o st V K=xV (aR T st.bz st.boxes o.op) o.dst st V K:=by
 unfold dX;split
 ·rename_i f args b a;rw [a] at h;exfalso
  cases f with
  | func f=>
   simp only [bD] at h;split at h
   ·split at h<;>cases h
   ·split at h
    ·cases h
    ·split at h<;>cases h
  | _=>cases h
 ·rename_i recv name args b a;rw [a] at h;cases h
 ·rfl
def s_ {ρ:Operand->Option SV}{bx:Nat->Option aV}{op:Op}:ew (aR T ρ bx op)=2->bD LF RF op=.alloc:=by
 have fW:∀{q:Q} {X:Prop},ew q<=1->ew q=2->X:=by intro q X h h';omega
 unfold aR;split
 case h_8=>
  split
  ·intro h;rcases EO (bx:=bx) with h'|h'|h'|h'<;>(rw [h'] at h;cases h)
  ·exact fW (Qq4 _)
 case h_9=>
  split
  ·intro h;rcases Bx (bx:=bx) with h'|h'<;>(rw [h'] at h;cases h)
  ·exact fW (Qq4 _)
 case h_11=>
  split
  ·split
   ·split
    ·exact fW uL
    ·exact fW (Qq4 _)
   ·exact fW uL
  ·exact fW (Qq4 _)
 case h_17=>exact λ_=>rfl
 case h_18=>
  split
  ·split
   ·split
    ·exact fW Bw
    ·exact fW (Qq4 _)
   ·exact fW (Qq4 _)
  ·exact fW (Qq4 _)
 case h_21=>
  split
  ·exact fW qi
  ·exact fW (Qq4 _)
 case h_23 c=>
  split
  ·intro h;exfalso;split at h<;>(try split at h)<;>(try split at h)<;>(try split at h)<;>first|(rcases qh (bx:=bx) with h'|h'<;>(rw [h'] at h;cases h))|cases h
  ·split
   ·intro h;rcases Bv (T:=T) (bx:=bx) with h'|h'<;>(rw [h'] at h;cases h)
   ·exact fW (Qq4 _)
  ·split
   ·split
    ·exact fW uM
    ·exact fW (Qq4 _)
   ·exact fW (Qq4 _)
  ·exact fW (Qq4 _)
 all_goals
  first
  | exact λ_=>rfl
  | exact fW (Qq4 _)
  | ((repeat' split)<;>first|exact fW (Qq4 _)|exact fW (Qq2 _)|exact fW rL|(unfold A9;(repeat' split)<;>first|exact fW (Qq4 _)|exact fW (Qq2 _)))
def Eo {st st2:St}{op:Op}(h:∀t∈jT op,st2.ax t=st.ax t):cO st2.bz (jS op)=cO st.bz (jS op):=
 fO _ λ_ a=>qO h (AE a)
def qR {h:Hint}{o:Oper}{st:St}{V:ut}{K:St->ut->Prop}{R W:pz Nat}(hq:pY (bD LF RF o.op)=true)(hrw:uD (bD LF RF o.op) h (fL o)=some (R,W))
  (hv:dP P T m h o st V K):∃p q,Outcome P T m h o st V R W K p q:=by
 have core:(∀g:St,(∀t∈jT o.op,g.ax t=st.ax t)->(∀s∈R,g.boxes s=st.boxes s)->aR T g.bz g.boxes o.op=aR T st.bz st.boxes o.op) ->
   (∀C b x,aR T st.bz st.boxes o.op=.new C b x->fL o=W/\fL o=R)->(∀C s b,aR T st.bz st.boxes o.op=.xU C s b->s∈W) ->
   (∀(g:St)(V2:ut)(D:St->ut->Prop),(∀t∈jT o.op,g.ax t=st.ax t)->dX P T m o g V2 D->dP P T m h o g V2 D) ->
   dX P T m o st V K->∃p q,Outcome P T m h o st V R W K p q:=by
  intro he Q hu B hv;rw [Ba hq] at hv
  have ⟨p,q,S,U,X,Y⟩:=Vm (R:=R) (W:=W) Q hu (λn=>by
   obtain ⟨Z,d,E⟩:=(il (T:=T) (ρ:=st.bz) (bx:=st.boxes) (op:=o.op)).2.2 n;rw [d] at hq;obtain ⟨F,args,J⟩:=Z;dsimp only at E;subst E;cases hq) hv
  refine ⟨p,q,S,U,X,λg V2 D hle G H hK=>?_⟩;refine B g V2 D G ?_;rw [Ba hq,he g G H];exact Y g V2 D hle H hK
 have L:bD LF RF o.op=.pure\/bD LF RF o.op=.alloc->h=.free->(bD LF RF o.op=.alloc->R=fL o/\W=fL o)->∃p q,Outcome P T m h o st V R W K p q:=by
  intro j hf hd;subst hf;refine core (λg z _=>?_) (λC b x n=>?_) (λC s b n=>?_) (λ_ _ _ _ B=>B) hv
  ·rw [R7 (bx':=st.boxes) j];exact pX λx I=>qO z I
  ·have:=hd (s_ (by rw [n];rfl));exact ⟨this.2.symm,this.1.symm⟩
  ·rcases (il (T:=T) (ρ:=st.bz) (bx:=st.boxes) (op:=o.op)).1 (by rw [n];rfl) with ⟨t,y,x,d⟩|⟨⟨F,args,J⟩,d,E⟩
   ·rw [d] at j;rcases j with j|j<;>cases j
   ·dsimp only at E;subst E;rw [d] at j;rcases j with j|j<;>cases j
 generalize j:bD LF RF o.op=c at hrw hq L
 cases c with
 | pure=>
  cases h with
  | free=>exact L (.inl rfl) rfl (λe=>by cases e)
  | own l=>cases hrw
 | alloc=>
  cases h with
  | free=>
   simp only [uD,Qw1,Qm3] at hrw;exact L (.inr rfl) rfl (λ_=>⟨hrw.1.symm,hrw.2.symm⟩)
  | own l=>cases hrw
 | load=>
  cases h with
  | free=>cases hrw
  | own l=>
   simp only [uD,Qw1,Qm3] at hrw;obtain ⟨rfl,rfl⟩:=hrw
   have d:∃t a,o.op=.load t a:=by
    generalize o.op=op at j
    cases op with
    | load t a=>exact ⟨t,a,rfl⟩
    | call c=>obtain ⟨F,args,J⟩:=c;cases F with
     | builtin b=>cases b<;>cases j
     | value f=>cases f with
      | func f=>simp only [bD] at j;split at j<;>(try split at j)<;>(try split at j)<;>(try split at j)<;>cases j
      | _=>cases j
     | _=>cases j
    | _=>cases j
   obtain ⟨t,a,d⟩:=d;unfold dP at hv;dsimp only at hv;split at hv
   ·rename_i xs r;split at hv
    ·rename_i k
     have M:∀v,st.bz a=some v->∀s∈v.ids,s∈l:=by
      intro v tD s z;rw [Bp] at k;apply k;rw [d] at r;have ⟨u,hu,hm⟩:=vZ r a (by simp [jS]);rw [d];simp only [fV];grind
     refine core (λg z B=>?_) (λC b x n=>?_) (λC s b n=>?_) (λg V2 D z B=>?_) hv
     ·rw [d] at z ⊢;rw [pX (ρ':=st.bz) λx I=>qO z I];simp only [aR];grind [R9]
     ·have:=s_ (LF:=LF) (RF:=RF) (op:=o.op) (T:=T) (ρ:=st.bz) (bx:=st.boxes) (by rw [n];rfl);rw [d] at this;cases this
     ·rcases (il (T:=T) (ρ:=st.bz) (bx:=st.boxes) (op:=o.op)).1 (by rw [n];rfl) with ⟨t,y,x,A⟩|⟨c,A,-⟩<;>(rw [d] at A;cases A)
     ·unfold dP;dsimp only;rw [Eo z,r];dsimp only;have:fV g.boxes o.op (xs.flatMap SV.ids)=fV st.boxes o.op (xs.flatMap SV.ids):=by rw [d];rfl
      rw [this,k];exact B
    ·exact hv.elim
   ·exact hv.elim
 | store=>
  cases h with
  | free=>cases hrw
  | own l=>
   simp only [uD,Qw1,Qm3] at hrw;obtain ⟨rfl,rfl⟩:=hrw
   have d:∃t a x,o.op=.store t a x:=by
    generalize o.op=op at j
    cases op with
    | store t a x=>exact ⟨t,a,x,rfl⟩
    | call c=>obtain ⟨F,args,J⟩:=c;cases F with
     | builtin b=>cases b<;>cases j
     | value f=>cases f with
      | func f=>simp only [bD] at j;split at j<;>(try split at j)<;>(try split at j)<;>(try split at j)<;>cases j
      | _=>cases j
     | _=>cases j
    | _=>cases j
   obtain ⟨t,a,y,d⟩:=d;unfold dP at hv;dsimp only at hv;split at hv
   ·rename_i xs r;split at hv
    ·rename_i k
     have M:∀v,st.bz a=some v->∀s∈v.ids,s∈l:=by
      intro v tD s z;rw [Bp] at k;apply k;rw [d] at r;have ⟨u,hu,hm⟩:=vZ r a (by simp [jS]);rw [d];simp only [fV];grind
     refine core (λg z B=>?_) (λC b x n=>?_) (λC s b n=>?_) (λg V2 D z B=>?_) hv
     ·rw [d] at z ⊢;rw [pX (ρ':=st.bz) λx I=>qO z I];simp only [aR];split
      ·rename_i i v w hi N hw;exact (Ow λs O=>B s (M v N s O)).symm
      ·rfl
     ·have:=s_ (LF:=LF) (RF:=RF) (op:=o.op) (T:=T) (ρ:=st.bz) (bx:=st.boxes) (by rw [n];rfl);rw [d] at this;cases this
     ·rw [d] at n;simp only [aR] at n;split at n
      ·rename_i i v w hi N hw;exact M v N s (KW n)
      ·cases n
     ·unfold dP;dsimp only;rw [Eo z,r];dsimp only;have:fV g.boxes o.op (xs.flatMap SV.ids)=fV st.boxes o.op (xs.flatMap SV.ids):=by rw [d];rfl
      rw [this,k];exact B
    ·exact hv.elim
   ·exact hv.elim
 | _=>cases hq
end Go.Eng
namespace Go.Eng
variable {P:Program} {T:d_} {LF RF:List Nat} {m:CM}
def Good (p:Nat->Option SV)(q:Nat->Option aV)(W D:List Nat)(st:St)(V:View)(K:St->View->Prop):St->View->Prop:=
 λst2 V2=>V.Le V2/\(∀t,t∉D->st2.ax t=st.ax t)/\(∀s,s∉W->st2.boxes s=st.boxes s)/\K (ov p q st2) V2
def tF {bx bx':Nat->Option aV}:∀{l:pz Nat},(∀s∈l,bx' s=bx s)->l.flatMap (nI bx')=l.flatMap (nI bx)
 | [],_=>rfl
 | s::r,h=>by
  simp only [Qy2];rw [tF λs hs=>h s (by simp [hs])];simp only [nI];rw [h s (by simp)]
def pZ {bx bx':Nat->Option aV}:∀(n:Nat)(l:pz Nat),(∀s∈reach bx n l,bx' s=bx s)->reach bx' n l=reach bx n l
 | 0,_,_=>rfl
 | n+1,l,h=>by
  have hl:∀s∈l,bx' s=bx s:=λs a=>h s (fY (n+1) l s a);simp only [reach] at h ⊢;rw [tF hl];exact pZ n _ h
def CK {bx bx':Nat->Option aV}{l:pz Nat}(h:∀s∈l,bx' s=bx s):jq bx' l=jq bx l:=by
 unfold jq;rw [Qz5,Qz3,Qz3];constructor
 ·intro g s a;have:=g s a;simp only [nI] at this ⊢;rw [h s a] at this;exact this
 ·intro g s a;have:=g s a;simp only [nI] at this ⊢;rw [h s a];exact this
def fg:∀{L:pz Nat} {β:Nat->Nat} {k k':(Nat->Nat)->Prop},(∀β,k β->k' β)->mF L β k->mF L β k'
 | [],_,_,_,h,g=>h _ g
 | _::_,_,_,_,h,g=>λb=>fg h (g b)
def AM {bx bx':Nat->Option aV}{b:aV}{β:Nat->Nat}{s:Nat}:∀{r:pz Nat} {k k':Prop},(∀t∈r,bx' t=bx t)->(k->k')->Wy bx b β s r k->Wy bx' b β s r k'
 | [],_,_,_,h,g=>h g
 | t::r,k,k',hb,h,g=>by
  have hr:=λt a=>hb t (Qq8 _ a);simp only [Wy] at g ⊢;rw [hb t (by simp)]
  cases hbq:Nat.beq s t with
  | true=>rw [hbq] at g;exact AM hr h g
  | false=>
   rw [hbq] at g;simp only [cond_false] at g ⊢;split at g
   ·exact λc=>AM hr h (g c)
   ·exact g
def kT {bx bx':Nat->Option aV}{β:Nat->Nat}{V:ut}:∀{L:pz Nat} {k k':Prop},(∀s∈L,bx' s=bx s)->((∀s∈L,∃b,bx s=some b/\(b.live->V.H (β s)))->k->k')->jW bx β V L k->jW bx' β V L k'
 | [],_,_,_,h,g=>h (λs hs=>absurd hs (by simp)) g
 | s::r,k,k',hb,h,g=>by
  have hr:=λt a=>hb t (Qq8 _ a);simp only [jW] at g ⊢;rw [hb s (by simp)];split at g
  ·rename_i b c;refine λd e=>kT hr (λi=>AM hr (λf=>h (λt a=>?_) f)) (g d e)<;>grind [ke.1]
  ·exact g
def lS {mv:Option (Nat×Nat)}:∀{cs zs:pz C} {K K':pz C->Prop},(∀c,K c->K' c)->nW mv cs zs K->nW mv cs zs K'
 | [],_,_,_,h,g=>h _ g
 | _::_,[],_,_,_,g=>g.elim
 | c::r,z::zr,K,K',h,g=>by
  simp only [nW] at g ⊢;split at g
  ·split at g
   ·split at g
    ·obtain ⟨n,c,g⟩:=g;exact ⟨n,c,lS (λcs a=>h _ a) g⟩
    ·exact g.elim
   ·exact g.elim
  ·split at g
   ·have ⟨v,b,d⟩:=Cj.split _ g;rename_i e;rw [e] at *;exact d _ (lS (λcs a=>h _ a) b)
   ·exact lS (λcs a=>h _ a) g
variable {p:Nat->Option SV} {q:Nat->Option aV}
def lV {mv:Option (Nat×Nat)}{β:Nat->Nat}{V:ut}{W:pz Nat}:∀{L:pz Nat} {st:St} {k k':St->Prop},(∀s∈L,q s=none/\s∈W) ->
  (∀st',(∀t,st'.ax t=st.ax t)->(∀s,s∉W->st'.boxes s=st.boxes s)->k (ov p q st')->k' st')->fM T mv β V L (ov p q st) k->fM T mv β V L st k'
 | [],st,k,k',_,h,g=>h st (λ_=>rfl) (λ_ _=>rfl) g
 | s::r,st,k,k',hq,h,g=>by
  have ⟨X3,hsW⟩:=hq s (by simp);have f:∀s∈r,q s=none/\s∈W:=λs j=>hq s (by simp [j])
  have a:∀b:aV,∀d:St->Prop,(∀st',d st'=k st')->fM T mv β V r ((ov p q st).box s b) d->fM T mv β V r (st.box s b) k':=by
   intro b d e g;rw [oz X3] at g;refine lV f (λst' l o c=>h st' l (λu m=>?_) (by rw [←e];exact c)) g<;>grind [aj]
  simp only [fM] at g ⊢;rw [cJ X3] at g;split at g
  ·rename_i cs ty v;split at g
   ·rename_i i w;exact lS (λn c=>⟨c.1,a _ _ (λ_=>rfl) c.2⟩) g
   ·exact g
  ·grind
  ·grind
  ·exact g
def yP (V:ut)(l:pz Nat):V.Le (V.ar l):=λ_ _ h=>h
def Mp (V:ut):V.Le V.shut:=λ_ _ h=>h
def Av {V V' fo:ut}{P:Prop}{b:Nat}(h:V.Le fo)(h':V.Le V')(hb:P->V'.w.heap.size<=b\/V'.H b):V.Le (fo.shut.bg P b):=by
 intro x o c;have ⟨d,f⟩:=h x o c;have ⟨g,i⟩:=h' x o c;refine ⟨λa=>?_,f⟩;rcases a with a|⟨j,e,-⟩
 ·exact d a
 grind
def Rh {m:Option Nat}{d:Nat}:gJ m d=d\/gJ m d=d+200000:=by
 cases m with
 | none=>exact .inl rfl
 | some m=>
  simp only [gJ,rF];grind
def oo {give:md}{sh:Sh}{L:pz Nat}{mm:Option Nat}{d:Nat}{ety:TypeId}{β:Nat->Nat}{st:St}{V V' fo:ut}{K K':St->ut->Prop}{W D:pz Nat}{r':un}
  (hL:∀s∈L,q s=none/\s∈W)(hm:∀k,mm=some k->k∈L)(hp:p d=none/\d∈D)(hq:q (gJ mm d)=none/\gJ mm d∈W)(hV:V.Le V')(hV2:V.Le fo)
  (hlv:∀s∈L,∃b,st.boxes s=some b/\(b.live->V'.H (β s)))(hK:∀s2 V2,Good p q W D st V K s2 V2->K' s2 V2)
  (h:cG T give sh L mm d ety β (ov p q st) V' K r' fo):cG T give sh L mm d ety β st V' K' r' fo:=by
 unfold cG at h ⊢;obtain ⟨g,a,u,v,y⟩:=h
 have i:a≠[]->V'.w.heap.size<=g\/Cd mm st β g:=by
  intro c;refine (v c).imp id λh=>?_;unfold Cd at h ⊢;grind [cJ]
 have z:a≠[]->V'.w.heap.size<=g\/V'.H g:=by
  intro c;refine (i c).imp id λh=>?_;unfold Cd at h
  cases mm with
  | none=>exact h.elim
  | some k=>
   dsimp only at h;have ⟨A,n,B⟩:=hlv k (hm k rfl);rw [n] at h;obtain ⟨cs,ty⟩:=A;cases cs<;>grind [dJ,dK,fX]
 refine ⟨g,a,u,i,Sh.s y λx r=>⟨r.1,?_⟩⟩
 have C:(tZ mm ety (ov p q st)).box (gJ mm d) ⟨.aB a,ety⟩=ov p q ((tZ mm ety st).box (gJ mm d) ⟨.aB a,ety⟩):=by
  cases mm with
  | none=>exact oz hq.1
  | some k=>
   simp only [tZ];grind [oz]
 have j:=r.2;rw [C] at j
 have l:∀s∈Ic mm L,q s=none/\s∈W:=by
  intro s f
  cases mm with
  | none=>exact hL s f
  | some k=>exact hL s (AG.1 f).1
 refine lV l (λo E F m=>?_) j;rw [kW (λk m=>by cases m;exact hp.1)] at m;refine hK _ _ ⟨Av hV2 hV z,?_,?_,m⟩
 ·intro t G;rw [eI,if_neg (λe=>G (by rw [e];exact hp.2)),E];cases mm<;>rfl
 ·intro s f;show o.boxes s=_;rw [F s f,aj,if_neg (λe=>f (by rw [e];exact hq.2))]
  cases mm with
  | none=>rfl
  | some k=>simp only [tZ];rw [aj,if_neg (λe=>f (by rw [e];exact (hL k (hm k rfl)).2))]
theorem Rb {bx:Nat->Option aV}{L:pz Nat}(hcl:jq bx L=true):∀k,k∈uo bx L->k∈L:=by
 intro k a;unfold uo at a;have ⟨s,b,a⟩:=Qy4.1 (cw.1 a);split at a
 ·rename_i cs ty d;refine fK hcl b d k ?_
  have:∀cs:pz C,k∈sM cs->k∈cs.flatMap C.ids:=by
   intro cs
   induction cs with
   | nil=>exact λh=>nomatch h
   | cons c r ih=>
    intro h;rw [Qy2,Qw3]
    cases c<;>simp only [sM,Qq6] at h<;>first
     | exact .inr (ih h)
     | (rcases h with h|h
        ·left;simp [C.ids,h]
        ·exact .inr (ih h))
  exact this cs a
 ·cases a
theorem Ad {xs:pz SV}:∀k,k∈nY xs->k∈xs.flatMap SV.ids:=by
 intro k
 induction xs with
 | nil=>exact λh=>nomatch h
 | cons x r ih=>
  intro h;rw [Qy2,Qw3];unfold nY at h;split at h
  ·rename_i heq;cases heq
  ·rename_i s n c a heq;cases heq;exact .inl h
  ·rename_i s n c a heq;cases heq;exact .inl h
  grind
def w_ {bx bx':Nat->Option aV}{L:pz Nat}(h:∀s∈L,bx' s=bx s):uo bx' L=uo bx L:=by
 unfold uo;congr 1
 induction L<;>grind
def iG {st:St}{mm:Option Nat}{d:Nat}(h:q (gJ mm d)=none):kV (ov p q st) mm d=kV st mm d:=by
 unfold kV;rw [cJ h]
def wY {bx bx':Nat->Option aV}{β:Nat->Nat}{N:Nat}{L:pz Nat}(h:∀s∈L,bx' s=bx s):L.map (eG bx' β N)=L.map (eG bx β N):=
 Qv2 λs a=>by unfold eG;rw [h s a]
def Cc:∀{L:pz Nat} {st:St},(∀s∈L,q s=none)->eu (ov p q st) L 0=ov p q (eu st L 0)
 | [],_,_=>rfl
 | s::r,st,h=>by
  show eu ((ov p q st).box s ⟨.aB [],0⟩) r 0=ov p q (eu (st.box s ⟨.aB [],0⟩) r 0);rw [oz (h s (by simp))];exact Cc λs hs=>h s (by simp [hs])
def wc {bx bx':Nat->Option aV}{β:Nat->Nat}{V:ut}:∀{L:pz Nat} {k k':Prop},(∀s∈L,bx' s=bx s)->(k->k')->sO bx β V L k->sO bx' β V L k'
 | [],_,_,_,h,g=>h g
 | s::r,k,k',hb,h,g=>by
  simp only [sO] at g ⊢;rw [hb s (by simp)];split at g
  ·exact λh1=>wc (λt ht=>hb t (Qq8 _ ht)) h (g h1)
  ·exact g.elim
def km {f:FuncId}{xs:pz SV}{ty:TypeId}{dst:Option Nat}{st:St}{V:ut}{K:St->ut->Prop}{W D:pz Nat}
  (hm:m=.none\/((m=.ar\/m=.give)/\(∀s∈reach (ov p q st).boxes 3 (dedup (xs.flatMap SV.ids)),q s=none/\s∈W)/\∀k,dst=some k->∀mm,q (gJ mm k)=none/\gJ mm k∈W))(hd:∀k,dst=some k->p k=none/\k∈D)
  {K':St->ut->Prop}(hK:∀s2 V2,Good p q W D st V K s2 V2->K' s2 V2)(hv:gW P T m f xs ty dst (ov p q st) V K):gW P T m f xs ty dst st V K':=by
 have A:∀(n:St)(x:SV),(∀t,n.ax t=st.ax t)->∀t,t∉D->(n.put dst x).ax t=st.ax t:=by
  intro n x h t c
  cases dst with
  | none=>exact h t
  | some d=>rw [eI,if_neg (λe=>c (by rw [e];exact (hd d rfl).2))];exact h t
 have G:∀(n:St)(x:SV),(n.put dst x).boxes=n.boxes:=by intro n x;cases dst<;>rfl
 unfold gW at hv ⊢;split at hv
 ·exact hv.elim
 ·rename_i X a2
  have H:∀L,reach (ov p q st).boxes 3 (dedup (xs.flatMap SV.ids))=L->(∀s∈L,q s=none)->reach st.boxes 3 (dedup (xs.flatMap SV.ids))=L:=by
   intro L hL Z;rw [←hL];exact pZ 3 _ λs y=>(cJ (Z s (by rw [←hL];exact y))).symm
  have Wh:∀s∈xs.flatMap SV.ids,s∈reach (ov p q st).boxes 3 (dedup (xs.flatMap SV.ids)):=λs y=>fY 3 _ s (cw.2 y);generalize hr:reach (ov p q st).boxes 3 (dedup (xs.flatMap SV.ids))=L at hv hm Wh
  cases L with
  | nil=>
   rw [H _ hr (λs y=>nomatch y)]
   have plain:(∀g:ut,V.Le g->aa P f (aH (λ_=>0) xs) g λr B=>X.ex λx=>r=x.den (λ_=>0)/\K ((ov p q st).put dst x) B) ->
     ∀g:ut,V.Le g->aa P f (aH (λ_=>0) xs) g λr B=>X.ex λx=>r=x.den (λ_=>0)/\K' (st.put dst x) B:=by
    intro hv g b;refine (hv g b).s λr B hle l=>Sh.s l λx C=>⟨C.1,?_⟩;have z:=C.2;rw [kW (λk l=>(hd k l).1)] at z;exact hK _ _ ⟨b.m hle,A st x λ_=>rfl,λs _=>by rw [G],z⟩
   rcases hm with rfl|⟨rfl|rfl,-,i⟩
   ·exact plain hv
   ·exact plain hv
   ·dsimp only at hv ⊢;split at hv
    ·rename_i d o a3;rw [iG (i d rfl Option.none).1] at hv;split at hv
     ·exact hv.elim
     ·rename_i u;intro g b;refine (hv g b).s λr B hle l=>?_;exact oo (W:=W) (D:=D) (λs y=>absurd y (by simp)) (λk l=>by cases l) (hd d rfl) (i d rfl Option.none) b (b.m hle) (λs y=>absurd y (by simp)) hK l
    ·exact plain hv
    ·exact hv.elim
  | cons s r=>
   dsimp only at hv;split at hv
   ·exact hv.elim
   ·rename_i M
    have ar:m=.ar\/m=.give->(∀t∈s::r,q t=none/\t∈W)->(∀k,dst=some k->∀mm,q (gJ mm k)=none/\gJ mm k∈W) ->
      ∀{give:md} {mm:Option Nat} {d:Nat} {o:TypeId},dst=some d->(∀k,mm=some k->k∈s::r) ->
      (∀g:ut,V.Le g->mF (s::r) (λ_=>0) λβ=>jW (ov p q st).boxes β g (s::r) (aa P f (aH β xs) (g.ar ((s::r).map (eG (ov p q st).boxes β g.w.heap.size))) (cG T give X (s::r) mm d o β (ov p q st) g K))) ->
      ∀g:ut,V.Le g->mF (s::r) (λ_=>0) λβ=>jW st.boxes β g (s::r) (aa P f (aH β xs) (g.ar ((s::r).map (eG st.boxes β g.w.heap.size))) (cG T give X (s::r) mm d o β st g K')):=by
     intro _ a i give mm d o E N hv g b;have F:∀t∈s::r,st.boxes t=(ov p q st).boxes t:=λt c=>(cJ (a t c).1).symm;refine fg (λβ I=>?_) (hv g b);rw [wY (bx:=(ov p q st).boxes) F];refine kT (bx:=(ov p q st).boxes) F (λhH v=>?_) I;refine v.s λr' B hle l=>?_;have O:V.Le B:=(b.m (yP g _)).m hle;exact oo a N (hd d E) (i d E mm) b O (λt c=>by rw [F t c];exact hH t c) hK l
    have base:m=.ar\/m=.give->(∀t∈s::r,q t=none/\t∈W)/\(∀k,dst=some k->∀mm,q (gJ mm k)=none/\gJ mm k∈W):=by
     intro h;rcases hm with rfl|⟨-,Q,z⟩
     ·rcases h with h|h<;>cases h
     ·exact ⟨Q,z⟩
    have R:(∀t∈s::r,q t=none/\t∈W)->jq st.boxes (s::r)=true:=λa=>by
     rw [CK (bx:=(ov p q st).boxes) (λt c=>(cJ (a t c).1).symm)];exact M
    split at hv
    ·exact hv.elim
    ·exact hv.elim
    ·
     have ⟨a,i⟩:=base (.inr rfl);rw [H _ hr (λt c=>(a t c).1)];dsimp only;rw [R a];dsimp only;have J:=w_ (bx:=(ov p q st).boxes) (bx':=st.boxes) (L:=s::r) (λt c=>(cJ (a t c).1).symm);rw [J];split at hv
     ·rename_i d o Q z h3;rw [iG (i d rfl _).1] at hv;split at hv
      ·exact hv.elim
      ·rename_i u;exact ar (.inr rfl) a i rfl (λk l=>by cases l) hv
     ·rename_i d o k Q z h3;have S:k∈s::r:=Wh k (Ad k (by rw [z];simp));have a0:Gg (ov p q st).boxes k o=Gg st.boxes k o:=by unfold Gg;rw [cJ (a k S).1]
      rw [a0] at hv;split at hv
      ·rw [iG (i d rfl _).1] at hv;split at hv
       ·exact hv.elim
       ·rename_i u;exact ar (.inr rfl) a i rfl (λj hj=>by cases hj;exact S) hv
      ·rw [Cc (λt c=>(a t c).1),iG (i d rfl _).1] at hv;split at hv
       ·exact hv.elim
       ·rename_i u;split at hv
        ·exact hv.elim
        ·intro g b;refine fg (λβ I=>?_) (hv g b);refine wc (bx:=(ov p q st).boxes) (λt c=>(cJ (a t c).1).symm) (λv=>?_) I;refine v.s λr' B hle l=>?_;exact oo (W:=W) (D:=D) (st:=eu st (s::r) 0) (λs y=>absurd y (by simp)) (λk l=>by cases l) (hd d rfl) (i d rfl Option.none) b (b.m hle) (λs y=>absurd y (by simp)) (λs2 V2 Y=>hK s2 V2 ⟨Y.1,λt c=>(Y.2.1 t c).m (by rw [jH]),λt c=>(Y.2.2.1 t c).m (by rw [bo,if_neg λh=>c (a t h).2]),Y.2.2.2⟩) l
     ·split at hv
      ·exact hv.elim
      ·rw [Cc (λt c=>(a t c).1)] at hv;intro g b;refine fg (λβ I=>?_) (hv g b);refine wc (bx:=(ov p q st).boxes) (λt c=>(cJ (a t c).1).symm) (λv=>?_) I;refine v.s λr' B hle l=>Sh.s l λx C=>⟨C.1,?_⟩;have z:=C.2;rw [kW (λk l=>(hd k l).1)] at z;exact hK _ _ ⟨b.m hle,A (eu st (s::r) 0) x λt=>by rw [jH],λt c=>by rw [G,bo,if_neg λh=>c (a t h).2],z⟩
     ·exact hv.elim
    ·
     have ⟨a,i⟩:=base (.inl rfl);rw [H _ hr (λt c=>(a t c).1)];dsimp only;rw [R a];dsimp only;have F:∀t∈s::r,st.boxes t=(ov p q st).boxes t:=λt c=>(cJ (a t c).1).symm;have J:=w_ (bx:=(ov p q st).boxes) (bx':=st.boxes) (L:=s::r) F;rw [J];split at hv
     ·intro g b;refine fg (λβ I=>?_) (hv g b);rw [wY (bx:=(ov p q st).boxes) F];refine kT (bx:=(ov p q st).boxes) F (λ_ v=>?_) I;refine v.s λr' B hle l=>Sh.s l λx C=>⟨C.1,?_⟩;refine lV a (λn Q z l=>?_) C.2;rw [kW (λk l=>(hd k l).1)] at l;exact hK _ _ ⟨((b.m (yP g _)).m hle).m (Mp _),A n x Q,λt c=>by rw [G];exact z t c,l⟩
     ·rename_i k l;have U:k∈s::r:=Rb M k (by rw [l];simp);have a1:mH st.boxes k=mH (ov p q st).boxes k:=by unfold mH;rw [F k U]
      rw [a1];split at hv
      ·rename_i d o a4;rw [iG (i d rfl _).1] at hv;split at hv
       ·exact hv.elim
       ·rename_i u;exact ar (.inl rfl) a i rfl (λj hj=>by cases hj;exact U) hv
      ·exact hv.elim
     ·exact hv.elim
    grind
def IG {bx:Nat->Option aV}:∀(n:Nat) {l l':pz Nat},(∀x∈l,x∈l')->∀x∈reach bx n l,x∈reach bx n l'
 | 0,_,_,h,x,hx=>h x hx
 | n+1,l,l',h,x,hx=>by
  simp only [reach] at hx ⊢;refine IG n (λy hy=>?_) x hx<;>grind [cw]
def xB {f:FuncId}{xs:pz SV}{ty:TypeId}{dst:Option Nat}{st:St}{V:ut}{K:St->ut->Prop}{W D:pz Nat}
  (hm:m=.none\/((m=.ar\/m=.give)/\(∀s∈reach (ov p q st).boxes 3 (dedup (xs.flatMap SV.ids)),q s=none/\s∈W)/\∀k,dst=some k->∀mm,q (gJ mm k)=none/\gJ mm k∈W))(hd:∀k,dst=some k->p k=none/\k∈D)
  {K':St->ut->Prop}(hK:∀s2 V2,Good p q W D st V K s2 V2->K' s2 V2)(hv:my P T m f xs ty dst (ov p q st) V K):my P T m f xs ty dst st V K':=by
 have a:=hm
 cases m with
 | ar=>
  obtain ⟨d,g⟩:(∀s∈reach (ov p q st).boxes 3 (dedup (xs.flatMap SV.ids)),q s=none/\s∈W)/\∀k,dst=some k->∀mm,q (gJ mm k)=none/\gJ mm k∈W:=by grind
  unfold my at hv ⊢;dsimp only at hv ⊢;rw [uK (bx:=st.boxes) (bx':=(ov p q st).boxes) (λs b=>cJ (d s (fY 3 _ s (cw.2 b))).1)] at hv;split at hv
  ·rename_i j c h e;exact ⟨λhe=>⟨(hv.1 he).1,km (.inr ⟨.inl rfl,λs b=>d s (IG 3 (λx i=>cw.2 (Bo e x (cw.1 i))) s b),g⟩) hd hK (hv.1 he).2⟩,λhe=>km a hd hK (hv.2 he)⟩
  ·exact km a hd hK hv
 | _=>exact km a hd hK hv
theorem FW {p2:Nat->Option SV}{q2:Nat->Option aV}{st:St}(hp:∀t,p t=none\/p2 t=none)(hq:∀t,q t=none\/q2 t=none):ov p q (ov p2 q2 st)=ov p2 q2 (ov p q st):=by
 unfold ov;grind
def EZ:Q->Option Nat
 | .app old _ _ _ _ _ _ _ _=>old
 | .vV s _ _ _ _ _ _ _=>some s
 | _=>none
def MC (T:d_)(bx:Nat->Option aV)(l:Option (List SV))(ts:List TypeId):Q:=
 match l,ts with
 | some [b,x],[t,t']=>match aD T t,aD T t' with
  | some i,some i'=>match i.k,i'.k with
   | .slice e,.slice _=>match aD T e with
    | some ei=>cY bx e ei b x
    | none=>.fail
   | _,_=>.fail
  | _,_=>.fail
 | _,_=>.fail
def E0 (bx:Nat->Option aV)(sz:Nat)(x:SV):Option (OA×Nat ⊕ List Value):=
 match x with
 | .c (.v (.slice a k _))=>some (.inl (a,k))
 | .c (.oF s o k _)=>match bx s with
  | some ⟨.row ws,_⟩=>some (.inr (aI ws o (k*sz)))
  | _=>match fR bx s with
   | some ws=>if Nat.ble (o+k*sz) ws.length then some (.inr ((ws.drop o).take (k*sz))) else none
   | none=>none
 | .c (.eM s k c)=>match bx s with
  | some ⟨.aB ws,_⟩=>some (.inr (qf ws k c sz))
  | _=>none
 | _=>none
def LS (bx:Nat->Option aV)(e:TypeId)(ei:TI)(b:SV)(src:OA×Nat ⊕ List Value):Q:=
 match b with
 | .c (.v (.slice a n c))=>.app none a [] n c src ei.size ei.bytes e
 | .c (.oF s 0 n c)=>match fR bx s,mH bx s with
  | some vs,some ty=>if Nat.beq ty e then .app (some s) none vs n c src ei.size ei.bytes e else .fail
  | _,_=>.fail
 | .c (.eM s n c)=>match bx s with
  | some ⟨.aB vs,ty⟩=>if Nat.beq ty e then .vV s vs n c src ei.size ei.bytes e else .fail
  | _=>.fail
 | _=>.fail
def A8 {bx:Nat->Option aV}{e:TypeId}{ei:TI}{b x:SV}:cY bx e ei b x=match ma ei.zero with
  | none=>.fail
  | some zs=>if Nat.beq ei.bytes 0||Nat.beq ei.size 0||!(Nat.beq ei.size zs.length) then .fail else match E0 bx ei.size x with
   | none=>.fail
   | some src=>LS bx e ei b src:=rfl
def Na {bx bx':Nat->Option aV}{sz:Nat}{x:SV}:(∀s∈x.ids,bx' s=bx s)->E0 bx sz x=E0 bx' sz x:=by
 unfold E0;split
 ·exact λ_=>rfl
 ·intro h;unfold fR;rw [h _ (by simp [SV.ids,C.ids])]
 ·intro h;rw [h _ (by simp [SV.ids,C.ids])]
 ·exact λ_=>rfl
theorem Pj {bx bx':Nat->Option aV}{e:TypeId}{ei:TI}{b:SV}{src:OA×Nat ⊕ pz un}:(∀s∈b.ids,bx' s=bx s)->LS bx e ei b src=LS bx' e ei b src:=by
 unfold LS;split
 ·exact λ_=>rfl
 ·intro h;unfold fR mH;rw [h _ (by simp [SV.ids,C.ids])]
 ·intro h;rw [h _ (by simp [SV.ids,C.ids])]
 ·exact λ_=>rfl
def KQ {bx bx':Nat->Option aV}{e:TypeId}{ei:TI}{b x:SV}(h:∀s∈b.ids++x.ids,bx' s=bx s):cY bx e ei b x=cY bx' e ei b x:=by
 rw [A8,A8,Na λs a=>h s (Qk7 _ a)];grind [Pj]
def Iz {bx:Nat->Option aV}{e:TypeId}{ei:TI}{b x:SV}:∀s,EZ (cY bx e ei b x)=some s->s∈b.ids:=by
 intro s h;unfold cY at h;split at h
 ·cases h
 ·split at h
  ·cases h
  ·dsimp only at h;split at h
   ·cases h
   ·split at h
    ·cases h
    ·split at h
     ·split at h
      ·cases h;simp [SV.ids,C.ids]
      ·cases h
     ·cases h
    ·split at h
     ·split at h
      ·cases h;simp [SV.ids,C.ids]
      ·cases h
     ·cases h
    ·cases h
def UU {bx bx':Nat->Option aV}{ys:pz SV}{ts:pz TypeId}{R:pz Nat}(h:∀s∈ys.flatMap SV.ids,bx' s=bx s)(hR:∀s∈ys.flatMap SV.ids,s∈R) :
  MC T bx (some ys) ts=MC T bx' (some ys) ts/\∀s,EZ (MC T bx (some ys) ts)=some s->s∈R:=by
 unfold MC;split
 ·rename_i b x t d c;cases c;split
  ·split
   ·split
    ·exact ⟨KQ λs a=>h s (by simpa using a),λs a=>hR s (by simp [Iz s a])⟩
    ·exact ⟨rfl,λs a=>nomatch a⟩
   ·exact ⟨rfl,λs a=>nomatch a⟩
  ·exact ⟨rfl,λs a=>nomatch a⟩
 ·exact ⟨rfl,λs a=>nomatch a⟩
theorem Oo {bx:Nat->Option aV}{e:TypeId}{ei:TI}{b x:SV}:ew (cY bx e ei b x)=6\/cY bx e ei b x=.fail:=by
 unfold cY;split
 ·exact .inr rfl
 ·split
  ·exact .inr rfl
  ·dsimp only;split
   ·exact .inr rfl
   ·split<;>(try split)<;>(try split)<;>first|exact .inl rfl|exact .inr rfl
def R6 {ρ:Operand->Option SV}{bx:Nat->Option aV}{args:Array Operand}{ts:Array TypeId}:ew (aR T ρ bx (.call ⟨.builtin .append,args,ts⟩))=6\/aR T ρ bx (.call ⟨.builtin .append,args,ts⟩)=.fail:=by
 simp only [aR];split<;>grind [Oo]
def Gr {Q0:Q}{dst:Option Nat}{st:St}{V:ut}{K K':St->ut->Prop}{W D:pz Nat}(ht:ew Q0=6\/Q0=.fail)
  (ho:∀s,EZ Q0=some s->q s=none/\s∈W)(hd:∀k,dst=some k->(p k=none/\k∈D)/\∀s,q (rF s k)=none/\rF s k∈W)(hd0:∀k,dst=some k->q k=none/\k∈W)
  (hK:∀s2 V2,Good p q W D st V K s2 V2->K' s2 V2)(h:xV Q0 dst (ov p q st) V K):xV Q0 dst st V K':=by
 cases Q0 with
 | vV s vs n c x size bytes ty=>
  simp only [xV] at h ⊢
  cases dst with
  | none=>exact h.elim
  | some d=>
   dsimp only at h ⊢;have ⟨⟨u,v⟩,r⟩:=hd d rfl;have ⟨B,w⟩:=ho s rfl
   have core:∀k xs,wZ s vs n c size bytes ty d (ov p q st) V K k xs->wZ s vs n c size bytes ty d st V K' k xs:=by
    rintro k xs ⟨a,f,g,l,j,i⟩;refine ⟨a,f,g,l,j,?_⟩;rw [cJ (r s).1] at i;split at i
    ·exact i.elim
    ·intro spare y z A;have:=i spare y z A;rw [oz B,oz (r s).1,kW (λk m=>by cases m;exact u)] at this;refine hK _ _ ⟨View.Le.refl V,?_,?_,this⟩
     ·intro t ht;rw [eI,if_neg (λe=>ht (by rw [e];exact v))];rfl
     ·intro t ht;show ((st.box s _).box _ _).boxes t=_;grind [aj]
   grind
 | app old ba vs n c x size bytes ty=>
  simp only [xV] at h ⊢
  cases dst with
  | none=>exact h.elim
  | some d=>
   dsimp only at h ⊢;have ⟨⟨u,v⟩,r⟩:=hd d rfl
   cases old with
   | some s=>
    dsimp only at h ⊢;have ⟨B,w⟩:=ho s rfl
    have core:∀k xs,G4 s vs n c size bytes ty d (ov p q st) V K k xs->G4 s vs n c size bytes ty d st V K' k xs:=by
     rintro k xs ⟨a,f,g,l,j,i⟩;refine ⟨a,f,g,l,j,?_⟩;rw [cJ (r s).1] at i;split at i
     ·exact i.elim
     ·intro b J spare y z A;have:=i b J spare y z A;rw [oz B,oz (r s).1,kW (λk m=>by cases m;exact u)] at this;refine hK _ _ ⟨View.Le.refl V,?_,?_,this⟩
      ·intro t ht;rw [eI,if_neg (λe=>ht (by rw [e];exact v))];rfl
      ·intro t ht;show ((st.box s _).box _ _).boxes t=_;rw [aj,if_neg (λe=>ht (by rw [e];exact (r s).2)),aj,if_neg (λe=>ht (by rw [e];exact w))]
    cases x with
    | inr xs=>exact core _ _ h
    | inl ak=>obtain ⟨xs,a,f,g⟩:=h;exact ⟨xs,a,f,core _ _ g⟩
   | none=>
    dsimp only at h ⊢;obtain ⟨C,I⟩:=hd0 d rfl;obtain ⟨o,z,A,E,F,h⟩:=h
    have core:∀k xs,G5 o n c size bytes ty d (ov p q st) V K k xs->G5 o n c size bytes ty d st V K' k xs:=by
     rintro k xs ⟨a,f,g,l,j⟩;refine ⟨a,f,g,l,?_⟩;rw [cJ C] at j;split at j
     ·exact j.elim
     ·intro spare y G H;have:=j spare y G H;rw [oz C,kW (λk m=>by cases m;exact u)] at this;refine hK _ _ ⟨View.Le.refl V,?_,?_,this⟩
      ·intro t ht;rw [eI,if_neg (λe=>ht (by rw [e];exact v))];rfl
      ·intro t ht;show (st.box d _).boxes t=_;grind [aj]
    refine ⟨o,z,A,E,F,?_⟩
    cases x with
    | inr xs=>exact core _ _ h
    | inl ak=>
     obtain ⟨xs,a,f,g,l⟩:=h;refine ⟨xs,a,f,λe=>?_,λe=>core _ _ (l e)⟩;have:=g e;rw [kW (λk m=>by cases m;exact u)] at this;refine hK _ _ ⟨View.Le.refl V,?_,λt ht=>rfl,this⟩;intro t ht;rw [eI,if_neg (λe=>ht (by rw [e];exact v))]
 | fail=>exact h.elim
 | _=>rcases ht with ht|ht<;>cases ht
def vy {h:Hint}{o:Oper}{st:St}{V:ut}{K:St->ut->Prop}{R W:pz Nat}
  (hm:pY (bD LF RF o.op)=true\/(bD LF RF o.op=.call/\m=.none)\/((bD LF RF o.op=.mX/\m=.ar)\/(bD LF RF o.op=.give/\m=.give)\/bD LF RF o.op=.app))
  (hrw:uD (bD LF RF o.op) h (fL o)=some (R,W))(hp:∀t,t∈jT o.op\/t∈fL o->p t=none)(hq:∀s∈R,q s=none)
  (hqW:∀s∈W,q s=none){K':St->ut->Prop}(hK:∀s2 V2,Good p q W (fL o) st V K s2 V2->K' s2 V2)(hv:dP P T m h o (ov p q st) V K):dP P T m h o st V K':=by
 have KB:∀t∈jT o.op,st.ax t=(ov p q st).ax t:=λt ht=>by simp [ov,hp t (.inl ht)]
 rcases hm with hm|hm
 ·have ⟨p2,q2,Y⟩:=qR hm hrw hv;refine Y.again st V _ (View.Le.refl V) KB (λs n=>(cJ (hq s n)).symm) ?_;refine hK _ _ ⟨View.Le.refl V,λt ht=>by simp [ov,Y.pd t ht],λs n=>by simp [ov,Y.qd s n],?_⟩;rw [FW]
  ·exact Y.next
  ·intro t;by_cases h:t∈fL o
   ·exact .inl (hp t (.inr h))
   ·exact .inr (Y.pd t h)
  ·intro s;by_cases h:s∈W
   ·exact .inl (hqW s h)
   ·exact .inr (Y.qd s h)
 ·
  have i:∀(x:Operand),x∈o.op.operands.toList->(ov p q st).bz x=st.bz x:=λx J=>UM λt e=>hp t (.inl (AF J e))
  have w:∀k,o.dst=some k->p k=none/\k∈fL o:=λk D=>by
   have:k∈fL o:=by simp [fL,D]
   exact ⟨hp k (.inr this),this⟩
  have body:(¬bD LF RF o.op=.app)->∀(hh:∀xs f ss L args z,o.op=.call ⟨.value L,args,z⟩->cO (ov p q st).bz args.toList=some xs->(ov p q st).bz L=some (.c (.Ck f ss)) ->
    m=.none\/((m=.ar\/m=.give)/\(∀s∈reach (ov p q st).boxes 3 (dedup ((xs++zT ss).flatMap SV.ids)),q s=none/\s∈W)/\∀k,o.dst=some k->∀E,q (gJ E k)=none/\gJ E k∈W)),
    dX P T m o (ov p q st) V K->dX P T m o st V K':=by
   intro a hh hv;unfold dX at hv ⊢;split at hv
   ·rename_i L args z g;have e1:cO (ov p q st).bz args.toList=cO st.bz args.toList:=fO _ λx J=>i x (by rw [g];simp [Op.operands,Call.operands];exact .inr (by simpa using J));have e2:(ov p q st).bz L=st.bz L:=i L (by rw [g];simp [Op.operands,Call.operands]);split at hv
    ·rename_i xs j;split at hv
     ·rename_i f ss F;have M:=hh _ _ _ _ _ _ g j F;rw [e1] at j;rw [e2] at F;simp only [j,F];exact xB M w hK hv
     ·exact hv.elim
    ·exact hv.elim
   ·rename_i recv name args z g
    have a3:m=.none:=by
     rw [g] at hm;rcases hm with ⟨-,h⟩|⟨h,-⟩|⟨h,-⟩|h
     ·exact h
     ·cases h
     ·cases h
     ·cases h
    have e1:cO (ov p q st).bz args.toList=cO st.bz args.toList:=fO _ λx J=>i x (by rw [g];simp [Op.operands,Call.operands];exact .inr (by simpa using J));have e2:(ov p q st).bz recv=st.bz recv:=i recv (by rw [g];simp [Op.operands,Call.operands]);split at hv
    ·rename_i xs j;split at hv
     ·rename_i t v F;split at hv
      ·rename_i f Qu;rw [e1] at j;rw [e2] at F;simp only [j,F,Qu];exact xB (.inl a3) w hK hv
      ·exact hv.elim
     ·exact hv.elim
    ·exact hv.elim
   ·rename_i a0 G;exfalso
    have N:bD LF RF o.op=.call\/bD LF RF o.op=.mX\/bD LF RF o.op=.give:=by
     rcases hm with ⟨h,-⟩|⟨h,-⟩|⟨h,-⟩|h
     ·exact .inl h
     ·exact .inr (.inl h)
     ·exact .inr (.inr h)
     ·exact absurd h a
    clear hm a hh;generalize g:o.op=op at N a0 G
    cases op with
    | call c=>
     obtain ⟨LX,args,z⟩:=c
     cases LX with
     | builtin b=>cases b<;>rcases N with h|h|h<;>cases h
     | value f=>exact a0 f args z rfl
     | invoke r nm=>exact G r nm args z rfl
    | _=>rcases N with h|h|h<;>cases h
  have O:∀l:pz Nat,W=l++fL o++(fL o).map (·+ 200000)->∀k,o.dst=some k->∀E,q (gJ E k)=none/\gJ E k∈W:=by
   intro l Z k D E
   have:gJ E k∈W:=by
    rw [Z];have a4:=(w k D).2;rcases Rh (m:=E) (d:=k) with h|h<;>rw [h]<;>simp [a4]
   exact ⟨hqW _ this,this⟩
  have own:∀l:pz Nat,h=.own l->R=l->W=l++fL o++(fL o).map (·+ 200000)->(bD LF RF o.op=.mX\/bD LF RF o.op=.give\/bD LF RF o.op=.app)->(¬bD LF RF o.op=.app->m=.ar\/m=.give)->dP P T m h o st V K':=by
   intro l hh hR Z a6 M;subst hh hR;unfold dP at hv ⊢;dsimp only at hv ⊢;split at hv
   ·rename_i ys u;split at hv
    ·rename_i H;have e0:cO (ov p q st).bz (jS o.op)=cO st.bz (jS o.op):=fO _ λx J=>i x (AE J);rw [←e0,u];dsimp only;have B:∀s∈fV (ov p q st).boxes o.op (ys.flatMap SV.ids),s∈R:=Bp.1 H
     have e3:fV st.boxes o.op (ys.flatMap SV.ids)=fV (ov p q st).boxes o.op (ys.flatMap SV.ids):=by
      revert B;unfold fV;split
      ·intro B;exact pZ 3 _ λs n=>(cJ (hq s (B s n))).symm
      ·exact λ_=>rfl
     rw [e3,H];dsimp only;have a5:∀s∈R,s∈W:=λs n=>by rw [Z];simp [n]
     by_cases a:bD LF RF o.op=.app
     ·
      have g:∃args z,o.op=.call ⟨.builtin .append,args,z⟩:=by
       generalize o.op=op at a
       cases op with
       | call c=>
        obtain ⟨LX,args,z⟩:=c
        cases LX with
        | builtin b=>cases b<;>first|exact ⟨args,z,rfl⟩|cases a
        | value f=>cases f with
         | func f=>simp only [bD] at a;split at a<;>(try split at a)<;>(try split at a)<;>(try split at a)<;>cases a
         | _=>cases a
        | _=>cases a
       | _=>cases a
      obtain ⟨args,z,g⟩:=g
      have e4:aR T st.bz st.boxes o.op=aR T (ov p q st).bz (ov p q st).boxes o.op/\∀s,EZ (aR T st.bz st.boxes o.op)=some s->s∈R:=by
       have e5:cO (ov p q st).bz args.toList=cO st.bz args.toList:=by rw [g] at e0;exact e0
       have a1:cO st.bz args.toList=some ys:=by rw [g] at u;rw [←e5];exact u
       have I:∀s∈ys.flatMap SV.ids,s∈R:=by
        intro s n;refine B s ?_;rw [g];simp only [fV];exact fY 3 _ s (cw.2 n)
       rw [g];simp only [aR];rw [e5,a1];exact UU (λs n=>by rw [cJ (hq s (I s n))]) I
      have Q:xV (aR T (ov p q st).bz (ov p q st).boxes o.op) o.dst (ov p q st) V K:=by
       unfold dX at hv;rw [g] at hv ⊢;exact hv
      have S:xV (aR T st.bz st.boxes o.op) o.dst st V K'->dX P T m o st V K':=by
       intro h;unfold dX;rw [g] at h ⊢;exact h
      rw [←e4.1] at Q;refine S ?_
      have a2:∀Q0,aR T st.bz st.boxes o.op=Q0->ew Q0=6\/Q0=.fail:=by
       intro Q0 hQ;rw [←hQ,g];exact R6
      generalize hQ0:aR T st.bz st.boxes o.op=Q0 at Q e4
      exact Gr (a2 Q0 hQ0) (λs n=>⟨hq s (e4.2 s n),a5 s (e4.2 s n)⟩) (λk D=>⟨w k D,λs=>by
       have:=O R Z k D (some s);exact this⟩) (λk D=>O R Z k D Option.none) hK Q
     ·have U:=M a;refine body a (λxs f ss L args z g j F=>.inr ⟨U,λs n=>?_,O R Z⟩) hv
      have:s∈R:=by
       apply B;rw [g] at u ⊢;simp only [fV]
       have hy:ys.flatMap SV.ids=(xs++zT ss).flatMap SV.ids:=by
        have:∀(l:pz Operand)(xs:pz SV)(x:Operand)(v:SV),cO (ov p q st).bz l=some xs->(ov p q st).bz x=some v->cO (ov p q st).bz (l++[x])=some (xs++[v]):=by
         intro l
         induction l with
         | nil=>intro xs x v X h2;simp only [cO,Qw1] at X;subst X;simp [cO,h2]
         | cons o r ih=>
          intro xs x v X h2;simp only [cO] at X;split at X
          ·rename_i y l' h3 h4;cases X;simp only [Qc8,cO,h3,ih _ x v h4 h2]
          ·cases X
        simp only [jS] at u;rw [this _ _ _ _ j F] at u;cases u;simp only [Qm8];congr 1;simp [zT,SV.ids,C.ids,List.flatMap_map]
       grind
      grind
    ·exact hv.elim
   ·exact hv.elim
  rcases hm with ⟨A,hm⟩|⟨A,hm⟩|⟨A,hm⟩|A
  ·rw [A] at hrw
   cases h with
   | own l=>cases hrw
   | free=>exact body (by rw [A];exact λh=>by cases h) (λ_ _ _ _ _ _ _ _ _=>.inl hm) hv
  ·rw [A] at hrw
   cases h with
   | free=>cases hrw
   | own l=>
    simp only [uD,Qw1,Qm3] at hrw;exact own l rfl hrw.1.symm hrw.2.symm (.inl A) (λ_=>.inl hm)
  ·rw [A] at hrw
   cases h with
   | free=>cases hrw
   | own l=>
    simp only [uD,Qw1,Qm3] at hrw;exact own l rfl hrw.1.symm hrw.2.symm (.inr (.inl A)) (λ_=>.inr hm)
  ·rw [A] at hrw
   cases h with
   | free=>cases hrw
   | own l=>
    simp only [uD,Qw1,Qm3] at hrw;exact own l rfl hrw.1.symm hrw.2.symm (.inr (.inr A)) (λh=>absurd A h)
end Go.Eng
namespace Go.Eng
variable {P:Program} {T:d_} {LF RF:List Nat}
def Cp (ops:Array Oper)(o:Oper)(st:St)(k:St->Bool->Prop):Prop:=
 match o.guard with
 | none=>k st true
 | some (j,b)=>match (ops[j]?).bind (·.dst) with
  | none=>False
  | some g=>match st.ax g with
   | some (.c .tt)=>k st b
   | some (.c .ff)=>k st (!b)
   | some (.c (.v (.bool c)))=>(c=true->k (st.put (some g) (.c .tt)) b)/\(c=false->k (st.put (some g) (.c .ff)) (!b))
   | some (.vk _)=>k st false
   | _=>False
def oK (P:Program)(T:d_)(m:CM)(h:Hint)(o:Oper)(V:View)(K:St->View->Prop)(st:St)(w:Bool):Prop:=
 match w with
 | true=>dP P T m h o st V K
 | false=>K (st.put o.dst lk) V
def Gq {m:CM}{h:Hint}{ops:Array Oper}{o:Oper}{st:St}{V:ut}{K:St->ut->Prop} :
  uT P T m h ops o st V K↔Cp ops o st (oK P T m h o V K):=by
 unfold uT Cp
 cases hg:o.guard with
 | none=>rfl
 | some jb=>
  obtain ⟨j,b⟩:=jb;dsimp only
  cases hd:(ops[j]?).bind (·.dst) with
  | none=>rfl
  | some g=>
   dsimp only;split<;>simp_all<;>cases b<;>rfl
def rG:Nat->Option aV:=λ_=>none
structure GOut (ops:Array Oper) (o:Oper) (st:St) (k:St->Bool->Prop) (p:Nat->Option SV) (w:Bool):Prop where
 pd:∀t,t∉gx ops o->p t=none
 next:k (ov p rG st) w
 again:∀(st2:St)(k2:St->Bool->Prop),(∀t∈gx ops o,st2.ax t=st.ax t)->k2 (ov p rG st2) w->Cp ops o st2 k2
def ig {ops:Array Oper}{o:Oper}{st:St}{k:St->md->Prop}(h:Cp ops o st k):∃p w,GOut ops o st k p w:=by
 unfold Cp at h;split at h
 ·rename_i l;exact ⟨λ_=>none,true,λ_ _=>rfl,h,λd q _ f=>by unfold Cp;rw [l];exact f⟩
 ·rename_i j b l;split at h
  ·exact h.elim
  ·rename_i g n;have a:gx ops o=[g]:=by simp only [gx,l,n]
   split at h
   ·rename_i m;exact ⟨λ_=>none,b,λ_ _=>rfl,h,λd q i f=>by unfold Cp;simp only [l,n,i g (by simp [a]),m];exact f⟩
   ·rename_i m;exact ⟨λ_=>none,!b,λ_ _=>rfl,h,λd q i f=>by unfold Cp;simp only [l,n,i g (by simp [a]),m];exact f⟩
   ·rename_i c m
    cases c with
    | true=>
     refine ⟨one (some g) (.c .tt),b,λt r=>eZ (by intro e;apply r;rw [a];simpa using e.symm),?_,λd q i f=>?_⟩
     ·have:=h.1 rfl;rw [gC] at this;exact this
     ·unfold Cp;simp only [l,n,i g (by simp [a]),m];exact ⟨λ_=>by rw [gC];exact f,λe=>by cases e⟩
    | false=>
     refine ⟨one (some g) (.c .ff),!b,λt r=>eZ (by intro e;apply r;rw [a];simpa using e.symm),?_,λd q i f=>?_⟩
     ·have:=h.2 rfl;rw [gC] at this;exact this
     ·unfold Cp;simp only [l,n,i g (by simp [a]),m];exact ⟨λe=>(by cases e),λ_=>by rw [gC];exact f⟩
   ·rename_i xs m;exact ⟨λ_=>none,false,λ_ _=>rfl,h,λd q i f=>by unfold Cp;simp only [l,n,i g (by simp [a]),m];exact f⟩
   ·exact h.elim
def qk {ops:Array Oper}{o:Oper}{st:St}{k k':St->md->Prop}(hk:∀s w,k s w->k' s w)(h:Cp ops o st k):Cp ops o st k':=by
 have ⟨p,w,a⟩:=ig h;grind [a.again,a.next]
def put_comm {st:St}{d d':Option Nat}{x y:SV}(h:∀k,d=some k->d'≠some k):(st.put d x).put d' y=(st.put d' y).put d x:=by
 cases d with
 | none=>rfl
 | some d=>
  cases d' with
  | none=>rfl
  | some d'=>
   have a:d≠d':=λe=>h d rfl (by rw [e]);simp only [St.put];grind [g_]
def Ks {ops:Array Oper}{o1 o2:Oper}{st:St}{F:St->md->md->Prop}(h:Cp ops o1 st λs w1=>Cp ops o2 s λs' w2=>F s' w1 w2) :
  Cp ops o2 st λs w2=>Cp ops o1 s λs' w1=>F s' w1 w2:=by
 by_cases f:∃g,gx ops o1=[g]/\gx ops o2=[g]
 ·obtain ⟨g,a,b⟩:=f;unfold gx at a b;split at a
  ·cases a
  ·rename_i u v i;split at a
   ·rename_i w j;cases a;split at b
    ·cases b
    ·rename_i x y k;split at b
     ·rename_i z l;cases b;unfold Cp at h ⊢;simp only [i,k,j,l] at h ⊢;split at h
      ·rename_i n;exact h
      ·rename_i n;exact h
      ·grind [eI]
      ·rename_i xs n;exact h
      ·exact h.elim
     ·cases b
   ·cases a
 ·have ⟨q,w1,d⟩:=ig h;have ⟨r,w2,e⟩:=ig d.next
  have p:∀o:Oper,gx ops o=[]\/∃g,gx ops o=[g]:=by
   intro o;unfold gx;grind
  have c:∀t,t∈gx ops o1->t∉gx ops o2:=by grind
  refine e.again st _ (λt m=>?_) (d.again _ _ (λt m=>?_) ?_)
  ·show st.ax t=(ov q rG st).ax t;simp [ov,d.pd t (λh=>c t h m)]
  ·show (ov r rG st).ax t=st.ax t;simp [ov,e.pd t (c t m)]
  grind [rG,FW,e.pd,d.pd,e.next]
theorem kd {o:Oper}{k:Nat}(h:o.dst=some k):k∈fL o:=by simp [fL,h]
def UE {ops:Array Oper}{m1 m2:CM}{h1 h2:Hint}{o1 o2:Oper}{st:St}{V:ut}{K:St->ut->Prop}
  (hi:indep LF RF ops h1 h2 o1 o2=true)
  (hm:pY (bD LF RF o2.op)=true\/(bD LF RF o2.op=.call/\m2=.none)\/((bD LF RF o2.op=.mX/\m2=.ar)\/(bD LF RF o2.op=.give/\m2=.give)\/bD LF RF o2.op=.app))
  (hv:uT P T m1 h1 ops o1 st V λst1 V1=>uT P T m2 h2 ops o2 st1 V1 K) :
  uT P T m2 h2 ops o2 st V λst2 V2=>uT P T m1 h1 ops o1 st2 V2 K:=by
 unfold indep at hi;simp only [Qw7] at hi;obtain ⟨⟨⟨⟨⟨v,f⟩,g⟩,w⟩,y⟩,l⟩:=hi;split at l
 ·rename_i U W X Y z o;simp only [Qw7] at l;obtain ⟨⟨L,n⟩,A⟩:=l;rw [HH] at f g w y L n A;have B:∀k,o2.dst=some k->o1.dst≠some k:=λk C F=>f k (kd F) (by simp [kd C]);simp only [Gq] at hv ⊢
  have O:Cp ops o1 st λs m=>Cp ops o2 s λD j=>oK P T m1 h1 o1 V (λr G=>oK P T m2 h2 o2 G K r j) D m:=by
   refine qk (λs m c=>?_) hv
   cases m with
   | true=>
    have ⟨p,q,i⟩:=qR v z c;have ⟨E,j,b⟩:=ig i.next;refine b.again s _ (λt a=>?_) ?_
    ·show s.ax t=(ov p q s).ax t;simp [ov,i.pd t (λh=>f t h (by simp [a]))]
    ·refine i.again _ V _ (View.Le.refl V) (λt a=>?_) (λ_ _=>rfl) ?_
     ·show (ov E rG s).ax t=s.ax t;simp [ov,b.pd t (λh=>y t h a)]
     grind [FW,rG,b.next,i.pd,b.pd]
   | false=>
    simp only [oK] at c;have ⟨E,j,b⟩:=ig c;have Q:∀k,o1.dst=some k->E k=none:=λk C=>b.pd k (λh=>f k (kd C) (by simp [h]));refine b.again s _ (λt a=>?_) ?_
    ·rw [gC];simp [ov,eZ (d:=o1.dst) (x:=lk) (t:=t) (λh=>f t (kd h) (by simp [a]))]
    ·show oK P T m2 h2 o2 V K ((ov E rG s).put o1.dst lk) j;rw [kW Q];exact b.next
  have R:=Ks O
  have S:Cp ops o2 st λs j=>Cp ops o1 s λD m=>oK P T m2 h2 o2 V (λr G=>oK P T m1 h1 o1 G K r m) D j:=by
   refine qk (λs j c=>qk (λD m c=>?_) c) R
   cases m with
   | true=>
    have ⟨p,q,i⟩:=qR v z c
    cases j with
    | true=>
     refine vy hm o (λt a=>i.pd t (λh=>f t h (by rcases a with a|a<;>simp [a]))) (λs u=>i.qd s (λh=>L s h u)) (λs u=>i.qd s (λh=>A s h u)) (λs2 V2 b=>?_) i.next;obtain ⟨M,H,N,I⟩:=b;exact i.again s2 V2 K M (λt a=>H t (λh=>g t h (by simp [a]))) (λs u=>N s (λh=>n s h u)) I
    | false=>
     refine i.again _ V K (View.Le.refl V) (λt a=>?_) (λs _=>by cases o2.dst<;>rfl) ?_
     ·rw [gC];simp [ov,eZ (d:=o2.dst) (x:=lk) (t:=t) (λh=>g t (kd h) (by simp [a]))]
     grind [i.next,oK,kW,i.pd,kd]
   | false=>
    cases j with
    | true=>
     simp only [oK] at c ⊢;rw [gC] at c;refine vy hm o (λt a=>eZ (λe=>f t (kd e) (by rcases a with a|a<;>simp [a]))) (λs u=>rfl) (λs u=>rfl) (λs2 V2 b=>?_) c;have:=b.2.2.2;grind [gC]
    | false=>
     simp only [oK] at c ⊢;rw [put_comm B];exact c
  refine qk (λs j c=>?_) S
  cases j with
  | true=>
   simp only [oK] at c ⊢;have ⟨p,m,b⟩:=ig c;refine vy hm o (λt a=>b.pd t (λh=>?_)) (λ_ _=>rfl) (λ_ _=>rfl) (λs2 V2 J=>?_) b.next
   ·rcases a with a|a
    ·exact w t h a
    ·exact g t a (by simp [h])
   ·obtain ⟨M,H,N,I⟩:=J;exact b.again s2 _ (λt a=>H t (λh=>g t h (by simp [a]))) I
  | false=>
   simp only [oK] at c ⊢;have ⟨p,m,b⟩:=ig c;refine b.again _ _ (λt a=>?_) ?_
   ·rw [gC];simp [ov,eZ (d:=o2.dst) (x:=lk) (t:=t) (λh=>g t (kd h) (by simp [a]))]
   ·have:=b.next;rw [kW (λk C=>b.pd k (λh=>g k (kd C) (by simp [h])))] at this;exact this
 ·cases l
end Go.Eng
