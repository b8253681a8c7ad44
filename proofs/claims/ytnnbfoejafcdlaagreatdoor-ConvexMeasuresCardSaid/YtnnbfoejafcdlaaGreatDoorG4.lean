import Derived.Test.YtnnbfoejafcdlaaGreatDoorG3
set_option linter.unusedVariables false
open Go.IntKind (i64 u64 u32)
namespace Go.bM
variable {P:Program} {T:dA} {n:Nat} {V0:View} {bH:Fw} {β0:Nat->Nat} {st:St} {β:Nat->Nat} {a:Act} {w:World} {V:View}
theorem Gq {t:TypeId}{name:String}{f:FuncId}(h:Gp P t name=some f)(k:Nat)(v:Value)(w:World):(Go.method (k+1) t v name).run P w=.ok (f,v) w:=by
 unfold Gp at h
 split at h
 ·rename_i i d b c
  split at h
  ·rename_i m hm
   split at h
   ·rename_i j l e g
    cases h
    have a:m.path=#[]:=by apply Array.ext';exact e
    simp only [Go.method,typeInfo,Sem.run_bind,run_program,Result.andThen_ok,b,hm,Sem.run_pure,a,follow,g,receiverAt,ao c,Place.get]
   ·cases h
  ·cases h
 ·cases h
theorem tv (hT:dA.ok P T)(hM:Mod n V0 bH β0 st β a w V){m:CM}{o:Oper}{K:St->View->Prop}{next:Act->World->Prop}{Q:Exit->Act->World->Prop}
  (hd:∀d,o.dst=some d->d<n)(hv:di P T m o st V K)
  (hK:∀st' β' a' w' V',Mod n V0 bH β0 st' β' a' w' V'->K st' V'->next a' w'):o.wp P a w next Q:=by
 unfold di at hv
 split at hv
 ·rename_i z args q e
  split at hv
  ·rename_i xs g
   obtain ⟨h,r⟩:=f_ hM _ _ g
   split at hv
   ·rename_i f ss i
    obtain ⟨j,k⟩:=vK (Q:=Q) hM hd hv hK
    have l:args.map a.eval=(xs.map (SV.den β)).toArray:=by apply Array.ext';rw [Array.toList_map];exact h
    have p:aU β (xs++vN ss)=(xs.map (SV.den β)).toArray++(ss.map fun s=>Value.pointer (some ⟨β s,0,none⟩)).toArray:=by
     unfold aU vN
     rw [List.map_append,List.map_map]
     apply Array.ext'
     simp [Function.comp_def,SV.den,C.den]
    have b:(execOp a.eval o).run P w=.ok (.enter f (aU β (xs++vN ss))) w:=by
     rw [p]
     simp only [execOp,e,resolve,hM.eval i,SV.den,C.den,Deferred.ofValue,pure_bind,invoke,l,Array.empty_append]
     exact j.run _
    unfold Oper.wp
    rw [b]
    exact k
   ·exact hv.elim
  ·exact hv.elim
 ·rename_i recv name args q e
  split at hv
  ·rename_i xs g
   obtain ⟨h,r⟩:=f_ hM _ _ g
   split at hv
   ·rename_i t v i
    split at hv
    ·rename_i f u
     obtain ⟨j,k⟩:=vK (Q:=Q) hM hd hv hK
     have l:args.map a.eval=(xs.map (SV.den β)).toArray:=by apply Array.ext';rw [Array.toList_map];exact h
     have p:aU β (.c (.w v)::xs)=#[v]++(xs.map (SV.den β)).toArray:=by
      unfold aU
      apply Array.ext'
      simp [SV.den,C.den]
     have b:(execOp a.eval o).run P w=.ok (.enter f (aU β (.c (.w v)::xs))) w:=by
      rw [p]
      have x:(#[Value.iface t v]++(xs.map (SV.den β)).toArray).extract 1 (#[Value.iface t v]++(xs.map (SV.den β)).toArray).size=(xs.map (SV.den β)).toArray:=by
       apply Array.ext'
       simp
       exact List.take_of_length_le (by simp)
      have y:(#[Value.iface t v]++(xs.map (SV.den β)).toArray)[0]?=some (Value.iface t v):=by simp
      simp only [execOp,e,resolve,hM.eval i,SV.den,C.den,pure_bind,invoke,l,y,x,callMethod,Sem.run_bind,run_program,Result.andThen_ok,Made.depth]
      rw [Gq u]
      exact j.run _
     unfold Oper.wp
     rw [b]
     exact k
    ·exact hv.elim
   ·exact hv.elim
  ·exact hv.elim
 ·exact EA hT hM hd hv hK
theorem jr (hT:dA.ok P T)(hM:Mod n V0 bH β0 st β a w V){m:CM}{h:Hint}{o:Oper}{K:St->View->Prop}{next:Act->World->Prop}{Q:Exit->Act->World->Prop}
  (hd:∀d,o.dst=some d->d<n)(hv:cW P T m h o st V K)
  (hK:∀st' β' a' w' V',Mod n V0 bH β0 st' β' a' w' V'->K st' V'->next a' w'):o.wp P a w next Q:=by
 unfold cW at hv
 split at hv
 ·exact tv hT hM hd hv hK
 ·split at hv
  ·split at hv
   ·exact tv hT hM hd hv hK
   ·exact hv.elim
  ·exact hv.elim
theorem Mod.refine (hM:Mod n V0 bH β0 st β a w V){g:Nat}{x y:SV}(hx:st.aw g=some x)(he:x.den β=y.den β)(hy:y.ids=[]):Mod n V0 bH β0 (st.put (some g) y) β a w V:=by
 refine ⟨hM.defers,hM.size,?_,?_,hM.Aa,hM.boxes,hM.inj,hM.pV,hM.uP,hM.ext,hM.own,hM.mU,hM.kS,hM.small⟩
 ·intro t z b
  rw [dJ] at b
  split at b
  ·rename_i e;simp only [Option.some.injEq] at b;rw [e,←b,←he];exact hM.aw g x hx
  ·exact hM.aw t z b
 ·intro t z b
  rw [dJ] at b
  split at b
  ·simp only [Option.some.injEq] at b;rw [←b,hy];exact fun s c=>(nomatch c)
  ·exact hM.Ab t z b
theorem Hl {ops:Array Oper}{tmps:Array Value}{j g:Nat}(hg:(ops[j]?).bind (·.dst)=some g):yielded ops tmps j=match tmps.getD g undef with|.bool b=>some b|_=>none:=by
 unfold yielded
 rw [hg]
 simp only [Option.bind_some]
 by_cases h:g<tmps.size
 ·have a:tmps[g]?=some tmps[g]:=getElem?_pos tmps g h
  have c:tmps.getD g undef=tmps[g]:=by simp [h]
  rw [a,c]
  generalize tmps[g]=v
  cases v<;>rfl
 ·simp [h,undef]
theorem Eo (hT:dA.ok P T)(hM:Mod n V0 bH β0 st β a w V){m:CM}{h:Hint}{ops:Array Oper}{o:Oper}{K:St->View->Prop}{next:Act->World->Prop}{Q:Exit->Act->World->Prop}
  (hd:∀d,o.dst=some d->d<n)(hv:rk P T m h ops o st V K)
  (hK:∀st' β' a' w' V',Mod n V0 bH β0 st' β' a' w' V'->K st' V'->next a' w') :
  if Region.wanted o (yielded ops a.tmps) then o.wp P a w next Q else next (a.put o.dst undef) w:=by
 unfold rk at hv
 split at hv
 ·rename_i q
  rw [if_pos (by simp [Region.wanted,q])]
  exact jr hT hM hd hv hK
 ·rename_i j b q
  split at hv
  ·exact hv.elim
  ·rename_i g p
   have t:=Hl (tmps:=a.tmps) p
   have i:∀c:Bool,a.tmps.getD g undef=.bool c->(Region.wanted o (yielded ops a.tmps)=true↔c=b):=by
    intro c x
    simp only [Region.wanted,q]
    rw [t,x]
    simp
   have skip:∀{l:St},Mod n V0 bH β0 l β a w V->K (l.put o.dst jM) V->next (a.put o.dst undef) w:=by
    intro l r s
    exact hK _ _ _ _ _ (r.Gx hd rfl (bT rfl)) s
   split at hv
   ·rename_i k
    have f:=hM.aw g _ k
    split at hv
    ·rw [if_pos ((i true f).2 rfl)];exact jr hT hM hd hv hK
    ·rw [if_neg (fun h=>by have:=(i true f).1 h;cases this)];exact skip hM hv
   ·rename_i k
    have f:=hM.aw g _ k
    split at hv
    ·rw [if_neg (fun h=>by have:=(i false f).1 h;cases this)];exact skip hM hv
    ·rw [if_pos ((i false f).2 rfl)];exact jr hT hM hd hv hK
   ·rename_i c k
    have f:=hM.aw g _ k
    have u:c=true->Mod n V0 bH β0 (st.put (some g) (.c .tt)) β a w V:=fun e=>hM.refine k (by rw [e];rfl) rfl
    have v:c=false->Mod n V0 bH β0 (st.put (some g) (.c .ff)) β a w V:=fun e=>hM.refine k (by rw [e];rfl) rfl
    split at hv
    ·cases c with
     | true=>rw [if_pos ((i true f).2 rfl)];exact jr hT (u rfl) hd (hv.1 rfl) hK
     | false=>rw [if_neg (fun h=>by have:=(i false f).1 h;cases this)];exact skip (v rfl) (hv.2 rfl)
    ·cases c with
     | true=>rw [if_neg (fun h=>by have:=(i true f).1 h;cases this)];exact skip (u rfl) (hv.1 rfl)
     | false=>rw [if_pos ((i false f).2 rfl)];exact jr hT (v rfl) hd (hv.2 rfl) hK
   ·rename_i xs k
    have f:=hM.aw g _ k
    have:Region.wanted o (yielded ops a.tmps)=false:=by
     simp only [Region.wanted,q]
     rw [t,f]
     simp [SV.den]
    rw [if_neg (by rw [this];simp)]
    exact skip hM hv
   ·exact hv.elim
theorem A8 (hT:dA.ok P T){m:Nat->CM}{hint:Nat->Hint}{ops:Array Oper}(hd:∀(i:Nat)(o:Oper),ops[i]?=some o->∀d,o.dst=some d->d<n){Q:Exit->Act->World->Prop}{K:St->View->Prop}
  (hK:∀st' β' a' w' V',Mod n V0 bH β0 st' β' a' w' V'->K st' V'->Q .normal a' w') :
  ∀(l:List Nat)(st:St)(β:Nat->Nat)(a:Act)(w:World)(V:View),Mod n V0 bH β0 st β a w V->Mf P T m hint ops l st V K->wpOps P ops Q l a w
 | [],st,β,a,w,V,hM,hv=>hK _ _ _ _ _ hM hv
 | i::r,st,β,a,w,V,hM,hv=>by
  simp only [Mf] at hv
  simp only [wpOps]
  split at hv
  ·rename_i o ho
   rw [ho]
   dsimp only
   have:=Eo (Q:=Q) (next:=wpOps P ops Q r) hT hM (hd i o ho) hv (fun st' β' a' w' V' b c=>A8 hT hd hK r st' β' a' w' V' b c)
   split at this
   ·rename_i hw;rw [if_pos hw];exact .inl this
   ·rename_i hw;rw [if_neg hw];exact this
  ·exact hv.elim
end Go.bM
namespace Go.bM
def ov (p:Nat->Option SV)(q:Nat->Option aR)(st:St):St:=
 ⟨fun t=>match p t with|some x=>some x|none=>st.aw t,fun t=>match q t with|some x=>some x|none=>st.boxes t⟩
theorem dN {a b:Nat}(h:a≠b):Nat.beq a b=false:=by
 cases hb:Nat.beq a b
 ·rfl
 ·exact absurd (beq_eq.1 hb) h
section
variable {p:Nat->Option SV} {q:Nat->Option aR} {st:St}
theorem kD {d:Option Nat}{x:SV}(h:∀k,d=some k->p k=none):(ov p q st).put d x=ov p q (st.put d x):=by
 cases d with
 | none=>rfl
 | some d=>
  have a:=h d rfl
  simp only [ov,St.put]
  congr 1
  funext t
  by_cases e:t=d
  ·subst e;simp [a,Nat.beq_refl]
  ·simp [dN e]
theorem mu {s:Nat}{b:aR}(h:q s=none):(ov p q st).box s b=ov p q (st.box s b):=by
 simp only [ov,St.box]
 congr 1
 funext t
 by_cases e:t=s
 ·subst e;simp [h,Nat.beq_refl]
 ·simp [dN e]
theorem cO {s:Nat}(h:q s=none):(ov p q st).boxes s=st.boxes s:=by simp [ov,h]
theorem NF {x:Operand}(h:∀t,x=.tmp t->p t=none):(ov p q st).aZ x=st.aZ x:=by
 cases x with
 | tmp t=>simp [St.aZ,ov,h t rfl]
 | _=>rfl
def one {α:Type}(d:Option Nat)(x:α):Nat->Option α:=fun t=>match d with|some k=>cond (Nat.beq t k) (some x) none|none=>none
theorem dX {α:Type}{d:Option Nat}{x:α}{t:Nat}(h:d≠some t):one d x t=none:=by
 cases d with
 | none=>rfl
 | some k=>simp [one,dN (fun e:t=k=>h (by rw [e]))]
theorem fl (d:Option Nat)(x:SV):st.put d x=ov (one d x) (fun _=>none) st:=by
 cases d with
 | none=>rfl
 | some d=>
  simp only [ov,St.put,one]
  congr 1
  funext t
  by_cases e:t=d
  ·subst e;simp [Nat.beq_refl]
  ·simp [dN e]
theorem FG (s:Nat)(b:aR):st.box s b=ov (fun _=>none) (one (some s) b) st:=by
 simp only [ov,St.box,one]
 congr 1
 funext t
 by_cases e:t=s
 ·subst e;simp [Nat.beq_refl]
 ·simp [dN e]
theorem Aq (s:Nat)(b:aR)(d:Option Nat)(x:SV):(st.box s b).put d x=ov (one d x) (one (some s) b) st:=by
 rw [fl,FG];rfl
end
theorem eN {ρ ρ':Operand->Option SV}:∀l:List Operand,(∀x∈l,ρ x=ρ' x)->bZ ρ l=bZ ρ' l
 | [],_=>rfl
 | o::r,h=>by simp only [bZ];rw [h o (by simp),eN r fun x hx=>h x (by simp [hx])]
theorem kE {ρ ρ':Operand->Option SV}:∀l:List (Nat×Operand),(∀x∈l.map (·.2),ρ x=ρ' x)->partsOf ρ l=partsOf ρ' l
 | [],_=>rfl
 | (i,o)::r,h=>by simp only [partsOf];rw [h o (by simp),kE r fun x hx=>h x (by simp only [List.map_cons,List.mem_cons];exact .inr hx)]
theorem pC {ρ ρ':Operand->Option SV}:∀l:Option Operand,(∀x,l=some x->ρ x=ρ' x)->Ck ρ l=Ck ρ' l
 | none,_=>rfl
 | some o,h=>by simp only [Ck];rw [h o rfl]
theorem nG {T:dA}{ρ ρ':Operand->Option SV}{bx:Nat->Option aR}{op:Op}(h:∀x∈op.operands.toList,ρ x=ρ' x):aJ T ρ bx op=aJ T ρ' bx op:=by
 cases op with
 | move x=>simp only [aJ];rw [h x (by simp [Op.operands])]
 | assign x=>simp only [aJ];rw [h x (by simp [Op.operands])]
 | pick c a b=>simp only [aJ];rw [h c (by simp [Op.operands]),h a (by simp [Op.operands]),h b (by simp [Op.operands])]
 | box t x=>simp only [aJ];rw [h x (by simp [Op.operands])]
 | build t ps=>simp only [aJ];rw [kE _ fun x g=>h x (by simpa [Op.operands] using g)]
 | buildSlice t n ps=>simp only [aJ];rw [kE _ fun x g=>h x (by simpa [Op.operands] using g)]
 | load t a=>simp only [aJ];rw [h a (by simp [Op.operands])]
 | store t a x=>simp only [aJ];rw [h a (by simp [Op.operands]),h x (by simp [Op.operands])]
 | nilCheck x=>simp only [aJ];rw [h x (by simp [Op.operands])]
 | binOp o xt x y yt=>simp only [aJ];rw [h x (by simp [Op.operands]),h y (by simp [Op.operands])]
 | unOp o xt x=>cases o<;>simp only [aJ]<;>rw [h x (by simp [Op.operands])]
 | convert s d x=>simp only [aJ];rw [h x (by simp [Op.operands])]
 | makeFunc fn first caps=>
  cases fn with
  | func f=>simp only [aJ];rw [eN _ fun x g=>h x (by simp [Op.operands];exact .inr (by simpa using g))]
  | _=>rfl
 | makeSlice t a b=>simp only [aJ];rw [h a (by simp [Op.operands]),h b (by simp [Op.operands])]
 | slice t x lo hi mx=>
  simp only [aJ]
  rw [h x (by simp [Op.operands]),pC lo fun y k=>h y (by simp [Op.operands,k]),pC hi fun y k=>h y (by simp [Op.operands,k]),pC mx fun y k=>h y (by simp [Op.operands,k])]
 | fieldAddr t x f=>simp only [aJ];rw [h x (by simp [Op.operands])]
 | field t x f=>simp only [aJ];rw [h x (by simp [Op.operands])]
 | indexAddr t x i=>simp only [aJ];rw [h x (by simp [Op.operands]),h i (by simp [Op.operands])]
 | extract x j=>simp only [aJ];rw [h x (by simp [Op.operands])]
 | index t x i=>simp only [aJ];rw [h x (by simp [Op.operands]),h i (by simp [Op.operands])]
 | makeInterface t x=>simp only [aJ];rw [h x (by simp [Op.operands])]
 | call c=>
  obtain ⟨l,args,m⟩:=c
  cases l with
  | builtin b=>
   have e:bZ ρ args.toList=bZ ρ' args.toList:=eN _ fun x g=>h x (by simpa [Op.operands,Call.operands] using g)
   cases b<;>simp only [aJ]<;>rw [e]
  | _=>rfl
 | _=>rfl
theorem LB {T:dA}{LF RF:List Nat}{ρ:Operand->Option SV}{bx bx':Nat->Option aR}{op:Op}(h:bf LF RF op=.pure\/bf LF RF op=.alloc):aJ T ρ bx op=aJ T ρ bx' op:=by
 cases op with
 | load t a=>rcases h with h|h<;>cases h
 | store t a x=>rcases h with h|h<;>cases h
 | unOp o xt x=>cases o<;>rfl
 | makeFunc fn first caps=>cases fn<;>rfl
 | call c=>
  obtain ⟨d,args,e⟩:=c
  cases d with
  | builtin b=>cases b<;>first|rfl|(rcases h with h|h<;>cases h)
  | _=>rfl
 | _=>rfl
theorem LD {bx bx':Nat->Option aR}{i:TI}{x:SV}(h:∀s∈x.ids,bx' s=bx s):jI bx i x=jI bx' i x:=by
 unfold jI
 split
 ·rename_i b o
  rw [h b (by simp [SV.ids,C.ids])]
 ·rfl
 ·rfl
theorem Jg {bx bx':Nat->Option aR}{i:TI}{x y:SV}(h:∀s∈x.ids,bx' s=bx s):h_ bx i x y=h_ bx' i x y:=by
 unfold h_
 split
 ·rename_i b o
  rw [h b (by simp [SV.ids,C.ids])]
 ·rfl
theorem GH {bx:Nat->Option aR}{i:TI}{x y:SV}{sc:List Prop}{s:Nat}{b:aR}(h:h_ bx i x y=.ue sc s b):s∈x.ids:=by
 unfold h_ at h
 split at h
 ·split at h
  ·split at h
   ·split at h
    ·cases h;simp [SV.ids,C.ids]
    ·cases h
   ·split at h
    ·cases h;simp [SV.ids,C.ids]
    ·cases h
   ·split at h
    ·cases h
    ·split at h
     ·cases h;simp [SV.ids,C.ids]
     ·cases h
   ·cases h
  ·cases h
 ·cases h
theorem Ct {V:View}{p:Addr}:∀(cs:List C) (i:Nat) {k:Prop},V.NT p i cs k↔V.NT p i cs True/\k
 | [],_,k=>by simp [View.NT]
 | c::r,i,k=>by
  simp only [View.NT]
  rw [Ct r (i+1),and_assoc]
theorem LJ {V V':View}(h:V.Le V'){p:Addr}:∀(cs:List C) (i:Nat) {k:Prop},V.NT p i cs k->V'.NT p i cs k
 | [],_,_,hk=>hk
 | c::r,i,_,hk=>⟨h.at hk.1,LJ h r (i+1) hk.2⟩
theorem qJ {V:View}{p:OA}{x:SV}{k:Prop}:V.MC p x k↔V.MC p x True/\k:=by
 cases x with
 | c c=>simp [View.MC]
 | agg cs=>
  simp only [View.MC]
  constructor
  ·rintro ⟨a,d,b⟩;rw [Ct] at b;exact ⟨⟨a,d,b.1⟩,b.2⟩
  ·rintro ⟨⟨a,d,b⟩,e⟩;exact ⟨a,d,by rw [Ct];exact ⟨b,e⟩⟩
 | pU xs=>simp [View.MC]
theorem Qw {V V':View}(h:V.Le V'){p:OA}{x:SV}{k:Prop}(hk:V.MC p x k):V'.MC p x k:=by
 cases x with
 | c c=>obtain ⟨⟨a,b,d⟩,e⟩:=hk;exact ⟨⟨a,b,h.at d⟩,e⟩
 | agg cs=>obtain ⟨a,b,d⟩:=hk;exact ⟨a,b,LJ h _ _ d⟩
 | pU xs=>exact hk
theorem yw.split:∀(s:yw) {F:C->Prop},s.ex F->∃x,F x/\∀G:C->Prop,G x->s.ex G
 | .int _,_,⟨_,h⟩=>⟨_,h,fun _ g=>⟨_,g⟩⟩
 | .bool,_,⟨_,h⟩=>⟨_,h,fun _ g=>⟨_,g⟩⟩
 | .slice,_,⟨_,_,_,h⟩=>⟨_,h,fun _ g=>⟨_,_,_,g⟩⟩
 | .ptr,_,⟨_,h⟩=>⟨_,h,fun _ g=>⟨_,g⟩⟩
 | .str,_,⟨_,h⟩=>⟨_,h,fun _ g=>⟨_,g⟩⟩
 | .any,_,⟨_,h⟩=>⟨_,h,fun _ g=>⟨_,g⟩⟩
theorem oq:∀(l:List yw) {F:List C->Prop},PH l F->∃x,F x/\∀G:List C->Prop,G x->PH l G
 | [],_,h=>⟨_,h,fun _ g=>g⟩
 | s::r,_,h=>by
  obtain ⟨c,h1,h2⟩:=yw.split s h
  obtain ⟨cs,a,b⟩:=oq r h1
  exact ⟨c::cs,a,fun G g=>h2 _ (b _ g)⟩
theorem ve.split:∀(s:ve) {F:SV->Prop},s.ex F->∃x,F x/\∀G:SV->Prop,G x->s.ex G
 | .one s,_,h=>by obtain ⟨c,h1,h2⟩:=yw.split s h;exact ⟨.c c,h1,fun G g=>h2 _ g⟩
 | .agg l,_,h=>by obtain ⟨c,h1,h2⟩:=oq l h;exact ⟨.agg c,h1,fun G g=>h2 _ g⟩
theorem r_:∀(l:List ve) {F:List (Bool×List C)->Prop},Q7 l F->∃x,F x/\∀G:List (Bool×List C)->Prop,G x->Q7 l G
 | [],_,h=>⟨_,h,fun _ g=>g⟩
 | .one s::r,_,h=>by
  obtain ⟨c,h1,h2⟩:=yw.split s h
  obtain ⟨cs,a,b⟩:=r_ r h1
  exact ⟨_,a,fun G g=>h2 _ (b _ g)⟩
 | .agg l::r,_,h=>by
  obtain ⟨c,h1,h2⟩:=oq l h
  obtain ⟨cs,a,b⟩:=r_ r h1
  exact ⟨_,a,fun G g=>h2 _ (b _ g)⟩
theorem Sh.split:∀(s:Sh) {F:SV->Prop},s.ex F->∃x,F x/\∀G:SV->Prop,G x->s.ex G
 | .val s,_,h=>ve.split s h
 | .pU l,_,h=>by obtain ⟨x,h1,h2⟩:=r_ l h;exact ⟨_,h1,fun G g=>h2 _ g⟩
 | .none,_,h=>⟨_,h,fun _ g=>g⟩
theorem Sh.mono {s:Sh}{F G:SV->Prop}(h:s.ex F)(k:∀x,F x->G x):s.ex G:=by
 obtain ⟨x,a,b⟩:=s.split h
 exact b G (k x a)
theorem xr {l m:List Nat}:L1 l m=true↔∀x∈l,x∈m:=by
 simp only [L1,List.all_eq_true,cA]
theorem wK {op:Op}{x:Operand}(h:x∈op.operands.toList){t:Nat}(e:x=.tmp t):t∈iO op:=by
 subst e
 exact List.mem_filterMap.2 ⟨_,h,rfl⟩
theorem ow {st st2:St}{op:Op}(h:∀t∈iO op,st2.aw t=st.aw t){x:Operand}(hx:x∈op.operands.toList):st2.aZ x=st.aZ x:=by
 cases x with
 | tmp t=>exact h t (wK hx rfl)
 | _=>rfl
theorem wJ {op:Op}{x:Operand}(h:x∈iN op):x∈op.operands.toList:=by
 unfold iN at h
 split at h
 ·simpa [Op.operands] using h
 ·simp at h;subst h;simp [Op.operands]
 ·simp only [Op.operands,Call.operands]
  simp at h ⊢
  rcases h with h|h
  ·exact .inr h
  ·exact .inl h
 ·simpa [Op.operands,Call.operands] using h
 ·cases h
theorem sJ {ρ:Operand->Option SV}:∀{l:List Operand} {xs:List SV},bZ ρ l=some xs->∀x∈l,∃v,ρ x=some v/\v∈xs
 | [],_,_,_,hx=>nomatch hx
 | o::r,xs,h,x,hx=>by
  simp only [bZ] at h
  split at h
  ·rename_i v l h1 h2
   cases h
   rcases List.mem_cons.1 hx with e|hx
   ·exact ⟨v,by rw [e];exact h1,by simp⟩
   ·obtain ⟨u,hu,hm⟩:=sJ h2 x hx
    exact ⟨u,hu,by simp [hm]⟩
  ·cases h
structure Outcome (P:Program) (T:dA) (m:CM) (h:Hint) (o:Oper) (st:St) (V:View) (R W:List Nat) (K:St->View->Prop) (p:Nat->Option SV) (q:Nat->Option aR):Prop where
 pd:∀t,t∉eK o->p t=none
 qd:∀s,s∉W->q s=none
 next:K (ov p q st) V
 again:∀(st2:St)(V2:View)(K2:St->View->Prop),V.Le V2->(∀t∈iO o.op,st2.aw t=st.aw t)->(∀s∈R,st2.boxes s=st.boxes s)->K2 (ov p q st2) V2->cW P T m h o st2 V2 K2
variable {P:Program} {T:dA} {LF RF:List Nat} {m:CM}
theorem BW {o:Oper}{t:Nat}(h:t∉eK o):o.dst≠some t:=by
 intro e;apply h;simp [eK,e]
theorem Og {o:Oper}{st:St}{V:View}{K:St->View->Prop}{R W:List Nat}{Q0:Q}
  (hnew:∀sc b x,Q0=.new sc b x->eK o=W/\eK o=R)(WN:∀sc s b,Q0=.ue sc s b->s∈W)(happ:dC Q0≠6)
  (hv:uf Q0 o.dst st V K) :
  ∃p q,(∀t,t∉eK o->p t=none)/\(∀s,s∉W->q s=none)/\K (ov p q st) V /\
   ∀(st2:St)(V2:View)(K2:St->View->Prop),V.Le V2->(∀s∈R,st2.boxes s=st.boxes s)->K2 (ov p q st2) V2->uf Q0 o.dst st2 V2 K2:=by
 cases Q0 with
 | fail=>exact hv.elim
 | ret sc x=>
  obtain ⟨h,k⟩:=(dU sc _).1 hv
  refine ⟨one o.dst x,fun _=>none,fun t l=>dX (BW l),fun _ _=>rfl,by rw [←fl];exact k,?_⟩
  intro st2 V2 K2 _ _ m
  exact (dU sc _).2 ⟨h,by rw [fl];exact m⟩
 | new sc b x=>
  obtain ⟨r,u⟩:=hnew _ _ _ rfl
  simp only [uf] at hv ⊢
  cases hd:o.dst with
  | none=>rw [hd] at hv;exact hv.elim
  | some d=>
   have n:eK o=[d]:=by simp [eK,hd]
   rw [hd] at hv
   dsimp only at hv ⊢
   split at hv
   ·rename_i v
    obtain ⟨h,k⟩:=(dU sc _).1 hv
    refine ⟨one (some d) (x d),one (some d) b,fun t l=>dX (by intro e;apply l;rw [n];simpa using e.symm),fun s w=>dX (by intro e;apply w;rw [←r,n];simpa using e.symm),by rw [←Aq];exact k,?_⟩
    intro st2 V2 K2 _ y m
    rw [y d (by rw [←u,n];simp),v]
    exact (dU sc _).2 ⟨h,by rw [Aq];exact m⟩
   ·exact hv.elim
 | ue sc s b=>
  simp only [uf] at hv ⊢
  cases hd:o.dst with
  | some d=>rw [hd] at hv;exact hv.elim
  | none=>
   rw [hd] at hv
   dsimp only at hv ⊢
   obtain ⟨h,k⟩:=(dU sc _).1 hv
   refine ⟨fun _=>none,one (some s) b,fun _ _=>rfl,fun t l=>dX (by intro e;apply l;have:=WN _ _ _ rfl;simp at e;rw [←e];exact this),by rw [←FG];exact k,?_⟩
   intro st2 V2 K2 _ _ m
   exact (dU sc _).2 ⟨h,by rw [FG];exact m⟩
 | rd a sh=>
  obtain ⟨x,h,k⟩:=sh.split hv
  obtain ⟨z,A⟩:=qJ.1 h
  refine ⟨one o.dst x,fun _=>none,fun t l=>dX (BW l),fun _ _=>rfl,by rw [←fl];exact A,?_⟩
  intro st2 V2 K2 hle _ m
  exact k _ (qJ.2 ⟨Qw hle z,by rw [fl];exact m⟩)
 | oT vs of size sh=>
  obtain ⟨x,h,k⟩:=sh.split hv
  refine ⟨one o.dst x,fun _=>none,fun t l=>dX (BW l),fun _ _=>rfl,by rw [←fl];exact h.2,?_⟩
  intro st2 V2 K2 hle _ m
  exact k _ ⟨h.1,by rw [fl];exact m⟩
 | app a b c d e f g i j=>exact absurd rfl happ
 | sH a b c d e f g i=>exact absurd rfl happ
theorem wZ {o:Oper}(h:nH (bf LF RF o.op)=true)(st:St)(V:View)(K:St->View->Prop):di P T m o st V K=uf (aJ T st.aZ st.boxes o.op) o.dst st V K:=by
 unfold di
 split
 ·rename_i f args b a
  rw [a] at h
  exfalso
  cases f with
  | func f=>
   simp only [bf] at h
   split at h
   ·split at h<;>cases h
   ·split at h
    ·cases h
    ·split at h<;>cases h
  | _=>cases h
 ·rename_i recv name args b a
  rw [a] at h
  cases h
 ·rfl
theorem pF {ρ:Operand->Option SV}{bx:Nat->Option aR}{op:Op}:dC (aJ T ρ bx op)=2->bf LF RF op=.alloc:=by
 have fh:∀{q:Q} {X:Prop},dC q<=1->dC q=2->X:=by intro q X h h';omega
 unfold aJ
 split
 case h_8=>
  split
  ·intro h;rcases sM (bx:=bx) with h'|h'|h'|h'<;>(rw [h'] at h;cases h)
  ·exact fh (Nat.zero_le _)
 case h_9=>
  split
  ·intro h;rcases pI (bx:=bx) with h'|h'<;>(rw [h'] at h;cases h)
  ·exact fh (Nat.zero_le _)
 case h_11=>
  split
  ·split
   ·split
    ·exact fh qX
    ·exact fh (Nat.zero_le _)
   ·exact fh qX
  ·exact fh (Nat.zero_le _)
 case h_17=>exact fun _=>rfl
 case h_18=>
  split
  ·split
   ·split
    ·exact fh xu
    ·exact fh (Nat.zero_le _)
   ·exact fh (Nat.zero_le _)
  ·exact fh (Nat.zero_le _)
 case h_21=>
  split
  ·exact fh nQ
  ·exact fh (Nat.zero_le _)
 case h_23 c=>
  split
  ·intro h
   exfalso
   split at h<;>(try split at h)<;>(try split at h)<;>(try split at h)<;>first|(rcases nP (bx:=bx) with h'|h'<;>(rw [h'] at h;cases h))|cases h
  ·split
   ·intro h;rcases pH (T:=T) (bx:=bx) with h'|h'<;>(rw [h'] at h;cases h)
   ·exact fh (Nat.zero_le _)
  ·split
   ·split
    ·exact fh qY
    ·exact fh (Nat.zero_le _)
   ·exact fh (Nat.zero_le _)
  ·exact fh (Nat.zero_le _)
 all_goals
  first
  | exact fun _=>rfl
  | exact fh (Nat.zero_le _)
  | ((repeat' split)<;>first|exact fh (Nat.zero_le _)|exact fh (Nat.le_refl _)|exact fh oV|(unfold wX;(repeat' split)<;>first|exact fh (Nat.zero_le _)|exact fh (Nat.le_refl _)))
theorem AQ {st st2:St}{op:Op}(h:∀t∈iO op,st2.aw t=st.aw t):bZ st2.aZ (iN op)=bZ st.aZ (iN op):=
 eN _ fun _ a=>ow h (wJ a)
theorem oA {h:Hint}{o:Oper}{st:St}{V:View}{K:St->View->Prop}{R W:List Nat}(hq:nH (bf LF RF o.op)=true)(hrw:qO (bf LF RF o.op) h (eK o)=some (R,W))
  (hv:cW P T m h o st V K):∃p q,Outcome P T m h o st V R W K p q:=by
 have core:(∀g:St,(∀t∈iO o.op,g.aw t=st.aw t)->(∀s∈R,g.boxes s=st.boxes s)->aJ T g.aZ g.boxes o.op=aJ T st.aZ st.boxes o.op) ->
   (∀C b x,aJ T st.aZ st.boxes o.op=.new C b x->eK o=W/\eK o=R)->(∀C s b,aJ T st.aZ st.boxes o.op=.ue C s b->s∈W) ->
   (∀(g:St)(V2:View)(D:St->View->Prop),(∀t∈iO o.op,g.aw t=st.aw t)->di P T m o g V2 D->cW P T m h o g V2 D) ->
   di P T m o st V K->∃p q,Outcome P T m h o st V R W K p q:=by
  intro he U hu A hv
  rw [wZ hq] at hv
  obtain ⟨p,q,X,Y,Z,h4⟩:=Og (R:=R) (W:=W) U hu (fun n=>by
   obtain ⟨cl,d,F⟩:=(gg (T:=T) (ρ:=st.aZ) (bx:=st.boxes) (op:=o.op)).2.2 n
   rw [d] at hq
   obtain ⟨G,args,N⟩:=cl
   dsimp only at F
   subst F
   cases hq) hv
  refine ⟨p,q,X,Y,Z,fun g V2 D hle H I hK=>?_⟩
  refine A g V2 D H ?_
  rw [wZ hq,he g H I]
  exact h4 g V2 D hle I hK
 have O:bf LF RF o.op=.pure\/bf LF RF o.op=.alloc->h=.free->(bf LF RF o.op=.alloc->R=eK o/\W=eK o)->∃p q,Outcome P T m h o st V R W K p q:=by
  intro j hf hd
  subst hf
  refine core (fun g r _=>?_) (fun C b x n=>?_) (fun C s b n=>?_) (fun _ _ _ _ A=>A) hv
  ·rw [LB (bx':=st.boxes) j]
   exact nG fun x J=>ow r J
  ·have:=hd (pF (by rw [n];rfl));exact ⟨this.2.symm,this.1.symm⟩
  ·rcases (gg (T:=T) (ρ:=st.aZ) (bx:=st.boxes) (op:=o.op)).1 (by rw [n];rfl) with ⟨t,y,x,d⟩|⟨⟨G,args,N⟩,d,F⟩
   ·rw [d] at j
    rcases j with j|j<;>cases j
   ·dsimp only at F
    subst F
    rw [d] at j
    rcases j with j|j<;>cases j
 generalize j:bf LF RF o.op=c at hrw hq O
 cases c with
 | pure=>
  cases h with
  | free=>exact O (.inl rfl) rfl (fun e=>by cases e)
  | own l=>cases hrw
 | alloc=>
  cases h with
  | free=>
   simp only [qO,Option.some.injEq,Prod.mk.injEq] at hrw
   exact O (.inr rfl) rfl (fun _=>⟨hrw.1.symm,hrw.2.symm⟩)
  | own l=>cases hrw
 | load=>
  cases h with
  | free=>cases hrw
  | own l=>
   simp only [qO,Option.some.injEq,Prod.mk.injEq] at hrw
   obtain ⟨rfl,rfl⟩:=hrw
   have d:∃t a,o.op=.load t a:=by
    generalize o.op=op at j
    cases op with
    | load t a=>exact ⟨t,a,rfl⟩
    | call c=>obtain ⟨G,args,N⟩:=c;cases G with
     | builtin b=>cases b<;>cases j
     | value f=>cases f with
      | func f=>simp only [bf] at j;split at j<;>(try split at j)<;>(try split at j)<;>(try split at j)<;>cases j
      | _=>cases j
     | _=>cases j
    | _=>cases j
   obtain ⟨t,a,d⟩:=d
   unfold cW at hv
   dsimp only at hv
   split at hv
   ·rename_i xs z
    split at hv
    ·rename_i k
     have M:∀v,st.aZ a=some v->∀s∈v.ids,s∈l:=by
      intro v Q s r
      rw [xr] at k
      apply k
      rw [d] at z
      obtain ⟨u,hu,hm⟩:=sJ z a (by simp [iN])
      rw [d]
      simp only [eY]
      rw [Q] at hu
      cases hu
      exact List.mem_flatMap.2 ⟨_,hm,r⟩
     refine core (fun g r A=>?_) (fun C b x n=>?_) (fun C s b n=>?_) (fun g V2 D r A=>?_) hv
     ·rw [d] at r ⊢
      rw [nG (ρ':=st.aZ) fun x J=>ow r J]
      simp only [aJ]
      split
      ·rename_i i v S L
       exact (LD fun s E=>A s (M v L s E)).symm
      ·rfl
     ·have:=pF (LF:=LF) (RF:=RF) (op:=o.op) (T:=T) (ρ:=st.aZ) (bx:=st.boxes) (by rw [n];rfl)
      rw [d] at this;cases this
     ·rcases (gg (T:=T) (ρ:=st.aZ) (bx:=st.boxes) (op:=o.op)).1 (by rw [n];rfl) with ⟨t,y,x,B⟩|⟨c,B,-⟩<;>(rw [d] at B;cases B)
     ·unfold cW
      dsimp only
      rw [AQ r,z]
      dsimp only
      have:eY g.boxes o.op (xs.flatMap SV.ids)=eY st.boxes o.op (xs.flatMap SV.ids):=by rw [d];rfl
      rw [this,k]
      exact A
    ·exact hv.elim
   ·exact hv.elim
 | store=>
  cases h with
  | free=>cases hrw
  | own l=>
   simp only [qO,Option.some.injEq,Prod.mk.injEq] at hrw
   obtain ⟨rfl,rfl⟩:=hrw
   have d:∃t a x,o.op=.store t a x:=by
    generalize o.op=op at j
    cases op with
    | store t a x=>exact ⟨t,a,x,rfl⟩
    | call c=>obtain ⟨G,args,N⟩:=c;cases G with
     | builtin b=>cases b<;>cases j
     | value f=>cases f with
      | func f=>simp only [bf] at j;split at j<;>(try split at j)<;>(try split at j)<;>(try split at j)<;>cases j
      | _=>cases j
     | _=>cases j
    | _=>cases j
   obtain ⟨t,a,y,d⟩:=d
   unfold cW at hv
   dsimp only at hv
   split at hv
   ·rename_i xs z
    split at hv
    ·rename_i k
     have M:∀v,st.aZ a=some v->∀s∈v.ids,s∈l:=by
      intro v Q s r
      rw [xr] at k
      apply k
      rw [d] at z
      obtain ⟨u,hu,hm⟩:=sJ z a (by simp [iN])
      rw [d]
      simp only [eY]
      rw [Q] at hu
      cases hu
      exact List.mem_flatMap.2 ⟨_,hm,r⟩
     refine core (fun g r A=>?_) (fun C b x n=>?_) (fun C s b n=>?_) (fun g V2 D r A=>?_) hv
     ·rw [d] at r ⊢
      rw [nG (ρ':=st.aZ) fun x J=>ow r J]
      simp only [aJ]
      split
      ·rename_i i v w S L hw
       exact (Jg fun s E=>A s (M v L s E)).symm
      ·rfl
     ·have:=pF (LF:=LF) (RF:=RF) (op:=o.op) (T:=T) (ρ:=st.aZ) (bx:=st.boxes) (by rw [n];rfl)
      rw [d] at this;cases this
     ·rw [d] at n
      simp only [aJ] at n
      split at n
      ·rename_i i v w S L hw
       exact M v L s (GH n)
      ·cases n
     ·unfold cW
      dsimp only
      rw [AQ r,z]
      dsimp only
      have:eY g.boxes o.op (xs.flatMap SV.ids)=eY st.boxes o.op (xs.flatMap SV.ids):=by rw [d];rfl
      rw [this,k]
      exact A
    ·exact hv.elim
   ·exact hv.elim
 | _=>cases hq
end Go.bM
namespace Go.bM
variable {P:Program} {T:dA} {LF RF:List Nat} {m:CM}
def Good (p:Nat->Option SV)(q:Nat->Option aR)(W D:List Nat)(st:St)(V:View)(K:St->View->Prop):St->View->Prop:=
 fun st2 V2=>V.Le V2/\(∀t,t∉D->st2.aw t=st.aw t)/\(∀s,s∉W->st2.boxes s=st.boxes s)/\K (ov p q st2) V2
theorem p_ {bx bx':Nat->Option aR}:∀{l:List Nat},(∀s∈l,bx' s=bx s)->l.flatMap (lP bx')=l.flatMap (lP bx)
 | [],_=>rfl
 | s::r,h=>by
  simp only [List.flatMap_cons]
  rw [p_ fun s hs=>h s (by simp [hs])]
  simp only [lP]
  rw [h s (by simp)]
theorem nI {bx bx':Nat->Option aR}:∀(n:Nat)(l:List Nat),(∀s∈reach bx n l,bx' s=bx s)->reach bx' n l=reach bx n l
 | 0,_,_=>rfl
 | n+1,l,h=>by
  have hl:∀s∈l,bx' s=bx s:=fun s a=>h s (e_ (n+1) l s a)
  simp only [reach] at h ⊢
  rw [p_ hl]
  exact nI n _ h
theorem yU {bx bx':Nat->Option aR}{l:List Nat}(h:∀s∈l,bx' s=bx s):im bx' l=im bx l:=by
 unfold im
 rw [Bool.eq_iff_iff,List.all_eq_true,List.all_eq_true]
 constructor
 ·intro g s a;have:=g s a;simp only [lP] at this ⊢;rw [h s a] at this;exact this
 ·intro g s a;have:=g s a;simp only [lP] at this ⊢;rw [h s a];exact this
theorem ji:∀{L:List Nat} {β:Nat->Nat} {k k':(Nat->Nat)->Prop},(∀β,k β->k' β)->mT L β k->mT L β k'
 | [],_,_,_,h,g=>h _ g
 | _::_,_,_,_,h,g=>fun b=>ji h (g b)
theorem wP {bx bx':Nat->Option aR}{b:aR}{β:Nat->Nat}{s:Nat}:∀{r:List Nat} {k k':Prop},(∀t∈r,bx' t=bx t)->(k->k')->OY bx b β s r k->OY bx' b β s r k'
 | [],_,_,_,h,g=>h g
 | t::r,k,k',hb,h,g=>by
  have hr:=fun t a=>hb t (List.mem_cons_of_mem _ a)
  simp only [OY] at g ⊢
  rw [hb t (by simp)]
  cases hbq:Nat.beq s t with
  | true=>rw [hbq] at g;exact wP hr h g
  | false=>
   rw [hbq] at g
   simp only [cond_false] at g ⊢
   split at g
   ·exact fun c=>wP hr h (g c)
   ·exact g
theorem jE {bx bx':Nat->Option aR}{β:Nat->Nat}{V:View}:∀{L:List Nat} {k k':Prop},(∀s∈L,bx' s=bx s)->((∀s∈L,∃b,bx s=some b/\(b.live->V.H (β s)))->k->k')->iS bx β V L k->iS bx' β V L k'
 | [],_,_,_,h,g=>h (fun s hs=>absurd hs (by simp)) g
 | s::r,k,k',hb,h,g=>by
  have hr:=fun t a=>hb t (List.mem_cons_of_mem _ a)
  simp only [iS] at g ⊢
  rw [hb s (by simp)]
  split at g
  ·rename_i b c
   refine fun e d=>jE hr (fun f=>wP hr (fun i=>h (fun t a=>?_) i)) (g e d)
   rcases List.mem_cons.1 a with rfl|a
   ·exact ⟨b,c,fM.1 d⟩
   ·exact f t a
  ·exact g
theorem kd {mv:Option (Nat×Nat)}:∀{cs zs:List C} {K K':List C->Prop},(∀c,K c->K' c)->mi mv cs zs K->mi mv cs zs K'
 | [],_,_,_,h,g=>h _ g
 | _::_,[],_,_,_,g=>g.elim
 | c::r,z::zr,K,K',h,g=>by
  simp only [mi] at g ⊢
  split at g
  ·split at g
   ·split at g
    ·obtain ⟨n,c,g⟩:=g
     exact ⟨n,c,kd (fun cs a=>h _ a) g⟩
    ·exact g.elim
   ·exact g.elim
  ·split at g
   ·obtain ⟨v,b,d⟩:=yw.split _ g
    rename_i e
    rw [e] at *
    exact d _ (kd (fun cs a=>h _ a) b)
   ·exact kd (fun cs a=>h _ a) g
variable {p:Nat->Option SV} {q:Nat->Option aR}
theorem kg {mv:Option (Nat×Nat)}{β:Nat->Nat}{V:View}{W:List Nat}:∀{L:List Nat} {st:St} {k k':St->Prop},(∀s∈L,q s=none/\s∈W) ->
  (∀st',(∀t,st'.aw t=st.aw t)->(∀s,s∉W->st'.boxes s=st.boxes s)->k (ov p q st')->k' st')->eM T mv β V L (ov p q st) k->eM T mv β V L st k'
 | [],st,k,k',_,h,g=>h st (fun _=>rfl) (fun _ _=>rfl) g
 | s::r,st,k,k',hq,h,g=>by
  obtain ⟨PY,Sv⟩:=hq s (by simp)
  have o:∀s∈r,q s=none/\s∈W:=fun s u=>hq s (by simp [u])
  have j:∀b:aR,∀l:St->Prop,(∀st',l st'=k st')->eM T mv β V r ((ov p q st).box s b) l->eM T mv β V r (st.box s b) k':=by
   intro b l m g
   rw [mu PY] at g
   refine kg o (fun st' a c f=>h st' a (fun v d=>?_) (by rw [←m];exact f)) g
   rw [c v d,aj,if_neg (fun e=>d (by rw [e];exact Sv))]
  simp only [eM] at g ⊢
  rw [cO PY] at g
  split at g
  ·rename_i cs ty z
   split at g
   ·rename_i i A
    exact kd (fun w f=>⟨f.1,j _ _ (fun _=>rfl) f.2⟩) g
   ·exact g
  ·obtain ⟨n,a,c⟩:=g
   exact ⟨n,a,j _ _ (fun _=>rfl) c⟩
  ·obtain ⟨x,n,y,a,c⟩:=g
   exact ⟨x,n,y,a,j _ _ (fun _=>rfl) c⟩
  ·exact g
theorem uR (V:View)(l:List Nat):V.Le (V.bz l):=fun _ _ h=>h
theorem HR (V:View):V.Le V.shut:=fun _ _ h=>h
theorem KX {V V' fr:View}{P:Prop}{b:Nat}(h:V.Le fr)(h':V.Le V')(hb:P->V'.w.heap.size<=b\/V'.H b):V.Le (fr.shut.ke P b):=by
 intro x o c
 obtain ⟨f,g⟩:=h x o c
 obtain ⟨i,j⟩:=h' x o c
 refine ⟨fun a=>?_,g⟩
 rcases a with a|⟨k,e,-⟩
 ·exact f a
 ·subst e
  rcases hb k with d|d
  ·have:=aB j;omega
  ·exact i d
theorem Lc {m:Option Nat}{d:Nat}:fC m d=d\/fC m d=d+200000:=by
 cases m with
 | none=>exact .inl rfl
 | some m=>
  simp only [fC,oK]
  cases Nat.blt m 100000 with
  | true=>exact .inl rfl
  | false=>exact .inr rfl
theorem pA {give:Bool}{sh:Sh}{L:List Nat}{mm:Option Nat}{d:Nat}{ety:TypeId}{β:Nat->Nat}{st:St}{V V' fr:View}{K K':St->View->Prop}{W D:List Nat}{r':Value}
  (hL:∀s∈L,q s=none/\s∈W)(hm:∀k,mm=some k->k∈L)(hp:p d=none/\d∈D)(hq:q (fC mm d)=none/\fC mm d∈W)(hV:V.Le V')(hV2:V.Le fr)
  (hlv:∀s∈L,∃b,st.boxes s=some b/\(b.live->V'.H (β s)))(hK:∀s2 V2,Good p q W D st V K s2 V2->K' s2 V2)
  (h:cD T give sh L mm d ety β (ov p q st) V' K r' fr):cD T give sh L mm d ety β st V' K' r' fr:=by
 unfold cD at h ⊢
 obtain ⟨c,a,v,y,z⟩:=h
 have j:a≠[]->V'.w.heap.size<=c\/yl mm st β c:=by
  intro f
  refine (y f).imp id fun h=>?_
  unfold yl at h ⊢
  cases mm with
  | none=>exact h
  | some k=>
   dsimp only at h ⊢
   rw [cO (hL k (hm k rfl)).1] at h
   exact h
 have A:a≠[]->V'.w.heap.size<=c\/V'.H c:=by
  intro f
  refine (j f).imp id fun h=>?_
  unfold yl at h
  cases mm with
  | none=>exact h.elim
  | some k=>
   dsimp only at h
   obtain ⟨B,o,g⟩:=hlv k (hm k rfl)
   rw [o] at h
   obtain ⟨cs,ty⟩:=B
   cases cs with
   | lit cs=>have h:c=β k:=h;rw [h];exact g df
   | row cs=>have h:c=β k:=h;rw [h];exact g cz
   | aW vs=>have h:vs≠[]/\c=β k:=h;rw [h.2];exact g (fY h.1)
 refine ⟨c,a,v,j,Sh.mono z fun x u=>⟨u.1,?_⟩⟩
 have C:(qt mm ety (ov p q st)).box (fC mm d) ⟨.aW a,ety⟩=ov p q ((qt mm ety st).box (fC mm d) ⟨.aW a,ety⟩):=by
  cases mm with
  | none=>exact mu hq.1
  | some k=>
   simp only [qt]
   rw [mu (hL k (hm k rfl)).1,mu hq.1]
 have l:=u.2
 rw [C] at l
 have m:∀s∈HS mm L,q s=none/\s∈W:=by
  intro s i
  cases mm with
  | none=>exact hL s i
  | some k=>exact hL s (wM.1 i).1
 refine kg m (fun r E F n=>?_) l
 rw [kD (fun k n=>by cases n;exact hp.1)] at n
 refine hK _ _ ⟨KX hV2 hV A,?_,?_,n⟩
 ·intro t G
  rw [dJ,if_neg (fun e=>G (by rw [e];exact hp.2)),E]
  cases mm<;>rfl
 ·intro s i
  show r.boxes s=_
  rw [F s i,aj,if_neg (fun e=>i (by rw [e];exact hq.2))]
  cases mm with
  | none=>rfl
  | some k=>simp only [qt];rw [aj,if_neg (fun e=>i (by rw [e];exact (hL k (hm k rfl)).2))]
theorem K7 {bx:Nat->Option aR}{L:List Nat}(hcl:im bx L=true):∀k,k∈qH bx L->k∈L:=by
 intro k a
 unfold qH at a
 obtain ⟨s,b,a⟩:=List.mem_flatMap.1 (bQ.1 a)
 split at a
 ·rename_i cs ty d
  refine iA hcl b d k ?_
  have:∀cs:List C,k∈pB cs->k∈cs.flatMap C.ids:=by
   intro cs
   induction cs with
   | nil=>exact fun h=>nomatch h
   | cons c r ih=>
    intro h
    rw [List.flatMap_cons,List.mem_append]
    cases c<;>simp only [pB,List.mem_cons] at h<;>first
     | exact .inr (ih h)
     | (rcases h with h|h
        ·left;simp [C.ids,h]
        ·exact .inr (ih h))
  exact this cs a
 ·cases a
theorem v_ {xs:List SV}:∀k,k∈ml xs->k∈xs.flatMap SV.ids:=by
 intro k
 induction xs with
 | nil=>exact fun h=>nomatch h
 | cons x r ih=>
  intro h
  rw [List.flatMap_cons,List.mem_append]
  unfold ml at h
  split at h
  ·rename_i heq;cases heq
  ·rename_i s n c a heq;cases heq;exact .inl h
  ·rename_i s n c a heq;cases heq;exact .inl h
  ·cases h
  ·rename_i heq;cases heq;exact .inr (ih h)
theorem tM {bx bx':Nat->Option aR}{L:List Nat}(h:∀s∈L,bx' s=bx s):qH bx' L=qH bx L:=by
 unfold qH
 congr 1
 induction L with
 | nil=>rfl
 | cons s r ih=>simp only [List.flatMap_cons];rw [h s (by simp),ih fun s a=>h s (by simp [a])]
theorem jc {st:St}{mm:Option Nat}{d:Nat}(h:q (fC mm d)=none):kC (ov p q st) mm d=kC st mm d:=by
 unfold kC;rw [cO h]
theorem tJ {bx bx':Nat->Option aR}{β:Nat->Nat}{N:Nat}{L:List Nat}(h:∀s∈L,bx' s=bx s):L.map (dW bx' β N)=L.map (dW bx β N):=
 List.map_congr_left fun s a=>by unfold dW;rw [h s a]
theorem jf {f:FuncId}{xs:List SV}{ty:TypeId}{dst:Option Nat}{st:St}{V:View}{K:St->View->Prop}{W D:List Nat}
  (hm:m=.none\/((m=.bz\/m=.give)/\(∀s∈reach (ov p q st).boxes 3 (dedup (xs.flatMap SV.ids)),q s=none/\s∈W)/\∀k,dst=some k->∀mm,q (fC mm k)=none/\fC mm k∈W))(hd:∀k,dst=some k->p k=none/\k∈D)
  {K':St->View->Prop}(hK:∀s2 V2,Good p q W D st V K s2 V2->K' s2 V2)(hv:fQ P T m f xs ty dst (ov p q st) V K):fQ P T m f xs ty dst st V K':=by
 have z:∀(l:St)(x:SV),(∀t,l.aw t=st.aw t)->∀t,t∉D->(l.put dst x).aw t=st.aw t:=by
  intro l x h t n
  cases dst with
  | none=>exact h t
  | some d=>rw [dJ,if_neg (fun e=>n (by rw [e];exact (hd d rfl).2))];exact h t
 have H:∀(l:St)(x:SV),(l.put dst x).boxes=l.boxes:=by intro l x;cases dst<;>rfl
 unfold fQ at hv ⊢
 split at hv
 ·exact hv.elim
 ·rename_i O a0
  have E:∀L,reach (ov p q st).boxes 3 (dedup (xs.flatMap SV.ids))=L->(∀s∈L,q s=none)->reach st.boxes 3 (dedup (xs.flatMap SV.ids))=L:=by
   intro L X Q
   rw [←X]
   exact nI 3 _ fun s v=>(cO (Q s (by rw [←X];exact v))).symm
  have Y:∀s∈xs.flatMap SV.ids,s∈reach (ov p q st).boxes 3 (dedup (xs.flatMap SV.ids)):=fun s v=>e_ 3 _ s (bQ.2 v)
  generalize hr:reach (ov p q st).boxes 3 (dedup (xs.flatMap SV.ids))=L at hv hm Y
  cases L with
  | nil=>
   rw [E _ hr (fun s v=>nomatch v)]
   have plain:(∀b:View,V.Le b->ab P f (aU (fun _=>0) xs) b fun r A=>O.ex fun x=>r=x.den (fun _=>0)/\K ((ov p q st).put dst x) A) ->
     ∀b:View,V.Le b->ab P f (aU (fun _=>0) xs) b fun r A=>O.ex fun x=>r=x.den (fun _=>0)/\K' (st.put dst x) A:=by
    intro hv b c
    refine (hv b c).mono fun r A hle i=>Sh.mono i fun x I=>⟨I.1,?_⟩
    have y:=I.2
    rw [kD (fun k i=>(hd k i).1)] at y
    exact hK _ _ ⟨c.trans hle,z st x fun _=>rfl,fun s _=>by rw [H],y⟩
   rcases hm with rfl|⟨rfl|rfl,-,g⟩
   ·exact plain hv
   ·exact plain hv
   ·dsimp only at hv ⊢
    split at hv
    ·rename_i d o a1
     rw [jc (g d rfl Option.none).1] at hv
     split at hv
     ·exact hv.elim
     ·rename_i u
      intro b c
      refine (hv b c).mono fun r A hle i=>?_
      exact pA (W:=W) (D:=D) (fun s v=>absurd v (by simp)) (fun k i=>by cases i) (hd d rfl) (g d rfl Option.none) c (c.trans hle) (fun s v=>absurd v (by simp)) hK i
    ·exact hv.elim
  | cons s r=>
   dsimp only at hv
   split at hv
   ·exact hv.elim
   ·rename_i J
    have bz:m=.bz\/m=.give->(∀t∈s::r,q t=none/\t∈W)->(∀k,dst=some k->∀mm,q (fC mm k)=none/\fC mm k∈W) ->
      ∀{give:Bool} {mm:Option Nat} {d:Nat} {o:TypeId},dst=some d->(∀k,mm=some k->k∈s::r) ->
      (∀b:View,V.Le b->mT (s::r) (fun _=>0) fun β=>iS (ov p q st).boxes β b (s::r) (ab P f (aU β xs) (b.bz ((s::r).map (dW (ov p q st).boxes β b.w.heap.size))) (cD T give O (s::r) mm d o β (ov p q st) b K))) ->
      ∀b:View,V.Le b->mT (s::r) (fun _=>0) fun β=>iS st.boxes β b (s::r) (ab P f (aU β xs) (b.bz ((s::r).map (dW st.boxes β b.w.heap.size))) (cD T give O (s::r) mm d o β st b K')):=by
     intro _ a g give mm d o B WH hv b c
     have C:∀t∈s::r,st.boxes t=(ov p q st).boxes t:=fun t n=>(cO (a t n).1).symm
     refine ji (fun β R=>?_) (hv b c)
     rw [tJ (bx:=(ov p q st).boxes) C]
     refine jE (bx:=(ov p q st).boxes) C (fun hH F=>?_) R
     refine F.mono fun r' A hle i=>?_
     have M:V.Le A:=(c.trans (uR b _)).trans hle
     exact pA a WH (hd d B) (g d B mm) c M (fun t n=>by rw [C t n];exact hH t n) hK i
    have base:m=.bz\/m=.give->(∀t∈s::r,q t=none/\t∈W)/\(∀k,dst=some k->∀mm,q (fC mm k)=none/\fC mm k∈W):=by
     intro h
     rcases hm with rfl|⟨-,N,y⟩
     ·rcases h with h|h<;>cases h
     ·exact ⟨N,y⟩
    have Z:(∀t∈s::r,q t=none/\t∈W)->im st.boxes (s::r)=true:=fun a=>by
     rw [yU (bx:=(ov p q st).boxes) (fun t n=>(cO (a t n).1).symm)];exact J
    split at hv
    ·exact hv.elim
    ·exact hv.elim
    ·
     obtain ⟨a,g⟩:=base (.inr rfl)
     rw [E _ hr (fun t n=>(a t n).1)]
     dsimp only
     rw [Z a]
     dsimp only
     have G:=tM (bx:=(ov p q st).boxes) (bx':=st.boxes) (L:=s::r) (fun t n=>(cO (a t n).1).symm)
     rw [G]
     split at hv
     ·rename_i d o N y h3
      rw [jc (g d rfl _).1] at hv
      split at hv
      ·exact hv.elim
      ·rename_i u
       exact bz (.inr rfl) a g rfl (fun k i=>by cases i) hv
     ·rename_i d o k N y h3
      rw [jc (g d rfl _).1] at hv
      split at hv
      ·exact hv.elim
      ·rename_i u
       exact bz (.inr rfl) a g rfl (fun j S=>by cases S;exact Y k (v_ k (by rw [y];simp))) hv
     ·exact hv.elim
    ·
     obtain ⟨a,g⟩:=base (.inl rfl)
     rw [E _ hr (fun t n=>(a t n).1)]
     dsimp only
     rw [Z a]
     dsimp only
     have C:∀t∈s::r,st.boxes t=(ov p q st).boxes t:=fun t n=>(cO (a t n).1).symm
     have G:=tM (bx:=(ov p q st).boxes) (bx':=st.boxes) (L:=s::r) C
     rw [G]
     split at hv
     ·intro b c
      refine ji (fun β R=>?_) (hv b c)
      rw [tJ (bx:=(ov p q st).boxes) C]
      refine jE (bx:=(ov p q st).boxes) C (fun _ F=>?_) R
      refine F.mono fun r' A hle i=>Sh.mono i fun x I=>⟨I.1,?_⟩
      refine kg a (fun l N y i=>?_) I.2
      rw [kD (fun k i=>(hd k i).1)] at i
      exact hK _ _ ⟨((c.trans (uR b _)).trans hle).trans (HR _),z l x N,fun t n=>by rw [H];exact y t n,i⟩
     ·rename_i k i
      have PS:k∈s::r:=K7 J k (by rw [i];simp)
      have U:kT st.boxes k=kT (ov p q st).boxes k:=by unfold kT;rw [C k PS]
      rw [U]
      split at hv
      ·rename_i d o a2
       rw [jc (g d rfl _).1] at hv
       split at hv
       ·exact hv.elim
       ·rename_i u
        exact bz (.inl rfl) a g rfl (fun j S=>by cases S;exact PS) hv
      ·exact hv.elim
     ·exact hv.elim
    ·rcases hm with h|h
     ·cases h
     ·rcases h.1 with h|h<;>cases h
theorem EE {bx:Nat->Option aR}:∀(n:Nat) {l l':List Nat},(∀x∈l,x∈l')->∀x∈reach bx n l,x∈reach bx n l'
 | 0,_,_,h,x,hx=>h x hx
 | n+1,l,l',h,x,hx=>by
  simp only [reach] at hx ⊢
  refine EE n (fun y hy=>?_) x hx
  rw [bQ,List.mem_append] at hy ⊢
  rcases hy with hy|hy
  ·exact .inl (h y hy)
  ·obtain ⟨z,hz,hy⟩:=List.mem_flatMap.1 hy
   exact .inr (List.mem_flatMap.2 ⟨z,h z hz,hy⟩)
theorem tV {f:FuncId}{xs:List SV}{ty:TypeId}{dst:Option Nat}{st:St}{V:View}{K:St->View->Prop}{W D:List Nat}
  (hm:m=.none\/((m=.bz\/m=.give)/\(∀s∈reach (ov p q st).boxes 3 (dedup (xs.flatMap SV.ids)),q s=none/\s∈W)/\∀k,dst=some k->∀mm,q (fC mm k)=none/\fC mm k∈W))(hd:∀k,dst=some k->p k=none/\k∈D)
  {K':St->View->Prop}(hK:∀s2 V2,Good p q W D st V K s2 V2->K' s2 V2)(hv:kJ P T m f xs ty dst (ov p q st) V K):kJ P T m f xs ty dst st V K':=by
 have a:=hm
 cases m with
 | bz=>
  obtain ⟨b,d⟩:(∀s∈reach (ov p q st).boxes 3 (dedup (xs.flatMap SV.ids)),q s=none/\s∈W)/\∀k,dst=some k->∀mm,q (fC mm k)=none/\fC mm k∈W:=by
   rcases hm with h|⟨-,b,d⟩
   ·cases h
   ·exact ⟨b,d⟩
  unfold kJ at hv ⊢
  dsimp only at hv ⊢
  rw [qS (bx:=st.boxes) (bx':=(ov p q st).boxes) (fun s g=>cO (b s (e_ 3 _ s (bQ.2 g))).1)] at hv
  split at hv
  ·rename_i l c i e
   exact ⟨fun he=>⟨(hv.1 he).1,jf (.inr ⟨.inl rfl,fun s g=>b s (EE 3 (fun x j=>bQ.2 (xo e x (bQ.1 j))) s g),d⟩) hd hK (hv.1 he).2⟩,fun he=>jf a hd hK (hv.2 he)⟩
  ·exact jf a hd hK hv
 | _=>exact jf a hd hK hv
theorem Cl {p2:Nat->Option SV}{q2:Nat->Option aR}{st:St}(hp:∀t,p t=none\/p2 t=none)(hq:∀t,q t=none\/q2 t=none):ov p q (ov p2 q2 st)=ov p2 q2 (ov p q st):=by
 unfold ov
 congr 1
 ·funext t
  dsimp only
  rcases hp t with h|h<;>rw [h]
 ·funext t
  dsimp only
  rcases hq t with h|h<;>rw [h]
def Bu:Q->Option Nat
 | .app old _ _ _ _ _ _ _ _=>old
 | .sH s _ _ _ _ _ _ _=>some s
 | _=>none
def H0 (T:dA)(bx:Nat->Option aR)(l:Option (List SV))(ts:List TypeId):Q:=
 match l,ts with
 | some [b,x],[t,t']=>match aA T t,aA T t' with
  | some i,some i'=>match i.k,i'.k with
   | .slice e,.slice _=>match aA T e with
    | some ei=>ch bx e ei b x
    | none=>.fail
   | _,_=>.fail
  | _,_=>.fail
 | _,_=>.fail
def Bv (bx:Nat->Option aR)(sz:Nat)(x:SV):Option (OA×Nat ⊕ List Value):=
 match x with
 | .c (.v (.slice a k _))=>some (.inl (a,k))
 | .c (.mY s o k _)=>match bx s with
  | some ⟨.row ws,_⟩=>some (.inr (cC ws o (k*sz)))
  | _=>match eU bx s with
   | some ws=>if Nat.ble (o+k*sz) ws.length then some (.inr ((ws.drop o).take (k*sz))) else none
   | none=>none
 | _=>none
def Hu (bx:Nat->Option aR)(e:TypeId)(ei:TI)(b:SV)(src:OA×Nat ⊕ List Value):Q:=
 match b with
 | .c (.v (.slice a n c))=>.app none a [] n c src ei.size ei.bytes e
 | .c (.mY s 0 n c)=>match eU bx s,kT bx s with
  | some vs,some ty=>if Nat.beq ty e then .app (some s) none vs n c src ei.size ei.bytes e else .fail
  | _,_=>.fail
 | .c (.jX s n c)=>match bx s with
  | some ⟨.aW vs,ty⟩=>if Nat.beq ty e then .sH s vs n c src ei.size ei.bytes e else .fail
  | _=>.fail
 | _=>.fail
theorem wW {bx:Nat->Option aR}{e:TypeId}{ei:TI}{b x:SV}:ch bx e ei b x=match lF ei.zero with
  | none=>.fail
  | some zs=>if Nat.beq ei.bytes 0||Nat.beq ei.size 0||!(Nat.beq ei.size zs.length) then .fail else match Bv bx ei.size x with
   | none=>.fail
   | some src=>Hu bx e ei b src:=rfl
theorem Ip {bx bx':Nat->Option aR}{sz:Nat}{x:SV}:(∀s∈x.ids,bx' s=bx s)->Bv bx sz x=Bv bx' sz x:=by
 unfold Bv
 split
 ·exact fun _=>rfl
 ·intro h;unfold eU;rw [h _ (by simp [SV.ids,C.ids])]
 ·exact fun _=>rfl
theorem JN {bx bx':Nat->Option aR}{e:TypeId}{ei:TI}{b:SV}{src:OA×Nat ⊕ List Value}:(∀s∈b.ids,bx' s=bx s)->Hu bx e ei b src=Hu bx' e ei b src:=by
 unfold Hu
 split
 ·exact fun _=>rfl
 ·intro h;unfold eU kT;rw [h _ (by simp [SV.ids,C.ids])]
 ·intro h;rw [h _ (by simp [SV.ids,C.ids])]
 ·exact fun _=>rfl
theorem Gy {bx bx':Nat->Option aR}{e:TypeId}{ei:TI}{b x:SV}(h:∀s∈b.ids++x.ids,bx' s=bx s):ch bx e ei b x=ch bx' e ei b x:=by
 rw [wW,wW,Ip fun s a=>h s (List.mem_append_right _ a)]
 have:=fun src=>JN (bx:=bx) (bx':=bx') (e:=e) (ei:=ei) (b:=b) (src:=src) fun s a=>h s (List.mem_append_left _ a)
 simp only [this]
theorem Ex {bx:Nat->Option aR}{e:TypeId}{ei:TI}{b x:SV}:∀s,Bu (ch bx e ei b x)=some s->s∈b.ids:=by
 intro s h
 unfold ch at h
 split at h
 ·cases h
 ·split at h
  ·cases h
  ·dsimp only at h
   split at h
   ·cases h
   ·split at h
    ·cases h
    ·split at h
     ·split at h
      ·cases h;simp [SV.ids,C.ids]
      ·cases h
     ·cases h
    ·split at h
     ·split at h
      ·cases h;simp [SV.ids,C.ids]
      ·cases h
     ·cases h
    ·cases h
theorem NM {bx bx':Nat->Option aR}{ys:List SV}{ts:List TypeId}{R:List Nat}(h:∀s∈ys.flatMap SV.ids,bx' s=bx s)(hR:∀s∈ys.flatMap SV.ids,s∈R) :
  H0 T bx (some ys) ts=H0 T bx' (some ys) ts/\∀s,Bu (H0 T bx (some ys) ts)=some s->s∈R:=by
 unfold H0
 split
 ·rename_i b x t d c
  cases c
  split
  ·split
   ·split
    ·exact ⟨Gy fun s a=>h s (by simpa using a),fun s a=>hR s (by simp [Ex s a])⟩
    ·exact ⟨rfl,fun s a=>nomatch a⟩
   ·exact ⟨rfl,fun s a=>nomatch a⟩
  ·exact ⟨rfl,fun s a=>nomatch a⟩
 ·exact ⟨rfl,fun s a=>nomatch a⟩
theorem Jb {bx:Nat->Option aR}{e:TypeId}{ei:TI}{b x:SV}:dC (ch bx e ei b x)=6\/ch bx e ei b x=.fail:=by
 unfold ch
 split
 ·exact .inr rfl
 ·split
  ·exact .inr rfl
  ·dsimp only
   split
   ·exact .inr rfl
   ·split<;>(try split)<;>(try split)<;>first|exact .inl rfl|exact .inr rfl
theorem LA {ρ:Operand->Option SV}{bx:Nat->Option aR}{args:Array Operand}{ts:Array TypeId}:dC (aJ T ρ bx (.call ⟨.builtin .append,args,ts⟩))=6\/aJ T ρ bx (.call ⟨.builtin .append,args,ts⟩)=.fail:=by
 simp only [aJ]
 split
 ·split
  ·split
   ·split
    ·exact Jb
    ·exact .inr rfl
   ·exact .inr rfl
  ·exact .inr rfl
 ·exact .inr rfl
theorem CG {Q0:Q}{dst:Option Nat}{st:St}{V:View}{K K':St->View->Prop}{W D:List Nat}(ht:dC Q0=6\/Q0=.fail)
  (ho:∀s,Bu Q0=some s->q s=none/\s∈W)(hd:∀k,dst=some k->(p k=none/\k∈D)/\∀s,q (oK s k)=none/\oK s k∈W)(hd0:∀k,dst=some k->q k=none/\k∈W)
  (hK:∀s2 V2,Good p q W D st V K s2 V2->K' s2 V2)(h:uf Q0 dst (ov p q st) V K):uf Q0 dst st V K':=by
 cases Q0 with
 | sH s vs n c x size bytes ty=>
  simp only [uf] at h ⊢
  cases dst with
  | none=>exact h.elim
  | some d=>
   dsimp only at h ⊢
   obtain ⟨⟨u,v⟩,l⟩:=hd d rfl
   obtain ⟨A,B⟩:=ho s rfl
   have core:∀k xs,tK s vs n c size bytes ty d (ov p q st) V K k xs->tK s vs n c size bytes ty d st V K' k xs:=by
    rintro k xs ⟨a,f,g,m,j,i⟩
    refine ⟨a,f,g,m,j,?_⟩
    rw [cO (l s).1] at i
    split at i
    ·exact i.elim
    ·intro spare w y z
     have:=i spare w y z
     rw [mu A,mu (l s).1,kD (fun k o=>by cases o;exact u)] at this
     refine hK _ _ ⟨View.Le.refl V,?_,?_,this⟩
     ·intro t ht;rw [dJ,if_neg (fun e=>ht (by rw [e];exact v))];rfl
     ·intro t ht
      show ((st.box s _).box _ _).boxes t=_
      rw [aj,if_neg (fun e=>ht (by rw [e];exact (l s).2)),aj,if_neg (fun e=>ht (by rw [e];exact B))]
   cases x with
   | inr xs=>exact core _ _ h
   | inl ak=>obtain ⟨xs,a,f,g⟩:=h;exact ⟨xs,a,f,core _ _ g⟩
 | app old ba vs n c x size bytes ty=>
  simp only [uf] at h ⊢
  cases dst with
  | none=>exact h.elim
  | some d=>
   dsimp only at h ⊢
   obtain ⟨⟨u,v⟩,l⟩:=hd d rfl
   cases old with
   | some s=>
    dsimp only at h ⊢
    obtain ⟨A,B⟩:=ho s rfl
    have core:∀k xs,Dh s vs n c size bytes ty d (ov p q st) V K k xs->Dh s vs n c size bytes ty d st V K' k xs:=by
     rintro k xs ⟨a,f,g,m,j,i⟩
     refine ⟨a,f,g,m,j,?_⟩
     rw [cO (l s).1] at i
     split at i
     ·exact i.elim
     ·intro b J spare w y z
      have:=i b J spare w y z
      rw [mu A,mu (l s).1,kD (fun k o=>by cases o;exact u)] at this
      refine hK _ _ ⟨View.Le.refl V,?_,?_,this⟩
      ·intro t ht;rw [dJ,if_neg (fun e=>ht (by rw [e];exact v))];rfl
      ·intro t ht
       show ((st.box s _).box _ _).boxes t=_
       rw [aj,if_neg (fun e=>ht (by rw [e];exact (l s).2)),aj,if_neg (fun e=>ht (by rw [e];exact B))]
    cases x with
    | inr xs=>exact core _ _ h
    | inl ak=>obtain ⟨xs,a,f,g⟩:=h;exact ⟨xs,a,f,core _ _ g⟩
   | none=>
    dsimp only at h ⊢
    obtain ⟨C,E⟩:=hd0 d rfl
    obtain ⟨r,y,z,F,G,h⟩:=h
    have core:∀k xs,Di r n c size bytes ty d (ov p q st) V K k xs->Di r n c size bytes ty d st V K' k xs:=by
     rintro k xs ⟨a,f,g,m,j⟩
     refine ⟨a,f,g,m,?_⟩
     rw [cO C] at j
     split at j
     ·exact j.elim
     ·intro spare w H I
      have:=j spare w H I
      rw [mu C,kD (fun k o=>by cases o;exact u)] at this
      refine hK _ _ ⟨View.Le.refl V,?_,?_,this⟩
      ·intro t ht;rw [dJ,if_neg (fun e=>ht (by rw [e];exact v))];rfl
      ·intro t ht
       show (st.box d _).boxes t=_
       rw [aj,if_neg (fun e=>ht (by rw [e];exact E))]
    refine ⟨r,y,z,F,G,?_⟩
    cases x with
    | inr xs=>exact core _ _ h
    | inl ak=>
     obtain ⟨xs,a,f,g,m⟩:=h
     refine ⟨xs,a,f,fun e=>?_,fun e=>core _ _ (m e)⟩
     have:=g e
     rw [kD (fun k o=>by cases o;exact u)] at this
     refine hK _ _ ⟨View.Le.refl V,?_,fun t ht=>rfl,this⟩
     intro t ht;rw [dJ,if_neg (fun e=>ht (by rw [e];exact v))]
 | fail=>exact h.elim
 | _=>rcases ht with ht|ht<;>cases ht
theorem rN {h:Hint}{o:Oper}{st:St}{V:View}{K:St->View->Prop}{R W:List Nat}
  (hm:nH (bf LF RF o.op)=true\/(bf LF RF o.op=.call/\m=.none)\/((bf LF RF o.op=.lj/\m=.bz)\/(bf LF RF o.op=.give/\m=.give)\/bf LF RF o.op=.app))
  (hrw:qO (bf LF RF o.op) h (eK o)=some (R,W))(hp:∀t,t∈iO o.op\/t∈eK o->p t=none)(hq:∀s∈R,q s=none)
  (ZN:∀s∈W,q s=none){K':St->View->Prop}(hK:∀s2 V2,Good p q W (eK o) st V K s2 V2->K' s2 V2)(hv:cW P T m h o (ov p q st) V K):cW P T m h o st V K':=by
 have Gf:∀t∈iO o.op,st.aw t=(ov p q st).aw t:=fun t ht=>by simp [ov,hp t (.inl ht)]
 rcases hm with hm|hm
 ·obtain ⟨p2,q2,U⟩:=oA hm hrw hv
  refine U.again st V _ (View.Le.refl V) Gf (fun s n=>(cO (hq s n)).symm) ?_
  refine hK _ _ ⟨View.Le.refl V,fun t ht=>by simp [ov,U.pd t ht],fun s n=>by simp [ov,U.qd s n],?_⟩
  rw [Cl]
  ·exact U.next
  ·intro t
   by_cases h:t∈eK o
   ·exact .inl (hp t (.inr h))
   ·exact .inr (U.pd t h)
  ·intro s
   by_cases h:s∈W
   ·exact .inl (ZN s h)
   ·exact .inr (U.qd s h)
 ·
  have i:∀(x:Operand),x∈o.op.operands.toList->(ov p q st).aZ x=st.aZ x:=fun x I=>NF fun t e=>hp t (.inl (wK I e))
  have w:∀k,o.dst=some k->p k=none/\k∈eK o:=fun k D=>by
   have:k∈eK o:=by simp [eK,D]
   exact ⟨hp k (.inr this),this⟩
  have body:(¬bf LF RF o.op=.app)->∀(hh:∀xs f ss J args z,o.op=.call ⟨.value J,args,z⟩->bZ (ov p q st).aZ args.toList=some xs->(ov p q st).aZ J=some (.c (.yT f ss)) ->
    m=.none\/((m=.bz\/m=.give)/\(∀s∈reach (ov p q st).boxes 3 (dedup ((xs++vN ss).flatMap SV.ids)),q s=none/\s∈W)/\∀k,o.dst=some k->∀E,q (fC E k)=none/\fC E k∈W)),
    di P T m o (ov p q st) V K->di P T m o st V K':=by
   intro a hh hv
   unfold di at hv ⊢
   split at hv
   ·rename_i J args z g
    have e1:bZ (ov p q st).aZ args.toList=bZ st.aZ args.toList:=eN _ fun x I=>i x (by rw [g];simp [Op.operands,Call.operands];exact .inr (by simpa using I))
    have e2:(ov p q st).aZ J=st.aZ J:=i J (by rw [g];simp [Op.operands,Call.operands])
    split at hv
    ·rename_i xs j
     split at hv
     ·rename_i f ss F
      have L:=hh _ _ _ _ _ _ g j F
      rw [e1] at j
      rw [e2] at F
      simp only [j,F]
      exact tV L w hK hv
     ·exact hv.elim
    ·exact hv.elim
   ·rename_i recv name args z g
    have a2:m=.none:=by
     rw [g] at hm
     rcases hm with ⟨-,h⟩|⟨h,-⟩|⟨h,-⟩|h
     ·exact h
     ·cases h
     ·cases h
     ·cases h
    have e1:bZ (ov p q st).aZ args.toList=bZ st.aZ args.toList:=eN _ fun x I=>i x (by rw [g];simp [Op.operands,Call.operands];exact .inr (by simpa using I))
    have e2:(ov p q st).aZ recv=st.aZ recv:=i recv (by rw [g];simp [Op.operands,Call.operands])
    split at hv
    ·rename_i xs j
     split at hv
     ·rename_i t v F
      split at hv
      ·rename_i f Kv
       rw [e1] at j
       rw [e2] at F
       simp only [j,F,Kv]
       exact tV (.inl a2) w hK hv
      ·exact hv.elim
     ·exact hv.elim
    ·exact hv.elim
   ·rename_i a0 Sq
    exfalso
    have M:bf LF RF o.op=.call\/bf LF RF o.op=.lj\/bf LF RF o.op=.give:=by
     rcases hm with ⟨h,-⟩|⟨h,-⟩|⟨h,-⟩|h
     ·exact .inl h
     ·exact .inr (.inl h)
     ·exact .inr (.inr h)
     ·exact absurd h a
    clear hm a hh
    generalize g:o.op=op at M a0 Sq
    cases op with
    | call c=>
     obtain ⟨Hx,args,z⟩:=c
     cases Hx with
     | builtin b=>cases b<;>rcases M with h|h|h<;>cases h
     | value f=>exact a0 f args z rfl
     | invoke r nm=>exact Sq r nm args z rfl
    | _=>rcases M with h|h|h<;>cases h
  have Xl:∀l:List Nat,W=l++eK o++(eK o).map (·+ 200000)->∀k,o.dst=some k->∀E,q (fC E k)=none/\fC E k∈W:=by
   intro l X k D E
   have:fC E k∈W:=by
    rw [X]
    have a3:=(w k D).2
    rcases Lc (m:=E) (d:=k) with h|h<;>rw [h]<;>simp [a3]
   exact ⟨ZN _ this,this⟩
  have own:∀l:List Nat,h=.own l->R=l->W=l++eK o++(eK o).map (·+ 200000)->(bf LF RF o.op=.lj\/bf LF RF o.op=.give\/bf LF RF o.op=.app)->(¬bf LF RF o.op=.app->m=.bz\/m=.give)->cW P T m h o st V K':=by
   intro l hh hR X a4 L
   subst hh hR
   unfold cW at hv ⊢
   dsimp only at hv ⊢
   split at hv
   ·rename_i Y u
    split at hv
    ·rename_i G
     have e0:bZ (ov p q st).aZ (iN o.op)=bZ st.aZ (iN o.op):=eN _ fun x I=>i x (wJ I)
     rw [←e0,u]
     dsimp only
     have B:∀s∈eY (ov p q st).boxes o.op (Y.flatMap SV.ids),s∈R:=xr.1 G
     have e3:eY st.boxes o.op (Y.flatMap SV.ids)=eY (ov p q st).boxes o.op (Y.flatMap SV.ids):=by
      revert B
      unfold eY
      split
      ·intro B
       exact nI 3 _ fun s n=>(cO (hq s (B s n))).symm
      ·exact fun _=>rfl
     rw [e3,G]
     dsimp only
     have ZH:∀s∈R,s∈W:=fun s n=>by rw [X];simp [n]
     by_cases a:bf LF RF o.op=.app
     ·
      have g:∃args z,o.op=.call ⟨.builtin .append,args,z⟩:=by
       generalize o.op=op at a
       cases op with
       | call c=>
        obtain ⟨Hx,args,z⟩:=c
        cases Hx with
        | builtin b=>cases b<;>first|exact ⟨args,z,rfl⟩|cases a
        | value f=>cases f with
         | func f=>simp only [bf] at a;split at a<;>(try split at a)<;>(try split at a)<;>(try split at a)<;>cases a
         | _=>cases a
        | _=>cases a
       | _=>cases a
      obtain ⟨args,z,g⟩:=g
      have e4:aJ T st.aZ st.boxes o.op=aJ T (ov p q st).aZ (ov p q st).boxes o.op/\∀s,Bu (aJ T st.aZ st.boxes o.op)=some s->s∈R:=by
       have e5:bZ (ov p q st).aZ args.toList=bZ st.aZ args.toList:=by rw [g] at e0;exact e0
       have WT:bZ st.aZ args.toList=some Y:=by rw [g] at u;rw [←e5];exact u
       have H:∀s∈Y.flatMap SV.ids,s∈R:=by
        intro s n
        refine B s ?_
        rw [g]
        simp only [eY]
        exact e_ 3 _ s (bQ.2 n)
       rw [g]
       simp only [aJ]
       rw [e5,WT]
       exact NM (fun s n=>by rw [cO (hq s (H s n))]) H
      have N:uf (aJ T (ov p q st).aZ (ov p q st).boxes o.op) o.dst (ov p q st) V K:=by
       unfold di at hv
       rw [g] at hv ⊢
       exact hv
      have O:uf (aJ T st.aZ st.boxes o.op) o.dst st V K'->di P T m o st V K':=by
       intro h
       unfold di
       rw [g] at h ⊢
       exact h
      rw [←e4.1] at N
      refine O ?_
      have a1:∀Z,aJ T st.aZ st.boxes o.op=Z->dC Z=6\/Z=.fail:=by
       intro Z hQ
       rw [←hQ,g]
       exact LA
      generalize hQ0:aJ T st.aZ st.boxes o.op=Z at N e4
      exact CG (a1 Z hQ0) (fun s n=>⟨hq s (e4.2 s n),ZH s (e4.2 s n)⟩) (fun k D=>⟨w k D,fun s=>by
       have:=Xl R X k D (some s)
       exact this⟩) (fun k D=>Xl R X k D Option.none) hK N
     ·have Q:=L a
      refine body a (fun xs f ss J args z g j F=>.inr ⟨Q,fun s n=>?_,Xl R X⟩) hv
      have:s∈R:=by
       apply B
       rw [g] at u ⊢
       simp only [eY]
       have hy:Y.flatMap SV.ids=(xs++vN ss).flatMap SV.ids:=by
        have:∀(l:List Operand)(xs:List SV)(x:Operand)(v:SV),bZ (ov p q st).aZ l=some xs->(ov p q st).aZ x=some v->bZ (ov p q st).aZ (l++[x])=some (xs++[v]):=by
         intro l
         induction l with
         | nil=>intro xs x v S h2;simp only [bZ,Option.some.injEq] at S;subst S;simp [bZ,h2]
         | cons o r ih=>
          intro xs x v S h2
          simp only [bZ] at S
          split at S
          ·rename_i y l' h3 h4
           cases S
           simp only [List.cons_append,bZ,h3,ih _ x v h4 h2]
          ·cases S
        simp only [iN] at u
        rw [this _ _ _ _ j F] at u
        cases u
        simp only [List.flatMap_append]
        congr 1
        simp [vN,SV.ids,C.ids,List.flatMap_map]
       rw [hy]
       exact n
      exact ⟨hq s this,ZH s this⟩
    ·exact hv.elim
   ·exact hv.elim
  rcases hm with ⟨A,hm⟩|⟨A,hm⟩|⟨A,hm⟩|A
  ·rw [A] at hrw
   cases h with
   | own l=>cases hrw
   | free=>exact body (by rw [A];exact fun h=>by cases h) (fun _ _ _ _ _ _ _ _ _=>.inl hm) hv
  ·rw [A] at hrw
   cases h with
   | free=>cases hrw
   | own l=>
    simp only [qO,Option.some.injEq,Prod.mk.injEq] at hrw
    exact own l rfl hrw.1.symm hrw.2.symm (.inl A) (fun _=>.inl hm)
  ·rw [A] at hrw
   cases h with
   | free=>cases hrw
   | own l=>
    simp only [qO,Option.some.injEq,Prod.mk.injEq] at hrw
    exact own l rfl hrw.1.symm hrw.2.symm (.inr (.inl A)) (fun _=>.inr hm)
  ·rw [A] at hrw
   cases h with
   | free=>cases hrw
   | own l=>
    simp only [qO,Option.some.injEq,Prod.mk.injEq] at hrw
    exact own l rfl hrw.1.symm hrw.2.symm (.inr (.inr A)) (fun h=>absurd A h)
end Go.bM
namespace Go.bM
variable {P:Program} {T:dA} {LF RF:List Nat}
def yB (ops:Array Oper)(o:Oper)(st:St)(k:St->Bool->Prop):Prop:=
 match o.guard with
 | none=>k st true
 | some (j,b)=>match (ops[j]?).bind (·.dst) with
  | none=>False
  | some g=>match st.aw g with
   | some (.c .tt)=>k st b
   | some (.c .ff)=>k st (!b)
   | some (.c (.v (.bool c)))=>(c=true->k (st.put (some g) (.c .tt)) b)/\(c=false->k (st.put (some g) (.c .ff)) (!b))
   | some (.pU _)=>k st false
   | _=>False
def mK (P:Program)(T:dA)(m:CM)(h:Hint)(o:Oper)(V:View)(K:St->View->Prop)(st:St)(w:Bool):Prop:=
 match w with
 | true=>cW P T m h o st V K
 | false=>K (st.put o.dst jM) V
theorem CF {m:CM}{h:Hint}{ops:Array Oper}{o:Oper}{st:St}{V:View}{K:St->View->Prop} :
  rk P T m h ops o st V K↔yB ops o st (mK P T m h o V K):=by
 unfold rk yB
 cases hg:o.guard with
 | none=>rfl
 | some jb=>
  obtain ⟨j,b⟩:=jb
  dsimp only
  cases hd:(ops[j]?).bind (·.dst) with
  | none=>rfl
  | some g=>
   dsimp only
   split<;>simp_all<;>cases b<;>rfl
def jG:Nat->Option aR:=fun _=>none
structure UP (ops:Array Oper) (o:Oper) (st:St) (k:St->Bool->Prop) (p:Nat->Option SV) (w:Bool):Prop where
 pd:∀t,t∉ee ops o->p t=none
 next:k (ov p jG st) w
 again:∀(st2:St)(k2:St->Bool->Prop),(∀t∈ee ops o,st2.aw t=st.aw t)->k2 (ov p jG st2) w->yB ops o st2 k2
theorem fX {ops:Array Oper}{o:Oper}{st:St}{k:St->Bool->Prop}(h:yB ops o st k):∃p w,UP ops o st k p w:=by
 unfold yB at h
 split at h
 ·rename_i l
  exact ⟨fun _=>none,true,fun _ _=>rfl,h,fun d q _ f=>by unfold yB;rw [l];exact f⟩
 ·rename_i j b l
  split at h
  ·exact h.elim
  ·rename_i g n
   have a:ee ops o=[g]:=by simp only [ee,l,n]
   split at h
   ·rename_i m
    exact ⟨fun _=>none,b,fun _ _=>rfl,h,fun d q i f=>by unfold yB;simp only [l,n,i g (by simp [a]),m];exact f⟩
   ·rename_i m
    exact ⟨fun _=>none,!b,fun _ _=>rfl,h,fun d q i f=>by unfold yB;simp only [l,n,i g (by simp [a]),m];exact f⟩
   ·rename_i c m
    cases c with
    | true=>
     refine ⟨one (some g) (.c .tt),b,fun t r=>dX (by intro e;apply r;rw [a];simpa using e.symm),?_,fun d q i f=>?_⟩
     ·have:=h.1 rfl;rw [fl] at this;exact this
     ·unfold yB;simp only [l,n,i g (by simp [a]),m]
      exact ⟨fun _=>by rw [fl];exact f,fun e=>by cases e⟩
    | false=>
     refine ⟨one (some g) (.c .ff),!b,fun t r=>dX (by intro e;apply r;rw [a];simpa using e.symm),?_,fun d q i f=>?_⟩
     ·have:=h.2 rfl;rw [fl] at this;exact this
     ·unfold yB;simp only [l,n,i g (by simp [a]),m]
      exact ⟨fun e=>(by cases e),fun _=>by rw [fl];exact f⟩
   ·rename_i xs m
    exact ⟨fun _=>none,false,fun _ _=>rfl,h,fun d q i f=>by unfold yB;simp only [l,n,i g (by simp [a]),m];exact f⟩
   ·exact h.elim
theorem nU {ops:Array Oper}{o:Oper}{st:St}{k k':St->Bool->Prop}(hk:∀s w,k s w->k' s w)(h:yB ops o st k):yB ops o st k':=by
 obtain ⟨p,w,a⟩:=fX h
 exact a.again st k' (fun _ _=>rfl) (hk _ _ a.next)
theorem put_comm {st:St}{d d':Option Nat}{x y:SV}(h:∀k,d=some k->d'≠some k):(st.put d x).put d' y=(st.put d' y).put d x:=by
 cases d with
 | none=>rfl
 | some d=>
  cases d' with
  | none=>rfl
  | some d'=>
   have a:d≠d':=fun e=>h d rfl (by rw [e])
   simp only [St.put]
   congr 1
   funext t
   by_cases e:t=d
   ·subst e;simp [Nat.beq_refl,dN a]
   ·simp [dN e]
theorem F7 {ops:Array Oper}{o1 o2:Oper}{st:St}{F:St->Bool->Bool->Prop}(h:yB ops o1 st fun s w1=>yB ops o2 s fun s' w2=>F s' w1 w2) :
  yB ops o2 st fun s w2=>yB ops o1 s fun s' w1=>F s' w1 w2:=by
 by_cases k:∃g,ee ops o1=[g]/\ee ops o2=[g]
 ·obtain ⟨g,a,b⟩:=k
  unfold ee at a b
  split at a
  ·cases a
  ·rename_i A b1 q
   split at a
   ·rename_i y r
    cases a
    split at b
    ·cases b
    ·rename_i B b2 u
     split at b
     ·rename_i z v
      cases b
      unfold yB at h ⊢
      simp only [q,u,r,v] at h ⊢
      split at h
      ·rename_i w;exact h
      ·rename_i w;exact h
      ·rename_i c w
       simp only [dJ,if_true] at h ⊢
       exact h
      ·rename_i xs w;exact h
      ·exact h.elim
     ·cases b
   ·cases a
 ·obtain ⟨l,w1,m⟩:=fX h
  obtain ⟨n,w2,p⟩:=fX m.next
  have x:∀o:Oper,ee ops o=[]\/∃g,ee ops o=[g]:=by
   intro o;unfold ee
   split
   ·exact .inl rfl
   ·split
    ·exact .inr ⟨_,rfl⟩
    ·exact .inl rfl
  have i:∀t,t∈ee ops o1->t∉ee ops o2:=by
   intro t d f
   rcases x o1 with a|⟨y,a⟩
   ·rw [a] at d;cases d
   ·rcases x o2 with b|⟨z,b⟩
    ·rw [b] at f;cases f
    ·rw [a] at d;rw [b] at f
     simp at d f
     exact k ⟨t,by rw [a,d],by rw [b,f]⟩
  refine p.again st _ (fun t j=>?_) (m.again _ _ (fun t j=>?_) ?_)
  ·show st.aw t=(ov l jG st).aw t
   simp [ov,m.pd t (fun h=>i t h j)]
  ·show (ov n jG st).aw t=st.aw t
   simp [ov,p.pd t (i t j)]
  ·have e:ov l jG (ov n jG st)=ov n jG (ov l jG st):=Cl (fun t=>by
    by_cases j:t∈ee ops o1
    ·exact .inr (p.pd t (i t j))
    ·exact .inl (m.pd t j)) (fun _=>.inl rfl)
   show F (ov l jG (ov n jG st)) w1 w2
   rw [e]
   exact p.next
theorem iY {o:Oper}{k:Nat}(h:o.dst=some k):k∈eK o:=by simp [eK,h]
theorem NC {ops:Array Oper}{m1 m2:CM}{h1 h2:Hint}{o1 o2:Oper}{st:St}{V:View}{K:St->View->Prop}
  (hi:indep LF RF ops h1 h2 o1 o2=true)
  (hm:nH (bf LF RF o2.op)=true\/(bf LF RF o2.op=.call/\m2=.none)\/((bf LF RF o2.op=.lj/\m2=.bz)\/(bf LF RF o2.op=.give/\m2=.give)\/bf LF RF o2.op=.app))
  (hv:rk P T m1 h1 ops o1 st V fun st1 V1=>rk P T m2 h2 ops o2 st1 V1 K) :
  rk P T m2 h2 ops o2 st V fun st2 V2=>rk P T m1 h1 ops o1 st2 V2 K:=by
 unfold indep at hi
 simp only [Bool.and_eq_true] at hi
 obtain ⟨⟨⟨⟨⟨v,c⟩,g⟩,w⟩,y⟩,l⟩:=hi
 split at l
 ·rename_i U W X Y z n
  simp only [Bool.and_eq_true] at l
  obtain ⟨⟨H,I⟩,J⟩:=l
  rw [DQ] at c g w y H I J
  have N:∀k,o2.dst=some k->o1.dst≠some k:=fun k o C=>c k (iY C) (by simp [iY o])
  simp only [CF] at hv ⊢
  have O:yB ops o1 st fun s m=>yB ops o2 s fun A j=>mK P T m1 h1 o1 V (fun r D=>mK P T m2 h2 o2 D K r j) A m:=by
   refine nU (fun s m f=>?_) hv
   cases m with
   | true=>
    obtain ⟨p,q,i⟩:=oA v z f
    obtain ⟨B,j,b⟩:=fX i.next
    refine b.again s _ (fun t a=>?_) ?_
    ·show s.aw t=(ov p q s).aw t
     simp [ov,i.pd t (fun h=>c t h (by simp [a]))]
    ·refine i.again _ V _ (View.Le.refl V) (fun t a=>?_) (fun _ _=>rfl) ?_
     ·show (ov B jG s).aw t=s.aw t
      simp [ov,b.pd t (fun h=>y t h a)]
     ·rw [Cl (q2:=jG) _ (fun _=>.inr rfl)]
      ·exact b.next
      ·intro t
       by_cases a:t∈ee ops o2
       ·exact .inl (i.pd t (fun h=>c t h (by simp [a])))
       ·exact .inr (b.pd t a)
   | false=>
    simp only [mK] at f
    obtain ⟨B,j,b⟩:=fX f
    have Q:∀k,o1.dst=some k->B k=none:=fun k o=>b.pd k (fun h=>c k (iY o) (by simp [h]))
    refine b.again s _ (fun t a=>?_) ?_
    ·rw [fl]
     simp [ov,dX (d:=o1.dst) (x:=jM) (t:=t) (fun h=>c t (iY h) (by simp [a]))]
    ·show mK P T m2 h2 o2 V K ((ov B jG s).put o1.dst jM) j
     rw [kD Q]
     exact b.next
  have R:=F7 O
  have S:yB ops o2 st fun s j=>yB ops o1 s fun A m=>mK P T m2 h2 o2 V (fun r D=>mK P T m1 h1 o1 D K r m) A j:=by
   refine nU (fun s j f=>nU (fun A m f=>?_) f) R
   cases m with
   | true=>
    obtain ⟨p,q,i⟩:=oA v z f
    cases j with
    | true=>
     refine rN hm n (fun t a=>i.pd t (fun h=>c t h (by rcases a with a|a<;>simp [a]))) (fun s u=>i.qd s (fun h=>H s h u)) (fun s u=>i.qd s (fun h=>J s h u)) (fun s2 V2 b=>?_) i.next
     obtain ⟨L,E,M,F⟩:=b
     exact i.again s2 V2 K L (fun t a=>E t (fun h=>g t h (by simp [a]))) (fun s u=>M s (fun h=>I s h u)) F
    | false=>
     refine i.again _ V K (View.Le.refl V) (fun t a=>?_) (fun s _=>by cases o2.dst<;>rfl) ?_
     ·rw [fl]
      simp [ov,dX (d:=o2.dst) (x:=jM) (t:=t) (fun h=>g t (iY h) (by simp [a]))]
     ·have:=i.next
      simp only [mK] at this
      rw [kD (fun k o=>i.pd k (fun h=>c k h (by simp [iY o])))] at this
      exact this
   | false=>
    cases j with
    | true=>
     simp only [mK] at f ⊢
     rw [fl] at f
     refine rN hm n (fun t a=>dX (fun e=>c t (iY e) (by rcases a with a|a<;>simp [a]))) (fun s u=>rfl) (fun s u=>rfl) (fun s2 V2 b=>?_) f
     have:=b.2.2.2
     rw [←fl] at this
     exact this
    | false=>
     simp only [mK] at f ⊢
     rw [put_comm N]
     exact f
  refine nU (fun s j f=>?_) S
  cases j with
  | true=>
   simp only [mK] at f ⊢
   obtain ⟨p,m,b⟩:=fX f
   refine rN hm n (fun t a=>b.pd t (fun h=>?_)) (fun _ _=>rfl) (fun _ _=>rfl) (fun s2 V2 G=>?_) b.next
   ·rcases a with a|a
    ·exact w t h a
    ·exact g t a (by simp [h])
   ·obtain ⟨L,E,M,F⟩:=G
    exact b.again s2 _ (fun t a=>E t (fun h=>g t h (by simp [a]))) F
  | false=>
   simp only [mK] at f ⊢
   obtain ⟨p,m,b⟩:=fX f
   refine b.again _ _ (fun t a=>?_) ?_
   ·rw [fl]
    simp [ov,dX (d:=o2.dst) (x:=jM) (t:=t) (fun h=>g t (iY h) (by simp [a]))]
   ·have:=b.next
    rw [kD (fun k o=>b.pd k (fun h=>g k (iY o) (by simp [h])))] at this
    exact this
 ·cases l
end Go.bM
