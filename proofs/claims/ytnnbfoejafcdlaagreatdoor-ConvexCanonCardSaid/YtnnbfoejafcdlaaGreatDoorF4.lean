import Derived.Test.YtnnbfoejafcdlaaGreatDoorF3
set_option linter.unusedVariables false
open Go.IntKind (i64 u64 u32)
namespace Go.bJ
variable {P:Program} {T:cY} {n:Nat} {V0:View} {bB:D2} {β0:Nat->Nat} {st:St} {β:Nat->Nat} {a:Act} {w:World} {V:View}
theorem EO {t:TypeId}{name:String}{f:FuncId}(h:EN P t name=some f)(k:Nat)(v:Value)(w:World):(Go.method (k+1) t v name).run P w=.ok (f,v) w:=by
 unfold EN at h
 split at h
 ·rename_i i d h1 h2
  split at h
  ·rename_i m hm
   split at h
   ·rename_i f' fs hp hf
    cases h
    have hp':m.path=#[]:=by apply Array.ext';exact hp
    simp only [Go.method,typeInfo,Sem.run_bind,run_program,Result.andThen_ok,h1,hm,Sem.run_pure,hp',follow,hf,receiverAt,aj h2,Place.get]
   ·cases h
  ·cases h
 ·cases h
theorem rK (hT:cY.ok P T)(hM:Mod n V0 bB β0 st β a w V){m:CM}{o:Oper}{K:St->View->Prop}{next:Act->World->Prop}{Q:Exit->Act->World->Prop}
  (hd:∀d,o.dst=some d->d<n)(hv:cR P T m o st V K)
  (hK:∀st' β' a' w' V',Mod n V0 bB β0 st' β' a' w' V'->K st' V'->next a' w'):o.wp P a w next Q:=by
 unfold cR at hv
 split at hv
 ·rename_i Ku args ts hop
  split at hv
  ·rename_i xs hxs
   obtain ⟨h1,h2⟩:=fA hM _ _ hxs
   split at hv
   ·rename_i f ss hf
    obtain ⟨hc,dh⟩:=uD (Q:=Q) hM hd hv hK
    have e1:args.map a.eval=(xs.map (SV.den β)).toArray:=by apply Array.ext';rw [Array.toList_map];exact h1
    have e2:aS β (xs++uH ss)=(xs.map (SV.den β)).toArray++(ss.map fun s=>Value.pointer (some ⟨β s,0,none⟩)).toArray:=by
     unfold aS uH
     rw [List.map_append,List.map_map]
     apply Array.ext'
     simp [Function.comp_def,SV.den,C.den]
    have hrun:(execOp a.eval o).run P w=.ok (.enter f (aS β (xs++uH ss))) w:=by
     rw [e2]
     simp only [execOp,hop,resolve,hM.eval hf,SV.den,C.den,Deferred.ofValue,pure_bind,invoke,e1,Array.empty_append]
     exact hc.run _
    unfold Oper.wp
    rw [hrun]
    exact dh
   ·exact hv.elim
  ·exact hv.elim
 ·rename_i recv name args ts hop
  split at hv
  ·rename_i xs hxs
   obtain ⟨h1,h2⟩:=fA hM _ _ hxs
   split at hv
   ·rename_i t v hf
    split at hv
    ·rename_i f IQ
     obtain ⟨hc,dh⟩:=uD (Q:=Q) hM hd hv hK
     have e1:args.map a.eval=(xs.map (SV.den β)).toArray:=by apply Array.ext';rw [Array.toList_map];exact h1
     have e2:aS β (.c (.w v)::xs)=#[v]++(xs.map (SV.den β)).toArray:=by
      unfold aS
      apply Array.ext'
      simp [SV.den,C.den]
     have hrun:(execOp a.eval o).run P w=.ok (.enter f (aS β (.c (.w v)::xs))) w:=by
      rw [e2]
      have e3:(#[Value.iface t v]++(xs.map (SV.den β)).toArray).extract 1 (#[Value.iface t v]++(xs.map (SV.den β)).toArray).size=(xs.map (SV.den β)).toArray:=by
       apply Array.ext'
       simp
       exact List.take_of_length_le (by simp)
      have e4:(#[Value.iface t v]++(xs.map (SV.den β)).toArray)[0]?=some (Value.iface t v):=by simp
      simp only [execOp,hop,resolve,hM.eval hf,SV.den,C.den,pure_bind,invoke,e1,e4,e3,callMethod,Sem.run_bind,run_program,Result.andThen_ok,Made.depth]
      rw [EO IQ]
      exact hc.run _
     unfold Oper.wp
     rw [hrun]
     exact dh
    ·exact hv.elim
   ·exact hv.elim
  ·exact hv.elim
 ·exact C7 hT hM hd hv hK
theorem iB (hT:cY.ok P T)(hM:Mod n V0 bB β0 st β a w V){m:CM}{h:Hint}{o:Oper}{K:St->View->Prop}{next:Act->World->Prop}{Q:Exit->Act->World->Prop}
  (hd:∀d,o.dst=some d->d<n)(hv:cJ P T m h o st V K)
  (hK:∀st' β' a' w' V',Mod n V0 bB β0 st' β' a' w' V'->K st' V'->next a' w'):o.wp P a w next Q:=by
 unfold cJ at hv
 split at hv
 ·exact rK hT hM hd hv hK
 ·split at hv
  ·split at hv
   ·exact rK hT hM hd hv hK
   ·exact hv.elim
  ·exact hv.elim
theorem Mod.refine (hM:Mod n V0 bB β0 st β a w V){g:Nat}{x y:SV}(hx:st.au g=some x)(he:x.den β=y.den β)(hy:y.ids=[]):Mod n V0 bB β0 (st.put (some g) y) β a w V:=by
 refine ⟨hM.defers,hM.size,?_,?_,hM.yC,hM.boxes,hM.inj,hM.o_,hM.tQ,hM.ext,hM.own,hM.lO,hM.j7,hM.small⟩
 ·intro t z hz
  rw [dm] at hz
  split at hz
  ·rename_i e;simp only [Option.some.injEq] at hz;rw [e,←hz,←he];exact hM.au g x hx
  ·exact hM.au t z hz
 ·intro t z hz
  rw [dm] at hz
  split at hz
  ·simp only [Option.some.injEq] at hz;rw [←hz,hy];exact fun s hs=>(nomatch hs)
  ·exact hM.yD t z hz
theorem FC {ops:Array Oper}{tmps:Array Value}{j g:Nat}(hg:(ops[j]?).bind (·.dst)=some g):yielded ops tmps j=match tmps.getD g undef with|.bool b=>some b|_=>none:=by
 unfold yielded
 rw [hg]
 simp only [Option.bind_some]
 by_cases h:g<tmps.size
 ·have h1:tmps[g]?=some tmps[g]:=getElem?_pos tmps g h
  have h2:tmps.getD g undef=tmps[g]:=by simp [h]
  rw [h1,h2]
  generalize tmps[g]=v
  cases v<;>rfl
 ·simp [h,undef]
theorem CV (hT:cY.ok P T)(hM:Mod n V0 bB β0 st β a w V){m:CM}{h:Hint}{ops:Array Oper}{o:Oper}{K:St->View->Prop}{next:Act->World->Prop}{Q:Exit->Act->World->Prop}
  (hd:∀d,o.dst=some d->d<n)(hv:qf P T m h ops o st V K)
  (hK:∀st' β' a' w' V',Mod n V0 bB β0 st' β' a' w' V'->K st' V'->next a' w') :
  if Region.wanted o (yielded ops a.tmps) then o.wp P a w next Q else next (a.put o.dst undef) w:=by
 unfold qf at hv
 split at hv
 ·rename_i hg
  rw [if_pos (by simp [Region.wanted,hg])]
  exact iB hT hM hd hv hK
 ·rename_i j b hg
  split at hv
  ·exact hv.elim
  ·rename_i g hdst
   have hy:=FC (tmps:=a.tmps) hdst
   have hwant:∀c:Bool,a.tmps.getD g undef=.bool c->(Region.wanted o (yielded ops a.tmps)=true↔c=b):=by
    intro c hc
    simp only [Region.wanted,hg]
    rw [hy,hc]
    simp
   have skip:∀{st2:St},Mod n V0 bB β0 st2 β a w V->K (st2.put o.dst iU) V->next (a.put o.dst undef) w:=by
    intro st2 hM2 hK2
    exact hK _ _ _ _ _ (hM2.EW hd rfl (bQ rfl)) hK2
   split at hv
   ·rename_i hs
    have hval:=hM.au g _ hs
    split at hv
    ·rw [if_pos ((hwant true hval).2 rfl)];exact iB hT hM hd hv hK
    ·rw [if_neg (fun h=>by have:=(hwant true hval).1 h;cases this)];exact skip hM hv
   ·rename_i hs
    have hval:=hM.au g _ hs
    split at hv
    ·rw [if_neg (fun h=>by have:=(hwant false hval).1 h;cases this)];exact skip hM hv
    ·rw [if_pos ((hwant false hval).2 rfl)];exact iB hT hM hd hv hK
   ·rename_i c hs
    have hval:=hM.au g _ hs
    have ht:c=true->Mod n V0 bB β0 (st.put (some g) (.c .tt)) β a w V:=fun e=>hM.refine hs (by rw [e];rfl) rfl
    have hf:c=false->Mod n V0 bB β0 (st.put (some g) (.c .ff)) β a w V:=fun e=>hM.refine hs (by rw [e];rfl) rfl
    split at hv
    ·cases c with
     | true=>rw [if_pos ((hwant true hval).2 rfl)];exact iB hT (ht rfl) hd (hv.1 rfl) hK
     | false=>rw [if_neg (fun h=>by have:=(hwant false hval).1 h;cases this)];exact skip (hf rfl) (hv.2 rfl)
    ·cases c with
     | true=>rw [if_neg (fun h=>by have:=(hwant true hval).1 h;cases this)];exact skip (ht rfl) (hv.1 rfl)
     | false=>rw [if_pos ((hwant false hval).2 rfl)];exact iB hT (hf rfl) hd (hv.2 rfl) hK
   ·rename_i xs hs
    have hval:=hM.au g _ hs
    have:Region.wanted o (yielded ops a.tmps)=false:=by
     simp only [Region.wanted,hg]
     rw [hy,hval]
     simp [SV.den]
    rw [if_neg (by rw [this];simp)]
    exact skip hM hv
   ·exact hv.elim
theorem zF (hT:cY.ok P T){m:Nat->CM}{hint:Nat->Hint}{ops:Array Oper}(hd:∀(i:Nat)(o:Oper),ops[i]?=some o->∀d,o.dst=some d->d<n){Q:Exit->Act->World->Prop}{K:St->View->Prop}
  (hK:∀st' β' a' w' V',Mod n V0 bB β0 st' β' a' w' V'->K st' V'->Q .normal a' w') :
  ∀(l:List Nat)(st:St)(β:Nat->Nat)(a:Act)(w:World)(V:View),Mod n V0 bB β0 st β a w V->Kg P T m hint ops l st V K->wpOps P ops Q l a w
 | [],st,β,a,w,V,hM,hv=>hK _ _ _ _ _ hM hv
 | i::r,st,β,a,w,V,hM,hv=>by
  simp only [Kg] at hv
  simp only [wpOps]
  split at hv
  ·rename_i o ho
   rw [ho]
   dsimp only
   have:=CV (Q:=Q) (next:=wpOps P ops Q r) hT hM (hd i o ho) hv (fun st' β' a' w' V' hM' ny=>zF hT hd hK r st' β' a' w' V' hM' ny)
   split at this
   ·rename_i hw;rw [if_pos hw];exact .inl this
   ·rename_i hw;rw [if_neg hw];exact this
  ·exact hv.elim
end Go.bJ
namespace Go.bJ
def ov (p:Nat->Option SV)(q:Nat->Option aQ)(st:St):St:=
 ⟨fun t=>match p t with|some x=>some x|none=>st.au t,fun t=>match q t with|some x=>some x|none=>st.boxes t⟩
theorem dw {a b:Nat}(h:a≠b):Nat.beq a b=false:=by
 cases hb:Nat.beq a b
 ·rfl
 ·exact absurd (beq_eq.1 hb) h
section
variable {p:Nat->Option SV} {q:Nat->Option aQ} {st:St}
theorem jL {d:Option Nat}{x:SV}(h:∀k,d=some k->p k=none):(ov p q st).put d x=ov p q (st.put d x):=by
 cases d with
 | none=>rfl
 | some d=>
  have hd:=h d rfl
  simp only [ov,St.put]
  congr 1
  funext t
  by_cases e:t=d
  ·subst e;simp [hd,Nat.beq_refl]
  ·simp [dw e]
theorem k_ {s:Nat}{b:aQ}(h:q s=none):(ov p q st).box s b=ov p q (st.box s b):=by
 simp only [ov,St.box]
 congr 1
 funext t
 by_cases e:t=s
 ·subst e;simp [h,Nat.beq_refl]
 ·simp [dw e]
theorem cE {s:Nat}(h:q s=none):(ov p q st).boxes s=st.boxes s:=by simp [ov,h]
theorem Lv {x:Operand}(h:∀t,x=.tmp t->p t=none):(ov p q st).aZ x=st.aZ x:=by
 cases x with
 | tmp t=>simp [St.aZ,ov,h t rfl]
 | _=>rfl
def one {α:Type}(d:Option Nat)(x:α):Nat->Option α:=fun t=>match d with|some k=>cond (Nat.beq t k) (some x) none|none=>none
theorem dJ {α:Type}{d:Option Nat}{x:α}{t:Nat}(h:d≠some t):one d x t=none:=by
 cases d with
 | none=>rfl
 | some k=>simp [one,dw (fun e:t=k=>h (by rw [e]))]
theorem eM (d:Option Nat)(x:SV):st.put d x=ov (one d x) (fun _=>none) st:=by
 cases d with
 | none=>rfl
 | some d=>
  simp only [ov,St.put,one]
  congr 1
  funext t
  by_cases e:t=d
  ·subst e;simp [Nat.beq_refl]
  ·simp [dw e]
theorem D_ (s:Nat)(b:aQ):st.box s b=ov (fun _=>none) (one (some s) b) st:=by
 simp only [ov,St.box,one]
 congr 1
 funext t
 by_cases e:t=s
 ·subst e;simp [Nat.beq_refl]
 ·simp [dw e]
theorem yT (s:Nat)(b:aQ)(d:Option Nat)(x:SV):(st.box s b).put d x=ov (one d x) (one (some s) b) st:=by
 rw [eM,D_];rfl
end
theorem ef {ρ ρ':Operand->Option SV}:∀l:List Operand,(∀x∈l,ρ x=ρ' x)->bW ρ l=bW ρ' l
 | [],_=>rfl
 | o::r,h=>by simp only [bW];rw [h o (by simp),ef r fun x hx=>h x (by simp [hx])]
theorem jM {ρ ρ':Operand->Option SV}:∀l:List (Nat×Operand),(∀x∈l.map (·.2),ρ x=ρ' x)->partsOf ρ l=partsOf ρ' l
 | [],_=>rfl
 | (i,o)::r,h=>by simp only [partsOf];rw [h o (by simp),jM r fun x hx=>h x (by simp only [List.map_cons,List.mem_cons];exact .inr hx)]
theorem oE {ρ ρ':Operand->Option SV}:∀l:Option Operand,(∀x,l=some x->ρ x=ρ' x)->AO ρ l=AO ρ' l
 | none,_=>rfl
 | some o,h=>by simp only [AO];rw [h o rfl]
theorem mr {T:cY}{ρ ρ':Operand->Option SV}{bx:Nat->Option aQ}{op:Op}(h:∀x∈op.operands.toList,ρ x=ρ' x):aH T ρ bx op=aH T ρ' bx op:=by
 cases op with
 | move x=>simp only [aH];rw [h x (by simp [Op.operands])]
 | assign x=>simp only [aH];rw [h x (by simp [Op.operands])]
 | pick c a b=>simp only [aH];rw [h c (by simp [Op.operands]),h a (by simp [Op.operands]),h b (by simp [Op.operands])]
 | box t x=>simp only [aH];rw [h x (by simp [Op.operands])]
 | build t ps=>simp only [aH];rw [jM _ fun x hx=>h x (by simpa [Op.operands] using hx)]
 | buildSlice t n ps=>simp only [aH];rw [jM _ fun x hx=>h x (by simpa [Op.operands] using hx)]
 | load t a=>simp only [aH];rw [h a (by simp [Op.operands])]
 | store t a x=>simp only [aH];rw [h a (by simp [Op.operands]),h x (by simp [Op.operands])]
 | nilCheck x=>simp only [aH];rw [h x (by simp [Op.operands])]
 | binOp o xt x y yt=>simp only [aH];rw [h x (by simp [Op.operands]),h y (by simp [Op.operands])]
 | unOp o xt x=>cases o<;>simp only [aH]<;>rw [h x (by simp [Op.operands])]
 | convert s d x=>simp only [aH];rw [h x (by simp [Op.operands])]
 | makeFunc fn first caps=>
  cases fn with
  | func f=>simp only [aH];rw [ef _ fun x hx=>h x (by simp [Op.operands];exact .inr (by simpa using hx))]
  | _=>rfl
 | makeSlice t a b=>simp only [aH];rw [h a (by simp [Op.operands]),h b (by simp [Op.operands])]
 | slice t x lo hi mx=>
  simp only [aH]
  rw [h x (by simp [Op.operands]),oE lo fun y hy=>h y (by simp [Op.operands,hy]),oE hi fun y hy=>h y (by simp [Op.operands,hy]),oE mx fun y hy=>h y (by simp [Op.operands,hy])]
 | fieldAddr t x f=>simp only [aH];rw [h x (by simp [Op.operands])]
 | field t x f=>simp only [aH];rw [h x (by simp [Op.operands])]
 | indexAddr t x i=>simp only [aH];rw [h x (by simp [Op.operands]),h i (by simp [Op.operands])]
 | extract x j=>simp only [aH];rw [h x (by simp [Op.operands])]
 | index t x i=>simp only [aH];rw [h x (by simp [Op.operands]),h i (by simp [Op.operands])]
 | makeInterface t x=>simp only [aH];rw [h x (by simp [Op.operands])]
 | call c=>
  obtain ⟨FM,args,ts⟩:=c
  cases FM with
  | builtin b=>
   have e:bW ρ args.toList=bW ρ' args.toList:=ef _ fun x hx=>h x (by simpa [Op.operands,Call.operands] using hx)
   cases b<;>simp only [aH]<;>rw [e]
  | _=>rfl
 | _=>rfl
theorem JJ {T:cY}{LF RF:List Nat}{ρ:Operand->Option SV}{bx bx':Nat->Option aQ}{op:Op}(h:bf LF RF op=.pure\/bf LF RF op=.alloc):aH T ρ bx op=aH T ρ bx' op:=by
 cases op with
 | load t a=>rcases h with h|h<;>cases h
 | store t a x=>rcases h with h|h<;>cases h
 | unOp o xt x=>cases o<;>rfl
 | makeFunc fn first caps=>cases fn<;>rfl
 | call c=>
  obtain ⟨FM,args,ts⟩:=c
  cases FM with
  | builtin b=>cases b<;>first|rfl|(rcases h with h|h<;>cases h)
  | _=>rfl
 | _=>rfl
theorem JL {bx bx':Nat->Option aQ}{i:TI}{x:SV}(h:∀s∈x.ids,bx' s=bx s):iQ bx i x=iQ bx' i x:=by
 unfold iQ
 split
 ·rename_i b o
  rw [h b (by simp [SV.ids,C.ids])]
 ·rfl
 ·rfl
theorem Hz {bx bx':Nat->Option aQ}{i:TI}{x y:SV}(h:∀s∈x.ids,bx' s=bx s):gi bx i x y=gi bx' i x y:=by
 unfold gi
 split
 ·rename_i b o
  rw [h b (by simp [SV.ids,C.ids])]
 ·rfl
theorem E3 {bx:Nat->Option aQ}{i:TI}{x y:SV}{sc:List Prop}{s:Nat}{b:aQ}(h:gi bx i x y=.sS sc s b):s∈x.ids:=by
 unfold gi at h
 split at h
 ·split at h
  ·split at h
   ·split at h
    ·cases h;simp [SV.ids,C.ids]
    ·cases h
   ·split at h
    ·cases h;simp [SV.ids,C.ids]
    ·cases h
   ·split at h
    ·cases h
    ·split at h
     ·cases h;simp [SV.ids,C.ids]
     ·cases h
   ·cases h
  ·cases h
 ·cases h
theorem AY {V:View}{p:Addr}:∀(cs:List C) (i:Nat) {k:Prop},V.LI p i cs k↔V.LI p i cs True/\k
 | [],_,k=>by simp [View.LI]
 | c::r,i,k=>by
  simp only [View.LI]
  rw [AY r (i+1),and_assoc]
theorem JQ {V V':View}(h:V.Le V'){p:Addr}:∀(cs:List C) (i:Nat) {k:Prop},V.LI p i cs k->V'.LI p i cs k
 | [],_,_,hk=>hk
 | c::r,i,_,hk=>⟨h.at hk.1,JQ h r (i+1) hk.2⟩
theorem pP {V:View}{p:OA}{x:SV}{k:Prop}:V.KA p x k↔V.KA p x True/\k:=by
 cases x with
 | c c=>simp [View.KA]
 | agg cs=>
  simp only [View.KA]
  constructor
  ·rintro ⟨a,h1,h2⟩;rw [AY] at h2;exact ⟨⟨a,h1,h2.1⟩,h2.2⟩
  ·rintro ⟨⟨a,h1,h2⟩,hk⟩;exact ⟨a,h1,by rw [AY];exact ⟨h2,hk⟩⟩
 | oZ xs=>simp [View.KA]
theorem Ow {V V':View}(h:V.Le V'){p:OA}{x:SV}{k:Prop}(hk:V.KA p x k):V'.KA p x k:=by
 cases x with
 | c c=>obtain ⟨⟨a,h1,h2⟩,h3⟩:=hk;exact ⟨⟨a,h1,h.at h2⟩,h3⟩
 | agg cs=>obtain ⟨a,h1,h2⟩:=hk;exact ⟨a,h1,JQ h _ _ h2⟩
 | oZ xs=>exact hk
theorem wW.split:∀(s:wW) {F:C->Prop},s.ex F->∃x,F x/\∀G:C->Prop,G x->s.ex G
 | .int _,_,⟨_,h⟩=>⟨_,h,fun _ g=>⟨_,g⟩⟩
 | .bool,_,⟨_,h⟩=>⟨_,h,fun _ g=>⟨_,g⟩⟩
 | .slice,_,⟨_,_,_,h⟩=>⟨_,h,fun _ g=>⟨_,_,_,g⟩⟩
 | .ptr,_,⟨_,h⟩=>⟨_,h,fun _ g=>⟨_,g⟩⟩
 | .str,_,⟨_,h⟩=>⟨_,h,fun _ g=>⟨_,g⟩⟩
 | .any,_,⟨_,h⟩=>⟨_,h,fun _ g=>⟨_,g⟩⟩
theorem mX:∀(l:List wW) {F:List C->Prop},NB l F->∃x,F x/\∀G:List C->Prop,G x->NB l G
 | [],_,h=>⟨_,h,fun _ g=>g⟩
 | s::r,_,h=>by
  obtain ⟨c,h1,h2⟩:=wW.split s h
  obtain ⟨cs,h3,h4⟩:=mX r h1
  exact ⟨c::cs,h3,fun G g=>h2 _ (h4 _ g)⟩
theorem tZ.split:∀(s:tZ) {F:SV->Prop},s.ex F->∃x,F x/\∀G:SV->Prop,G x->s.ex G
 | .one s,_,h=>by obtain ⟨c,h1,h2⟩:=wW.split s h;exact ⟨.c c,h1,fun G g=>h2 _ g⟩
 | .agg l,_,h=>by obtain ⟨c,h1,h2⟩:=mX l h;exact ⟨.agg c,h1,fun G g=>h2 _ g⟩
theorem qN:∀(l:List tZ) {F:List (Bool×List C)->Prop},O5 l F->∃x,F x/\∀G:List (Bool×List C)->Prop,G x->O5 l G
 | [],_,h=>⟨_,h,fun _ g=>g⟩
 | .one s::r,_,h=>by
  obtain ⟨c,h1,h2⟩:=wW.split s h
  obtain ⟨cs,h3,h4⟩:=qN r h1
  exact ⟨_,h3,fun G g=>h2 _ (h4 _ g)⟩
 | .agg l::r,_,h=>by
  obtain ⟨c,h1,h2⟩:=mX l h
  obtain ⟨cs,h3,h4⟩:=qN r h1
  exact ⟨_,h3,fun G g=>h2 _ (h4 _ g)⟩
theorem Sh.split:∀(s:Sh) {F:SV->Prop},s.ex F->∃x,F x/\∀G:SV->Prop,G x->s.ex G
 | .val s,_,h=>tZ.split s h
 | .oZ l,_,h=>by obtain ⟨x,h1,h2⟩:=qN l h;exact ⟨_,h1,fun G g=>h2 _ g⟩
 | .none,_,h=>⟨_,h,fun _ g=>g⟩
theorem Sh.mono {s:Sh}{F G:SV->Prop}(h:s.ex F)(k:∀x,F x->G x):s.ex G:=by
 obtain ⟨x,h1,h2⟩:=s.split h
 exact h2 G (k x h1)
theorem vV {l m:List Nat}:J8 l m=true↔∀x∈l,x∈m:=by
 simp only [J8,List.all_eq_true,ch]
theorem vt {op:Op}{x:Operand}(h:x∈op.operands.toList){t:Nat}(e:x=.tmp t):t∈gW op:=by
 subst e
 exact List.mem_filterMap.2 ⟨_,h,rfl⟩
theorem nd {st st2:St}{op:Op}(h:∀t∈gW op,st2.au t=st.au t){x:Operand}(hx:x∈op.operands.toList):st2.aZ x=st.aZ x:=by
 cases x with
 | tmp t=>exact h t (vt hx rfl)
 | _=>rfl
theorem vr {op:Op}{x:Operand}(h:x∈gV op):x∈op.operands.toList:=by
 unfold gV at h
 split at h
 ·simpa [Op.operands] using h
 ·simp at h;subst h;simp [Op.operands]
 ·simp only [Op.operands,Call.operands]
  simp at h ⊢
  rcases h with h|h
  ·exact .inr h
  ·exact .inl h
 ·simpa [Op.operands,Call.operands] using h
 ·cases h
theorem q_ {ρ:Operand->Option SV}:∀{l:List Operand} {xs:List SV},bW ρ l=some xs->∀x∈l,∃v,ρ x=some v/\v∈xs
 | [],_,_,_,hx=>nomatch hx
 | o::r,xs,h,x,hx=>by
  simp only [bW] at h
  split at h
  ·rename_i v l h1 h2
   cases h
   rcases List.mem_cons.1 hx with e|hx
   ·exact ⟨v,by rw [e];exact h1,by simp⟩
   ·obtain ⟨u,hu,hm⟩:=q_ h2 x hx
    exact ⟨u,hu,by simp [hm]⟩
  ·cases h
structure Outcome (P:Program) (T:cY) (m:CM) (h:Hint) (o:Oper) (st:St) (V:View) (R W:List Nat) (K:St->View->Prop) (p:Nat->Option SV) (q:Nat->Option aQ):Prop where
 pd:∀t,t∉dZ o->p t=none
 qd:∀s,s∉W->q s=none
 next:K (ov p q st) V
 again:∀(st2:St)(V2:View)(K2:St->View->Prop),V.Le V2->(∀t∈gW o.op,st2.au t=st.au t)->(∀s∈R,st2.boxes s=st.boxes s)->K2 (ov p q st2) V2->cJ P T m h o st2 V2 K2
variable {P:Program} {T:cY} {LF RF:List Nat} {m:CM}
theorem Ax {o:Oper}{t:Nat}(h:t∉dZ o):o.dst≠some t:=by
 intro e;apply h;simp [dZ,e]
theorem Ma {o:Oper}{st:St}{V:View}{K:St->View->Prop}{R W:List Nat}{Q0:Q}
  (hnew:∀sc b x,Q0=.new sc b x->dZ o=W/\dZ o=R)(Ud:∀sc s b,Q0=.sS sc s b->s∈W)(happ:df Q0≠6)
  (hv:sU Q0 o.dst st V K) :
  ∃p q,(∀t,t∉dZ o->p t=none)/\(∀s,s∉W->q s=none)/\K (ov p q st) V /\
   ∀(st2:St)(V2:View)(K2:St->View->Prop),V.Le V2->(∀s∈R,st2.boxes s=st.boxes s)->K2 (ov p q st2) V2->sU Q0 o.dst st2 V2 K2:=by
 cases Q0 with
 | fail=>exact hv.elim
 | ret sc x=>
  obtain ⟨h1,h2⟩:=(dG sc _).1 hv
  refine ⟨one o.dst x,fun _=>none,fun t ht=>dJ (Ax ht),fun _ _=>rfl,by rw [←eM];exact h2,?_⟩
  intro st2 V2 K2 _ _ hK
  exact (dG sc _).2 ⟨h1,by rw [eM];exact hK⟩
 | new sc b x=>
  obtain ⟨e1,e2⟩:=hnew _ _ _ rfl
  simp only [sU] at hv ⊢
  cases hd:o.dst with
  | none=>rw [hd] at hv;exact hv.elim
  | some d=>
   have hdl:dZ o=[d]:=by simp [dZ,hd]
   rw [hd] at hv
   dsimp only at hv ⊢
   split at hv
   ·rename_i hn
    obtain ⟨h1,h2⟩:=(dG sc _).1 hv
    refine ⟨one (some d) (x d),one (some d) b,fun t ht=>dJ (by intro e;apply ht;rw [hdl];simpa using e.symm),fun s hs=>dJ (by intro e;apply hs;rw [←e1,hdl];simpa using e.symm),by rw [←yT];exact h2,?_⟩
    intro st2 V2 K2 _ hR hK
    rw [hR d (by rw [←e2,hdl];simp),hn]
    exact (dG sc _).2 ⟨h1,by rw [yT];exact hK⟩
   ·exact hv.elim
 | sS sc s b=>
  simp only [sU] at hv ⊢
  cases hd:o.dst with
  | some d=>rw [hd] at hv;exact hv.elim
  | none=>
   rw [hd] at hv
   dsimp only at hv ⊢
   obtain ⟨h1,h2⟩:=(dG sc _).1 hv
   refine ⟨fun _=>none,one (some s) b,fun _ _=>rfl,fun t ht=>dJ (by intro e;apply ht;have:=Ud _ _ _ rfl;simp at e;rw [←e];exact this),by rw [←D_];exact h2,?_⟩
   intro st2 V2 K2 _ _ hK
   exact (dG sc _).2 ⟨h1,by rw [D_];exact hK⟩
 | rd a sh=>
  obtain ⟨x,h1,h2⟩:=sh.split hv
  obtain ⟨h3,h4⟩:=pP.1 h1
  refine ⟨one o.dst x,fun _=>none,fun t ht=>dJ (Ax ht),fun _ _=>rfl,by rw [←eM];exact h4,?_⟩
  intro st2 V2 K2 hle _ hK
  exact h2 _ (pP.2 ⟨Ow hle h3,by rw [eM];exact hK⟩)
 | nR vs of size sh=>
  obtain ⟨x,h1,h2⟩:=sh.split hv
  refine ⟨one o.dst x,fun _=>none,fun t ht=>dJ (Ax ht),fun _ _=>rfl,by rw [←eM];exact h1.2,?_⟩
  intro st2 V2 K2 hle _ hK
  exact h2 _ ⟨h1.1,by rw [eM];exact hK⟩
 | app a b c d e f g i j=>exact absurd rfl happ
 | qY a b c d e f g i=>exact absurd rfl happ
theorem vK {o:Oper}(h:mu (bf LF RF o.op)=true)(st:St)(V:View)(K:St->View->Prop):cR P T m o st V K=sU (aH T st.aZ st.boxes o.op) o.dst st V K:=by
 unfold cR
 split
 ·rename_i f args ts hop
  rw [hop] at h
  exfalso
  cases f with
  | func f=>
   simp only [bf] at h
   split at h
   ·split at h<;>cases h
   ·split at h
    ·cases h
    ·split at h<;>cases h
  | _=>cases h
 ·rename_i recv name args ts hop
  rw [hop] at h
  cases h
 ·rfl
theorem oH {ρ:Operand->Option SV}{bx:Nat->Option aQ}{op:Op}:df (aH T ρ bx op)=2->bf LF RF op=.alloc:=by
 have eW:∀{q:Q} {X:Prop},df q<=1->df q=2->X:=by intro q X h h';omega
 unfold aH
 split
 case h_8=>
  split
  ·intro h;rcases rj (bx:=bx) with h'|h'|h'|h'<;>(rw [h'] at h;cases h)
  ·exact eW (Nat.zero_le _)
 case h_9=>
  split
  ·intro h;rcases oK (bx:=bx) with h'|h'<;>(rw [h'] at h;cases h)
  ·exact eW (Nat.zero_le _)
 case h_11=>
  split
  ·split
   ·split
    ·exact eW p_
    ·exact eW (Nat.zero_le _)
   ·exact eW p_
  ·exact eW (Nat.zero_le _)
 case h_17=>exact fun _=>rfl
 case h_18=>
  split
  ·split
   ·split
    ·exact eW vW
    ·exact eW (Nat.zero_le _)
   ·exact eW (Nat.zero_le _)
  ·exact eW (Nat.zero_le _)
 case h_21=>
  split
  ·exact eW mF
  ·exact eW (Nat.zero_le _)
 case h_23 c=>
  split
  ·intro h
   exfalso
   split at h<;>(try split at h)<;>(try split at h)<;>(try split at h)<;>first|(rcases mE (bx:=bx) with h'|h'<;>(rw [h'] at h;cases h))|cases h
  ·split
   ·intro h;rcases oJ (T:=T) (bx:=bx) with h'|h'<;>(rw [h'] at h;cases h)
   ·exact eW (Nat.zero_le _)
  ·split
   ·split
    ·exact eW qa
    ·exact eW (Nat.zero_le _)
   ·exact eW (Nat.zero_le _)
  ·exact eW (Nat.zero_le _)
 all_goals
  first
  | exact fun _=>rfl
  | exact eW (Nat.zero_le _)
  | ((repeat' split)<;>first|exact eW (Nat.zero_le _)|exact eW (Nat.le_refl _)|exact eW nT|(unfold vI;(repeat' split)<;>first|exact eW (Nat.zero_le _)|exact eW (Nat.le_refl _)))
theorem zy {st st2:St}{op:Op}(h:∀t∈gW op,st2.au t=st.au t):bW st2.aZ (gV op)=bW st.aZ (gV op):=
 ef _ fun _ hx=>nd h (vr hx)
theorem ng {h:Hint}{o:Oper}{st:St}{V:View}{K:St->View->Prop}{R W:List Nat}(hq:mu (bf LF RF o.op)=true)(hrw:pT (bf LF RF o.op) h (dZ o)=some (R,W))
  (hv:cJ P T m h o st V K):∃p q,Outcome P T m h o st V R W K p q:=by
 have core:(∀st2:St,(∀t∈gW o.op,st2.au t=st.au t)->(∀s∈R,st2.boxes s=st.boxes s)->aH T st2.aZ st2.boxes o.op=aH T st.aZ st.boxes o.op) ->
   (∀sc b x,aH T st.aZ st.boxes o.op=.new sc b x->dZ o=W/\dZ o=R)->(∀sc s b,aH T st.aZ st.boxes o.op=.sS sc s b->s∈W) ->
   (∀(st2:St)(V2:View)(K2:St->View->Prop),(∀t∈gW o.op,st2.au t=st.au t)->cR P T m o st2 V2 K2->cJ P T m h o st2 V2 K2) ->
   cR P T m o st V K->∃p q,Outcome P T m h o st V R W K p q:=by
  intro he hn hu hb hv
  rw [vK hq] at hv
  obtain ⟨p,q,h1,h2,h3,h4⟩:=Ma (R:=R) (W:=W) hn hu (fun hQ=>by
   obtain ⟨cl,hop,pH⟩:=(fB (T:=T) (ρ:=st.aZ) (bx:=st.boxes) (op:=o.op)).2.2 hQ
   rw [hop] at hq
   obtain ⟨FM,args,ts⟩:=cl
   dsimp only at pH
   subst pH
   cases hq) hv
  refine ⟨p,q,h1,h2,h3,fun st2 V2 K2 hle hsl hbx hK=>?_⟩
  refine hb st2 V2 K2 hsl ?_
  rw [vK hq,he st2 hsl hbx]
  exact h4 st2 V2 K2 hle hbx hK
 have AR:bf LF RF o.op=.pure\/bf LF RF o.op=.alloc->h=.free->(bf LF RF o.op=.alloc->R=dZ o/\W=dZ o)->∃p q,Outcome P T m h o st V R W K p q:=by
  intro hc hf hd
  subst hf
  refine core (fun st2 hs _=>?_) (fun sc b x hQ=>?_) (fun sc s b hQ=>?_) (fun _ _ _ _ hb=>hb) hv
  ·rw [JJ (bx':=st.boxes) hc]
   exact mr fun x hx=>nd hs hx
  ·have:=hd (oH (by rw [hQ];rfl));exact ⟨this.2.symm,this.1.symm⟩
  ·rcases (fB (T:=T) (ρ:=st.aZ) (bx:=st.boxes) (op:=o.op)).1 (by rw [hQ];rfl) with ⟨t,y,x,hop⟩|⟨⟨FM,args,ts⟩,hop,pH⟩
   ·rw [hop] at hc
    rcases hc with hc|hc<;>cases hc
   ·dsimp only at pH
    subst pH
    rw [hop] at hc
    rcases hc with hc|hc<;>cases hc
 generalize hc:bf LF RF o.op=c at hrw hq AR
 cases c with
 | pure=>
  cases h with
  | free=>exact AR (.inl rfl) rfl (fun e=>by cases e)
  | own l=>cases hrw
 | alloc=>
  cases h with
  | free=>
   simp only [pT,Option.some.injEq,Prod.mk.injEq] at hrw
   exact AR (.inr rfl) rfl (fun _=>⟨hrw.1.symm,hrw.2.symm⟩)
  | own l=>cases hrw
 | load=>
  cases h with
  | free=>cases hrw
  | own l=>
   simp only [pT,Option.some.injEq,Prod.mk.injEq] at hrw
   obtain ⟨rfl,rfl⟩:=hrw
   have hop:∃t a,o.op=.load t a:=by
    generalize o.op=op at hc
    cases op with
    | load t a=>exact ⟨t,a,rfl⟩
    | call c=>obtain ⟨FM,args,ts⟩:=c;cases FM with
     | builtin b=>cases b<;>cases hc
     | value f=>cases f with
      | func f=>simp only [bf] at hc;split at hc<;>(try split at hc)<;>(try split at hc)<;>(try split at hc)<;>cases hc
      | _=>cases hc
     | _=>cases hc
    | _=>cases hc
   obtain ⟨t,a,hop⟩:=hop
   unfold cJ at hv
   dsimp only at hv
   split at hv
   ·rename_i xs hxs
    split at hv
    ·rename_i hsub
     have fE:∀v,st.aZ a=some v->∀s∈v.ids,s∈l:=by
      intro v ny s hs
      rw [vV] at hsub
      apply hsub
      rw [hop] at hxs
      obtain ⟨u,hu,hm⟩:=q_ hxs a (by simp [gV])
      rw [hop]
      simp only [eG]
      rw [ny] at hu
      cases hu
      exact List.mem_flatMap.2 ⟨_,hm,hs⟩
     refine core (fun st2 hs hb=>?_) (fun sc b x hQ=>?_) (fun sc s b hQ=>?_) (fun st2 V2 K2 hs hb=>?_) hv
     ·rw [hop] at hs ⊢
      rw [mr (ρ':=st.aZ) fun x hx=>nd hs hx]
      simp only [aH]
      split
      ·rename_i i v hi HW
       exact (JL fun s hs'=>hb s (fE v HW s hs')).symm
      ·rfl
     ·have:=oH (LF:=LF) (RF:=RF) (op:=o.op) (T:=T) (ρ:=st.aZ) (bx:=st.boxes) (by rw [hQ];rfl)
      rw [hop] at this;cases this
     ·rcases (fB (T:=T) (ρ:=st.aZ) (bx:=st.boxes) (op:=o.op)).1 (by rw [hQ];rfl) with ⟨t,y,x,hop'⟩|⟨c,hop',-⟩<;>(rw [hop] at hop';cases hop')
     ·unfold cJ
      dsimp only
      rw [zy hs,hxs]
      dsimp only
      have:eG st2.boxes o.op (xs.flatMap SV.ids)=eG st.boxes o.op (xs.flatMap SV.ids):=by rw [hop];rfl
      rw [this,hsub]
      exact hb
    ·exact hv.elim
   ·exact hv.elim
 | store=>
  cases h with
  | free=>cases hrw
  | own l=>
   simp only [pT,Option.some.injEq,Prod.mk.injEq] at hrw
   obtain ⟨rfl,rfl⟩:=hrw
   have hop:∃t a x,o.op=.store t a x:=by
    generalize o.op=op at hc
    cases op with
    | store t a x=>exact ⟨t,a,x,rfl⟩
    | call c=>obtain ⟨FM,args,ts⟩:=c;cases FM with
     | builtin b=>cases b<;>cases hc
     | value f=>cases f with
      | func f=>simp only [bf] at hc;split at hc<;>(try split at hc)<;>(try split at hc)<;>(try split at hc)<;>cases hc
      | _=>cases hc
     | _=>cases hc
    | _=>cases hc
   obtain ⟨t,a,y,hop⟩:=hop
   unfold cJ at hv
   dsimp only at hv
   split at hv
   ·rename_i xs hxs
    split at hv
    ·rename_i hsub
     have fE:∀v,st.aZ a=some v->∀s∈v.ids,s∈l:=by
      intro v ny s hs
      rw [vV] at hsub
      apply hsub
      rw [hop] at hxs
      obtain ⟨u,hu,hm⟩:=q_ hxs a (by simp [gV])
      rw [hop]
      simp only [eG]
      rw [ny] at hu
      cases hu
      exact List.mem_flatMap.2 ⟨_,hm,hs⟩
     refine core (fun st2 hs hb=>?_) (fun sc b x hQ=>?_) (fun sc s b hQ=>?_) (fun st2 V2 K2 hs hb=>?_) hv
     ·rw [hop] at hs ⊢
      rw [mr (ρ':=st.aZ) fun x hx=>nd hs hx]
      simp only [aH]
      split
      ·rename_i i v w hi HW hw
       exact (Hz fun s hs'=>hb s (fE v HW s hs')).symm
      ·rfl
     ·have:=oH (LF:=LF) (RF:=RF) (op:=o.op) (T:=T) (ρ:=st.aZ) (bx:=st.boxes) (by rw [hQ];rfl)
      rw [hop] at this;cases this
     ·rw [hop] at hQ
      simp only [aH] at hQ
      split at hQ
      ·rename_i i v w hi HW hw
       exact fE v HW s (E3 hQ)
      ·cases hQ
     ·unfold cJ
      dsimp only
      rw [zy hs,hxs]
      dsimp only
      have:eG st2.boxes o.op (xs.flatMap SV.ids)=eG st.boxes o.op (xs.flatMap SV.ids):=by rw [hop];rfl
      rw [this,hsub]
      exact hb
    ·exact hv.elim
   ·exact hv.elim
 | _=>cases hq
end Go.bJ
namespace Go.bJ
variable {P:Program} {T:cY} {LF RF:List Nat} {m:CM}
def Good (p:Nat->Option SV)(q:Nat->Option aQ)(W D:List Nat)(st:St)(V:View)(K:St->View->Prop):St->View->Prop:=
 fun st2 V2=>V.Le V2/\(∀t,t∉D->st2.au t=st.au t)/\(∀s,s∉W->st2.boxes s=st.boxes s)/\K (ov p q st2) V2
theorem pg {bx bx':Nat->Option aQ}:∀{l:List Nat},(∀s∈l,bx' s=bx s)->l.flatMap (kC bx')=l.flatMap (kC bx)
 | [],_=>rfl
 | s::r,h=>by
  simp only [List.flatMap_cons]
  rw [pg fun s hs=>h s (by simp [hs])]
  simp only [kC]
  rw [h s (by simp)]
theorem mw {bx bx':Nat->Option aQ}:∀(n:Nat)(l:List Nat),(∀s∈reach bx n l,bx' s=bx s)->reach bx' n l=reach bx n l
 | 0,_,_=>rfl
 | n+1,l,h=>by
  have hl:∀s∈l,bx' s=bx s:=fun s hs=>h s (eI (n+1) l s hs)
  simp only [reach] at h ⊢
  rw [pg hl]
  exact mw n _ h
theorem xB {bx bx':Nat->Option aQ}{l:List Nat}(h:∀s∈l,bx' s=bx s):gE bx' l=gE bx l:=by
 unfold gE
 rw [Bool.eq_iff_iff,List.all_eq_true,List.all_eq_true]
 constructor
 ·intro g s hs;have:=g s hs;simp only [kC] at this ⊢;rw [h s hs] at this;exact this
 ·intro g s hs;have:=g s hs;simp only [kC] at this ⊢;rw [h s hs];exact this
theorem ir:∀{L:List Nat} {β:Nat->Nat} {k k':(Nat->Nat)->Prop},(∀β,k β->k' β)->lN L β k->lN L β k'
 | [],_,_,_,h,g=>h _ g
 | _::_,_,_,_,h,g=>fun b=>ir h (g b)
theorem vB {bx bx':Nat->Option aQ}{b:aQ}{β:Nat->Nat}{s:Nat}:∀{r:List Nat} {k k':Prop},(∀t∈r,bx' t=bx t)->(k->k')->MP bx b β s r k->MP bx' b β s r k'
 | [],_,_,_,h,g=>h g
 | t::r,k,k',hb,h,g=>by
  have hr:=fun t ht=>hb t (List.mem_cons_of_mem _ ht)
  simp only [MP] at g ⊢
  rw [hb t (by simp)]
  cases hbq:Nat.beq s t with
  | true=>rw [hbq] at g;exact vB hr h g
  | false=>
   rw [hbq] at g
   simp only [cond_false] at g ⊢
   split at g
   ·exact fun hn=>vB hr h (g hn)
   ·exact g
theorem iM {bx bx':Nat->Option aQ}{β:Nat->Nat}{V:View}:∀{L:List Nat} {k k':Prop},(∀s∈L,bx' s=bx s)->((∀s∈L,∃b,bx s=some b/\(b.live->V.H (β s)))->k->k')->g_ bx β V L k->g_ bx' β V L k'
 | [],_,_,_,h,g=>h (fun s hs=>absurd hs (by simp)) g
 | s::r,k,k',hb,h,g=>by
  have hr:=fun t ht=>hb t (List.mem_cons_of_mem _ ht)
  simp only [g_] at g ⊢
  rw [hb s (by simp)]
  split at g
  ·rename_i b hbs
   refine fun h1 h2=>iM hr (fun hf=>vB hr (fun hk=>h (fun t ht=>?_) hk)) (g h1 h2)
   rcases List.mem_cons.1 ht with rfl|ht
   ·exact ⟨b,hbs,fh.1 h2⟩
   ·exact hf t ht
  ·exact g
theorem jt {mv:Option (Nat×Nat)}:∀{cs zs:List C} {K K':List C->Prop},(∀c,K c->K' c)->kT mv cs zs K->kT mv cs zs K'
 | [],_,_,_,h,g=>h _ g
 | _::_,[],_,_,_,g=>g.elim
 | c::r,z::zr,K,K',h,g=>by
  simp only [kT] at g ⊢
  split at g
  ·split at g
   ·split at g
    ·obtain ⟨n,c,g⟩:=g
     exact ⟨n,c,jt (fun cs hk=>h _ hk) g⟩
    ·exact g.elim
   ·exact g.elim
  ·split at g
   ·obtain ⟨v,h1,h2⟩:=wW.split _ g
    rename_i hc
    rw [hc] at *
    exact h2 _ (jt (fun cs hk=>h _ hk) h1)
   ·exact jt (fun cs hk=>h _ hk) g
variable {p:Nat->Option SV} {q:Nat->Option aQ}
theorem jx {mv:Option (Nat×Nat)}{β:Nat->Nat}{V:View}{W:List Nat}:∀{L:List Nat} {st:St} {k k':St->Prop},(∀s∈L,q s=none/\s∈W) ->
  (∀st',(∀t,st'.au t=st.au t)->(∀s,s∉W->st'.boxes s=st.boxes s)->k (ov p q st')->k' st')->ee T mv β V L (ov p q st) k->ee T mv β V L st k'
 | [],st,k,k',_,h,g=>h st (fun _=>rfl) (fun _ _=>rfl) g
 | s::r,st,k,k',hq,h,g=>by
  obtain ⟨NP,P5⟩:=hq s (by simp)
  have hr:∀s∈r,q s=none/\s∈W:=fun s hs=>hq s (by simp [hs])
  have NF:∀b:aQ,∀k1:St->Prop,(∀st',k1 st'=k st')->ee T mv β V r ((ov p q st).box s b) k1->ee T mv β V r (st.box s b) k':=by
   intro b k1 hk1 g
   rw [k_ NP] at g
   refine jx hr (fun st' h1 h2 hk=>h st' h1 (fun s' hs'=>?_) (by rw [←hk1];exact hk)) g
   rw [h2 s' hs',ai,if_neg (fun e=>hs' (by rw [e];exact P5))]
  simp only [ee] at g ⊢
  rw [cE NP] at g
  split at g
  ·rename_i cs ty hb
   split at g
   ·rename_i i hi
    exact jt (fun cs' hk=>⟨hk.1,NF _ _ (fun _=>rfl) hk.2⟩) g
   ·exact g
  ·obtain ⟨vs,h1,h2⟩:=g
   exact ⟨vs,h1,NF _ _ (fun _=>rfl) h2⟩
  ·obtain ⟨h0,vs,h3,h1,h2⟩:=g
   exact ⟨h0,vs,h3,h1,NF _ _ (fun _=>rfl) h2⟩
  ·exact g
theorem tR (V:View)(l:List Nat):V.Le (V.bo l):=fun _ _ h=>h
theorem F9 (V:View):V.Le V.shut:=fun _ _ h=>h
theorem Ja {V V' eQ:View}{P:Prop}{b:Nat}(h:V.Le eQ)(h':V.Le V')(hb:P->V'.w.heap.size<=b\/V'.H b):V.Le (eQ.shut.jv P b):=by
 intro x o hx
 obtain ⟨h1,h2⟩:=h x o hx
 obtain ⟨h3,h4⟩:=h' x o hx
 refine ⟨fun hh=>?_,h2⟩
 rcases hh with hh|⟨hp,e,-⟩
 ·exact h1 hh
 ·subst e
  rcases hb hp with h5|h5
  ·have:=aA h4;omega
  ·exact h3 h5
theorem Jn {m:Option Nat}{d:Nat}:eX m d=d\/eX m d=d+200000:=by
 cases m with
 | none=>exact .inl rfl
 | some m=>
  simp only [eX,nC]
  cases Nat.blt m 100000 with
  | true=>exact .inl rfl
  | false=>exact .inr rfl
theorem oB {give:Bool}{sh:Sh}{L:List Nat}{mm:Option Nat}{d:Nat}{ety:TypeId}{β:Nat->Nat}{st:St}{V V' eQ:View}{K K':St->View->Prop}{W D:List Nat}{r':Value}
  (hL:∀s∈L,q s=none/\s∈W)(hm:∀k,mm=some k->k∈L)(hp:p d=none/\d∈D)(hq:q (eX mm d)=none/\eX mm d∈W)(hV:V.Le V')(hV2:V.Le eQ)
  (hlv:∀s∈L,∃b,st.boxes s=some b/\(b.live->V'.H (β s)))(hK:∀s2 V2,Good p q W D st V K s2 V2->K' s2 V2)
  (h:ck T give sh L mm d ety β (ov p q st) V' K r' eQ):ck T give sh L mm d ety β st V' K' r' eQ:=by
 unfold ck at h ⊢
 obtain ⟨b',vs',h1,h2,h3⟩:=h
 have h2':vs'≠[]->V'.w.heap.size<=b'\/wU mm st β b':=by
  intro hne
  refine (h2 hne).imp id fun h=>?_
  unfold wU at h ⊢
  cases mm with
  | none=>exact h
  | some k=>
   dsimp only at h ⊢
   rw [cE (hL k (hm k rfl)).1] at h
   exact h
 have qR:vs'≠[]->V'.w.heap.size<=b'\/V'.H b':=by
  intro hne
  refine (h2' hne).imp id fun h=>?_
  unfold wU at h
  cases mm with
  | none=>exact h.elim
  | some k=>
   dsimp only at h
   obtain ⟨b0,hb0,hHk⟩:=hlv k (hm k rfl)
   rw [hb0] at h
   obtain ⟨cs,ty⟩:=b0
   cases cs with
   | lit cs=>have h:b'=β k:=h;rw [h];exact hHk cO
   | row cs=>have h:b'=β k:=h;rw [h];exact hHk cg
   | aY vs=>have h:vs≠[]/\b'=β k:=h;rw [h.2];exact hHk (fy h.1)
 refine ⟨b',vs',h1,h2',Sh.mono h3 fun x hx=>⟨hx.1,?_⟩⟩
 have e1:(pG mm ety (ov p q st)).box (eX mm d) ⟨.aY vs',ety⟩=ov p q ((pG mm ety st).box (eX mm d) ⟨.aY vs',ety⟩):=by
  cases mm with
  | none=>exact k_ hq.1
  | some k=>
   simp only [pG]
   rw [k_ (hL k (hm k rfl)).1,k_ hq.1]
 have hx2:=hx.2
 rw [e1] at hx2
 have hsub:∀s∈F_ mm L,q s=none/\s∈W:=by
  intro s hs
  cases mm with
  | none=>exact hL s hs
  | some k=>exact hL s (vx.1 hs).1
 refine jx hsub (fun st' g1 g2 hk=>?_) hx2
 rw [jL (fun k hk=>by cases hk;exact hp.1)] at hk
 refine hK _ _ ⟨Ja hV2 hV qR,?_,?_,hk⟩
 ·intro t ht
  rw [dm,if_neg (fun e=>ht (by rw [e];exact hp.2)),g1]
  cases mm<;>rfl
 ·intro s hs
  show st'.boxes s=_
  rw [g2 s hs,ai,if_neg (fun e=>hs (by rw [e];exact hq.2))]
  cases mm with
  | none=>rfl
  | some k=>simp only [pG];rw [ai,if_neg (fun e=>hs (by rw [e];exact (hL k (hm k rfl)).2))]
theorem Jh {bx:Nat->Option aQ}{L:List Nat}(hcl:gE bx L=true):∀k,k∈pN bx L->k∈L:=by
 intro k hk
 unfold pN at hk
 obtain ⟨s,hs,hk⟩:=List.mem_flatMap.1 (bN.1 hk)
 split at hk
 ·rename_i cs ty hb
  refine gL hcl hs hb k ?_
  have:∀cs:List C,k∈oD cs->k∈cs.flatMap C.ids:=by
   intro cs
   induction cs with
   | nil=>exact fun h=>nomatch h
   | cons c r ih=>
    intro h
    rw [List.flatMap_cons,List.mem_append]
    cases c<;>simp only [oD,List.mem_cons] at h<;>first
     | exact .inr (ih h)
     | (rcases h with h|h
        ·left;simp [C.ids,h]
        ·exact .inr (ih h))
  exact this cs hk
 ·cases hk
theorem uW {xs:List SV}:∀k,k∈kV xs->k∈xs.flatMap SV.ids:=by
 intro k
 induction xs with
 | nil=>exact fun h=>nomatch h
 | cons x r ih=>
  intro h
  rw [List.flatMap_cons,List.mem_append]
  unfold kV at h
  split at h
  ·rename_i heq;cases heq
  ·rename_i s n c r' heq;cases heq;exact .inl h
  ·rename_i s n c r' heq;cases heq;exact .inl h
  ·cases h
  ·rename_i heq;cases heq;exact .inr (ih h)
theorem sn {bx bx':Nat->Option aQ}{L:List Nat}(h:∀s∈L,bx' s=bx s):pN bx' L=pN bx L:=by
 unfold pN
 congr 1
 induction L with
 | nil=>rfl
 | cons s r ih=>simp only [List.flatMap_cons];rw [h s (by simp),ih fun s hs=>h s (by simp [hs])]
theorem ie {st:St}{mm:Option Nat}{d:Nat}(h:q (eX mm d)=none):jK (ov p q st) mm d=jK st mm d:=by
 unfold jK;rw [cE h]
theorem r_ {bx bx':Nat->Option aQ}{β:Nat->Nat}{N:Nat}{L:List Nat}(h:∀s∈L,bx' s=bx s):L.map (dI bx' β N)=L.map (dI bx β N):=
 List.map_congr_left fun s hs=>by unfold dI;rw [h s hs]
theorem im {f:FuncId}{xs:List SV}{ty:TypeId}{dst:Option Nat}{st:St}{V:View}{K:St->View->Prop}{W D:List Nat}
  (hm:m=.none\/((m=.bo\/m=.give)/\(∀s∈reach (ov p q st).boxes 3 (dedup (xs.flatMap SV.ids)),q s=none/\s∈W)/\∀k,dst=some k->∀mm,q (eX mm k)=none/\eX mm k∈W))(hd:∀k,dst=some k->p k=none/\k∈D)
  {K':St->View->Prop}(hK:∀s2 V2,Good p q W D st V K s2 V2->K' s2 V2)(hv:fj P T m f xs ty dst (ov p q st) V K):fj P T m f xs ty dst st V K':=by
 have hput:∀(st':St)(x:SV),(∀t,st'.au t=st.au t)->∀t,t∉D->(st'.put dst x).au t=st.au t:=by
  intro st' x h t ht
  cases dst with
  | none=>exact h t
  | some d=>rw [dm,if_neg (fun e=>ht (by rw [e];exact (hd d rfl).2))];exact h t
 have hbx:∀(st':St)(x:SV),(st'.put dst x).boxes=st'.boxes:=by intro st' x;cases dst<;>rfl
 unfold fj at hv ⊢
 split at hv
 ·exact hv.elim
 ·rename_i sh hsh
  have hre:∀L,reach (ov p q st).boxes 3 (dedup (xs.flatMap SV.ids))=L->(∀s∈L,q s=none)->reach st.boxes 3 (dedup (xs.flatMap SV.ids))=L:=by
   intro L hL Zx
   rw [←hL]
   exact mw 3 _ fun s hs=>(cE (Zx s (by rw [←hL];exact hs))).symm
  have MF:∀s∈xs.flatMap SV.ids,s∈reach (ov p q st).boxes 3 (dedup (xs.flatMap SV.ids)):=fun s hs=>eI 3 _ s (bN.2 hs)
  generalize hr:reach (ov p q st).boxes 3 (dedup (xs.flatMap SV.ids))=L at hv hm MF
  cases L with
  | nil=>
   rw [hre _ hr (fun s hs=>nomatch hs)]
   have plain:(∀V':View,V.Le V'->ab P f (aS (fun _=>0) xs) V' fun r eQ=>sh.ex fun x=>r=x.den (fun _=>0)/\K ((ov p q st).put dst x) eQ) ->
     ∀V':View,V.Le V'->ab P f (aS (fun _=>0) xs) V' fun r eQ=>sh.ex fun x=>r=x.den (fun _=>0)/\K' (st.put dst x) eQ:=by
    intro hv V' hV'
    refine (hv V' hV').mono fun r eQ hle hk=>Sh.mono hk fun x hx=>⟨hx.1,?_⟩
    have h2:=hx.2
    rw [jL (fun k hk=>(hd k hk).1)] at h2
    exact hK _ _ ⟨hV'.trans hle,hput st x fun _=>rfl,fun s _=>by rw [hbx],h2⟩
   rcases hm with rfl|⟨rfl|rfl,-,hnb⟩
   ·exact plain hv
   ·exact plain hv
   ·dsimp only at hv ⊢
    split at hv
    ·rename_i d ety hgt
     rw [ie (hnb d rfl Option.none).1] at hv
     split at hv
     ·exact hv.elim
     ·rename_i hfree
      intro V' hV'
      refine (hv V' hV').mono fun r eQ hle hk=>?_
      exact oB (W:=W) (D:=D) (fun s hs=>absurd hs (by simp)) (fun k hk=>by cases hk) (hd d rfl) (hnb d rfl Option.none) hV' (hV'.trans hle) (fun s hs=>absurd hs (by simp)) hK hk
    ·exact hv.elim
  | cons s r=>
   dsimp only at hv
   split at hv
   ·exact hv.elim
   ·rename_i hcl
    have bo:m=.bo\/m=.give->(∀t∈s::r,q t=none/\t∈W)->(∀k,dst=some k->∀mm,q (eX mm k)=none/\eX mm k∈W) ->
      ∀{give:Bool} {mm:Option Nat} {d:Nat} {ety:TypeId},dst=some d->(∀k,mm=some k->k∈s::r) ->
      (∀V':View,V.Le V'->lN (s::r) (fun _=>0) fun β=>g_ (ov p q st).boxes β V' (s::r) (ab P f (aS β xs) (V'.bo ((s::r).map (dI (ov p q st).boxes β V'.w.heap.size))) (ck T give sh (s::r) mm d ety β (ov p q st) V' K))) ->
      ∀V':View,V.Le V'->lN (s::r) (fun _=>0) fun β=>g_ st.boxes β V' (s::r) (ab P f (aS β xs) (V'.bo ((s::r).map (dI st.boxes β V'.w.heap.size))) (ck T give sh (s::r) mm d ety β st V' K')):=by
     intro _ hmm hnb give mm d ety hdst T8 hv V' hV'
     have Ct:∀t∈s::r,st.boxes t=(ov p q st).boxes t:=fun t ht=>(cE (hmm t ht).1).symm
     refine ir (fun β hb=>?_) (hv V' hV')
     rw [r_ (bx:=(ov p q st).boxes) Ct]
     refine iM (bx:=(ov p q st).boxes) Ct (fun hH hfn=>?_) hb
     refine hfn.mono fun r' eQ hle hk=>?_
     have hle2:V.Le eQ:=(hV'.trans (tR V' _)).trans hle
     exact oB hmm T8 (hd d hdst) (hnb d hdst mm) hV' hle2 (fun t ht=>by rw [Ct t ht];exact hH t ht) hK hk
    have base:m=.bo\/m=.give->(∀t∈s::r,q t=none/\t∈W)/\(∀k,dst=some k->∀mm,q (eX mm k)=none/\eX mm k∈W):=by
     intro h
     rcases hm with rfl|⟨-,h1,h2⟩
     ·rcases h with h|h<;>cases h
     ·exact ⟨h1,h2⟩
    have Wx:(∀t∈s::r,q t=none/\t∈W)->gE st.boxes (s::r)=true:=fun hmm=>by
     rw [xB (bx:=(ov p q st).boxes) (fun t ht=>(cE (hmm t ht).1).symm)];exact hcl
    split at hv
    ·exact hv.elim
    ·exact hv.elim
    ·
     obtain ⟨hmm,hnb⟩:=base (.inr rfl)
     rw [hre _ hr (fun t ht=>(hmm t ht).1)]
     dsimp only
     rw [Wx hmm]
     dsimp only
     have hmv:=sn (bx:=(ov p q st).boxes) (bx':=st.boxes) (L:=s::r) (fun t ht=>(cE (hmm t ht).1).symm)
     rw [hmv]
     split at hv
     ·rename_i d ety h1 h2 h3
      rw [ie (hnb d rfl _).1] at hv
      split at hv
      ·exact hv.elim
      ·rename_i hfree
       exact bo (.inr rfl) hmm hnb rfl (fun k hk=>by cases hk) hv
     ·rename_i d ety k h1 h2 h3
      rw [ie (hnb d rfl _).1] at hv
      split at hv
      ·exact hv.elim
      ·rename_i hfree
       exact bo (.inr rfl) hmm hnb rfl (fun j hj=>by cases hj;exact MF k (uW k (by rw [h2];simp))) hv
     ·exact hv.elim
    ·
     obtain ⟨hmm,hnb⟩:=base (.inl rfl)
     rw [hre _ hr (fun t ht=>(hmm t ht).1)]
     dsimp only
     rw [Wx hmm]
     dsimp only
     have Ct:∀t∈s::r,st.boxes t=(ov p q st).boxes t:=fun t ht=>(cE (hmm t ht).1).symm
     have hmv:=sn (bx:=(ov p q st).boxes) (bx':=st.boxes) (L:=s::r) Ct
     rw [hmv]
     split at hv
     ·intro V' hV'
      refine ir (fun β hb=>?_) (hv V' hV')
      rw [r_ (bx:=(ov p q st).boxes) Ct]
      refine iM (bx:=(ov p q st).boxes) Ct (fun _ hfn=>?_) hb
      refine hfn.mono fun r' eQ hle hk=>Sh.mono hk fun x hx=>⟨hx.1,?_⟩
      refine jx hmm (fun st' h1 h2 hk=>?_) hx.2
      rw [jL (fun k hk=>(hd k hk).1)] at hk
      exact hK _ _ ⟨((hV'.trans (tR V' _)).trans hle).trans (F9 _),hput st' x h1,fun t ht=>by rw [hbx];exact h2 t ht,hk⟩
     ·rename_i k hk
      have NK:k∈s::r:=Jh hcl k (by rw [hk];simp)
      have hty:j8 st.boxes k=j8 (ov p q st).boxes k:=by unfold j8;rw [Ct k NK]
      rw [hty]
      split at hv
      ·rename_i d ety hbt
       rw [ie (hnb d rfl _).1] at hv
       split at hv
       ·exact hv.elim
       ·rename_i hfree
        exact bo (.inl rfl) hmm hnb rfl (fun j hj=>by cases hj;exact NK) hv
      ·exact hv.elim
     ·exact hv.elim
    ·rcases hm with h|h
     ·cases h
     ·rcases h.1 with h|h<;>cases h
theorem Da {bx:Nat->Option aQ}:∀(n:Nat) {l l':List Nat},(∀x∈l,x∈l')->∀x∈reach bx n l,x∈reach bx n l'
 | 0,_,_,h,x,hx=>h x hx
 | n+1,l,l',h,x,hx=>by
  simp only [reach] at hx ⊢
  refine Da n (fun y hy=>?_) x hx
  rw [bN,List.mem_append] at hy ⊢
  rcases hy with hy|hy
  ·exact .inl (h y hy)
  ·obtain ⟨z,hz,hy⟩:=List.mem_flatMap.1 hy
   exact .inr (List.mem_flatMap.2 ⟨z,h z hz,hy⟩)
theorem sJ {f:FuncId}{xs:List SV}{ty:TypeId}{dst:Option Nat}{st:St}{V:View}{K:St->View->Prop}{W D:List Nat}
  (hm:m=.none\/((m=.bo\/m=.give)/\(∀s∈reach (ov p q st).boxes 3 (dedup (xs.flatMap SV.ids)),q s=none/\s∈W)/\∀k,dst=some k->∀mm,q (eX mm k)=none/\eX mm k∈W))(hd:∀k,dst=some k->p k=none/\k∈D)
  {K':St->View->Prop}(hK:∀s2 V2,Good p q W D st V K s2 V2->K' s2 V2)(hv:jR P T m f xs ty dst (ov p q st) V K):jR P T m f xs ty dst st V K':=by
 have hm0:=hm
 cases m with
 | bo=>
  obtain ⟨h1,h2⟩:(∀s∈reach (ov p q st).boxes 3 (dedup (xs.flatMap SV.ids)),q s=none/\s∈W)/\∀k,dst=some k->∀mm,q (eX mm k)=none/\eX mm k∈W:=by
   rcases hm with h|⟨-,h1,h2⟩
   ·cases h
   ·exact ⟨h1,h2⟩
  unfold jR at hv ⊢
  dsimp only at hv ⊢
  rw [pX (bx:=st.boxes) (bx':=(ov p q st).boxes) (fun s hs=>cE (h1 s (eI 3 _ s (bN.2 hs))).1)] at hv
  split at hv
  ·rename_i vs c xs' e
   exact ⟨fun he=>⟨(hv.1 he).1,im (.inr ⟨.inl rfl,fun s hs=>h1 s (Da 3 (fun x hx=>bN.2 (vU e x (bN.1 hx))) s hs),h2⟩) hd hK (hv.1 he).2⟩,fun he=>im hm0 hd hK (hv.2 he)⟩
  ·exact im hm0 hd hK hv
 | _=>exact im hm0 hd hK hv
theorem AP {p2:Nat->Option SV}{q2:Nat->Option aQ}{st:St}(hp:∀t,p t=none\/p2 t=none)(hq:∀t,q t=none\/q2 t=none):ov p q (ov p2 q2 st)=ov p2 q2 (ov p q st):=by
 unfold ov
 congr 1
 ·funext t
  dsimp only
  rcases hp t with h|h<;>rw [h]
 ·funext t
  dsimp only
  rcases hq t with h|h<;>rw [h]
def Aa:Q->Option Nat
 | .app old _ _ _ _ _ _ _ _=>old
 | .qY s _ _ _ _ _ _ _=>some s
 | _=>none
def Gl (T:cY)(bx:Nat->Option aQ)(l:Option (List SV))(ts:List TypeId):Q:=
 match l,ts with
 | some [b,x],[t,t']=>match az T t,az T t' with
  | some i,some i'=>match i.k,i'.k with
   | .slice e,.slice _=>match az T e with
    | some ei=>bZ bx e ei b x
    | none=>.fail
   | _,_=>.fail
  | _,_=>.fail
 | _,_=>.fail
def Ab (bx:Nat->Option aQ)(sz:Nat)(x:SV):Option (OA×Nat ⊕ List Value):=
 match x with
 | .c (.v (.slice a k _))=>some (.inl (a,k))
 | .c (.lT s o k _)=>match bx s with
  | some ⟨.row ws,_⟩=>some (.inr (cj ws o (k*sz)))
  | _=>match eA bx s with
   | some ws=>if Nat.ble (o+k*sz) ws.length then some (.inr ((ws.drop o).take (k*sz))) else none
   | none=>none
 | _=>none
def FJ (bx:Nat->Option aQ)(e:TypeId)(ei:TI)(b:SV)(src:OA×Nat ⊕ List Value):Q:=
 match b with
 | .c (.v (.slice a n c))=>.app none a [] n c src ei.size ei.bytes e
 | .c (.lT s 0 n c)=>match eA bx s,j8 bx s with
  | some vs,some ty=>if Nat.beq ty e then .app (some s) none vs n c src ei.size ei.bytes e else .fail
  | _,_=>.fail
 | .c (.jJ s n c)=>match bx s with
  | some ⟨.aY vs,ty⟩=>if Nat.beq ty e then .qY s vs n c src ei.size ei.bytes e else .fail
  | _=>.fail
 | _=>.fail
theorem vH {bx:Nat->Option aQ}{e:TypeId}{ei:TI}{b x:SV}:bZ bx e ei b x=match ku ei.zero with
  | none=>.fail
  | some zs=>if Nat.beq ei.bytes 0||Nat.beq ei.size 0||!(Nat.beq ei.size zs.length) then .fail else match Ab bx ei.size x with
   | none=>.fail
   | some src=>FJ bx e ei b src:=rfl
theorem GP {bx bx':Nat->Option aQ}{sz:Nat}{x:SV}:(∀s∈x.ids,bx' s=bx s)->Ab bx sz x=Ab bx' sz x:=by
 unfold Ab
 split
 ·exact fun _=>rfl
 ·intro h;unfold eA;rw [h _ (by simp [SV.ids,C.ids])]
 ·exact fun _=>rfl
theorem H6 {bx bx':Nat->Option aQ}{e:TypeId}{ei:TI}{b:SV}{src:OA×Nat ⊕ List Value}:(∀s∈b.ids,bx' s=bx s)->FJ bx e ei b src=FJ bx' e ei b src:=by
 unfold FJ
 split
 ·exact fun _=>rfl
 ·intro h;unfold eA j8;rw [h _ (by simp [SV.ids,C.ids])]
 ·intro h;rw [h _ (by simp [SV.ids,C.ids])]
 ·exact fun _=>rfl
theorem EX {bx bx':Nat->Option aQ}{e:TypeId}{ei:TI}{b x:SV}(h:∀s∈b.ids++x.ids,bx' s=bx s):bZ bx e ei b x=bZ bx' e ei b x:=by
 rw [vH,vH,GP fun s hs=>h s (List.mem_append_right _ hs)]
 have:=fun src=>H6 (bx:=bx) (bx':=bx') (e:=e) (ei:=ei) (b:=b) (src:=src) fun s hs=>h s (List.mem_append_left _ hs)
 simp only [this]
theorem C4 {bx:Nat->Option aQ}{e:TypeId}{ei:TI}{b x:SV}:∀s,Aa (bZ bx e ei b x)=some s->s∈b.ids:=by
 intro s h
 unfold bZ at h
 split at h
 ·cases h
 ·split at h
  ·cases h
  ·dsimp only at h
   split at h
   ·cases h
   ·split at h
    ·cases h
    ·split at h
     ·split at h
      ·cases h;simp [SV.ids,C.ids]
      ·cases h
     ·cases h
    ·split at h
     ·split at h
      ·cases h;simp [SV.ids,C.ids]
      ·cases h
     ·cases h
    ·cases h
theorem LB {bx bx':Nat->Option aQ}{ys:List SV}{ts:List TypeId}{R:List Nat}(h:∀s∈ys.flatMap SV.ids,bx' s=bx s)(hR:∀s∈ys.flatMap SV.ids,s∈R) :
  Gl T bx (some ys) ts=Gl T bx' (some ys) ts/\∀s,Aa (Gl T bx (some ys) ts)=some s->s∈R:=by
 unfold Gl
 split
 ·rename_i b x t t' hb
  cases hb
  split
  ·split
   ·split
    ·exact ⟨EX fun s hs=>h s (by simpa using hs),fun s hs=>hR s (by simp [C4 s hs])⟩
    ·exact ⟨rfl,fun s hs=>nomatch hs⟩
   ·exact ⟨rfl,fun s hs=>nomatch hs⟩
  ·exact ⟨rfl,fun s hs=>nomatch hs⟩
 ·exact ⟨rfl,fun s hs=>nomatch hs⟩
theorem Hu {bx:Nat->Option aQ}{e:TypeId}{ei:TI}{b x:SV}:df (bZ bx e ei b x)=6\/bZ bx e ei b x=.fail:=by
 unfold bZ
 split
 ·exact .inr rfl
 ·split
  ·exact .inr rfl
  ·dsimp only
   split
   ·exact .inr rfl
   ·split<;>(try split)<;>(try split)<;>first|exact .inl rfl|exact .inr rfl
theorem JI {ρ:Operand->Option SV}{bx:Nat->Option aQ}{args:Array Operand}{ts:Array TypeId}:df (aH T ρ bx (.call ⟨.builtin .append,args,ts⟩))=6\/aH T ρ bx (.call ⟨.builtin .append,args,ts⟩)=.fail:=by
 simp only [aH]
 split
 ·split
  ·split
   ·split
    ·exact Hu
    ·exact .inr rfl
   ·exact .inr rfl
  ·exact .inr rfl
 ·exact .inr rfl
theorem Bh {Q0:Q}{dst:Option Nat}{st:St}{V:View}{K K':St->View->Prop}{W D:List Nat}(ht:df Q0=6\/Q0=.fail)
  (ho:∀s,Aa Q0=some s->q s=none/\s∈W)(hd:∀k,dst=some k->(p k=none/\k∈D)/\∀s,q (nC s k)=none/\nC s k∈W)(hd0:∀k,dst=some k->q k=none/\k∈W)
  (hK:∀s2 V2,Good p q W D st V K s2 V2->K' s2 V2)(h:sU Q0 dst (ov p q st) V K):sU Q0 dst st V K':=by
 cases Q0 with
 | qY s vs n c x size bytes ty=>
  simp only [sU] at h ⊢
  cases dst with
  | none=>exact h.elim
  | some d=>
   dsimp only at h ⊢
   obtain ⟨⟨hp,hD⟩,hn⟩:=hd d rfl
   obtain ⟨hs,P5⟩:=ho s rfl
   have core:∀k xs,sf s vs n c size bytes ty d (ov p q st) V K k xs->sf s vs n c size bytes ty d st V K' k xs:=by
    rintro k xs ⟨h1,h2,h3,h4,h5,h6⟩
    refine ⟨h1,h2,h3,h4,h5,?_⟩
    rw [cE (hn s).1] at h6
    split at h6
    ·exact h6.elim
    ·intro spare c' g1 g2
     have:=h6 spare c' g1 g2
     rw [k_ hs,k_ (hn s).1,jL (fun k hk=>by cases hk;exact hp)] at this
     refine hK _ _ ⟨View.Le.refl V,?_,?_,this⟩
     ·intro t ht;rw [dm,if_neg (fun e=>ht (by rw [e];exact hD))];rfl
     ·intro t ht
      show ((st.box s _).box _ _).boxes t=_
      rw [ai,if_neg (fun e=>ht (by rw [e];exact (hn s).2)),ai,if_neg (fun e=>ht (by rw [e];exact P5))]
   cases x with
   | inr xs=>exact core _ _ h
   | inl ak=>obtain ⟨xs,h1,h2,h3⟩:=h;exact ⟨xs,h1,h2,core _ _ h3⟩
 | app old ba vs n c x size bytes ty=>
  simp only [sU] at h ⊢
  cases dst with
  | none=>exact h.elim
  | some d=>
   dsimp only at h ⊢
   obtain ⟨⟨hp,hD⟩,hn⟩:=hd d rfl
   cases old with
   | some s=>
    dsimp only at h ⊢
    obtain ⟨hs,P5⟩:=ho s rfl
    have core:∀k xs,BP s vs n c size bytes ty d (ov p q st) V K k xs->BP s vs n c size bytes ty d st V K' k xs:=by
     rintro k xs ⟨h1,h2,h3,h4,h5,h6⟩
     refine ⟨h1,h2,h3,h4,h5,?_⟩
     rw [cE (hn s).1] at h6
     split at h6
     ·exact h6.elim
     ·intro b J spare c' g1 g2
      have:=h6 b J spare c' g1 g2
      rw [k_ hs,k_ (hn s).1,jL (fun k hk=>by cases hk;exact hp)] at this
      refine hK _ _ ⟨View.Le.refl V,?_,?_,this⟩
      ·intro t ht;rw [dm,if_neg (fun e=>ht (by rw [e];exact hD))];rfl
      ·intro t ht
       show ((st.box s _).box _ _).boxes t=_
       rw [ai,if_neg (fun e=>ht (by rw [e];exact (hn s).2)),ai,if_neg (fun e=>ht (by rw [e];exact P5))]
    cases x with
    | inr xs=>exact core _ _ h
    | inl ak=>obtain ⟨xs,h1,h2,h3⟩:=h;exact ⟨xs,h1,h2,core _ _ h3⟩
   | none=>
    dsimp only at h ⊢
    obtain ⟨q1,q2⟩:=hd0 d rfl
    obtain ⟨vs',g1,g2,g3,g4,h⟩:=h
    have core:∀k xs,BQ vs' n c size bytes ty d (ov p q st) V K k xs->BQ vs' n c size bytes ty d st V K' k xs:=by
     rintro k xs ⟨h1,h2,h3,h4,h5⟩
     refine ⟨h1,h2,h3,h4,?_⟩
     rw [cE q1] at h5
     split at h5
     ·exact h5.elim
     ·intro spare c' k1 k2
      have:=h5 spare c' k1 k2
      rw [k_ q1,jL (fun k hk=>by cases hk;exact hp)] at this
      refine hK _ _ ⟨View.Le.refl V,?_,?_,this⟩
      ·intro t ht;rw [dm,if_neg (fun e=>ht (by rw [e];exact hD))];rfl
      ·intro t ht
       show (st.box d _).boxes t=_
       rw [ai,if_neg (fun e=>ht (by rw [e];exact q2))]
    refine ⟨vs',g1,g2,g3,g4,?_⟩
    cases x with
    | inr xs=>exact core _ _ h
    | inl ak=>
     obtain ⟨xs,h1,h2,h3,h4⟩:=h
     refine ⟨xs,h1,h2,fun e=>?_,fun e=>core _ _ (h4 e)⟩
     have:=h3 e
     rw [jL (fun k hk=>by cases hk;exact hp)] at this
     refine hK _ _ ⟨View.Le.refl V,?_,fun t ht=>rfl,this⟩
     intro t ht;rw [dm,if_neg (fun e=>ht (by rw [e];exact hD))]
 | fail=>exact h.elim
 | _=>rcases ht with ht|ht<;>cases ht
theorem qA {h:Hint}{o:Oper}{st:St}{V:View}{K:St->View->Prop}{R W:List Nat}
  (hm:mu (bf LF RF o.op)=true\/(bf LF RF o.op=.call/\m=.none)\/((bf LF RF o.op=.kh/\m=.bo)\/(bf LF RF o.op=.give/\m=.give)\/bf LF RF o.op=.app))
  (hrw:pT (bf LF RF o.op) h (dZ o)=some (R,W))(hp:∀t,t∈gW o.op\/t∈dZ o->p t=none)(hq:∀s∈R,q s=none)
  (Xk:∀s∈W,q s=none){K':St->View->Prop}(hK:∀s2 V2,Good p q W (dZ o) st V K s2 V2->K' s2 V2)(hv:cJ P T m h o (ov p q st) V K):cJ P T m h o st V K':=by
 have EI:∀t∈gW o.op,st.au t=(ov p q st).au t:=fun t ht=>by simp [ov,hp t (.inl ht)]
 rcases hm with hm|hm
 ·obtain ⟨p2,q2,hO⟩:=ng hm hrw hv
  refine hO.again st V _ (View.Le.refl V) EI (fun s hs=>(cE (hq s hs)).symm) ?_
  refine hK _ _ ⟨View.Le.refl V,fun t ht=>by simp [ov,hO.pd t ht],fun s hs=>by simp [ov,hO.qd s hs],?_⟩
  rw [AP]
  ·exact hO.next
  ·intro t
   by_cases h:t∈dZ o
   ·exact .inl (hp t (.inr h))
   ·exact .inr (hO.pd t h)
  ·intro s
   by_cases h:s∈W
   ·exact .inl (Xk s h)
   ·exact .inr (hO.qd s h)
 ·
  have hval:∀(x:Operand),x∈o.op.operands.toList->(ov p q st).aZ x=st.aZ x:=fun x hx=>Lv fun t e=>hp t (.inl (vt hx e))
  have hdst:∀k,o.dst=some k->p k=none/\k∈dZ o:=fun k hk=>by
   have:k∈dZ o:=by simp [dZ,hk]
   exact ⟨hp k (.inr this),this⟩
  have body:(¬bf LF RF o.op=.app)->∀(hh:∀xs f ss Ku args ts,o.op=.call ⟨.value Ku,args,ts⟩->bW (ov p q st).aZ args.toList=some xs->(ov p q st).aZ Ku=some (.c (.Ce f ss)) ->
    m=.none\/((m=.bo\/m=.give)/\(∀s∈reach (ov p q st).boxes 3 (dedup ((xs++uH ss).flatMap SV.ids)),q s=none/\s∈W)/\∀k,o.dst=some k->∀mm,q (eX mm k)=none/\eX mm k∈W)),
    cR P T m o (ov p q st) V K->cR P T m o st V K':=by
   intro happ hh hv
   unfold cR at hv ⊢
   split at hv
   ·rename_i Ku args ts hop
    have e1:bW (ov p q st).aZ args.toList=bW st.aZ args.toList:=ef _ fun x hx=>hval x (by rw [hop];simp [Op.operands,Call.operands];exact .inr (by simpa using hx))
    have e2:(ov p q st).aZ Ku=st.aZ Ku:=hval Ku (by rw [hop];simp [Op.operands,Call.operands])
    split at hv
    ·rename_i xs hxs
     split at hv
     ·rename_i f ss hf
      have hmm:=hh _ _ _ _ _ _ hop hxs hf
      rw [e1] at hxs
      rw [e2] at hf
      simp only [hxs,hf]
      exact sJ hmm hdst hK hv
     ·exact hv.elim
    ·exact hv.elim
   ·rename_i recv name args ts hop
    have hmn:m=.none:=by
     rw [hop] at hm
     rcases hm with ⟨-,h⟩|⟨h,-⟩|⟨h,-⟩|h
     ·exact h
     ·cases h
     ·cases h
     ·cases h
    have e1:bW (ov p q st).aZ args.toList=bW st.aZ args.toList:=ef _ fun x hx=>hval x (by rw [hop];simp [Op.operands,Call.operands];exact .inr (by simpa using hx))
    have e2:(ov p q st).aZ recv=st.aZ recv:=hval recv (by rw [hop];simp [Op.operands,Call.operands])
    split at hv
    ·rename_i xs hxs
     split at hv
     ·rename_i t v hf
      split at hv
      ·rename_i f IQ
       rw [e1] at hxs
       rw [e2] at hf
       simp only [hxs,hf,IQ]
       exact sJ (.inl hmn) hdst hK hv
      ·exact hv.elim
     ·exact hv.elim
    ·exact hv.elim
   ·rename_i hnc PY
    exfalso
    have hc4:bf LF RF o.op=.call\/bf LF RF o.op=.kh\/bf LF RF o.op=.give:=by
     rcases hm with ⟨h,-⟩|⟨h,-⟩|⟨h,-⟩|h
     ·exact .inl h
     ·exact .inr (.inl h)
     ·exact .inr (.inr h)
     ·exact absurd h happ
    clear hm happ hh
    generalize hop:o.op=op at hc4 hnc PY
    cases op with
    | call c=>
     obtain ⟨FM,args,ts⟩:=c
     cases FM with
     | builtin b=>cases b<;>rcases hc4 with h|h|h<;>cases h
     | value f=>exact hnc f args ts rfl
     | invoke r nm=>exact PY r nm args ts rfl
    | _=>rcases hc4 with h|h|h<;>cases h
  have UH:∀l:List Nat,W=l++dZ o++(dZ o).map (·+ 200000)->∀k,o.dst=some k->∀mm,q (eX mm k)=none/\eX mm k∈W:=by
   intro l hW k hk mm
   have:eX mm k∈W:=by
    rw [hW]
    have hkd:=(hdst k hk).2
    rcases Jn (m:=mm) (d:=k) with h|h<;>rw [h]<;>simp [hkd]
   exact ⟨Xk _ this,this⟩
  have own:∀l:List Nat,h=.own l->R=l->W=l++dZ o++(dZ o).map (·+ 200000)->(bf LF RF o.op=.kh\/bf LF RF o.op=.give\/bf LF RF o.op=.app)->(¬bf LF RF o.op=.app->m=.bo\/m=.give)->cJ P T m h o st V K':=by
   intro l hh hR hW hcl hmm
   subst hh hR
   unfold cJ at hv ⊢
   dsimp only at hv ⊢
   split at hv
   ·rename_i ys hys
    split at hv
    ·rename_i hsub
     have e0:bW (ov p q st).aZ (gV o.op)=bW st.aZ (gV o.op):=ef _ fun x hx=>hval x (vr hx)
     rw [←e0,hys]
     dsimp only
     have hin:∀s∈eG (ov p q st).boxes o.op (ys.flatMap SV.ids),s∈R:=vV.1 hsub
     have e3:eG st.boxes o.op (ys.flatMap SV.ids)=eG (ov p q st).boxes o.op (ys.flatMap SV.ids):=by
      revert hin
      unfold eG
      split
      ·intro hin
       exact mw 3 _ fun s hs=>(cE (hq s (hin s hs))).symm
      ·exact fun _=>rfl
     rw [e3,hsub]
     dsimp only
     have Xd:∀s∈R,s∈W:=fun s hs=>by rw [hW];simp [hs]
     by_cases happ:bf LF RF o.op=.app
     ·
      have hop:∃args ts,o.op=.call ⟨.builtin .append,args,ts⟩:=by
       generalize o.op=op at happ
       cases op with
       | call c=>
        obtain ⟨FM,args,ts⟩:=c
        cases FM with
        | builtin b=>cases b<;>first|exact ⟨args,ts,rfl⟩|cases happ
        | value f=>cases f with
         | func f=>simp only [bf] at happ;split at happ<;>(try split at happ)<;>(try split at happ)<;>(try split at happ)<;>cases happ
         | _=>cases happ
        | _=>cases happ
       | _=>cases happ
      obtain ⟨args,ts,hop⟩:=hop
      have e4:aH T st.aZ st.boxes o.op=aH T (ov p q st).aZ (ov p q st).boxes o.op/\∀s,Aa (aH T st.aZ st.boxes o.op)=some s->s∈R:=by
       have e5:bW (ov p q st).aZ args.toList=bW st.aZ args.toList:=by rw [hop] at e0;exact e0
       have Ui:bW st.aZ args.toList=some ys:=by rw [hop] at hys;rw [←e5];exact hys
       have hin':∀s∈ys.flatMap SV.ids,s∈R:=by
        intro s hs
        refine hin s ?_
        rw [hop]
        simp only [eG]
        exact eI 3 _ s (bN.2 hs)
       rw [hop]
       simp only [aH]
       rw [e5,Ui]
       exact LB (fun s hs=>by rw [cE (hq s (hin' s hs))]) hin'
      have hvb:sU (aH T (ov p q st).aZ (ov p q st).boxes o.op) o.dst (ov p q st) V K:=by
       unfold cR at hv
       rw [hop] at hv ⊢
       exact hv
      have hgoal:sU (aH T st.aZ st.boxes o.op) o.dst st V K'->cR P T m o st V K':=by
       intro h
       unfold cR
       rw [hop] at h ⊢
       exact h
      rw [←e4.1] at hvb
      refine hgoal ?_
      have htag:∀Q0,aH T st.aZ st.boxes o.op=Q0->df Q0=6\/Q0=.fail:=by
       intro Q0 hQ
       rw [←hQ,hop]
       exact JI
      generalize Ze:aH T st.aZ st.boxes o.op=Q0 at hvb e4
      exact Bh (htag Q0 Ze) (fun s hs=>⟨hq s (e4.2 s hs),Xd s (e4.2 s hs)⟩) (fun k hk=>⟨hdst k hk,fun s=>by
       have:=UH R hW k hk (some s)
       exact this⟩) (fun k hk=>UH R hW k hk Option.none) hK hvb
     ·have hmode:=hmm happ
      refine body happ (fun xs f ss Ku args ts hop hxs hf=>.inr ⟨hmode,fun s hs=>?_,UH R hW⟩) hv
      have:s∈R:=by
       apply hin
       rw [hop] at hys ⊢
       simp only [eG]
       have hy:ys.flatMap SV.ids=(xs++uH ss).flatMap SV.ids:=by
        have:∀(l:List Operand)(xs:List SV)(x:Operand)(v:SV),bW (ov p q st).aZ l=some xs->(ov p q st).aZ x=some v->bW (ov p q st).aZ (l++[x])=some (xs++[v]):=by
         intro l
         induction l with
         | nil=>intro xs x v h1 h2;simp only [bW,Option.some.injEq] at h1;subst h1;simp [bW,h2]
         | cons o r ih=>
          intro xs x v h1 h2
          simp only [bW] at h1
          split at h1
          ·rename_i y l' h3 h4
           cases h1
           simp only [List.cons_append,bW,h3,ih _ x v h4 h2]
          ·cases h1
        simp only [gV] at hys
        rw [this _ _ _ _ hxs hf] at hys
        cases hys
        simp only [List.flatMap_append]
        congr 1
        simp [uH,SV.ids,C.ids,List.flatMap_map]
       rw [hy]
       exact hs
      exact ⟨hq s this,Xd s this⟩
    ·exact hv.elim
   ·exact hv.elim
  rcases hm with ⟨hc,hm⟩|⟨hc,hm⟩|⟨hc,hm⟩|hc
  ·rw [hc] at hrw
   cases h with
   | own l=>cases hrw
   | free=>exact body (by rw [hc];exact fun h=>by cases h) (fun _ _ _ _ _ _ _ _ _=>.inl hm) hv
  ·rw [hc] at hrw
   cases h with
   | free=>cases hrw
   | own l=>
    simp only [pT,Option.some.injEq,Prod.mk.injEq] at hrw
    exact own l rfl hrw.1.symm hrw.2.symm (.inl hc) (fun _=>.inl hm)
  ·rw [hc] at hrw
   cases h with
   | free=>cases hrw
   | own l=>
    simp only [pT,Option.some.injEq,Prod.mk.injEq] at hrw
    exact own l rfl hrw.1.symm hrw.2.symm (.inr (.inl hc)) (fun _=>.inr hm)
  ·rw [hc] at hrw
   cases h with
   | free=>cases hrw
   | own l=>
    simp only [pT,Option.some.injEq,Prod.mk.injEq] at hrw
    exact own l rfl hrw.1.symm hrw.2.symm (.inr (.inr hc)) (fun h=>absurd hc h)
end Go.bJ
namespace Go.bJ
variable {P:Program} {T:cY} {LF RF:List Nat}
def wY (ops:Array Oper)(o:Oper)(st:St)(k:St->Bool->Prop):Prop:=
 match o.guard with
 | none=>k st true
 | some (j,b)=>match (ops[j]?).bind (·.dst) with
  | none=>False
  | some g=>match st.au g with
   | some (.c .tt)=>k st b
   | some (.c .ff)=>k st (!b)
   | some (.c (.v (.bool c)))=>(c=true->k (st.put (some g) (.c .tt)) b)/\(c=false->k (st.put (some g) (.c .ff)) (!b))
   | some (.oZ _)=>k st false
   | _=>False
def lE (P:Program)(T:cY)(m:CM)(h:Hint)(o:Oper)(V:View)(K:St->View->Prop)(st:St)(w:Bool):Prop:=
 match w with
 | true=>cJ P T m h o st V K
 | false=>K (st.put o.dst iU) V
theorem Bg {m:CM}{h:Hint}{ops:Array Oper}{o:Oper}{st:St}{V:View}{K:St->View->Prop} :
  qf P T m h ops o st V K↔wY ops o st (lE P T m h o V K):=by
 unfold qf wY
 cases hg:o.guard with
 | none=>rfl
 | some jb=>
  obtain ⟨j,b⟩:=jb
  dsimp only
  cases hd:(ops[j]?).bind (·.dst) with
  | none=>rfl
  | some g=>
   dsimp only
   split<;>simp_all<;>cases b<;>rfl
def iO:Nat->Option aQ:=fun _=>none
structure Sy (ops:Array Oper) (o:Oper) (st:St) (k:St->Bool->Prop) (p:Nat->Option SV) (w:Bool):Prop where
 pd:∀t,t∉dN ops o->p t=none
 next:k (ov p iO st) w
 again:∀(st2:St)(k2:St->Bool->Prop),(∀t∈dN ops o,st2.au t=st.au t)->k2 (ov p iO st2) w->wY ops o st2 k2
theorem fw {ops:Array Oper}{o:Oper}{st:St}{k:St->Bool->Prop}(h:wY ops o st k):∃p w,Sy ops o st k p w:=by
 unfold wY at h
 split at h
 ·rename_i hg
  exact ⟨fun _=>none,true,fun _ _=>rfl,h,fun st2 k2 _ hk=>by unfold wY;rw [hg];exact hk⟩
 ·rename_i j b hg
  split at h
  ·exact h.elim
  ·rename_i g hd
   have hgt:dN ops o=[g]:=by simp only [dN,hg,hd]
   split at h
   ·rename_i hs
    exact ⟨fun _=>none,b,fun _ _=>rfl,h,fun st2 k2 ha hk=>by unfold wY;simp only [hg,hd,ha g (by simp [hgt]),hs];exact hk⟩
   ·rename_i hs
    exact ⟨fun _=>none,!b,fun _ _=>rfl,h,fun st2 k2 ha hk=>by unfold wY;simp only [hg,hd,ha g (by simp [hgt]),hs];exact hk⟩
   ·rename_i c hs
    cases c with
    | true=>
     refine ⟨one (some g) (.c .tt),b,fun t ht=>dJ (by intro e;apply ht;rw [hgt];simpa using e.symm),?_,fun st2 k2 ha hk=>?_⟩
     ·have:=h.1 rfl;rw [eM] at this;exact this
     ·unfold wY;simp only [hg,hd,ha g (by simp [hgt]),hs]
      exact ⟨fun _=>by rw [eM];exact hk,fun e=>by cases e⟩
    | false=>
     refine ⟨one (some g) (.c .ff),!b,fun t ht=>dJ (by intro e;apply ht;rw [hgt];simpa using e.symm),?_,fun st2 k2 ha hk=>?_⟩
     ·have:=h.2 rfl;rw [eM] at this;exact this
     ·unfold wY;simp only [hg,hd,ha g (by simp [hgt]),hs]
      exact ⟨fun e=>(by cases e),fun _=>by rw [eM];exact hk⟩
   ·rename_i xs hs
    exact ⟨fun _=>none,false,fun _ _=>rfl,h,fun st2 k2 ha hk=>by unfold wY;simp only [hg,hd,ha g (by simp [hgt]),hs];exact hk⟩
   ·exact h.elim
theorem mJ {ops:Array Oper}{o:Oper}{st:St}{k k':St->Bool->Prop}(hk:∀s w,k s w->k' s w)(h:wY ops o st k):wY ops o st k':=by
 obtain ⟨p,w,hO⟩:=fw h
 exact hO.again st k' (fun _ _=>rfl) (hk _ _ hO.next)
theorem put_comm {st:St}{d d':Option Nat}{x y:SV}(h:∀k,d=some k->d'≠some k):(st.put d x).put d' y=(st.put d' y).put d x:=by
 cases d with
 | none=>rfl
 | some d=>
  cases d' with
  | none=>rfl
  | some d'=>
   have hne:d≠d':=fun e=>h d rfl (by rw [e])
   simp only [St.put]
   congr 1
   funext t
   by_cases e:t=d
   ·subst e;simp [Nat.beq_refl,dw hne]
   ·simp [dw e]
theorem Ez {ops:Array Oper}{o1 o2:Oper}{st:St}{F:St->Bool->Bool->Prop}(h:wY ops o1 st fun s w1=>wY ops o2 s fun s' w2=>F s' w1 w2) :
  wY ops o2 st fun s w2=>wY ops o1 s fun s' w1=>F s' w1 w2:=by
 by_cases hsh:∃g,dN ops o1=[g]/\dN ops o2=[g]
 ·obtain ⟨g,e1,e2⟩:=hsh
  unfold dN at e1 e2
  split at e1
  ·cases e1
  ·rename_i j1 b1 hg1
   split at e1
   ·rename_i g1 hd1
    cases e1
    split at e2
    ·cases e2
    ·rename_i j2 b2 hg2
     split at e2
     ·rename_i g2 hd2
      cases e2
      unfold wY at h ⊢
      simp only [hg1,hg2,hd1,hd2] at h ⊢
      split at h
      ·rename_i hs;exact h
      ·rename_i hs;exact h
      ·rename_i c hs
       simp only [dm,if_true] at h ⊢
       exact h
      ·rename_i xs hs;exact h
      ·exact h.elim
     ·cases e2
   ·cases e1
 ·obtain ⟨p1,w1,h1⟩:=fw h
  obtain ⟨p2,w2,h2⟩:=fw h1.next
  have Od:∀o:Oper,dN ops o=[]\/∃g,dN ops o=[g]:=by
   intro o;unfold dN
   split
   ·exact .inl rfl
   ·split
    ·exact .inr ⟨_,rfl⟩
    ·exact .inl rfl
  have hdj:∀t,t∈dN ops o1->t∉dN ops o2:=by
   intro t ht1 ht2
   rcases Od o1 with e1|⟨g1,e1⟩
   ·rw [e1] at ht1;cases ht1
   ·rcases Od o2 with e2|⟨g2,e2⟩
    ·rw [e2] at ht2;cases ht2
    ·rw [e1] at ht1;rw [e2] at ht2
     simp at ht1 ht2
     exact hsh ⟨t,by rw [e1,ht1],by rw [e2,ht2]⟩
  refine h2.again st _ (fun t ht=>?_) (h1.again _ _ (fun t ht=>?_) ?_)
  ·show st.au t=(ov p1 iO st).au t
   simp [ov,h1.pd t (fun h=>hdj t h ht)]
  ·show (ov p2 iO st).au t=st.au t
   simp [ov,h2.pd t (hdj t ht)]
  ·have e:ov p1 iO (ov p2 iO st)=ov p2 iO (ov p1 iO st):=AP (fun t=>by
    by_cases ht:t∈dN ops o1
    ·exact .inr (h2.pd t (hdj t ht))
    ·exact .inl (h1.pd t ht)) (fun _=>.inl rfl)
   show F (ov p1 iO (ov p2 iO st)) w1 w2
   rw [e]
   exact h2.next
theorem ib {o:Oper}{k:Nat}(h:o.dst=some k):k∈dZ o:=by simp [dZ,h]
theorem Lt {ops:Array Oper}{m1 m2:CM}{h1 h2:Hint}{o1 o2:Oper}{st:St}{V:View}{K:St->View->Prop}
  (hi:indep LF RF ops h1 h2 o1 o2=true)
  (hm:mu (bf LF RF o2.op)=true\/(bf LF RF o2.op=.call/\m2=.none)\/((bf LF RF o2.op=.kh/\m2=.bo)\/(bf LF RF o2.op=.give/\m2=.give)\/bf LF RF o2.op=.app))
  (hv:qf P T m1 h1 ops o1 st V fun st1 V1=>qf P T m2 h2 ops o2 st1 V1 K) :
  qf P T m2 h2 ops o2 st V fun st2 V2=>qf P T m1 h1 ops o1 st2 V2 K:=by
 unfold indep at hi
 simp only [Bool.and_eq_true] at hi
 obtain ⟨⟨⟨⟨⟨hq1,hd1⟩,hd2⟩,hg1⟩,hg2⟩,hrw⟩:=hi
 split at hrw
 ·rename_i R1 W1 R2 W2 hr1 hr2
  simp only [Bool.and_eq_true] at hrw
  obtain ⟨⟨Qd,Qe⟩,Xo⟩:=hrw
  rw [Cp] at hd1 hd2 hg1 hg2 Qd Qe Xo
  have TW:∀k,o2.dst=some k->o1.dst≠some k:=fun k hk hk'=>hd1 k (ib hk') (by simp [ib hk])
  simp only [Bg] at hv ⊢
  have sa:wY ops o1 st fun s w1=>wY ops o2 s fun s' w2=>lE P T m1 h1 o1 V (fun s'' eQ=>lE P T m2 h2 o2 eQ K s'' w2) s' w1:=by
   refine mJ (fun s w1 hb=>?_) hv
   cases w1 with
   | true=>
    obtain ⟨p,q,hO⟩:=ng hq1 hr1 hb
    obtain ⟨p2,w2,hG⟩:=fw hO.next
    refine hG.again s _ (fun t ht=>?_) ?_
    ·show s.au t=(ov p q s).au t
     simp [ov,hO.pd t (fun h=>hd1 t h (by simp [ht]))]
    ·refine hO.again _ V _ (View.Le.refl V) (fun t ht=>?_) (fun _ _=>rfl) ?_
     ·show (ov p2 iO s).au t=s.au t
      simp [ov,hG.pd t (fun h=>hg2 t h ht)]
     ·rw [AP (q2:=iO) _ (fun _=>.inr rfl)]
      ·exact hG.next
      ·intro t
       by_cases ht:t∈dN ops o2
       ·exact .inl (hO.pd t (fun h=>hd1 t h (by simp [ht])))
       ·exact .inr (hG.pd t ht)
   | false=>
    simp only [lE] at hb
    obtain ⟨p2,w2,hG⟩:=fw hb
    have hp:∀k,o1.dst=some k->p2 k=none:=fun k hk=>hG.pd k (fun h=>hd1 k (ib hk) (by simp [h]))
    refine hG.again s _ (fun t ht=>?_) ?_
    ·rw [eM]
     simp [ov,dJ (d:=o1.dst) (x:=iU) (t:=t) (fun h=>hd1 t (ib h) (by simp [ht]))]
    ·show lE P T m2 h2 o2 V K ((ov p2 iO s).put o1.dst iU) w2
     rw [jL hp]
     exact hG.next
  have sb:=Ez sa
  have sc:wY ops o2 st fun s w2=>wY ops o1 s fun s' w1=>lE P T m2 h2 o2 V (fun s'' eQ=>lE P T m1 h1 o1 eQ K s'' w1) s' w2:=by
   refine mJ (fun s w2 hb=>mJ (fun s' w1 hb=>?_) hb) sb
   cases w1 with
   | true=>
    obtain ⟨p,q,hO⟩:=ng hq1 hr1 hb
    cases w2 with
    | true=>
     refine qA hm hr2 (fun t ht=>hO.pd t (fun h=>hd1 t h (by rcases ht with ht|ht<;>simp [ht]))) (fun s hs=>hO.qd s (fun h=>Qd s h hs)) (fun s hs=>hO.qd s (fun h=>Xo s h hs)) (fun s2 V2 hG=>?_) hO.next
     obtain ⟨g1,g2,g3,g4⟩:=hG
     exact hO.again s2 V2 K g1 (fun t ht=>g2 t (fun h=>hd2 t h (by simp [ht]))) (fun s hs=>g3 s (fun h=>Qe s h hs)) g4
    | false=>
     refine hO.again _ V K (View.Le.refl V) (fun t ht=>?_) (fun s _=>by cases o2.dst<;>rfl) ?_
     ·rw [eM]
      simp [ov,dJ (d:=o2.dst) (x:=iU) (t:=t) (fun h=>hd2 t (ib h) (by simp [ht]))]
     ·have:=hO.next
      simp only [lE] at this
      rw [jL (fun k hk=>hO.pd k (fun h=>hd1 k h (by simp [ib hk])))] at this
      exact this
   | false=>
    cases w2 with
    | true=>
     simp only [lE] at hb ⊢
     rw [eM] at hb
     refine qA hm hr2 (fun t ht=>dJ (fun e=>hd1 t (ib e) (by rcases ht with ht|ht<;>simp [ht]))) (fun s hs=>rfl) (fun s hs=>rfl) (fun s2 V2 hG=>?_) hb
     have:=hG.2.2.2
     rw [←eM] at this
     exact this
    | false=>
     simp only [lE] at hb ⊢
     rw [put_comm TW]
     exact hb
  refine mJ (fun s w2 hb=>?_) sc
  cases w2 with
  | true=>
   simp only [lE] at hb ⊢
   obtain ⟨p,w1,hG⟩:=fw hb
   refine qA hm hr2 (fun t ht=>hG.pd t (fun h=>?_)) (fun _ _=>rfl) (fun _ _=>rfl) (fun s2 V2 Y9=>?_) hG.next
   ·rcases ht with ht|ht
    ·exact hg1 t h ht
    ·exact hd2 t ht (by simp [h])
   ·obtain ⟨g1,g2,g3,g4⟩:=Y9
    exact hG.again s2 _ (fun t ht=>g2 t (fun h=>hd2 t h (by simp [ht]))) g4
  | false=>
   simp only [lE] at hb ⊢
   obtain ⟨p,w1,hG⟩:=fw hb
   refine hG.again _ _ (fun t ht=>?_) ?_
   ·rw [eM]
    simp [ov,dJ (d:=o2.dst) (x:=iU) (t:=t) (fun h=>hd2 t (ib h) (by simp [ht]))]
   ·have:=hG.next
    rw [jL (fun k hk=>hG.pd k (fun h=>hd2 k (ib hk) (by simp [h])))] at this
    exact this
 ·cases hrw
end Go.bJ
