import Derived.Test.YtnnbfoejafcdlaaGreatDoorE3
set_option linter.unusedVariables false
open Go.IntKind (i64 u64 u32)
namespace Go.bM
variable {P:Program} {T:df} {n:Nat} {V0:View} {bG:EA} {β0:Nat->Nat} {st:St} {β:Nat->Nat} {a:Act} {w:World} {V:View}
theorem Fw {t:TypeId}{name:String}{f:FuncId}(h:Fv P t name=some f)(k:Nat)(v:Value)(w:World):(Go.method (k+1) t v name).run P w=.ok (f,v) w:=by
 unfold Fv at h
 split at h
 ·rename_i i d h1 h2
  split at h
  ·rename_i m hm
   split at h
   ·rename_i f' fs hp hf
    cases h
    have hp':m.path=#[]:=by apply Array.ext';exact hp
    simp only [Go.method,typeInfo,Sem.run_bind,run_program,Result.andThen_ok,h1,hm,Sem.run_pure,hp',follow,hf,receiverAt,aj h2,Place.get]
   ·cases h
  ·cases h
 ·cases h
theorem rJ (hT:df.ok P T)(hM:Mod n V0 bG β0 st β a w V){m:CM}{o:Oper}{K:St->View->Prop}{next:Act->World->Prop}{Q:Exit->Act->World->Prop}
  (hd:∀d,o.dst=some d->d<n)(hv:cW P T m o st V K)
  (hK:∀st' β' a' w' V',Mod n V0 bG β0 st' β' a' w' V'->K st' V'->next a' w'):o.wp P a w next Q:=by
 unfold cW at hv
 split at hv
 ·rename_i Li args ts hop
  split at hv
  ·rename_i xs hxs
   obtain ⟨h1,h2⟩:=fw hM _ _ hxs
   split at hv
   ·rename_i f ss hf
    obtain ⟨hc,dk⟩:=uL (Q:=Q) hM hd hv hK
    have e1:args.map a.eval=(xs.map (SV.den β)).toArray:=by apply Array.ext';rw [Array.toList_map];exact h1
    have e2:aS β (xs++uP ss)=(xs.map (SV.den β)).toArray++(ss.map fun s=>Value.pointer (some ⟨β s,0,none⟩)).toArray:=by
     unfold aS uP
     rw [List.map_append,List.map_map]
     apply Array.ext'
     simp [Function.comp_def,SV.den,C.den]
    have hrun:(execOp a.eval o).run P w=.ok (.enter f (aS β (xs++uP ss))) w:=by
     rw [e2]
     simp only [execOp,hop,resolve,hM.eval hf,SV.den,C.den,Deferred.ofValue,pure_bind,invoke,e1,Array.empty_append]
     exact hc.run _
    unfold Oper.wp
    rw [hrun]
    exact dk
   ·exact hv.elim
  ·exact hv.elim
 ·rename_i recv name args ts hop
  split at hv
  ·rename_i xs hxs
   obtain ⟨h1,h2⟩:=fw hM _ _ hxs
   split at hv
   ·rename_i t v hf
    split at hv
    ·rename_i f JF
     obtain ⟨hc,dk⟩:=uL (Q:=Q) hM hd hv hK
     have e1:args.map a.eval=(xs.map (SV.den β)).toArray:=by apply Array.ext';rw [Array.toList_map];exact h1
     have e2:aS β (.c (.w v)::xs)=#[v]++(xs.map (SV.den β)).toArray:=by
      unfold aS
      apply Array.ext'
      simp [SV.den,C.den]
     have hrun:(execOp a.eval o).run P w=.ok (.enter f (aS β (.c (.w v)::xs))) w:=by
      rw [e2]
      have e3:(#[Value.iface t v]++(xs.map (SV.den β)).toArray).extract 1 (#[Value.iface t v]++(xs.map (SV.den β)).toArray).size=(xs.map (SV.den β)).toArray:=by
       apply Array.ext'
       simp
       exact List.take_of_length_le (by simp)
      have e4:(#[Value.iface t v]++(xs.map (SV.den β)).toArray)[0]?=some (Value.iface t v):=by simp
      simp only [execOp,hop,resolve,hM.eval hf,SV.den,C.den,pure_bind,invoke,e1,e4,e3,callMethod,Sem.run_bind,run_program,Result.andThen_ok,Made.depth]
      rw [Fw JF]
      exact hc.run _
     unfold Oper.wp
     rw [hrun]
     exact dk
    ·exact hv.elim
   ·exact hv.elim
  ·exact hv.elim
 ·exact DA hT hM hd hv hK
theorem iH (hT:df.ok P T)(hM:Mod n V0 bG β0 st β a w V){m:CM}{h:Hint}{o:Oper}{K:St->View->Prop}{next:Act->World->Prop}{Q:Exit->Act->World->Prop}
  (hd:∀d,o.dst=some d->d<n)(hv:cN P T m h o st V K)
  (hK:∀st' β' a' w' V',Mod n V0 bG β0 st' β' a' w' V'->K st' V'->next a' w'):o.wp P a w next Q:=by
 unfold cN at hv
 split at hv
 ·exact rJ hT hM hd hv hK
 ·split at hv
  ·split at hv
   ·exact rJ hT hM hd hv hK
   ·exact hv.elim
  ·exact hv.elim
theorem Mod.refine (hM:Mod n V0 bG β0 st β a w V){g:Nat}{x y:SV}(hx:st.au g=some x)(he:x.den β=y.den β)(hy:y.ids=[]):Mod n V0 bG β0 (st.put (some g) y) β a w V:=by
 refine ⟨hM.defers,hM.size,?_,?_,hM.yO,hM.boxes,hM.inj,hM.oQ,hM.tV,hM.ext,hM.own,hM.lN,hM.j9,hM.small⟩
 ·intro t z hz
  rw [dp] at hz
  split at hz
  ·rename_i e;simp only [Option.some.injEq] at hz;rw [e,←hz,←he];exact hM.au g x hx
  ·exact hM.au t z hz
 ·intro t z hz
  rw [dp] at hz
  split at hz
  ·simp only [Option.some.injEq] at hz;rw [←hz,hy];exact fun s hs=>(nomatch hs)
  ·exact hM.yP t z hz
theorem Gn {ops:Array Oper}{tmps:Array Value}{j g:Nat}(hg:(ops[j]?).bind (·.dst)=some g):yielded ops tmps j=match tmps.getD g undef with|.bool b=>some b|_=>none:=by
 unfold yielded
 rw [hg]
 simp only [Option.bind_some]
 by_cases h:g<tmps.size
 ·have h1:tmps[g]?=some tmps[g]:=getElem?_pos tmps g h
  have h2:tmps.getD g undef=tmps[g]:=by simp [h]
  rw [h1,h2]
  generalize tmps[g]=v
  cases v<;>rfl
 ·simp [h,undef]
theorem Dq (hT:df.ok P T)(hM:Mod n V0 bG β0 st β a w V){m:CM}{h:Hint}{ops:Array Oper}{o:Oper}{K:St->View->Prop}{next:Act->World->Prop}{Q:Exit->Act->World->Prop}
  (hd:∀d,o.dst=some d->d<n)(hv:qg P T m h ops o st V K)
  (hK:∀st' β' a' w' V',Mod n V0 bG β0 st' β' a' w' V'->K st' V'->next a' w') :
  if Region.wanted o (yielded ops a.tmps) then o.wp P a w next Q else next (a.put o.dst undef) w:=by
 unfold qg at hv
 split at hv
 ·rename_i hg
  rw [if_pos (by simp [Region.wanted,hg])]
  exact iH hT hM hd hv hK
 ·rename_i j b hg
  split at hv
  ·exact hv.elim
  ·rename_i g hdst
   have hy:=Gn (tmps:=a.tmps) hdst
   have hwant:∀c:Bool,a.tmps.getD g undef=.bool c->(Region.wanted o (yielded ops a.tmps)=true↔c=b):=by
    intro c hc
    simp only [Region.wanted,hg]
    rw [hy,hc]
    simp
   have skip:∀{st2:St},Mod n V0 bG β0 st2 β a w V->K (st2.put o.dst iZ) V->next (a.put o.dst undef) w:=by
    intro st2 hM2 hK2
    exact hK _ _ _ _ _ (hM2.FC hd rfl (bR rfl)) hK2
   split at hv
   ·rename_i hs
    have hval:=hM.au g _ hs
    split at hv
    ·rw [if_pos ((hwant true hval).2 rfl)];exact iH hT hM hd hv hK
    ·rw [if_neg (fun h=>by have:=(hwant true hval).1 h;cases this)];exact skip hM hv
   ·rename_i hs
    have hval:=hM.au g _ hs
    split at hv
    ·rw [if_neg (fun h=>by have:=(hwant false hval).1 h;cases this)];exact skip hM hv
    ·rw [if_pos ((hwant false hval).2 rfl)];exact iH hT hM hd hv hK
   ·rename_i c hs
    have hval:=hM.au g _ hs
    have ht:c=true->Mod n V0 bG β0 (st.put (some g) (.c .tt)) β a w V:=fun e=>hM.refine hs (by rw [e];rfl) rfl
    have hf:c=false->Mod n V0 bG β0 (st.put (some g) (.c .ff)) β a w V:=fun e=>hM.refine hs (by rw [e];rfl) rfl
    split at hv
    ·cases c with
     | true=>rw [if_pos ((hwant true hval).2 rfl)];exact iH hT (ht rfl) hd (hv.1 rfl) hK
     | false=>rw [if_neg (fun h=>by have:=(hwant false hval).1 h;cases this)];exact skip (hf rfl) (hv.2 rfl)
    ·cases c with
     | true=>rw [if_neg (fun h=>by have:=(hwant true hval).1 h;cases this)];exact skip (ht rfl) (hv.1 rfl)
     | false=>rw [if_pos ((hwant false hval).2 rfl)];exact iH hT (hf rfl) hd (hv.2 rfl) hK
   ·rename_i xs hs
    have hval:=hM.au g _ hs
    have:Region.wanted o (yielded ops a.tmps)=false:=by
     simp only [Region.wanted,hg]
     rw [hy,hval]
     simp [SV.den]
    rw [if_neg (by rw [this];simp)]
    exact skip hM hv
   ·exact hv.elim
theorem Ad (hT:df.ok P T){m:Nat->CM}{hint:Nat->Hint}{ops:Array Oper}(hd:∀(i:Nat)(o:Oper),ops[i]?=some o->∀d,o.dst=some d->d<n){Q:Exit->Act->World->Prop}{K:St->View->Prop}
  (hK:∀st' β' a' w' V',Mod n V0 bG β0 st' β' a' w' V'->K st' V'->Q .normal a' w') :
  ∀(l:List Nat)(st:St)(β:Nat->Nat)(a:Act)(w:World)(V:View),Mod n V0 bG β0 st β a w V->K1 P T m hint ops l st V K->wpOps P ops Q l a w
 | [],st,β,a,w,V,hM,hv=>hK _ _ _ _ _ hM hv
 | i::r,st,β,a,w,V,hM,hv=>by
  simp only [K1] at hv
  simp only [wpOps]
  split at hv
  ·rename_i o ho
   rw [ho]
   dsimp only
   have:=Dq (Q:=Q) (next:=wpOps P ops Q r) hT hM (hd i o ho) hv (fun st' β' a' w' V' hM' vk=>Ad hT hd hK r st' β' a' w' V' hM' vk)
   split at this
   ·rename_i hw;rw [if_pos hw];exact .inl this
   ·rename_i hw;rw [if_neg hw];exact this
  ·exact hv.elim
end Go.bM
namespace Go.bM
def ov (p:Nat->Option SV)(q:Nat->Option aQ)(st:St):St:=
 ⟨fun t=>match p t with|some x=>some x|none=>st.au t,fun t=>match q t with|some x=>some x|none=>st.boxes t⟩
theorem dz {a b:Nat}(h:a≠b):Nat.beq a b=false:=by
 cases hb:Nat.beq a b
 ·rfl
 ·exact absurd (beq_eq.1 hb) h
section
variable {p:Nat->Option SV} {q:Nat->Option aQ} {st:St}
theorem jL {d:Option Nat}{x:SV}(h:∀k,d=some k->p k=none):(ov p q st).put d x=ov p q (st.put d x):=by
 cases d with
 | none=>rfl
 | some d=>
  have hd:=h d rfl
  simp only [ov,St.put]
  congr 1
  funext t
  by_cases e:t=d
  ·subst e;simp [hd,Nat.beq_refl]
  ·simp [dz e]
theorem lh {s:Nat}{b:aQ}(h:q s=none):(ov p q st).box s b=ov p q (st.box s b):=by
 simp only [ov,St.box]
 congr 1
 funext t
 by_cases e:t=s
 ·subst e;simp [h,Nat.beq_refl]
 ·simp [dz e]
theorem cH {s:Nat}(h:q s=none):(ov p q st).boxes s=st.boxes s:=by simp [ov,h]
theorem Mt {x:Operand}(h:∀t,x=.tmp t->p t=none):(ov p q st).a_ x=st.a_ x:=by
 cases x with
 | tmp t=>simp [St.a_,ov,h t rfl]
 | _=>rfl
def one {α:Type}(d:Option Nat)(x:α):Nat->Option α:=fun t=>match d with|some k=>cond (Nat.beq t k) (some x) none|none=>none
theorem dK {α:Type}{d:Option Nat}{x:α}{t:Nat}(h:d≠some t):one d x t=none:=by
 cases d with
 | none=>rfl
 | some k=>simp [one,dz (fun e:t=k=>h (by rw [e]))]
theorem eL (d:Option Nat)(x:SV):st.put d x=ov (one d x) (fun _=>none) st:=by
 cases d with
 | none=>rfl
 | some d=>
  simp only [ov,St.put,one]
  congr 1
  funext t
  by_cases e:t=d
  ·subst e;simp [Nat.beq_refl]
  ·simp [dz e]
theorem EJ (s:Nat)(b:aQ):st.box s b=ov (fun _=>none) (one (some s) b) st:=by
 simp only [ov,St.box,one]
 congr 1
 funext t
 by_cases e:t=s
 ·subst e;simp [Nat.beq_refl]
 ·simp [dz e]
theorem zo (s:Nat)(b:aQ)(d:Option Nat)(x:SV):(st.box s b).put d x=ov (one d x) (one (some s) b) st:=by
 rw [eL,EJ];rfl
end
theorem eo {ρ ρ':Operand->Option SV}:∀l:List Operand,(∀x∈l,ρ x=ρ' x)->bW ρ l=bW ρ' l
 | [],_=>rfl
 | o::r,h=>by simp only [bW];rw [h o (by simp),eo r fun x hx=>h x (by simp [hx])]
theorem jM {ρ ρ':Operand->Option SV}:∀l:List (Nat×Operand),(∀x∈l.map (·.2),ρ x=ρ' x)->partsOf ρ l=partsOf ρ' l
 | [],_=>rfl
 | (i,o)::r,h=>by simp only [partsOf];rw [h o (by simp),jM r fun x hx=>h x (by simp only [List.map_cons,List.mem_cons];exact .inr hx)]
theorem oo {ρ ρ':Operand->Option SV}:∀l:Option Operand,(∀x,l=some x->ρ x=ρ' x)->Bn ρ l=Bn ρ' l
 | none,_=>rfl
 | some o,h=>by simp only [Bn];rw [h o rfl]
theorem ml {T:df}{ρ ρ':Operand->Option SV}{bx:Nat->Option aQ}{op:Op}(h:∀x∈op.operands.toList,ρ x=ρ' x):aI T ρ bx op=aI T ρ' bx op:=by
 cases op with
 | move x=>simp only [aI];rw [h x (by simp [Op.operands])]
 | assign x=>simp only [aI];rw [h x (by simp [Op.operands])]
 | pick c a b=>simp only [aI];rw [h c (by simp [Op.operands]),h a (by simp [Op.operands]),h b (by simp [Op.operands])]
 | box t x=>simp only [aI];rw [h x (by simp [Op.operands])]
 | build t ps=>simp only [aI];rw [jM _ fun x hx=>h x (by simpa [Op.operands] using hx)]
 | buildSlice t n ps=>simp only [aI];rw [jM _ fun x hx=>h x (by simpa [Op.operands] using hx)]
 | load t a=>simp only [aI];rw [h a (by simp [Op.operands])]
 | store t a x=>simp only [aI];rw [h a (by simp [Op.operands]),h x (by simp [Op.operands])]
 | nilCheck x=>simp only [aI];rw [h x (by simp [Op.operands])]
 | binOp o xt x y yt=>simp only [aI];rw [h x (by simp [Op.operands]),h y (by simp [Op.operands])]
 | unOp o xt x=>cases o<;>simp only [aI]<;>rw [h x (by simp [Op.operands])]
 | convert s d x=>simp only [aI];rw [h x (by simp [Op.operands])]
 | makeFunc fn first caps=>
  cases fn with
  | func f=>simp only [aI];rw [eo _ fun x hx=>h x (by simp [Op.operands];exact .inr (by simpa using hx))]
  | _=>rfl
 | makeSlice t a b=>simp only [aI];rw [h a (by simp [Op.operands]),h b (by simp [Op.operands])]
 | slice t x lo hi mx=>
  simp only [aI]
  rw [h x (by simp [Op.operands]),oo lo fun y hy=>h y (by simp [Op.operands,hy]),oo hi fun y hy=>h y (by simp [Op.operands,hy]),oo mx fun y hy=>h y (by simp [Op.operands,hy])]
 | fieldAddr t x f=>simp only [aI];rw [h x (by simp [Op.operands])]
 | field t x f=>simp only [aI];rw [h x (by simp [Op.operands])]
 | indexAddr t x i=>simp only [aI];rw [h x (by simp [Op.operands]),h i (by simp [Op.operands])]
 | extract x j=>simp only [aI];rw [h x (by simp [Op.operands])]
 | index t x i=>simp only [aI];rw [h x (by simp [Op.operands]),h i (by simp [Op.operands])]
 | makeInterface t x=>simp only [aI];rw [h x (by simp [Op.operands])]
 | call c=>
  obtain ⟨Gw,args,ts⟩:=c
  cases Gw with
  | builtin b=>
   have e:bW ρ args.toList=bW ρ' args.toList:=eo _ fun x hx=>h x (by simpa [Op.operands,Call.operands] using hx)
   cases b<;>simp only [aI]<;>rw [e]
  | _=>rfl
 | _=>rfl
theorem Ky {T:df}{LF RF:List Nat}{ρ:Operand->Option SV}{bx bx':Nat->Option aQ}{op:Op}(h:bg LF RF op=.pure\/bg LF RF op=.alloc):aI T ρ bx op=aI T ρ bx' op:=by
 cases op with
 | load t a=>rcases h with h|h<;>cases h
 | store t a x=>rcases h with h|h<;>cases h
 | unOp o xt x=>cases o<;>rfl
 | makeFunc fn first caps=>cases fn<;>rfl
 | call c=>
  obtain ⟨Gw,args,ts⟩:=c
  cases Gw with
  | builtin b=>cases b<;>first|rfl|(rcases h with h|h<;>cases h)
  | _=>rfl
 | _=>rfl
theorem KA {bx bx':Nat->Option aQ}{i:TI}{x:SV}(h:∀s∈x.ids,bx' s=bx s):iV bx i x=iV bx' i x:=by
 unfold iV
 split
 ·rename_i b o
  rw [h b (by simp [SV.ids,C.ids])]
 ·rfl
 ·rfl
theorem Ik {bx bx':Nat->Option aQ}{i:TI}{x y:SV}(h:∀s∈x.ids,bx' s=bx s):gE bx i x y=gE bx' i x y:=by
 unfold gE
 split
 ·rename_i b o
  rw [h b (by simp [SV.ids,C.ids])]
 ·rfl
theorem FK {bx:Nat->Option aQ}{i:TI}{x y:SV}{sc:List Prop}{s:Nat}{b:aQ}(h:gE bx i x y=.sQ sc s b):s∈x.ids:=by
 unfold gE at h
 split at h
 ·split at h
  ·split at h
   ·split at h
    ·cases h;simp [SV.ids,C.ids]
    ·cases h
   ·split at h
    ·cases h;simp [SV.ids,C.ids]
    ·cases h
   ·split at h
    ·cases h
    ·split at h
     ·cases h;simp [SV.ids,C.ids]
     ·cases h
   ·cases h
  ·cases h
 ·cases h
theorem Bz {V:View}{p:Addr}:∀(cs:List C) (i:Nat) {k:Prop},V.ME p i cs k↔V.ME p i cs True/\k
 | [],_,k=>by simp [View.ME]
 | c::r,i,k=>by
  simp only [View.ME]
  rw [Bz r (i+1),and_assoc]
theorem KD {V V':View}(h:V.Le V'){p:Addr}:∀(cs:List C) (i:Nat) {k:Prop},V.ME p i cs k->V'.ME p i cs k
 | [],_,_,hk=>hk
 | c::r,i,_,hk=>⟨h.at hk.1,KD h r (i+1) hk.2⟩
theorem pN {V:View}{p:OA}{x:SV}{k:Prop}:V.Ln p x k↔V.Ln p x True/\k:=by
 cases x with
 | c c=>simp [View.Ln]
 | agg cs=>
  simp only [View.Ln]
  constructor
  ·rintro ⟨a,h1,h2⟩;rw [Bz] at h2;exact ⟨⟨a,h1,h2.1⟩,h2.2⟩
  ·rintro ⟨⟨a,h1,h2⟩,hk⟩;exact ⟨a,h1,by rw [Bz];exact ⟨h2,hk⟩⟩
 | oP xs=>simp [View.Ln]
theorem Pg {V V':View}(h:V.Le V'){p:OA}{x:SV}{k:Prop}(hk:V.Ln p x k):V'.Ln p x k:=by
 cases x with
 | c c=>obtain ⟨⟨a,h1,h2⟩,h3⟩:=hk;exact ⟨⟨a,h1,h.at h2⟩,h3⟩
 | agg cs=>obtain ⟨a,h1,h2⟩:=hk;exact ⟨a,h1,KD h _ _ h2⟩
 | oP xs=>exact hk
theorem xh.split:∀(s:xh) {F:C->Prop},s.ex F->∃x,F x/\∀G:C->Prop,G x->s.ex G
 | .int _,_,⟨_,h⟩=>⟨_,h,fun _ g=>⟨_,g⟩⟩
 | .bool,_,⟨_,h⟩=>⟨_,h,fun _ g=>⟨_,g⟩⟩
 | .slice,_,⟨_,_,_,h⟩=>⟨_,h,fun _ g=>⟨_,_,_,g⟩⟩
 | .ptr,_,⟨_,h⟩=>⟨_,h,fun _ g=>⟨_,g⟩⟩
 | .str,_,⟨_,h⟩=>⟨_,h,fun _ g=>⟨_,g⟩⟩
 | .any,_,⟨_,h⟩=>⟨_,h,fun _ g=>⟨_,g⟩⟩
theorem mV:∀(l:List xh) {F:List C->Prop},Ow l F->∃x,F x/\∀G:List C->Prop,G x->Ow l G
 | [],_,h=>⟨_,h,fun _ g=>g⟩
 | s::r,_,h=>by
  obtain ⟨c,h1,h2⟩:=xh.split s h
  obtain ⟨cs,h3,h4⟩:=mV r h1
  exact ⟨c::cs,h3,fun G g=>h2 _ (h4 _ g)⟩
theorem uf.split:∀(s:uf) {F:SV->Prop},s.ex F->∃x,F x/\∀G:SV->Prop,G x->s.ex G
 | .one s,_,h=>by obtain ⟨c,h1,h2⟩:=xh.split s h;exact ⟨.c c,h1,fun G g=>h2 _ g⟩
 | .agg l,_,h=>by obtain ⟨c,h1,h2⟩:=mV l h;exact ⟨.agg c,h1,fun G g=>h2 _ g⟩
theorem qM:∀(l:List uf) {F:List (Bool×List C)->Prop},PK l F->∃x,F x/\∀G:List (Bool×List C)->Prop,G x->PK l G
 | [],_,h=>⟨_,h,fun _ g=>g⟩
 | .one s::r,_,h=>by
  obtain ⟨c,h1,h2⟩:=xh.split s h
  obtain ⟨cs,h3,h4⟩:=qM r h1
  exact ⟨_,h3,fun G g=>h2 _ (h4 _ g)⟩
 | .agg l::r,_,h=>by
  obtain ⟨c,h1,h2⟩:=mV l h
  obtain ⟨cs,h3,h4⟩:=qM r h1
  exact ⟨_,h3,fun G g=>h2 _ (h4 _ g)⟩
theorem Sh.split:∀(s:Sh) {F:SV->Prop},s.ex F->∃x,F x/\∀G:SV->Prop,G x->s.ex G
 | .val s,_,h=>uf.split s h
 | .oP l,_,h=>by obtain ⟨x,h1,h2⟩:=qM l h;exact ⟨_,h1,fun G g=>h2 _ g⟩
 | .none,_,h=>⟨_,h,fun _ g=>g⟩
theorem Sh.mono {s:Sh}{F G:SV->Prop}(h:s.ex F)(k:∀x,F x->G x):s.ex G:=by
 obtain ⟨x,h1,h2⟩:=s.split h
 exact h2 G (k x h1)
theorem wg {l m:List Nat}:KU l m=true↔∀x∈l,x∈m:=by
 simp only [KU,List.all_eq_true,cu]
theorem vG {op:Op}{x:Operand}(h:x∈op.operands.toList){t:Nat}(e:x=.tmp t):t∈hJ op:=by
 subst e
 exact List.mem_filterMap.2 ⟨_,h,rfl⟩
theorem m_ {st st2:St}{op:Op}(h:∀t∈hJ op,st2.au t=st.au t){x:Operand}(hx:x∈op.operands.toList):st2.a_ x=st.a_ x:=by
 cases x with
 | tmp t=>exact h t (vG hx rfl)
 | _=>rfl
theorem vF {op:Op}{x:Operand}(h:x∈hE op):x∈op.operands.toList:=by
 unfold hE at h
 split at h
 ·simpa [Op.operands] using h
 ·simp at h;subst h;simp [Op.operands]
 ·simp only [Op.operands,Call.operands]
  simp at h ⊢
  rcases h with h|h
  ·exact .inr h
  ·exact .inl h
 ·simpa [Op.operands,Call.operands] using h
 ·cases h
theorem qY {ρ:Operand->Option SV}:∀{l:List Operand} {xs:List SV},bW ρ l=some xs->∀x∈l,∃v,ρ x=some v/\v∈xs
 | [],_,_,_,hx=>nomatch hx
 | o::r,xs,h,x,hx=>by
  simp only [bW] at h
  split at h
  ·rename_i v l h1 h2
   cases h
   rcases List.mem_cons.1 hx with e|hx
   ·exact ⟨v,by rw [e];exact h1,by simp⟩
   ·obtain ⟨u,hu,hm⟩:=qY h2 x hx
    exact ⟨u,hu,by simp [hm]⟩
  ·cases h
structure Outcome (P:Program) (T:df) (m:CM) (h:Hint) (o:Oper) (st:St) (V:View) (R W:List Nat) (K:St->View->Prop) (p:Nat->Option SV) (q:Nat->Option aQ):Prop where
 pd:∀t,t∉ee o->p t=none
 qd:∀s,s∉W->q s=none
 next:K (ov p q st) V
 again:∀(st2:St)(V2:View)(K2:St->View->Prop),V.Le V2->(∀t∈hJ o.op,st2.au t=st.au t)->(∀s∈R,st2.boxes s=st.boxes s)->K2 (ov p q st2) V2->cN P T m h o st2 V2 K2
variable {P:Program} {T:df} {LF RF:List Nat} {m:CM}
theorem AY {o:Oper}{t:Nat}(h:t∉ee o):o.dst≠some t:=by
 intro e;apply h;simp [ee,e]
theorem MY {o:Oper}{st:St}{V:View}{K:St->View->Prop}{R W:List Nat}{Q0:Q}
  (hnew:∀sc b x,Q0=.new sc b x->ee o=W/\ee o=R)(UW:∀sc s b,Q0=.sQ sc s b->s∈W)(happ:di Q0≠6)
  (hv:sR Q0 o.dst st V K) :
  ∃p q,(∀t,t∉ee o->p t=none)/\(∀s,s∉W->q s=none)/\K (ov p q st) V /\
   ∀(st2:St)(V2:View)(K2:St->View->Prop),V.Le V2->(∀s∈R,st2.boxes s=st.boxes s)->K2 (ov p q st2) V2->sR Q0 o.dst st2 V2 K2:=by
 cases Q0 with
 | fail=>exact hv.elim
 | ret sc x=>
  obtain ⟨h1,h2⟩:=(dG sc _).1 hv
  refine ⟨one o.dst x,fun _=>none,fun t ht=>dK (AY ht),fun _ _=>rfl,by rw [←eL];exact h2,?_⟩
  intro st2 V2 K2 _ _ hK
  exact (dG sc _).2 ⟨h1,by rw [eL];exact hK⟩
 | new sc b x=>
  obtain ⟨e1,e2⟩:=hnew _ _ _ rfl
  simp only [sR] at hv ⊢
  cases hd:o.dst with
  | none=>rw [hd] at hv;exact hv.elim
  | some d=>
   have hdl:ee o=[d]:=by simp [ee,hd]
   rw [hd] at hv
   dsimp only at hv ⊢
   split at hv
   ·rename_i hn
    obtain ⟨h1,h2⟩:=(dG sc _).1 hv
    refine ⟨one (some d) (x d),one (some d) b,fun t ht=>dK (by intro e;apply ht;rw [hdl];simpa using e.symm),fun s hs=>dK (by intro e;apply hs;rw [←e1,hdl];simpa using e.symm),by rw [←zo];exact h2,?_⟩
    intro st2 V2 K2 _ hR hK
    rw [hR d (by rw [←e2,hdl];simp),hn]
    exact (dG sc _).2 ⟨h1,by rw [zo];exact hK⟩
   ·exact hv.elim
 | sQ sc s b=>
  simp only [sR] at hv ⊢
  cases hd:o.dst with
  | some d=>rw [hd] at hv;exact hv.elim
  | none=>
   rw [hd] at hv
   dsimp only at hv ⊢
   obtain ⟨h1,h2⟩:=(dG sc _).1 hv
   refine ⟨fun _=>none,one (some s) b,fun _ _=>rfl,fun t ht=>dK (by intro e;apply ht;have:=UW _ _ _ rfl;simp at e;rw [←e];exact this),by rw [←EJ];exact h2,?_⟩
   intro st2 V2 K2 _ _ hK
   exact (dG sc _).2 ⟨h1,by rw [EJ];exact hK⟩
 | rd a sh=>
  obtain ⟨x,h1,h2⟩:=sh.split hv
  obtain ⟨h3,h4⟩:=pN.1 h1
  refine ⟨one o.dst x,fun _=>none,fun t ht=>dK (AY ht),fun _ _=>rfl,by rw [←eL];exact h4,?_⟩
  intro st2 V2 K2 hle _ hK
  exact h2 _ (pN.2 ⟨Pg hle h3,by rw [eL];exact hK⟩)
 | nM vs of size sh=>
  obtain ⟨x,h1,h2⟩:=sh.split hv
  refine ⟨one o.dst x,fun _=>none,fun t ht=>dK (AY ht),fun _ _=>rfl,by rw [←eL];exact h1.2,?_⟩
  intro st2 V2 K2 hle _ hK
  exact h2 _ ⟨h1.1,by rw [eL];exact hK⟩
 | app a b c d e f g i j=>exact absurd rfl happ
 | qW a b c d e f g i=>exact absurd rfl happ
theorem vV {o:Oper}(h:mo (bg LF RF o.op)=true)(st:St)(V:View)(K:St->View->Prop):cW P T m o st V K=sR (aI T st.a_ st.boxes o.op) o.dst st V K:=by
 unfold cW
 split
 ·rename_i f args ts hop
  rw [hop] at h
  exfalso
  cases f with
  | func f=>
   simp only [bg] at h
   split at h
   ·split at h<;>cases h
   ·split at h
    ·cases h
    ·split at h<;>cases h
  | _=>cases h
 ·rename_i recv name args ts hop
  rw [hop] at h
  cases h
 ·rfl
theorem ou {ρ:Operand->Option SV}{bx:Nat->Option aQ}{op:Op}:di (aI T ρ bx op)=2->bg LF RF op=.alloc:=by
 have fD:∀{q:Q} {X:Prop},di q<=1->di q=2->X:=by intro q X h h';omega
 unfold aI
 split
 case h_8=>
  split
  ·intro h;rcases rj (bx:=bx) with h'|h'|h'|h'<;>(rw [h'] at h;cases h)
  ·exact fD (Nat.zero_le _)
 case h_9=>
  split
  ·intro h;rcases oA (bx:=bx) with h'|h'<;>(rw [h'] at h;cases h)
  ·exact fD (Nat.zero_le _)
 case h_11=>
  split
  ·split
   ·split
    ·exact fD p_
    ·exact fD (Nat.zero_le _)
   ·exact fD p_
  ·exact fD (Nat.zero_le _)
 case h_17=>exact fun _=>rfl
 case h_18=>
  split
  ·split
   ·split
    ·exact fD wh
    ·exact fD (Nat.zero_le _)
   ·exact fD (Nat.zero_le _)
  ·exact fD (Nat.zero_le _)
 case h_21=>
  split
  ·exact fD mD
  ·exact fD (Nat.zero_le _)
 case h_23 c=>
  split
  ·intro h
   exfalso
   split at h<;>(try split at h)<;>(try split at h)<;>(try split at h)<;>first|(rcases mC (bx:=bx) with h'|h'<;>(rw [h'] at h;cases h))|cases h
  ·split
   ·intro h;rcases oz (T:=T) (bx:=bx) with h'|h'<;>(rw [h'] at h;cases h)
   ·exact fD (Nat.zero_le _)
  ·split
   ·split
    ·exact fD qa
    ·exact fD (Nat.zero_le _)
   ·exact fD (Nat.zero_le _)
  ·exact fD (Nat.zero_le _)
 all_goals
  first
  | exact fun _=>rfl
  | exact fD (Nat.zero_le _)
  | ((repeat' split)<;>first|exact fD (Nat.zero_le _)|exact fD (Nat.le_refl _)|exact fD nO|(unfold vT;(repeat' split)<;>first|exact fD (Nat.zero_le _)|exact fD (Nat.le_refl _)))
theorem zU {st st2:St}{op:Op}(h:∀t∈hJ op,st2.au t=st.au t):bW st2.a_ (hE op)=bW st.a_ (hE op):=
 eo _ fun _ hx=>m_ h (vF hx)
theorem nf {h:Hint}{o:Oper}{st:St}{V:View}{K:St->View->Prop}{R W:List Nat}(hq:mo (bg LF RF o.op)=true)(hrw:pS (bg LF RF o.op) h (ee o)=some (R,W))
  (hv:cN P T m h o st V K):∃p q,Outcome P T m h o st V R W K p q:=by
 have core:(∀st2:St,(∀t∈hJ o.op,st2.au t=st.au t)->(∀s∈R,st2.boxes s=st.boxes s)->aI T st2.a_ st2.boxes o.op=aI T st.a_ st.boxes o.op) ->
   (∀sc b x,aI T st.a_ st.boxes o.op=.new sc b x->ee o=W/\ee o=R)->(∀sc s b,aI T st.a_ st.boxes o.op=.sQ sc s b->s∈W) ->
   (∀(st2:St)(V2:View)(K2:St->View->Prop),(∀t∈hJ o.op,st2.au t=st.au t)->cW P T m o st2 V2 K2->cN P T m h o st2 V2 K2) ->
   cW P T m o st V K->∃p q,Outcome P T m h o st V R W K p q:=by
  intro he hn hu hb hv
  rw [vV hq] at hv
  obtain ⟨p,q,h1,h2,h3,h4⟩:=MY (R:=R) (W:=W) hn hu (fun hQ=>by
   obtain ⟨cl,hop,pt⟩:=(fx (T:=T) (ρ:=st.a_) (bx:=st.boxes) (op:=o.op)).2.2 hQ
   rw [hop] at hq
   obtain ⟨Gw,args,ts⟩:=cl
   dsimp only at pt
   subst pt
   cases hq) hv
  refine ⟨p,q,h1,h2,h3,fun st2 V2 K2 hle hsl hbx hK=>?_⟩
  refine hb st2 V2 K2 hsl ?_
  rw [vV hq,he st2 hsl hbx]
  exact h4 st2 V2 K2 hle hbx hK
 have Br:bg LF RF o.op=.pure\/bg LF RF o.op=.alloc->h=.free->(bg LF RF o.op=.alloc->R=ee o/\W=ee o)->∃p q,Outcome P T m h o st V R W K p q:=by
  intro hc hf hd
  subst hf
  refine core (fun st2 hs _=>?_) (fun sc b x hQ=>?_) (fun sc s b hQ=>?_) (fun _ _ _ _ hb=>hb) hv
  ·rw [Ky (bx':=st.boxes) hc]
   exact ml fun x hx=>m_ hs hx
  ·have:=hd (ou (by rw [hQ];rfl));exact ⟨this.2.symm,this.1.symm⟩
  ·rcases (fx (T:=T) (ρ:=st.a_) (bx:=st.boxes) (op:=o.op)).1 (by rw [hQ];rfl) with ⟨t,y,x,hop⟩|⟨⟨Gw,args,ts⟩,hop,pt⟩
   ·rw [hop] at hc
    rcases hc with hc|hc<;>cases hc
   ·dsimp only at pt
    subst pt
    rw [hop] at hc
    rcases hc with hc|hc<;>cases hc
 generalize hc:bg LF RF o.op=c at hrw hq Br
 cases c with
 | pure=>
  cases h with
  | free=>exact Br (.inl rfl) rfl (fun e=>by cases e)
  | own l=>cases hrw
 | alloc=>
  cases h with
  | free=>
   simp only [pS,Option.some.injEq,Prod.mk.injEq] at hrw
   exact Br (.inr rfl) rfl (fun _=>⟨hrw.1.symm,hrw.2.symm⟩)
  | own l=>cases hrw
 | load=>
  cases h with
  | free=>cases hrw
  | own l=>
   simp only [pS,Option.some.injEq,Prod.mk.injEq] at hrw
   obtain ⟨rfl,rfl⟩:=hrw
   have hop:∃t a,o.op=.load t a:=by
    generalize o.op=op at hc
    cases op with
    | load t a=>exact ⟨t,a,rfl⟩
    | call c=>obtain ⟨Gw,args,ts⟩:=c;cases Gw with
     | builtin b=>cases b<;>cases hc
     | value f=>cases f with
      | func f=>simp only [bg] at hc;split at hc<;>(try split at hc)<;>(try split at hc)<;>(try split at hc)<;>cases hc
      | _=>cases hc
     | _=>cases hc
    | _=>cases hc
   obtain ⟨t,a,hop⟩:=hop
   unfold cN at hv
   dsimp only at hv
   split at hv
   ·rename_i xs hxs
    split at hv
    ·rename_i hsub
     have fC:∀v,st.a_ a=some v->∀s∈v.ids,s∈l:=by
      intro v vk s hs
      rw [wg] at hsub
      apply hsub
      rw [hop] at hxs
      obtain ⟨u,hu,hm⟩:=qY hxs a (by simp [hE])
      rw [hop]
      simp only [eH]
      rw [vk] at hu
      cases hu
      exact List.mem_flatMap.2 ⟨_,hm,hs⟩
     refine core (fun st2 hs hb=>?_) (fun sc b x hQ=>?_) (fun sc s b hQ=>?_) (fun st2 V2 K2 hs hb=>?_) hv
     ·rw [hop] at hs ⊢
      rw [ml (ρ':=st.a_) fun x hx=>m_ hs hx]
      simp only [aI]
      split
      ·rename_i i v hi IJ
       exact (KA fun s hs'=>hb s (fC v IJ s hs')).symm
      ·rfl
     ·have:=ou (LF:=LF) (RF:=RF) (op:=o.op) (T:=T) (ρ:=st.a_) (bx:=st.boxes) (by rw [hQ];rfl)
      rw [hop] at this;cases this
     ·rcases (fx (T:=T) (ρ:=st.a_) (bx:=st.boxes) (op:=o.op)).1 (by rw [hQ];rfl) with ⟨t,y,x,hop'⟩|⟨c,hop',-⟩<;>(rw [hop] at hop';cases hop')
     ·unfold cN
      dsimp only
      rw [zU hs,hxs]
      dsimp only
      have:eH st2.boxes o.op (xs.flatMap SV.ids)=eH st.boxes o.op (xs.flatMap SV.ids):=by rw [hop];rfl
      rw [this,hsub]
      exact hb
    ·exact hv.elim
   ·exact hv.elim
 | store=>
  cases h with
  | free=>cases hrw
  | own l=>
   simp only [pS,Option.some.injEq,Prod.mk.injEq] at hrw
   obtain ⟨rfl,rfl⟩:=hrw
   have hop:∃t a x,o.op=.store t a x:=by
    generalize o.op=op at hc
    cases op with
    | store t a x=>exact ⟨t,a,x,rfl⟩
    | call c=>obtain ⟨Gw,args,ts⟩:=c;cases Gw with
     | builtin b=>cases b<;>cases hc
     | value f=>cases f with
      | func f=>simp only [bg] at hc;split at hc<;>(try split at hc)<;>(try split at hc)<;>(try split at hc)<;>cases hc
      | _=>cases hc
     | _=>cases hc
    | _=>cases hc
   obtain ⟨t,a,y,hop⟩:=hop
   unfold cN at hv
   dsimp only at hv
   split at hv
   ·rename_i xs hxs
    split at hv
    ·rename_i hsub
     have fC:∀v,st.a_ a=some v->∀s∈v.ids,s∈l:=by
      intro v vk s hs
      rw [wg] at hsub
      apply hsub
      rw [hop] at hxs
      obtain ⟨u,hu,hm⟩:=qY hxs a (by simp [hE])
      rw [hop]
      simp only [eH]
      rw [vk] at hu
      cases hu
      exact List.mem_flatMap.2 ⟨_,hm,hs⟩
     refine core (fun st2 hs hb=>?_) (fun sc b x hQ=>?_) (fun sc s b hQ=>?_) (fun st2 V2 K2 hs hb=>?_) hv
     ·rw [hop] at hs ⊢
      rw [ml (ρ':=st.a_) fun x hx=>m_ hs hx]
      simp only [aI]
      split
      ·rename_i i v w hi IJ hw
       exact (Ik fun s hs'=>hb s (fC v IJ s hs')).symm
      ·rfl
     ·have:=ou (LF:=LF) (RF:=RF) (op:=o.op) (T:=T) (ρ:=st.a_) (bx:=st.boxes) (by rw [hQ];rfl)
      rw [hop] at this;cases this
     ·rw [hop] at hQ
      simp only [aI] at hQ
      split at hQ
      ·rename_i i v w hi IJ hw
       exact fC v IJ s (FK hQ)
      ·cases hQ
     ·unfold cN
      dsimp only
      rw [zU hs,hxs]
      dsimp only
      have:eH st2.boxes o.op (xs.flatMap SV.ids)=eH st.boxes o.op (xs.flatMap SV.ids):=by rw [hop];rfl
      rw [this,hsub]
      exact hb
    ·exact hv.elim
   ·exact hv.elim
 | _=>cases hq
end Go.bM
namespace Go.bM
variable {P:Program} {T:df} {LF RF:List Nat} {m:CM}
def Good (p:Nat->Option SV)(q:Nat->Option aQ)(W D:List Nat)(st:St)(V:View)(K:St->View->Prop):St->View->Prop:=
 fun st2 V2=>V.Le V2/\(∀t,t∉D->st2.au t=st.au t)/\(∀s,s∉W->st2.boxes s=st.boxes s)/\K (ov p q st2) V2
theorem oT {bx bx':Nat->Option aQ}:∀{l:List Nat},(∀s∈l,bx' s=bx s)->l.flatMap (kH bx')=l.flatMap (kH bx)
 | [],_=>rfl
 | s::r,h=>by
  simp only [List.flatMap_cons]
  rw [oT fun s hs=>h s (by simp [hs])]
  simp only [kH]
  rw [h s (by simp)]
theorem mq {bx bx':Nat->Option aQ}:∀(n:Nat)(l:List Nat),(∀s∈reach bx n l,bx' s=bx s)->reach bx' n l=reach bx n l
 | 0,_,_=>rfl
 | n+1,l,h=>by
  have hl:∀s∈l,bx' s=bx s:=fun s hs=>h s (eI (n+1) l s hs)
  simp only [reach] at h ⊢
  rw [oT hl]
  exact mq n _ h
theorem xL {bx bx':Nat->Option aQ}{l:List Nat}(h:∀s∈l,bx' s=bx s):gL bx' l=gL bx l:=by
 unfold gL
 rw [Bool.eq_iff_iff,List.all_eq_true,List.all_eq_true]
 constructor
 ·intro g s hs;have:=g s hs;simp only [kH] at this ⊢;rw [h s hs] at this;exact this
 ·intro g s hs;have:=g s hs;simp only [kH] at this ⊢;rw [h s hs];exact this
theorem iA:∀{L:List Nat} {β:Nat->Nat} {k k':(Nat->Nat)->Prop},(∀β,k β->k' β)->lL L β k->lL L β k'
 | [],_,_,_,h,g=>h _ g
 | _::_,_,_,_,h,g=>fun b=>iA h (g b)
theorem vL {bx bx':Nat->Option aQ}{b:aQ}{β:Nat->Nat}{s:Nat}:∀{r:List Nat} {k k':Prop},(∀t∈r,bx' t=bx t)->(k->k')->NI bx b β s r k->NI bx' b β s r k'
 | [],_,_,_,h,g=>h g
 | t::r,k,k',hb,h,g=>by
  have hr:=fun t ht=>hb t (List.mem_cons_of_mem _ ht)
  simp only [NI] at g ⊢
  rw [hb t (by simp)]
  cases hbq:Nat.beq s t with
  | true=>rw [hbq] at g;exact vL hr h g
  | false=>
   rw [hbq] at g
   simp only [cond_false] at g ⊢
   split at g
   ·exact fun hn=>vL hr h (g hn)
   ·exact g
theorem iR {bx bx':Nat->Option aQ}{β:Nat->Nat}{V:View}:∀{L:List Nat} {k k':Prop},(∀s∈L,bx' s=bx s)->((∀s∈L,∃b,bx s=some b/\(b.live->V.H (β s)))->k->k')->ia bx β V L k->ia bx' β V L k'
 | [],_,_,_,h,g=>h (fun s hs=>absurd hs (by simp)) g
 | s::r,k,k',hb,h,g=>by
  have hr:=fun t ht=>hb t (List.mem_cons_of_mem _ ht)
  simp only [ia] at g ⊢
  rw [hb s (by simp)]
  split at g
  ·rename_i b hbs
   refine fun h1 h2=>iR hr (fun hf=>vL hr (fun hk=>h (fun t ht=>?_) hk)) (g h1 h2)
   rcases List.mem_cons.1 ht with rfl|ht
   ·exact ⟨b,hbs,fc.1 h2⟩
   ·exact hf t ht
  ·exact g
theorem jt {mv:Option (Nat×Nat)}:∀{cs zs:List C} {K K':List C->Prop},(∀c,K c->K' c)->kY mv cs zs K->kY mv cs zs K'
 | [],_,_,_,h,g=>h _ g
 | _::_,[],_,_,_,g=>g.elim
 | c::r,z::zr,K,K',h,g=>by
  simp only [kY] at g ⊢
  split at g
  ·split at g
   ·split at g
    ·obtain ⟨n,c,g⟩:=g
     exact ⟨n,c,jt (fun cs hk=>h _ hk) g⟩
    ·exact g.elim
   ·exact g.elim
  ·split at g
   ·obtain ⟨v,h1,h2⟩:=xh.split _ g
    rename_i hc
    rw [hc] at *
    exact h2 _ (jt (fun cs hk=>h _ hk) h1)
   ·exact jt (fun cs hk=>h _ hk) g
variable {p:Nat->Option SV} {q:Nat->Option aQ}
theorem jw {mv:Option (Nat×Nat)}{β:Nat->Nat}{V:View}{W:List Nat}:∀{L:List Nat} {st:St} {k k':St->Prop},(∀s∈L,q s=none/\s∈W) ->
  (∀st',(∀t,st'.au t=st.au t)->(∀s,s∉W->st'.boxes s=st.boxes s)->k (ov p q st')->k' st')->en T mv β V L (ov p q st) k->en T mv β V L st k'
 | [],st,k,k',_,h,g=>h st (fun _=>rfl) (fun _ _=>rfl) g
 | s::r,st,k,k',hq,h,g=>by
  obtain ⟨OO,QN⟩:=hq s (by simp)
  have hr:∀s∈r,q s=none/\s∈W:=fun s hs=>hq s (by simp [hs])
  have OC:∀b:aQ,∀k1:St->Prop,(∀st',k1 st'=k st')->en T mv β V r ((ov p q st).box s b) k1->en T mv β V r (st.box s b) k':=by
   intro b k1 hk1 g
   rw [lh OO] at g
   refine jw hr (fun st' h1 h2 hk=>h st' h1 (fun s' hs'=>?_) (by rw [←hk1];exact hk)) g
   rw [h2 s' hs',ai,if_neg (fun e=>hs' (by rw [e];exact QN))]
  simp only [en] at g ⊢
  rw [cH OO] at g
  split at g
  ·rename_i cs ty hb
   split at g
   ·rename_i i hi
    exact jt (fun cs' hk=>⟨hk.1,OC _ _ (fun _=>rfl) hk.2⟩) g
   ·exact g
  ·obtain ⟨vs,h1,h2⟩:=g
   exact ⟨vs,h1,OC _ _ (fun _=>rfl) h2⟩
  ·obtain ⟨h0,vs,h3,h1,h2⟩:=g
   exact ⟨h0,vs,h3,h1,OC _ _ (fun _=>rfl) h2⟩
  ·exact g
theorem tW (V:View)(l:List Nat):V.Le (V.aV l):=fun _ _ h=>h
theorem GV (V:View):V.Le V.shut:=fun _ _ h=>h
theorem JW {V V' eO:View}{P:Prop}{b:Nat}(h:V.Le eO)(h':V.Le V')(hb:P->V'.w.heap.size<=b\/V'.H b):V.Le (eO.shut.jv P b):=by
 intro x o hx
 obtain ⟨h1,h2⟩:=h x o hx
 obtain ⟨h3,h4⟩:=h' x o hx
 refine ⟨fun hh=>?_,h2⟩
 rcases hh with hh|⟨hp,e,-⟩
 ·exact h1 hh
 ·subst e
  rcases hb hp with h5|h5
  ·have:=aB h4;omega
  ·exact h3 h5
theorem Ka {m:Option Nat}{d:Nat}:eT m d=d\/eT m d=d+200000:=by
 cases m with
 | none=>exact .inl rfl
 | some m=>
  simp only [eT,nA]
  cases Nat.blt m 100000 with
  | true=>exact .inl rfl
  | false=>exact .inr rfl
theorem og {give:Bool}{sh:Sh}{L:List Nat}{mm:Option Nat}{d:Nat}{ety:TypeId}{β:Nat->Nat}{st:St}{V V' eO:View}{K K':St->View->Prop}{W D:List Nat}{r':Value}
  (hL:∀s∈L,q s=none/\s∈W)(hm:∀k,mm=some k->k∈L)(hp:p d=none/\d∈D)(hq:q (eT mm d)=none/\eT mm d∈W)(hV:V.Le V')(hV2:V.Le eO)
  (hlv:∀s∈L,∃b,st.boxes s=some b/\(b.live->V'.H (β s)))(hK:∀s2 V2,Good p q W D st V K s2 V2->K' s2 V2)
  (h:cz T give sh L mm d ety β (ov p q st) V' K r' eO):cz T give sh L mm d ety β st V' K' r' eO:=by
 unfold cz at h ⊢
 obtain ⟨b',vs',h1,h2,h3⟩:=h
 have h2':vs'≠[]->V'.w.heap.size<=b'\/xd mm st β b':=by
  intro hne
  refine (h2 hne).imp id fun h=>?_
  unfold xd at h ⊢
  cases mm with
  | none=>exact h
  | some k=>
   dsimp only at h ⊢
   rw [cH (hL k (hm k rfl)).1] at h
   exact h
 have qQ:vs'≠[]->V'.w.heap.size<=b'\/V'.H b':=by
  intro hne
  refine (h2' hne).imp id fun h=>?_
  unfold xd at h
  cases mm with
  | none=>exact h.elim
  | some k=>
   dsimp only at h
   obtain ⟨b0,hb0,hHk⟩:=hlv k (hm k rfl)
   rw [hb0] at h
   obtain ⟨cs,ty⟩:=b0
   cases cs with
   | lit cs=>have h:b'=β k:=h;rw [h];exact hHk cR
   | row cs=>have h:b'=β k:=h;rw [h];exact hHk cq
   | aZ vs=>have h:vs≠[]/\b'=β k:=h;rw [h.2];exact hHk (fu h.1)
 refine ⟨b',vs',h1,h2',Sh.mono h3 fun x hx=>⟨hx.1,?_⟩⟩
 have e1:(pr mm ety (ov p q st)).box (eT mm d) ⟨.aZ vs',ety⟩=ov p q ((pr mm ety st).box (eT mm d) ⟨.aZ vs',ety⟩):=by
  cases mm with
  | none=>exact lh hq.1
  | some k=>
   simp only [pr]
   rw [lh (hL k (hm k rfl)).1,lh hq.1]
 have hx2:=hx.2
 rw [e1] at hx2
 have hsub:∀s∈GW mm L,q s=none/\s∈W:=by
  intro s hs
  cases mm with
  | none=>exact hL s hs
  | some k=>exact hL s (vI.1 hs).1
 refine jw hsub (fun st' g1 g2 hk=>?_) hx2
 rw [jL (fun k hk=>by cases hk;exact hp.1)] at hk
 refine hK _ _ ⟨JW hV2 hV qQ,?_,?_,hk⟩
 ·intro t ht
  rw [dp,if_neg (fun e=>ht (by rw [e];exact hp.2)),g1]
  cases mm<;>rfl
 ·intro s hs
  show st'.boxes s=_
  rw [g2 s hs,ai,if_neg (fun e=>hs (by rw [e];exact hq.2))]
  cases mm with
  | none=>rfl
  | some k=>simp only [pr];rw [ai,if_neg (fun e=>hs (by rw [e];exact (hL k (hm k rfl)).2))]
theorem J3 {bx:Nat->Option aQ}{L:List Nat}(hcl:gL bx L=true):∀k,k∈pJ bx L->k∈L:=by
 intro k hk
 unfold pJ at hk
 obtain ⟨s,hs,hk⟩:=List.mem_flatMap.1 (bO.1 hk)
 split at hk
 ·rename_i cs ty hb
  refine gR hcl hs hb k ?_
  have:∀cs:List C,k∈oh cs->k∈cs.flatMap C.ids:=by
   intro cs
   induction cs with
   | nil=>exact fun h=>nomatch h
   | cons c r ih=>
    intro h
    rw [List.flatMap_cons,List.mem_append]
    cases c<;>simp only [oh,List.mem_cons] at h<;>first
     | exact .inr (ih h)
     | (rcases h with h|h
        ·left;simp [C.ids,h]
        ·exact .inr (ih h))
  exact this cs hk
 ·cases hk
theorem ve {xs:List SV}:∀k,k∈k_ xs->k∈xs.flatMap SV.ids:=by
 intro k
 induction xs with
 | nil=>exact fun h=>nomatch h
 | cons x r ih=>
  intro h
  rw [List.flatMap_cons,List.mem_append]
  unfold k_ at h
  split at h
  ·rename_i heq;cases heq
  ·rename_i s n c r' heq;cases heq;exact .inl h
  ·rename_i s n c r' heq;cases heq;exact .inl h
  ·cases h
  ·rename_i heq;cases heq;exact .inr (ih h)
theorem sk {bx bx':Nat->Option aQ}{L:List Nat}(h:∀s∈L,bx' s=bx s):pJ bx' L=pJ bx L:=by
 unfold pJ
 congr 1
 induction L with
 | nil=>rfl
 | cons s r ih=>simp only [List.flatMap_cons];rw [h s (by simp),ih fun s hs=>h s (by simp [hs])]
theorem iq {st:St}{mm:Option Nat}{d:Nat}(h:q (eT mm d)=none):jK (ov p q st) mm d=jK st mm d:=by
 unfold jK;rw [cH h]
theorem rZ {bx bx':Nat->Option aQ}{β:Nat->Nat}{N:Nat}{L:List Nat}(h:∀s∈L,bx' s=bx s):L.map (dJ bx' β N)=L.map (dJ bx β N):=
 List.map_congr_left fun s hs=>by unfold dJ;rw [h s hs]
theorem iw {f:FuncId}{xs:List SV}{ty:TypeId}{dst:Option Nat}{st:St}{V:View}{K:St->View->Prop}{W D:List Nat}
  (hm:m=.none\/((m=.aV\/m=.give)/\(∀s∈reach (ov p q st).boxes 3 (dedup (xs.flatMap SV.ids)),q s=none/\s∈W)/\∀k,dst=some k->∀mm,q (eT mm k)=none/\eT mm k∈W))(hd:∀k,dst=some k->p k=none/\k∈D)
  {K':St->View->Prop}(hK:∀s2 V2,Good p q W D st V K s2 V2->K' s2 V2)(hv:fg P T m f xs ty dst (ov p q st) V K):fg P T m f xs ty dst st V K':=by
 have hput:∀(st':St)(x:SV),(∀t,st'.au t=st.au t)->∀t,t∉D->(st'.put dst x).au t=st.au t:=by
  intro st' x h t ht
  cases dst with
  | none=>exact h t
  | some d=>rw [dp,if_neg (fun e=>ht (by rw [e];exact (hd d rfl).2))];exact h t
 have hbx:∀(st':St)(x:SV),(st'.put dst x).boxes=st'.boxes:=by intro st' x;cases dst<;>rfl
 unfold fg at hv ⊢
 split at hv
 ·exact hv.elim
 ·rename_i sh hsh
  have hre:∀L,reach (ov p q st).boxes 3 (dedup (xs.flatMap SV.ids))=L->(∀s∈L,q s=none)->reach st.boxes 3 (dedup (xs.flatMap SV.ids))=L:=by
   intro L hL hqL
   rw [←hL]
   exact mq 3 _ fun s hs=>(cH (hqL s (by rw [←hL];exact hs))).symm
  have Nt:∀s∈xs.flatMap SV.ids,s∈reach (ov p q st).boxes 3 (dedup (xs.flatMap SV.ids)):=fun s hs=>eI 3 _ s (bO.2 hs)
  generalize hr:reach (ov p q st).boxes 3 (dedup (xs.flatMap SV.ids))=L at hv hm Nt
  cases L with
  | nil=>
   rw [hre _ hr (fun s hs=>nomatch hs)]
   have plain:(∀V':View,V.Le V'->ab P f (aS (fun _=>0) xs) V' fun r eO=>sh.ex fun x=>r=x.den (fun _=>0)/\K ((ov p q st).put dst x) eO) ->
     ∀V':View,V.Le V'->ab P f (aS (fun _=>0) xs) V' fun r eO=>sh.ex fun x=>r=x.den (fun _=>0)/\K' (st.put dst x) eO:=by
    intro hv V' hV'
    refine (hv V' hV').mono fun r eO hle hk=>Sh.mono hk fun x hx=>⟨hx.1,?_⟩
    have h2:=hx.2
    rw [jL (fun k hk=>(hd k hk).1)] at h2
    exact hK _ _ ⟨hV'.trans hle,hput st x fun _=>rfl,fun s _=>by rw [hbx],h2⟩
   rcases hm with rfl|⟨rfl|rfl,-,hnb⟩
   ·exact plain hv
   ·exact plain hv
   ·dsimp only at hv ⊢
    split at hv
    ·rename_i d ety hgt
     rw [iq (hnb d rfl Option.none).1] at hv
     split at hv
     ·exact hv.elim
     ·rename_i hfree
      intro V' hV'
      refine (hv V' hV').mono fun r eO hle hk=>?_
      exact og (W:=W) (D:=D) (fun s hs=>absurd hs (by simp)) (fun k hk=>by cases hk) (hd d rfl) (hnb d rfl Option.none) hV' (hV'.trans hle) (fun s hs=>absurd hs (by simp)) hK hk
    ·exact hv.elim
  | cons s r=>
   dsimp only at hv
   split at hv
   ·exact hv.elim
   ·rename_i hcl
    have aV:m=.aV\/m=.give->(∀t∈s::r,q t=none/\t∈W)->(∀k,dst=some k->∀mm,q (eT mm k)=none/\eT mm k∈W) ->
      ∀{give:Bool} {mm:Option Nat} {d:Nat} {ety:TypeId},dst=some d->(∀k,mm=some k->k∈s::r) ->
      (∀V':View,V.Le V'->lL (s::r) (fun _=>0) fun β=>ia (ov p q st).boxes β V' (s::r) (ab P f (aS β xs) (V'.aV ((s::r).map (dJ (ov p q st).boxes β V'.w.heap.size))) (cz T give sh (s::r) mm d ety β (ov p q st) V' K))) ->
      ∀V':View,V.Le V'->lL (s::r) (fun _=>0) fun β=>ia st.boxes β V' (s::r) (ab P f (aS β xs) (V'.aV ((s::r).map (dJ st.boxes β V'.w.heap.size))) (cz T give sh (s::r) mm d ety β st V' K')):=by
     intro _ hmm hnb give mm d ety hdst UP hv V' hV'
     have CV:∀t∈s::r,st.boxes t=(ov p q st).boxes t:=fun t ht=>(cH (hmm t ht).1).symm
     refine iA (fun β hb=>?_) (hv V' hV')
     rw [rZ (bx:=(ov p q st).boxes) CV]
     refine iR (bx:=(ov p q st).boxes) CV (fun hH hfn=>?_) hb
     refine hfn.mono fun r' eO hle hk=>?_
     have hle2:V.Le eO:=(hV'.trans (tW V' _)).trans hle
     exact og hmm UP (hd d hdst) (hnb d hdst mm) hV' hle2 (fun t ht=>by rw [CV t ht];exact hH t ht) hK hk
    have base:m=.aV\/m=.give->(∀t∈s::r,q t=none/\t∈W)/\(∀k,dst=some k->∀mm,q (eT mm k)=none/\eT mm k∈W):=by
     intro h
     rcases hm with rfl|⟨-,h1,h2⟩
     ·rcases h with h|h<;>cases h
     ·exact ⟨h1,h2⟩
    have Xm:(∀t∈s::r,q t=none/\t∈W)->gL st.boxes (s::r)=true:=fun hmm=>by
     rw [xL (bx:=(ov p q st).boxes) (fun t ht=>(cH (hmm t ht).1).symm)];exact hcl
    split at hv
    ·exact hv.elim
    ·exact hv.elim
    ·
     obtain ⟨hmm,hnb⟩:=base (.inr rfl)
     rw [hre _ hr (fun t ht=>(hmm t ht).1)]
     dsimp only
     rw [Xm hmm]
     dsimp only
     have hmv:=sk (bx:=(ov p q st).boxes) (bx':=st.boxes) (L:=s::r) (fun t ht=>(cH (hmm t ht).1).symm)
     rw [hmv]
     split at hv
     ·rename_i d ety h1 h2 h3
      rw [iq (hnb d rfl _).1] at hv
      split at hv
      ·exact hv.elim
      ·rename_i hfree
       exact aV (.inr rfl) hmm hnb rfl (fun k hk=>by cases hk) hv
     ·rename_i d ety k h1 h2 h3
      rw [iq (hnb d rfl _).1] at hv
      split at hv
      ·exact hv.elim
      ·rename_i hfree
       exact aV (.inr rfl) hmm hnb rfl (fun j hj=>by cases hj;exact Nt k (ve k (by rw [h2];simp))) hv
     ·exact hv.elim
    ·
     obtain ⟨hmm,hnb⟩:=base (.inl rfl)
     rw [hre _ hr (fun t ht=>(hmm t ht).1)]
     dsimp only
     rw [Xm hmm]
     dsimp only
     have CV:∀t∈s::r,st.boxes t=(ov p q st).boxes t:=fun t ht=>(cH (hmm t ht).1).symm
     have hmv:=sk (bx:=(ov p q st).boxes) (bx':=st.boxes) (L:=s::r) CV
     rw [hmv]
     split at hv
     ·intro V' hV'
      refine iA (fun β hb=>?_) (hv V' hV')
      rw [rZ (bx:=(ov p q st).boxes) CV]
      refine iR (bx:=(ov p q st).boxes) CV (fun _ hfn=>?_) hb
      refine hfn.mono fun r' eO hle hk=>Sh.mono hk fun x hx=>⟨hx.1,?_⟩
      refine jw hmm (fun st' h1 h2 hk=>?_) hx.2
      rw [jL (fun k hk=>(hd k hk).1)] at hk
      exact hK _ _ ⟨((hV'.trans (tW V' _)).trans hle).trans (GV _),hput st' x h1,fun t ht=>by rw [hbx];exact h2 t ht,hk⟩
     ·rename_i k hk
      have OJ:k∈s::r:=J3 hcl k (by rw [hk];simp)
      have hty:j_ st.boxes k=j_ (ov p q st).boxes k:=by unfold j_;rw [CV k OJ]
      rw [hty]
      split at hv
      ·rename_i d ety hbt
       rw [iq (hnb d rfl _).1] at hv
       split at hv
       ·exact hv.elim
       ·rename_i hfree
        exact aV (.inl rfl) hmm hnb rfl (fun j hj=>by cases hj;exact OJ) hv
      ·exact hv.elim
     ·exact hv.elim
    ·rcases hm with h|h
     ·cases h
     ·rcases h.1 with h|h<;>cases h
theorem DE {bx:Nat->Option aQ}:∀(n:Nat) {l l':List Nat},(∀x∈l,x∈l')->∀x∈reach bx n l,x∈reach bx n l'
 | 0,_,_,h,x,hx=>h x hx
 | n+1,l,l',h,x,hx=>by
  simp only [reach] at hx ⊢
  refine DE n (fun y hy=>?_) x hx
  rw [bO,List.mem_append] at hy ⊢
  rcases hy with hy|hy
  ·exact .inl (h y hy)
  ·obtain ⟨z,hz,hy⟩:=List.mem_flatMap.1 hy
   exact .inr (List.mem_flatMap.2 ⟨z,h z hz,hy⟩)
theorem sH {f:FuncId}{xs:List SV}{ty:TypeId}{dst:Option Nat}{st:St}{V:View}{K:St->View->Prop}{W D:List Nat}
  (hm:m=.none\/((m=.aV\/m=.give)/\(∀s∈reach (ov p q st).boxes 3 (dedup (xs.flatMap SV.ids)),q s=none/\s∈W)/\∀k,dst=some k->∀mm,q (eT mm k)=none/\eT mm k∈W))(hd:∀k,dst=some k->p k=none/\k∈D)
  {K':St->View->Prop}(hK:∀s2 V2,Good p q W D st V K s2 V2->K' s2 V2)(hv:jS P T m f xs ty dst (ov p q st) V K):jS P T m f xs ty dst st V K':=by
 have hm0:=hm
 cases m with
 | aV=>
  obtain ⟨h1,h2⟩:(∀s∈reach (ov p q st).boxes 3 (dedup (xs.flatMap SV.ids)),q s=none/\s∈W)/\∀k,dst=some k->∀mm,q (eT mm k)=none/\eT mm k∈W:=by
   rcases hm with h|⟨-,h1,h2⟩
   ·cases h
   ·exact ⟨h1,h2⟩
  unfold jS at hv ⊢
  dsimp only at hv ⊢
  rw [pW (bx:=st.boxes) (bx':=(ov p q st).boxes) (fun s hs=>cH (h1 s (eI 3 _ s (bO.2 hs))).1)] at hv
  split at hv
  ·rename_i vs c xs' e
   exact ⟨fun he=>⟨(hv.1 he).1,iw (.inr ⟨.inl rfl,fun s hs=>h1 s (DE 3 (fun x hx=>bO.2 (we e x (bO.1 hx))) s hs),h2⟩) hd hK (hv.1 he).2⟩,fun he=>iw hm0 hd hK (hv.2 he)⟩
  ·exact iw hm0 hd hK hv
 | _=>exact iw hm0 hd hK hv
theorem Bo {p2:Nat->Option SV}{q2:Nat->Option aQ}{st:St}(hp:∀t,p t=none\/p2 t=none)(hq:∀t,q t=none\/q2 t=none):ov p q (ov p2 q2 st)=ov p2 q2 (ov p q st):=by
 unfold ov
 congr 1
 ·funext t
  dsimp only
  rcases hp t with h|h<;>rw [h]
 ·funext t
  dsimp only
  rcases hq t with h|h<;>rw [h]
def Aw:Q->Option Nat
 | .app old _ _ _ _ _ _ _ _=>old
 | .qW s _ _ _ _ _ _ _=>some s
 | _=>none
def G7 (T:df)(bx:Nat->Option aQ)(l:Option (List SV))(ts:List TypeId):Q:=
 match l,ts with
 | some [b,x],[t,t']=>match aA T t,aA T t' with
  | some i,some i'=>match i.k,i'.k with
   | .slice e,.slice _=>match aA T e with
    | some ei=>ch bx e ei b x
    | none=>.fail
   | _,_=>.fail
  | _,_=>.fail
 | _,_=>.fail
def Ax (bx:Nat->Option aQ)(sz:Nat)(x:SV):Option (OA×Nat ⊕ List Value):=
 match x with
 | .c (.v (.slice a k _))=>some (.inl (a,k))
 | .c (.lU s o k _)=>match bx s with
  | some ⟨.row ws,_⟩=>some (.inr (jB ws o (k*sz)))
  | _=>match eC bx s with
   | some ws=>if Nat.ble (o+k*sz) ws.length then some (.inr ((ws.drop o).take (k*sz))) else none
   | none=>none
 | _=>none
def Gt (bx:Nat->Option aQ)(e:TypeId)(ei:TI)(b:SV)(src:OA×Nat ⊕ List Value):Q:=
 match b with
 | .c (.v (.slice a n c))=>.app none a [] n c src ei.size ei.bytes e
 | .c (.lU s 0 n c)=>match eC bx s,j_ bx s with
  | some vs,some ty=>if Nat.beq ty e then .app (some s) none vs n c src ei.size ei.bytes e else .fail
  | _,_=>.fail
 | .c (.jX s n c)=>match bx s with
  | some ⟨.aZ vs,ty⟩=>if Nat.beq ty e then .qW s vs n c src ei.size ei.bytes e else .fail
  | _=>.fail
 | _=>.fail
theorem vS {bx:Nat->Option aQ}{e:TypeId}{ei:TI}{b x:SV}:ch bx e ei b x=match kx ei.zero with
  | none=>.fail
  | some zs=>if Nat.beq ei.bytes 0||Nat.beq ei.size 0||!(Nat.beq ei.size zs.length) then .fail else match Ax bx ei.size x with
   | none=>.fail
   | some src=>Gt bx e ei b src:=rfl
theorem Hx {bx bx':Nat->Option aQ}{sz:Nat}{x:SV}:(∀s∈x.ids,bx' s=bx s)->Ax bx sz x=Ax bx' sz x:=by
 unfold Ax
 split
 ·exact fun _=>rfl
 ·intro h;unfold eC;rw [h _ (by simp [SV.ids,C.ids])]
 ·exact fun _=>rfl
theorem IY {bx bx':Nat->Option aQ}{e:TypeId}{ei:TI}{b:SV}{src:OA×Nat ⊕ List Value}:(∀s∈b.ids,bx' s=bx s)->Gt bx e ei b src=Gt bx' e ei b src:=by
 unfold Gt
 split
 ·exact fun _=>rfl
 ·intro h;unfold eC j_;rw [h _ (by simp [SV.ids,C.ids])]
 ·intro h;rw [h _ (by simp [SV.ids,C.ids])]
 ·exact fun _=>rfl
theorem FD {bx bx':Nat->Option aQ}{e:TypeId}{ei:TI}{b x:SV}(h:∀s∈b.ids++x.ids,bx' s=bx s):ch bx e ei b x=ch bx' e ei b x:=by
 rw [vS,vS,Hx fun s hs=>h s (List.mem_append_right _ hs)]
 have:=fun src=>IY (bx:=bx) (bx':=bx') (e:=e) (ei:=ei) (b:=b) (src:=src) fun s hs=>h s (List.mem_append_left _ hs)
 simp only [this]
theorem Dx {bx:Nat->Option aQ}{e:TypeId}{ei:TI}{b x:SV}:∀s,Aw (ch bx e ei b x)=some s->s∈b.ids:=by
 intro s h
 unfold ch at h
 split at h
 ·cases h
 ·split at h
  ·cases h
  ·dsimp only at h
   split at h
   ·cases h
   ·split at h
    ·cases h
    ·split at h
     ·split at h
      ·cases h;simp [SV.ids,C.ids]
      ·cases h
     ·cases h
    ·split at h
     ·split at h
      ·cases h;simp [SV.ids,C.ids]
      ·cases h
     ·cases h
    ·cases h
theorem Mz {bx bx':Nat->Option aQ}{ys:List SV}{ts:List TypeId}{R:List Nat}(h:∀s∈ys.flatMap SV.ids,bx' s=bx s)(hR:∀s∈ys.flatMap SV.ids,s∈R) :
  G7 T bx (some ys) ts=G7 T bx' (some ys) ts/\∀s,Aw (G7 T bx (some ys) ts)=some s->s∈R:=by
 unfold G7
 split
 ·rename_i b x t t' hb
  cases hb
  split
  ·split
   ·split
    ·exact ⟨FD fun s hs=>h s (by simpa using hs),fun s hs=>hR s (by simp [Dx s hs])⟩
    ·exact ⟨rfl,fun s hs=>nomatch hs⟩
   ·exact ⟨rfl,fun s hs=>nomatch hs⟩
  ·exact ⟨rfl,fun s hs=>nomatch hs⟩
 ·exact ⟨rfl,fun s hs=>nomatch hs⟩
theorem Ie {bx:Nat->Option aQ}{e:TypeId}{ei:TI}{b x:SV}:di (ch bx e ei b x)=6\/ch bx e ei b x=.fail:=by
 unfold ch
 split
 ·exact .inr rfl
 ·split
  ·exact .inr rfl
  ·dsimp only
   split
   ·exact .inr rfl
   ·split<;>(try split)<;>(try split)<;>first|exact .inl rfl|exact .inr rfl
theorem Kx {ρ:Operand->Option SV}{bx:Nat->Option aQ}{args:Array Operand}{ts:Array TypeId}:di (aI T ρ bx (.call ⟨.builtin .append,args,ts⟩))=6\/aI T ρ bx (.call ⟨.builtin .append,args,ts⟩)=.fail:=by
 simp only [aI]
 split
 ·split
  ·split
   ·split
    ·exact Ie
    ·exact .inr rfl
   ·exact .inr rfl
  ·exact .inr rfl
 ·exact .inr rfl
theorem BK {Q0:Q}{dst:Option Nat}{st:St}{V:View}{K K':St->View->Prop}{W D:List Nat}(ht:di Q0=6\/Q0=.fail)
  (ho:∀s,Aw Q0=some s->q s=none/\s∈W)(hd:∀k,dst=some k->(p k=none/\k∈D)/\∀s,q (nA s k)=none/\nA s k∈W)(hd0:∀k,dst=some k->q k=none/\k∈W)
  (hK:∀s2 V2,Good p q W D st V K s2 V2->K' s2 V2)(h:sR Q0 dst (ov p q st) V K):sR Q0 dst st V K':=by
 cases Q0 with
 | qW s vs n c x size bytes ty=>
  simp only [sR] at h ⊢
  cases dst with
  | none=>exact h.elim
  | some d=>
   dsimp only at h ⊢
   obtain ⟨⟨hp,hD⟩,hn⟩:=hd d rfl
   obtain ⟨hs,QN⟩:=ho s rfl
   have core:∀k xs,r_ s vs n c size bytes ty d (ov p q st) V K k xs->r_ s vs n c size bytes ty d st V K' k xs:=by
    rintro k xs ⟨h1,h2,h3,h4,h5,h6⟩
    refine ⟨h1,h2,h3,h4,h5,?_⟩
    rw [cH (hn s).1] at h6
    split at h6
    ·exact h6.elim
    ·intro spare c' g1 g2
     have:=h6 spare c' g1 g2
     rw [lh hs,lh (hn s).1,jL (fun k hk=>by cases hk;exact hp)] at this
     refine hK _ _ ⟨View.Le.refl V,?_,?_,this⟩
     ·intro t ht;rw [dp,if_neg (fun e=>ht (by rw [e];exact hD))];rfl
     ·intro t ht
      show ((st.box s _).box _ _).boxes t=_
      rw [ai,if_neg (fun e=>ht (by rw [e];exact (hn s).2)),ai,if_neg (fun e=>ht (by rw [e];exact QN))]
   cases x with
   | inr xs=>exact core _ _ h
   | inl ak=>obtain ⟨xs,h1,h2,h3⟩:=h;exact ⟨xs,h1,h2,core _ _ h3⟩
 | app old ba vs n c x size bytes ty=>
  simp only [sR] at h ⊢
  cases dst with
  | none=>exact h.elim
  | some d=>
   dsimp only at h ⊢
   obtain ⟨⟨hp,hD⟩,hn⟩:=hd d rfl
   cases old with
   | some s=>
    dsimp only at h ⊢
    obtain ⟨hs,QN⟩:=ho s rfl
    have core:∀k xs,Ck s vs n c size bytes ty d (ov p q st) V K k xs->Ck s vs n c size bytes ty d st V K' k xs:=by
     rintro k xs ⟨h1,h2,h3,h4,h5,h6⟩
     refine ⟨h1,h2,h3,h4,h5,?_⟩
     rw [cH (hn s).1] at h6
     split at h6
     ·exact h6.elim
     ·intro b J spare c' g1 g2
      have:=h6 b J spare c' g1 g2
      rw [lh hs,lh (hn s).1,jL (fun k hk=>by cases hk;exact hp)] at this
      refine hK _ _ ⟨View.Le.refl V,?_,?_,this⟩
      ·intro t ht;rw [dp,if_neg (fun e=>ht (by rw [e];exact hD))];rfl
      ·intro t ht
       show ((st.box s _).box _ _).boxes t=_
       rw [ai,if_neg (fun e=>ht (by rw [e];exact (hn s).2)),ai,if_neg (fun e=>ht (by rw [e];exact QN))]
    cases x with
    | inr xs=>exact core _ _ h
    | inl ak=>obtain ⟨xs,h1,h2,h3⟩:=h;exact ⟨xs,h1,h2,core _ _ h3⟩
   | none=>
    dsimp only at h ⊢
    obtain ⟨q1,q2⟩:=hd0 d rfl
    obtain ⟨vs',g1,g2,g3,g4,h⟩:=h
    have core:∀k xs,Cl vs' n c size bytes ty d (ov p q st) V K k xs->Cl vs' n c size bytes ty d st V K' k xs:=by
     rintro k xs ⟨h1,h2,h3,h4,h5⟩
     refine ⟨h1,h2,h3,h4,?_⟩
     rw [cH q1] at h5
     split at h5
     ·exact h5.elim
     ·intro spare c' k1 k2
      have:=h5 spare c' k1 k2
      rw [lh q1,jL (fun k hk=>by cases hk;exact hp)] at this
      refine hK _ _ ⟨View.Le.refl V,?_,?_,this⟩
      ·intro t ht;rw [dp,if_neg (fun e=>ht (by rw [e];exact hD))];rfl
      ·intro t ht
       show (st.box d _).boxes t=_
       rw [ai,if_neg (fun e=>ht (by rw [e];exact q2))]
    refine ⟨vs',g1,g2,g3,g4,?_⟩
    cases x with
    | inr xs=>exact core _ _ h
    | inl ak=>
     obtain ⟨xs,h1,h2,h3,h4⟩:=h
     refine ⟨xs,h1,h2,fun e=>?_,fun e=>core _ _ (h4 e)⟩
     have:=h3 e
     rw [jL (fun k hk=>by cases hk;exact hp)] at this
     refine hK _ _ ⟨View.Le.refl V,?_,fun t ht=>rfl,this⟩
     intro t ht;rw [dp,if_neg (fun e=>ht (by rw [e];exact hD))]
 | fail=>exact h.elim
 | _=>rcases ht with ht|ht<;>cases ht
theorem qv {h:Hint}{o:Oper}{st:St}{V:View}{K:St->View->Prop}{R W:List Nat}
  (hm:mo (bg LF RF o.op)=true\/(bg LF RF o.op=.call/\m=.none)\/((bg LF RF o.op=.ki/\m=.aV)\/(bg LF RF o.op=.give/\m=.give)\/bg LF RF o.op=.app))
  (hrw:pS (bg LF RF o.op) h (ee o)=some (R,W))(hp:∀t,t∈hJ o.op\/t∈ee o->p t=none)(hq:∀s∈R,q s=none)
  (X9:∀s∈W,q s=none){K':St->View->Prop}(hK:∀s2 V2,Good p q W (ee o) st V K s2 V2->K' s2 V2)(hv:cN P T m h o (ov p q st) V K):cN P T m h o st V K':=by
 have Fi:∀t∈hJ o.op,st.au t=(ov p q st).au t:=fun t ht=>by simp [ov,hp t (.inl ht)]
 rcases hm with hm|hm
 ·obtain ⟨p2,q2,hO⟩:=nf hm hrw hv
  refine hO.again st V _ (View.Le.refl V) Fi (fun s hs=>(cH (hq s hs)).symm) ?_
  refine hK _ _ ⟨View.Le.refl V,fun t ht=>by simp [ov,hO.pd t ht],fun s hs=>by simp [ov,hO.qd s hs],?_⟩
  rw [Bo]
  ·exact hO.next
  ·intro t
   by_cases h:t∈ee o
   ·exact .inl (hp t (.inr h))
   ·exact .inr (hO.pd t h)
  ·intro s
   by_cases h:s∈W
   ·exact .inl (X9 s h)
   ·exact .inr (hO.qd s h)
 ·
  have hval:∀(x:Operand),x∈o.op.operands.toList->(ov p q st).a_ x=st.a_ x:=fun x hx=>Mt fun t e=>hp t (.inl (vG hx e))
  have hdst:∀k,o.dst=some k->p k=none/\k∈ee o:=fun k hk=>by
   have:k∈ee o:=by simp [ee,hk]
   exact ⟨hp k (.inr this),this⟩
  have body:(¬bg LF RF o.op=.app)->∀(hh:∀xs f ss Li args ts,o.op=.call ⟨.value Li,args,ts⟩->bW (ov p q st).a_ args.toList=some xs->(ov p q st).a_ Li=some (.c (.CG f ss)) ->
    m=.none\/((m=.aV\/m=.give)/\(∀s∈reach (ov p q st).boxes 3 (dedup ((xs++uP ss).flatMap SV.ids)),q s=none/\s∈W)/\∀k,o.dst=some k->∀mm,q (eT mm k)=none/\eT mm k∈W)),
    cW P T m o (ov p q st) V K->cW P T m o st V K':=by
   intro happ hh hv
   unfold cW at hv ⊢
   split at hv
   ·rename_i Li args ts hop
    have e1:bW (ov p q st).a_ args.toList=bW st.a_ args.toList:=eo _ fun x hx=>hval x (by rw [hop];simp [Op.operands,Call.operands];exact .inr (by simpa using hx))
    have e2:(ov p q st).a_ Li=st.a_ Li:=hval Li (by rw [hop];simp [Op.operands,Call.operands])
    split at hv
    ·rename_i xs hxs
     split at hv
     ·rename_i f ss hf
      have hmm:=hh _ _ _ _ _ _ hop hxs hf
      rw [e1] at hxs
      rw [e2] at hf
      simp only [hxs,hf]
      exact sH hmm hdst hK hv
     ·exact hv.elim
    ·exact hv.elim
   ·rename_i recv name args ts hop
    have hmn:m=.none:=by
     rw [hop] at hm
     rcases hm with ⟨-,h⟩|⟨h,-⟩|⟨h,-⟩|h
     ·exact h
     ·cases h
     ·cases h
     ·cases h
    have e1:bW (ov p q st).a_ args.toList=bW st.a_ args.toList:=eo _ fun x hx=>hval x (by rw [hop];simp [Op.operands,Call.operands];exact .inr (by simpa using hx))
    have e2:(ov p q st).a_ recv=st.a_ recv:=hval recv (by rw [hop];simp [Op.operands,Call.operands])
    split at hv
    ·rename_i xs hxs
     split at hv
     ·rename_i t v hf
      split at hv
      ·rename_i f JF
       rw [e1] at hxs
       rw [e2] at hf
       simp only [hxs,hf,JF]
       exact sH (.inl hmn) hdst hK hv
      ·exact hv.elim
     ·exact hv.elim
    ·exact hv.elim
   ·rename_i hnc QI
    exfalso
    have hc4:bg LF RF o.op=.call\/bg LF RF o.op=.ki\/bg LF RF o.op=.give:=by
     rcases hm with ⟨h,-⟩|⟨h,-⟩|⟨h,-⟩|h
     ·exact .inl h
     ·exact .inr (.inl h)
     ·exact .inr (.inr h)
     ·exact absurd h happ
    clear hm happ hh
    generalize hop:o.op=op at hc4 hnc QI
    cases op with
    | call c=>
     obtain ⟨Gw,args,ts⟩:=c
     cases Gw with
     | builtin b=>cases b<;>rcases hc4 with h|h|h<;>cases h
     | value f=>exact hnc f args ts rfl
     | invoke r nm=>exact QI r nm args ts rfl
    | _=>rcases hc4 with h|h|h<;>cases h
  have Vs:∀l:List Nat,W=l++ee o++(ee o).map (·+ 200000)->∀k,o.dst=some k->∀mm,q (eT mm k)=none/\eT mm k∈W:=by
   intro l hW k hk mm
   have:eT mm k∈W:=by
    rw [hW]
    have hkd:=(hdst k hk).2
    rcases Ka (m:=mm) (d:=k) with h|h<;>rw [h]<;>simp [hkd]
   exact ⟨X9 _ this,this⟩
  have own:∀l:List Nat,h=.own l->R=l->W=l++ee o++(ee o).map (·+ 200000)->(bg LF RF o.op=.ki\/bg LF RF o.op=.give\/bg LF RF o.op=.app)->(¬bg LF RF o.op=.app->m=.aV\/m=.give)->cN P T m h o st V K':=by
   intro l hh hR hW hcl hmm
   subst hh hR
   unfold cN at hv ⊢
   dsimp only at hv ⊢
   split at hv
   ·rename_i ys hys
    split at hv
    ·rename_i hsub
     have e0:bW (ov p q st).a_ (hE o.op)=bW st.a_ (hE o.op):=eo _ fun x hx=>hval x (vF hx)
     rw [←e0,hys]
     dsimp only
     have hin:∀s∈eH (ov p q st).boxes o.op (ys.flatMap SV.ids),s∈R:=wg.1 hsub
     have e3:eH st.boxes o.op (ys.flatMap SV.ids)=eH (ov p q st).boxes o.op (ys.flatMap SV.ids):=by
      revert hin
      unfold eH
      split
      ·intro hin
       exact mq 3 _ fun s hs=>(cH (hq s (hin s hs))).symm
      ·exact fun _=>rfl
     rw [e3,hsub]
     dsimp only
     have XZ:∀s∈R,s∈W:=fun s hs=>by rw [hW];simp [hs]
     by_cases happ:bg LF RF o.op=.app
     ·
      have hop:∃args ts,o.op=.call ⟨.builtin .append,args,ts⟩:=by
       generalize o.op=op at happ
       cases op with
       | call c=>
        obtain ⟨Gw,args,ts⟩:=c
        cases Gw with
        | builtin b=>cases b<;>first|exact ⟨args,ts,rfl⟩|cases happ
        | value f=>cases f with
         | func f=>simp only [bg] at happ;split at happ<;>(try split at happ)<;>(try split at happ)<;>(try split at happ)<;>cases happ
         | _=>cases happ
        | _=>cases happ
       | _=>cases happ
      obtain ⟨args,ts,hop⟩:=hop
      have e4:aI T st.a_ st.boxes o.op=aI T (ov p q st).a_ (ov p q st).boxes o.op/\∀s,Aw (aI T st.a_ st.boxes o.op)=some s->s∈R:=by
       have e5:bW (ov p q st).a_ args.toList=bW st.a_ args.toList:=by rw [hop] at e0;exact e0
       have U1:bW st.a_ args.toList=some ys:=by rw [hop] at hys;rw [←e5];exact hys
       have hin':∀s∈ys.flatMap SV.ids,s∈R:=by
        intro s hs
        refine hin s ?_
        rw [hop]
        simp only [eH]
        exact eI 3 _ s (bO.2 hs)
       rw [hop]
       simp only [aI]
       rw [e5,U1]
       exact Mz (fun s hs=>by rw [cH (hq s (hin' s hs))]) hin'
      have hvb:sR (aI T (ov p q st).a_ (ov p q st).boxes o.op) o.dst (ov p q st) V K:=by
       unfold cW at hv
       rw [hop] at hv ⊢
       exact hv
      have hgoal:sR (aI T st.a_ st.boxes o.op) o.dst st V K'->cW P T m o st V K':=by
       intro h
       unfold cW
       rw [hop] at h ⊢
       exact h
      rw [←e4.1] at hvb
      refine hgoal ?_
      have htag:∀Q0,aI T st.a_ st.boxes o.op=Q0->di Q0=6\/Q0=.fail:=by
       intro Q0 hQ
       rw [←hQ,hop]
       exact Kx
      generalize ZX:aI T st.a_ st.boxes o.op=Q0 at hvb e4
      exact BK (htag Q0 ZX) (fun s hs=>⟨hq s (e4.2 s hs),XZ s (e4.2 s hs)⟩) (fun k hk=>⟨hdst k hk,fun s=>by
       have:=Vs R hW k hk (some s)
       exact this⟩) (fun k hk=>Vs R hW k hk Option.none) hK hvb
     ·have hmode:=hmm happ
      refine body happ (fun xs f ss Li args ts hop hxs hf=>.inr ⟨hmode,fun s hs=>?_,Vs R hW⟩) hv
      have:s∈R:=by
       apply hin
       rw [hop] at hys ⊢
       simp only [eH]
       have hy:ys.flatMap SV.ids=(xs++uP ss).flatMap SV.ids:=by
        have:∀(l:List Operand)(xs:List SV)(x:Operand)(v:SV),bW (ov p q st).a_ l=some xs->(ov p q st).a_ x=some v->bW (ov p q st).a_ (l++[x])=some (xs++[v]):=by
         intro l
         induction l with
         | nil=>intro xs x v h1 h2;simp only [bW,Option.some.injEq] at h1;subst h1;simp [bW,h2]
         | cons o r ih=>
          intro xs x v h1 h2
          simp only [bW] at h1
          split at h1
          ·rename_i y l' h3 h4
           cases h1
           simp only [List.cons_append,bW,h3,ih _ x v h4 h2]
          ·cases h1
        simp only [hE] at hys
        rw [this _ _ _ _ hxs hf] at hys
        cases hys
        simp only [List.flatMap_append]
        congr 1
        simp [uP,SV.ids,C.ids,List.flatMap_map]
       rw [hy]
       exact hs
      exact ⟨hq s this,XZ s this⟩
    ·exact hv.elim
   ·exact hv.elim
  rcases hm with ⟨hc,hm⟩|⟨hc,hm⟩|⟨hc,hm⟩|hc
  ·rw [hc] at hrw
   cases h with
   | own l=>cases hrw
   | free=>exact body (by rw [hc];exact fun h=>by cases h) (fun _ _ _ _ _ _ _ _ _=>.inl hm) hv
  ·rw [hc] at hrw
   cases h with
   | free=>cases hrw
   | own l=>
    simp only [pS,Option.some.injEq,Prod.mk.injEq] at hrw
    exact own l rfl hrw.1.symm hrw.2.symm (.inl hc) (fun _=>.inl hm)
  ·rw [hc] at hrw
   cases h with
   | free=>cases hrw
   | own l=>
    simp only [pS,Option.some.injEq,Prod.mk.injEq] at hrw
    exact own l rfl hrw.1.symm hrw.2.symm (.inr (.inl hc)) (fun _=>.inr hm)
  ·rw [hc] at hrw
   cases h with
   | free=>cases hrw
   | own l=>
    simp only [pS,Option.some.injEq,Prod.mk.injEq] at hrw
    exact own l rfl hrw.1.symm hrw.2.symm (.inr (.inr hc)) (fun h=>absurd hc h)
end Go.bM
namespace Go.bM
variable {P:Program} {T:df} {LF RF:List Nat}
def xj (ops:Array Oper)(o:Oper)(st:St)(k:St->Bool->Prop):Prop:=
 match o.guard with
 | none=>k st true
 | some (j,b)=>match (ops[j]?).bind (·.dst) with
  | none=>False
  | some g=>match st.au g with
   | some (.c .tt)=>k st b
   | some (.c .ff)=>k st (!b)
   | some (.c (.v (.bool c)))=>(c=true->k (st.put (some g) (.c .tt)) b)/\(c=false->k (st.put (some g) (.c .ff)) (!b))
   | some (.oP _)=>k st false
   | _=>False
def lF (P:Program)(T:df)(m:CM)(h:Hint)(o:Oper)(V:View)(K:St->View->Prop)(st:St)(w:Bool):Prop:=
 match w with
 | true=>cN P T m h o st V K
 | false=>K (st.put o.dst iZ) V
theorem BJ {m:CM}{h:Hint}{ops:Array Oper}{o:Oper}{st:St}{V:View}{K:St->View->Prop} :
  qg P T m h ops o st V K↔xj ops o st (lF P T m h o V K):=by
 unfold qg xj
 cases hg:o.guard with
 | none=>rfl
 | some jb=>
  obtain ⟨j,b⟩:=jb
  dsimp only
  cases hd:(ops[j]?).bind (·.dst) with
  | none=>rfl
  | some g=>
   dsimp only
   split<;>simp_all<;>cases b<;>rfl
def iT:Nat->Option aQ:=fun _=>none
structure Tl (ops:Array Oper) (o:Oper) (st:St) (k:St->Bool->Prop) (p:Nat->Option SV) (w:Bool):Prop where
 pd:∀t,t∉dO ops o->p t=none
 next:k (ov p iT st) w
 again:∀(st2:St)(k2:St->Bool->Prop),(∀t∈dO ops o,st2.au t=st.au t)->k2 (ov p iT st2) w->xj ops o st2 k2
theorem fq {ops:Array Oper}{o:Oper}{st:St}{k:St->Bool->Prop}(h:xj ops o st k):∃p w,Tl ops o st k p w:=by
 unfold xj at h
 split at h
 ·rename_i hg
  exact ⟨fun _=>none,true,fun _ _=>rfl,h,fun st2 k2 _ hk=>by unfold xj;rw [hg];exact hk⟩
 ·rename_i j b hg
  split at h
  ·exact h.elim
  ·rename_i g hd
   have hgt:dO ops o=[g]:=by simp only [dO,hg,hd]
   split at h
   ·rename_i hs
    exact ⟨fun _=>none,b,fun _ _=>rfl,h,fun st2 k2 ha hk=>by unfold xj;simp only [hg,hd,ha g (by simp [hgt]),hs];exact hk⟩
   ·rename_i hs
    exact ⟨fun _=>none,!b,fun _ _=>rfl,h,fun st2 k2 ha hk=>by unfold xj;simp only [hg,hd,ha g (by simp [hgt]),hs];exact hk⟩
   ·rename_i c hs
    cases c with
    | true=>
     refine ⟨one (some g) (.c .tt),b,fun t ht=>dK (by intro e;apply ht;rw [hgt];simpa using e.symm),?_,fun st2 k2 ha hk=>?_⟩
     ·have:=h.1 rfl;rw [eL] at this;exact this
     ·unfold xj;simp only [hg,hd,ha g (by simp [hgt]),hs]
      exact ⟨fun _=>by rw [eL];exact hk,fun e=>by cases e⟩
    | false=>
     refine ⟨one (some g) (.c .ff),!b,fun t ht=>dK (by intro e;apply ht;rw [hgt];simpa using e.symm),?_,fun st2 k2 ha hk=>?_⟩
     ·have:=h.2 rfl;rw [eL] at this;exact this
     ·unfold xj;simp only [hg,hd,ha g (by simp [hgt]),hs]
      exact ⟨fun e=>(by cases e),fun _=>by rw [eL];exact hk⟩
   ·rename_i xs hs
    exact ⟨fun _=>none,false,fun _ _=>rfl,h,fun st2 k2 ha hk=>by unfold xj;simp only [hg,hd,ha g (by simp [hgt]),hs];exact hk⟩
   ·exact h.elim
theorem mH {ops:Array Oper}{o:Oper}{st:St}{k k':St->Bool->Prop}(hk:∀s w,k s w->k' s w)(h:xj ops o st k):xj ops o st k':=by
 obtain ⟨p,w,hO⟩:=fq h
 exact hO.again st k' (fun _ _=>rfl) (hk _ _ hO.next)
theorem put_comm {st:St}{d d':Option Nat}{x y:SV}(h:∀k,d=some k->d'≠some k):(st.put d x).put d' y=(st.put d' y).put d x:=by
 cases d with
 | none=>rfl
 | some d=>
  cases d' with
  | none=>rfl
  | some d'=>
   have hne:d≠d':=fun e=>h d rfl (by rw [e])
   simp only [St.put]
   congr 1
   funext t
   by_cases e:t=d
   ·subst e;simp [Nat.beq_refl,dz hne]
   ·simp [dz e]
theorem E9 {ops:Array Oper}{o1 o2:Oper}{st:St}{F:St->Bool->Bool->Prop}(h:xj ops o1 st fun s w1=>xj ops o2 s fun s' w2=>F s' w1 w2) :
  xj ops o2 st fun s w2=>xj ops o1 s fun s' w1=>F s' w1 w2:=by
 by_cases hsh:∃g,dO ops o1=[g]/\dO ops o2=[g]
 ·obtain ⟨g,e1,e2⟩:=hsh
  unfold dO at e1 e2
  split at e1
  ·cases e1
  ·rename_i j1 b1 hg1
   split at e1
   ·rename_i g1 hd1
    cases e1
    split at e2
    ·cases e2
    ·rename_i j2 b2 hg2
     split at e2
     ·rename_i g2 hd2
      cases e2
      unfold xj at h ⊢
      simp only [hg1,hg2,hd1,hd2] at h ⊢
      split at h
      ·rename_i hs;exact h
      ·rename_i hs;exact h
      ·rename_i c hs
       simp only [dp,if_true] at h ⊢
       exact h
      ·rename_i xs hs;exact h
      ·exact h.elim
     ·cases e2
   ·cases e1
 ·obtain ⟨p1,w1,h1⟩:=fq h
  obtain ⟨p2,w2,h2⟩:=fq h1.next
  have Rg:∀o:Oper,dO ops o=[]\/∃g,dO ops o=[g]:=by
   intro o;unfold dO
   split
   ·exact .inl rfl
   ·split
    ·exact .inr ⟨_,rfl⟩
    ·exact .inl rfl
  have hdj:∀t,t∈dO ops o1->t∉dO ops o2:=by
   intro t ht1 ht2
   rcases Rg o1 with e1|⟨g1,e1⟩
   ·rw [e1] at ht1;cases ht1
   ·rcases Rg o2 with e2|⟨g2,e2⟩
    ·rw [e2] at ht2;cases ht2
    ·rw [e1] at ht1;rw [e2] at ht2
     simp at ht1 ht2
     exact hsh ⟨t,by rw [e1,ht1],by rw [e2,ht2]⟩
  refine h2.again st _ (fun t ht=>?_) (h1.again _ _ (fun t ht=>?_) ?_)
  ·show st.au t=(ov p1 iT st).au t
   simp [ov,h1.pd t (fun h=>hdj t h ht)]
  ·show (ov p2 iT st).au t=st.au t
   simp [ov,h2.pd t (hdj t ht)]
  ·have e:ov p1 iT (ov p2 iT st)=ov p2 iT (ov p1 iT st):=Bo (fun t=>by
    by_cases ht:t∈dO ops o1
    ·exact .inr (h2.pd t (hdj t ht))
    ·exact .inl (h1.pd t ht)) (fun _=>.inl rfl)
   show F (ov p1 iT (ov p2 iT st)) w1 w2
   rw [e]
   exact h2.next
theorem ig {o:Oper}{k:Nat}(h:o.dst=some k):k∈ee o:=by simp [ee,h]
theorem Mr {ops:Array Oper}{m1 m2:CM}{h1 h2:Hint}{o1 o2:Oper}{st:St}{V:View}{K:St->View->Prop}
  (hi:indep LF RF ops h1 h2 o1 o2=true)
  (hm:mo (bg LF RF o2.op)=true\/(bg LF RF o2.op=.call/\m2=.none)\/((bg LF RF o2.op=.ki/\m2=.aV)\/(bg LF RF o2.op=.give/\m2=.give)\/bg LF RF o2.op=.app))
  (hv:qg P T m1 h1 ops o1 st V fun st1 V1=>qg P T m2 h2 ops o2 st1 V1 K) :
  qg P T m2 h2 ops o2 st V fun st2 V2=>qg P T m1 h1 ops o1 st2 V2 K:=by
 unfold indep at hi
 simp only [Bool.and_eq_true] at hi
 obtain ⟨⟨⟨⟨⟨hq1,hd1⟩,hd2⟩,hg1⟩,hg2⟩,hrw⟩:=hi
 split at hrw
 ·rename_i R1 W1 R2 W2 hr1 hr2
  simp only [Bool.and_eq_true] at hrw
  obtain ⟨⟨QW,QX⟩,Yc⟩:=hrw
  rw [CR] at hd1 hd2 hg1 hg2 QW QX Yc
  have UC:∀k,o2.dst=some k->o1.dst≠some k:=fun k hk hk'=>hd1 k (ig hk') (by simp [ig hk])
  simp only [BJ] at hv ⊢
  have sa:xj ops o1 st fun s w1=>xj ops o2 s fun s' w2=>lF P T m1 h1 o1 V (fun s'' eO=>lF P T m2 h2 o2 eO K s'' w2) s' w1:=by
   refine mH (fun s w1 hb=>?_) hv
   cases w1 with
   | true=>
    obtain ⟨p,q,hO⟩:=nf hq1 hr1 hb
    obtain ⟨p2,w2,hG⟩:=fq hO.next
    refine hG.again s _ (fun t ht=>?_) ?_
    ·show s.au t=(ov p q s).au t
     simp [ov,hO.pd t (fun h=>hd1 t h (by simp [ht]))]
    ·refine hO.again _ V _ (View.Le.refl V) (fun t ht=>?_) (fun _ _=>rfl) ?_
     ·show (ov p2 iT s).au t=s.au t
      simp [ov,hG.pd t (fun h=>hg2 t h ht)]
     ·rw [Bo (q2:=iT) _ (fun _=>.inr rfl)]
      ·exact hG.next
      ·intro t
       by_cases ht:t∈dO ops o2
       ·exact .inl (hO.pd t (fun h=>hd1 t h (by simp [ht])))
       ·exact .inr (hG.pd t ht)
   | false=>
    simp only [lF] at hb
    obtain ⟨p2,w2,hG⟩:=fq hb
    have hp:∀k,o1.dst=some k->p2 k=none:=fun k hk=>hG.pd k (fun h=>hd1 k (ig hk) (by simp [h]))
    refine hG.again s _ (fun t ht=>?_) ?_
    ·rw [eL]
     simp [ov,dK (d:=o1.dst) (x:=iZ) (t:=t) (fun h=>hd1 t (ig h) (by simp [ht]))]
    ·show lF P T m2 h2 o2 V K ((ov p2 iT s).put o1.dst iZ) w2
     rw [jL hp]
     exact hG.next
  have sb:=E9 sa
  have sc:xj ops o2 st fun s w2=>xj ops o1 s fun s' w1=>lF P T m2 h2 o2 V (fun s'' eO=>lF P T m1 h1 o1 eO K s'' w1) s' w2:=by
   refine mH (fun s w2 hb=>mH (fun s' w1 hb=>?_) hb) sb
   cases w1 with
   | true=>
    obtain ⟨p,q,hO⟩:=nf hq1 hr1 hb
    cases w2 with
    | true=>
     refine qv hm hr2 (fun t ht=>hO.pd t (fun h=>hd1 t h (by rcases ht with ht|ht<;>simp [ht]))) (fun s hs=>hO.qd s (fun h=>QW s h hs)) (fun s hs=>hO.qd s (fun h=>Yc s h hs)) (fun s2 V2 hG=>?_) hO.next
     obtain ⟨g1,g2,g3,g4⟩:=hG
     exact hO.again s2 V2 K g1 (fun t ht=>g2 t (fun h=>hd2 t h (by simp [ht]))) (fun s hs=>g3 s (fun h=>QX s h hs)) g4
    | false=>
     refine hO.again _ V K (View.Le.refl V) (fun t ht=>?_) (fun s _=>by cases o2.dst<;>rfl) ?_
     ·rw [eL]
      simp [ov,dK (d:=o2.dst) (x:=iZ) (t:=t) (fun h=>hd2 t (ig h) (by simp [ht]))]
     ·have:=hO.next
      simp only [lF] at this
      rw [jL (fun k hk=>hO.pd k (fun h=>hd1 k h (by simp [ig hk])))] at this
      exact this
   | false=>
    cases w2 with
    | true=>
     simp only [lF] at hb ⊢
     rw [eL] at hb
     refine qv hm hr2 (fun t ht=>dK (fun e=>hd1 t (ig e) (by rcases ht with ht|ht<;>simp [ht]))) (fun s hs=>rfl) (fun s hs=>rfl) (fun s2 V2 hG=>?_) hb
     have:=hG.2.2.2
     rw [←eL] at this
     exact this
    | false=>
     simp only [lF] at hb ⊢
     rw [put_comm UC]
     exact hb
  refine mH (fun s w2 hb=>?_) sc
  cases w2 with
  | true=>
   simp only [lF] at hb ⊢
   obtain ⟨p,w1,hG⟩:=fq hb
   refine qv hm hr2 (fun t ht=>hG.pd t (fun h=>?_)) (fun _ _=>rfl) (fun _ _=>rfl) (fun s2 V2 ZT=>?_) hG.next
   ·rcases ht with ht|ht
    ·exact hg1 t h ht
    ·exact hd2 t ht (by simp [h])
   ·obtain ⟨g1,g2,g3,g4⟩:=ZT
    exact hG.again s2 _ (fun t ht=>g2 t (fun h=>hd2 t h (by simp [ht]))) g4
  | false=>
   simp only [lF] at hb ⊢
   obtain ⟨p,w1,hG⟩:=fq hb
   refine hG.again _ _ (fun t ht=>?_) ?_
   ·rw [eL]
    simp [ov,dK (d:=o2.dst) (x:=iZ) (t:=t) (fun h=>hd2 t (ig h) (by simp [ht]))]
   ·have:=hG.next
    rw [jL (fun k hk=>hG.pd k (fun h=>hd2 k (ig hk) (by simp [h])))] at this
    exact this
 ·cases hrw
end Go.bM
