import Derived.Test.YtnnbfoejafcdlaaGreatDoorH3
set_option linter.unusedVariables false
open Go.IntKind (i64 u64 u32)
namespace Go.bE
variable {P:Program} {T:cV} {n:Nat} {V0:View} {bC:Ey} {β0:Nat->Nat} {st:St} {β:Nat->Nat} {a:Act} {w:World} {V:View}
theorem Fq {t:TypeId}{name:String}{f:FuncId}(h:Fp P t name=some f)(k:Nat)(v:Value)(w:World):(Go.method (k+1) t v name).run P w=.ok (f,v) w:=by
 unfold Fp at h
 split at h
 ·rename_i i d h1 h2
  split at h
  ·rename_i m hm
   split at h
   ·rename_i f' fs hp hf
    cases h
    have hp':m.path=#[]:=by apply Array.ext';exact hp
    simp only [Go.method,typeInfo,Sem.run_bind,run_program,Result.andThen_ok,h1,hm,Sem.run_pure,hp',follow,hf,receiverAt,aj h2,Place.get]
   ·cases h
  ·cases h
 ·cases h
theorem rO (hT:cV.ok P T)(hM:Mod n V0 bC β0 st β a w V){m:CM}{o:Oper}{K:St->View->Prop}{next:Act->World->Prop}{Q:Exit->Act->World->Prop}
  (hd:∀d,o.dst=some d->d<n)(hv:cO P T m o st V K)
  (hK:∀st' β' a' w' V',Mod n V0 bC β0 st' β' a' w' V'->K st' V'->next a' w'):o.wp P a w next Q:=by
 unfold cO at hv
 split at hv
 ·rename_i Li args ts hop
  split at hv
  ·rename_i xs hxs
   obtain ⟨h1,h2⟩:=fy hM _ _ hxs
   split at hv
   ·rename_i f ss hf
    obtain ⟨hc,dh⟩:=uP (Q:=Q) hM hd hv hK
    have e1:args.map a.eval=(xs.map (SV.den β)).toArray:=by apply Array.ext';rw [Array.toList_map];exact h1
    have e2:aT β (xs++uW ss)=(xs.map (SV.den β)).toArray++(ss.map fun s=>Value.pointer (some ⟨β s,0,none⟩)).toArray:=by
     unfold aT uW
     rw [List.map_append,List.map_map]
     apply Array.ext'
     simp [Function.comp_def,SV.den,C.den]
    have hrun:(execOp a.eval o).run P w=.ok (.enter f (aT β (xs++uW ss))) w:=by
     rw [e2]
     simp only [execOp,hop,resolve,hM.eval hf,SV.den,C.den,Deferred.ofValue,pure_bind,invoke,e1,Array.empty_append]
     exact hc.run _
    unfold Oper.wp
    rw [hrun]
    exact dh
   ·exact hv.elim
  ·exact hv.elim
 ·rename_i recv name args ts hop
  split at hv
  ·rename_i xs hxs
   obtain ⟨h1,h2⟩:=fy hM _ _ hxs
   split at hv
   ·rename_i t v hf
    split at hv
    ·rename_i f JK
     obtain ⟨hc,dh⟩:=uP (Q:=Q) hM hd hv hK
     have e1:args.map a.eval=(xs.map (SV.den β)).toArray:=by apply Array.ext';rw [Array.toList_map];exact h1
     have e2:aT β (.c (.w v)::xs)=#[v]++(xs.map (SV.den β)).toArray:=by
      unfold aT
      apply Array.ext'
      simp [SV.den,C.den]
     have hrun:(execOp a.eval o).run P w=.ok (.enter f (aT β (.c (.w v)::xs))) w:=by
      rw [e2]
      have e3:(#[Value.iface t v]++(xs.map (SV.den β)).toArray).extract 1 (#[Value.iface t v]++(xs.map (SV.den β)).toArray).size=(xs.map (SV.den β)).toArray:=by
       apply Array.ext'
       simp
       exact List.take_of_length_le (by simp)
      have e4:(#[Value.iface t v]++(xs.map (SV.den β)).toArray)[0]?=some (Value.iface t v):=by simp
      simp only [execOp,hop,resolve,hM.eval hf,SV.den,C.den,pure_bind,invoke,e1,e4,e3,callMethod,Sem.run_bind,run_program,Result.andThen_ok,Made.depth]
      rw [Fq JK]
      exact hc.run _
     unfold Oper.wp
     rw [hrun]
     exact dh
    ·exact hv.elim
   ·exact hv.elim
  ·exact hv.elim
 ·exact Dz hT hM hd hv hK
theorem iM (hT:cV.ok P T)(hM:Mod n V0 bC β0 st β a w V){m:CM}{h:Hint}{o:Oper}{K:St->View->Prop}{next:Act->World->Prop}{Q:Exit->Act->World->Prop}
  (hd:∀d,o.dst=some d->d<n)(hv:cH P T m h o st V K)
  (hK:∀st' β' a' w' V',Mod n V0 bC β0 st' β' a' w' V'->K st' V'->next a' w'):o.wp P a w next Q:=by
 unfold cH at hv
 split at hv
 ·exact rO hT hM hd hv hK
 ·split at hv
  ·split at hv
   ·exact rO hT hM hd hv hK
   ·exact hv.elim
  ·exact hv.elim
theorem Mod.refine (hM:Mod n V0 bC β0 st β a w V){g:Nat}{x y:SV}(hx:st.au g=some x)(he:x.den β=y.den β)(hy:y.ids=[]):Mod n V0 bC β0 (st.put (some g) y) β a w V:=by
 refine ⟨hM.defers,hM.size,?_,?_,hM.yO,hM.boxes,hM.inj,hM.oR,hM.tW,hM.ext,hM.own,hM.lJ,hM.kb,hM.small⟩
 ·intro t z hz
  rw [dk] at hz
  split at hz
  ·rename_i e;simp only [Option.some.injEq] at hz;rw [e,←hz,←he];exact hM.au g x hx
  ·exact hM.au t z hz
 ·intro t z hz
  rw [dk] at hz
  split at hz
  ·simp only [Option.some.injEq] at hz;rw [←hz,hy];exact fun s hs=>(nomatch hs)
  ·exact hM.yP t z hz
theorem Gk {ops:Array Oper}{tmps:Array Value}{j g:Nat}(hg:(ops[j]?).bind (·.dst)=some g):yielded ops tmps j=match tmps.getD g undef with|.bool b=>some b|_=>none:=by
 unfold yielded
 rw [hg]
 simp only [Option.bind_some]
 by_cases h:g<tmps.size
 ·have h1:tmps[g]?=some tmps[g]:=getElem?_pos tmps g h
  have h2:tmps.getD g undef=tmps[g]:=by simp [h]
  rw [h1,h2]
  generalize tmps[g]=v
  cases v<;>rfl
 ·simp [h,undef]
theorem Dq (hT:cV.ok P T)(hM:Mod n V0 bC β0 st β a w V){m:CM}{h:Hint}{ops:Array Oper}{o:Oper}{K:St->View->Prop}{next:Act->World->Prop}{Q:Exit->Act->World->Prop}
  (hd:∀d,o.dst=some d->d<n)(hv:qj P T m h ops o st V K)
  (hK:∀st' β' a' w' V',Mod n V0 bC β0 st' β' a' w' V'->K st' V'->next a' w') :
  if Region.wanted o (yielded ops a.tmps) then o.wp P a w next Q else next (a.put o.dst undef) w:=by
 unfold qj at hv
 split at hv
 ·rename_i hg
  rw [if_pos (by simp [Region.wanted,hg])]
  exact iM hT hM hd hv hK
 ·rename_i j b hg
  split at hv
  ·exact hv.elim
  ·rename_i g hdst
   have hy:=Gk (tmps:=a.tmps) hdst
   have hwant:∀c:Bool,a.tmps.getD g undef=.bool c->(Region.wanted o (yielded ops a.tmps)=true↔c=b):=by
    intro c hc
    simp only [Region.wanted,hg]
    rw [hy,hc]
    simp
   have skip:∀{st2:St},Mod n V0 bC β0 st2 β a w V->K (st2.put o.dst ja) V->next (a.put o.dst undef) w:=by
    intro st2 hM2 hK2
    exact hK _ _ _ _ _ (hM2.Fx hd rfl (bO rfl)) hK2
   split at hv
   ·rename_i hs
    have hval:=hM.au g _ hs
    split at hv
    ·rw [if_pos ((hwant true hval).2 rfl)];exact iM hT hM hd hv hK
    ·rw [if_neg (fun h=>by have:=(hwant true hval).1 h;cases this)];exact skip hM hv
   ·rename_i hs
    have hval:=hM.au g _ hs
    split at hv
    ·rw [if_neg (fun h=>by have:=(hwant false hval).1 h;cases this)];exact skip hM hv
    ·rw [if_pos ((hwant false hval).2 rfl)];exact iM hT hM hd hv hK
   ·rename_i c hs
    have hval:=hM.au g _ hs
    have ht:c=true->Mod n V0 bC β0 (st.put (some g) (.c .tt)) β a w V:=fun e=>hM.refine hs (by rw [e];rfl) rfl
    have hf:c=false->Mod n V0 bC β0 (st.put (some g) (.c .ff)) β a w V:=fun e=>hM.refine hs (by rw [e];rfl) rfl
    split at hv
    ·cases c with
     | true=>rw [if_pos ((hwant true hval).2 rfl)];exact iM hT (ht rfl) hd (hv.1 rfl) hK
     | false=>rw [if_neg (fun h=>by have:=(hwant false hval).1 h;cases this)];exact skip (hf rfl) (hv.2 rfl)
    ·cases c with
     | true=>rw [if_neg (fun h=>by have:=(hwant true hval).1 h;cases this)];exact skip (ht rfl) (hv.1 rfl)
     | false=>rw [if_pos ((hwant false hval).2 rfl)];exact iM hT (hf rfl) hd (hv.2 rfl) hK
   ·rename_i xs hs
    have hval:=hM.au g _ hs
    have:Region.wanted o (yielded ops a.tmps)=false:=by
     simp only [Region.wanted,hg]
     rw [hy,hval]
     simp [SV.den]
    rw [if_neg (by rw [this];simp)]
    exact skip hM hv
   ·exact hv.elim
theorem z_ (hT:cV.ok P T){m:Nat->CM}{hint:Nat->Hint}{ops:Array Oper}(hd:∀(i:Nat)(o:Oper),ops[i]?=some o->∀d,o.dst=some d->d<n){Q:Exit->Act->World->Prop}{K:St->View->Prop}
  (hK:∀st' β' a' w' V',Mod n V0 bC β0 st' β' a' w' V'->K st' V'->Q .normal a' w') :
  ∀(l:List Nat)(st:St)(β:Nat->Nat)(a:Act)(w:World)(V:View),Mod n V0 bC β0 st β a w V->KZ P T m hint ops l st V K->wpOps P ops Q l a w
 | [],st,β,a,w,V,hM,hv=>hK _ _ _ _ _ hM hv
 | i::r,st,β,a,w,V,hM,hv=>by
  simp only [KZ] at hv
  simp only [wpOps]
  split at hv
  ·rename_i o ho
   rw [ho]
   dsimp only
   have:=Dq (Q:=Q) (next:=wpOps P ops Q r) hT hM (hd i o ho) hv (fun st' β' a' w' V' hM' vx=>z_ hT hd hK r st' β' a' w' V' hM' vx)
   split at this
   ·rename_i hw;rw [if_pos hw];exact .inl this
   ·rename_i hw;rw [if_neg hw];exact this
  ·exact hv.elim
end Go.bE
namespace Go.bE
def ov (p:Nat->Option SV)(q:Nat->Option aQ)(st:St):St:=
 ⟨fun t=>match p t with|some x=>some x|none=>st.au t,fun t=>match q t with|some x=>some x|none=>st.boxes t⟩
theorem dw {a b:Nat}(h:a≠b):Nat.beq a b=false:=by
 cases hb:Nat.beq a b
 ·rfl
 ·exact absurd (beq_eq.1 hb) h
section
variable {p:Nat->Option SV} {q:Nat->Option aQ} {st:St}
theorem jN {d:Option Nat}{x:SV}(h:∀k,d=some k->p k=none):(ov p q st).put d x=ov p q (st.put d x):=by
 cases d with
 | none=>rfl
 | some d=>
  have hd:=h d rfl
  simp only [ov,St.put]
  congr 1
  funext t
  by_cases e:t=d
  ·subst e;simp [hd,Nat.beq_refl]
  ·simp [dw e]
theorem kY {s:Nat}{b:aQ}(h:q s=none):(ov p q st).box s b=ov p q (st.box s b):=by
 simp only [ov,St.box]
 congr 1
 funext t
 by_cases e:t=s
 ·subst e;simp [h,Nat.beq_refl]
 ·simp [dw e]
theorem cA {s:Nat}(h:q s=none):(ov p q st).boxes s=st.boxes s:=by simp [ov,h]
theorem Mx {x:Operand}(h:∀t,x=.tmp t->p t=none):(ov p q st).aY x=st.aY x:=by
 cases x with
 | tmp t=>simp [St.aY,ov,h t rfl]
 | _=>rfl
def one {α:Type}(d:Option Nat)(x:α):Nat->Option α:=fun t=>match d with|some k=>cond (Nat.beq t k) (some x) none|none=>none
theorem dH {α:Type}{d:Option Nat}{x:α}{t:Nat}(h:d≠some t):one d x t=none:=by
 cases d with
 | none=>rfl
 | some k=>simp [one,dw (fun e:t=k=>h (by rw [e]))]
theorem eK (d:Option Nat)(x:SV):st.put d x=ov (one d x) (fun _=>none) st:=by
 cases d with
 | none=>rfl
 | some d=>
  simp only [ov,St.put,one]
  congr 1
  funext t
  by_cases e:t=d
  ·subst e;simp [Nat.beq_refl]
  ·simp [dw e]
theorem EH (s:Nat)(b:aQ):st.box s b=ov (fun _=>none) (one (some s) b) st:=by
 simp only [ov,St.box,one]
 congr 1
 funext t
 by_cases e:t=s
 ·subst e;simp [Nat.beq_refl]
 ·simp [dw e]
theorem zk (s:Nat)(b:aQ)(d:Option Nat)(x:SV):(st.box s b).put d x=ov (one d x) (one (some s) b) st:=by
 rw [eK,EH];rfl
end
theorem dZ {ρ ρ':Operand->Option SV}:∀l:List Operand,(∀x∈l,ρ x=ρ' x)->bS ρ l=bS ρ' l
 | [],_=>rfl
 | o::r,h=>by simp only [bS];rw [h o (by simp),dZ r fun x hx=>h x (by simp [hx])]
theorem jO {ρ ρ':Operand->Option SV}:∀l:List (Nat×Operand),(∀x∈l.map (·.2),ρ x=ρ' x)->partsOf ρ l=partsOf ρ' l
 | [],_=>rfl
 | (i,o)::r,h=>by simp only [partsOf];rw [h o (by simp),jO r fun x hx=>h x (by simp only [List.map_cons,List.mem_cons];exact .inr hx)]
theorem ou {ρ ρ':Operand->Option SV}:∀l:Option Operand,(∀x,l=some x->ρ x=ρ' x)->Bo ρ l=Bo ρ' l
 | none,_=>rfl
 | some o,h=>by simp only [Bo];rw [h o rfl]
theorem mq {T:cV}{ρ ρ':Operand->Option SV}{bx:Nat->Option aQ}{op:Op}(h:∀x∈op.operands.toList,ρ x=ρ' x):aJ T ρ bx op=aJ T ρ' bx op:=by
 cases op with
 | move x=>simp only [aJ];rw [h x (by simp [Op.operands])]
 | assign x=>simp only [aJ];rw [h x (by simp [Op.operands])]
 | pick c a b=>simp only [aJ];rw [h c (by simp [Op.operands]),h a (by simp [Op.operands]),h b (by simp [Op.operands])]
 | box t x=>simp only [aJ];rw [h x (by simp [Op.operands])]
 | build t ps=>simp only [aJ];rw [jO _ fun x hx=>h x (by simpa [Op.operands] using hx)]
 | buildSlice t n ps=>simp only [aJ];rw [jO _ fun x hx=>h x (by simpa [Op.operands] using hx)]
 | load t a=>simp only [aJ];rw [h a (by simp [Op.operands])]
 | store t a x=>simp only [aJ];rw [h a (by simp [Op.operands]),h x (by simp [Op.operands])]
 | nilCheck x=>simp only [aJ];rw [h x (by simp [Op.operands])]
 | binOp o xt x y yt=>simp only [aJ];rw [h x (by simp [Op.operands]),h y (by simp [Op.operands])]
 | unOp o xt x=>cases o<;>simp only [aJ]<;>rw [h x (by simp [Op.operands])]
 | convert s d x=>simp only [aJ];rw [h x (by simp [Op.operands])]
 | makeFunc fn first caps=>
  cases fn with
  | func f=>simp only [aJ];rw [dZ _ fun x hx=>h x (by simp [Op.operands];exact .inr (by simpa using hx))]
  | _=>rfl
 | makeSlice t a b=>simp only [aJ];rw [h a (by simp [Op.operands]),h b (by simp [Op.operands])]
 | slice t x lo hi mx=>
  simp only [aJ]
  rw [h x (by simp [Op.operands]),ou lo fun y hy=>h y (by simp [Op.operands,hy]),ou hi fun y hy=>h y (by simp [Op.operands,hy]),ou mx fun y hy=>h y (by simp [Op.operands,hy])]
 | fieldAddr t x f=>simp only [aJ];rw [h x (by simp [Op.operands])]
 | field t x f=>simp only [aJ];rw [h x (by simp [Op.operands])]
 | indexAddr t x i=>simp only [aJ];rw [h x (by simp [Op.operands]),h i (by simp [Op.operands])]
 | extract x j=>simp only [aJ];rw [h x (by simp [Op.operands])]
 | index t x i=>simp only [aJ];rw [h x (by simp [Op.operands]),h i (by simp [Op.operands])]
 | makeInterface t x=>simp only [aJ];rw [h x (by simp [Op.operands])]
 | call c=>
  obtain ⟨Gw,args,ts⟩:=c
  cases Gw with
  | builtin b=>
   have e:bS ρ args.toList=bS ρ' args.toList:=dZ _ fun x hx=>h x (by simpa [Op.operands,Call.operands] using hx)
   cases b<;>simp only [aJ]<;>rw [e]
  | _=>rfl
 | _=>rfl
theorem Kw {T:cV}{LF RF:List Nat}{ρ:Operand->Option SV}{bx bx':Nat->Option aQ}{op:Op}(h:bf LF RF op=.pure\/bf LF RF op=.alloc):aJ T ρ bx op=aJ T ρ bx' op:=by
 cases op with
 | load t a=>rcases h with h|h<;>cases h
 | store t a x=>rcases h with h|h<;>cases h
 | unOp o xt x=>cases o<;>rfl
 | makeFunc fn first caps=>cases fn<;>rfl
 | call c=>
  obtain ⟨Gw,args,ts⟩:=c
  cases Gw with
  | builtin b=>cases b<;>first|rfl|(rcases h with h|h<;>cases h)
  | _=>rfl
 | _=>rfl
theorem Ky {bx bx':Nat->Option aQ}{i:TI}{x:SV}(h:∀s∈x.ids,bx' s=bx s):iY bx i x=iY bx' i x:=by
 unfold iY
 split
 ·rename_i b o
  rw [h b (by simp [SV.ids,C.ids])]
 ·rfl
 ·rfl
theorem Io {bx bx':Nat->Option aQ}{i:TI}{x y:SV}(h:∀s∈x.ids,bx' s=bx s):gH bx i x y=gH bx' i x y:=by
 unfold gH
 split
 ·rename_i b o
  rw [h b (by simp [SV.ids,C.ids])]
 ·rfl
theorem FE {bx:Nat->Option aQ}{i:TI}{x y:SV}{sc:List Prop}{s:Nat}{b:aQ}(h:gH bx i x y=.sW sc s b):s∈x.ids:=by
 unfold gH at h
 split at h
 ·split at h
  ·split at h
   ·split at h
    ·cases h;simp [SV.ids,C.ids]
    ·cases h
   ·split at h
    ·cases h;simp [SV.ids,C.ids]
    ·cases h
   ·split at h
    ·cases h
    ·split at h
     ·cases h;simp [SV.ids,C.ids]
     ·cases h
   ·cases h
  ·cases h
 ·cases h
theorem Bx {V:View}{p:Addr}:∀(cs:List C) (i:Nat) {k:Prop},V.MJ p i cs k↔V.MJ p i cs True/\k
 | [],_,k=>by simp [View.MJ]
 | c::r,i,k=>by
  simp only [View.MJ]
  rw [Bx r (i+1),and_assoc]
theorem KC {V V':View}(h:V.Le V'){p:Addr}:∀(cs:List C) (i:Nat) {k:Prop},V.MJ p i cs k->V'.MJ p i cs k
 | [],_,_,hk=>hk
 | c::r,i,_,hk=>⟨h.at hk.1,KC h r (i+1) hk.2⟩
theorem pR {V:View}{p:OA}{x:SV}{k:Prop}:V.Ln p x k↔V.Ln p x True/\k:=by
 cases x with
 | c c=>simp [View.Ln]
 | agg cs=>
  simp only [View.Ln]
  constructor
  ·rintro ⟨a,h1,h2⟩;rw [Bx] at h2;exact ⟨⟨a,h1,h2.1⟩,h2.2⟩
  ·rintro ⟨⟨a,h1,h2⟩,hk⟩;exact ⟨a,h1,by rw [Bx];exact ⟨h2,hk⟩⟩
 | oQ xs=>simp [View.Ln]
theorem O5 {V V':View}(h:V.Le V'){p:OA}{x:SV}{k:Prop}(hk:V.Ln p x k):V'.Ln p x k:=by
 cases x with
 | c c=>obtain ⟨⟨a,h1,h2⟩,h3⟩:=hk;exact ⟨⟨a,h1,h.at h2⟩,h3⟩
 | agg cs=>obtain ⟨a,h1,h2⟩:=hk;exact ⟨a,h1,KC h _ _ h2⟩
 | oQ xs=>exact hk
theorem xi.split:∀(s:xi) {F:C->Prop},s.ex F->∃x,F x/\∀G:C->Prop,G x->s.ex G
 | .int _,_,⟨_,h⟩=>⟨_,h,fun _ g=>⟨_,g⟩⟩
 | .bool,_,⟨_,h⟩=>⟨_,h,fun _ g=>⟨_,g⟩⟩
 | .slice,_,⟨_,_,_,h⟩=>⟨_,h,fun _ g=>⟨_,_,_,g⟩⟩
 | .ptr,_,⟨_,h⟩=>⟨_,h,fun _ g=>⟨_,g⟩⟩
 | .str,_,⟨_,h⟩=>⟨_,h,fun _ g=>⟨_,g⟩⟩
 | .any,_,⟨_,h⟩=>⟨_,h,fun _ g=>⟨_,g⟩⟩
theorem mZ:∀(l:List xi) {F:List C->Prop},Ol l F->∃x,F x/\∀G:List C->Prop,G x->Ol l G
 | [],_,h=>⟨_,h,fun _ g=>g⟩
 | s::r,_,h=>by
  obtain ⟨c,h1,h2⟩:=xi.split s h
  obtain ⟨cs,h3,h4⟩:=mZ r h1
  exact ⟨c::cs,h3,fun G g=>h2 _ (h4 _ g)⟩
theorem uh.split:∀(s:uh) {F:SV->Prop},s.ex F->∃x,F x/\∀G:SV->Prop,G x->s.ex G
 | .one s,_,h=>by obtain ⟨c,h1,h2⟩:=xi.split s h;exact ⟨.c c,h1,fun G g=>h2 _ g⟩
 | .agg l,_,h=>by obtain ⟨c,h1,h2⟩:=mZ l h;exact ⟨.agg c,h1,fun G g=>h2 _ g⟩
theorem qO:∀(l:List uh) {F:List (Bool×List C)->Prop},PA l F->∃x,F x/\∀G:List (Bool×List C)->Prop,G x->PA l G
 | [],_,h=>⟨_,h,fun _ g=>g⟩
 | .one s::r,_,h=>by
  obtain ⟨c,h1,h2⟩:=xi.split s h
  obtain ⟨cs,h3,h4⟩:=qO r h1
  exact ⟨_,h3,fun G g=>h2 _ (h4 _ g)⟩
 | .agg l::r,_,h=>by
  obtain ⟨c,h1,h2⟩:=mZ l h
  obtain ⟨cs,h3,h4⟩:=qO r h1
  exact ⟨_,h3,fun G g=>h2 _ (h4 _ g)⟩
theorem Sh.split:∀(s:Sh) {F:SV->Prop},s.ex F->∃x,F x/\∀G:SV->Prop,G x->s.ex G
 | .val s,_,h=>uh.split s h
 | .oQ l,_,h=>by obtain ⟨x,h1,h2⟩:=qO l h;exact ⟨_,h1,fun G g=>h2 _ g⟩
 | .none,_,h=>⟨_,h,fun _ g=>g⟩
theorem Sh.mono {s:Sh}{F G:SV->Prop}(h:s.ex F)(k:∀x,F x->G x):s.ex G:=by
 obtain ⟨x,h1,h2⟩:=s.split h
 exact h2 G (k x h1)
theorem wi {l m:List Nat}:KS l m=true↔∀x∈l,x∈m:=by
 simp only [KS,List.all_eq_true,cf]
theorem vJ {op:Op}{x:Operand}(h:x∈op.operands.toList){t:Nat}(e:x=.tmp t):t∈ic op:=by
 subst e
 exact List.mem_filterMap.2 ⟨_,h,rfl⟩
theorem ni {st st2:St}{op:Op}(h:∀t∈ic op,st2.au t=st.au t){x:Operand}(hx:x∈op.operands.toList):st2.aY x=st.aY x:=by
 cases x with
 | tmp t=>exact h t (vJ hx rfl)
 | _=>rfl
theorem vI {op:Op}{x:Operand}(h:x∈ib op):x∈op.operands.toList:=by
 unfold ib at h
 split at h
 ·simpa [Op.operands] using h
 ·simp at h;subst h;simp [Op.operands]
 ·simp only [Op.operands,Call.operands]
  simp at h ⊢
  rcases h with h|h
  ·exact .inr h
  ·exact .inl h
 ·simpa [Op.operands,Call.operands] using h
 ·cases h
theorem re {ρ:Operand->Option SV}:∀{l:List Operand} {xs:List SV},bS ρ l=some xs->∀x∈l,∃v,ρ x=some v/\v∈xs
 | [],_,_,_,hx=>nomatch hx
 | o::r,xs,h,x,hx=>by
  simp only [bS] at h
  split at h
  ·rename_i v l h1 h2
   cases h
   rcases List.mem_cons.1 hx with e|hx
   ·exact ⟨v,by rw [e];exact h1,by simp⟩
   ·obtain ⟨u,hu,hm⟩:=re h2 x hx
    exact ⟨u,hu,by simp [hm]⟩
  ·cases h
structure Outcome (P:Program) (T:cV) (m:CM) (h:Hint) (o:Oper) (st:St) (V:View) (R W:List Nat) (K:St->View->Prop) (p:Nat->Option SV) (q:Nat->Option aQ):Prop where
 pd:∀t,t∉dX o->p t=none
 qd:∀s,s∉W->q s=none
 next:K (ov p q st) V
 again:∀(st2:St)(V2:View)(K2:St->View->Prop),V.Le V2->(∀t∈ic o.op,st2.au t=st.au t)->(∀s∈R,st2.boxes s=st.boxes s)->K2 (ov p q st2) V2->cH P T m h o st2 V2 K2
variable {P:Program} {T:cV} {LF RF:List Nat} {m:CM}
theorem AW {o:Oper}{t:Nat}(h:t∉dX o):o.dst≠some t:=by
 intro e;apply h;simp [dX,e]
theorem M5 {o:Oper}{st:St}{V:View}{K:St->View->Prop}{R W:List Nat}{Q0:Q}
  (hnew:∀sc b x,Q0=.new sc b x->dX o=W/\dX o=R)(UD:∀sc s b,Q0=.sW sc s b->s∈W)(happ:df Q0≠6)
  (hv:sZ Q0 o.dst st V K) :
  ∃p q,(∀t,t∉dX o->p t=none)/\(∀s,s∉W->q s=none)/\K (ov p q st) V /\
   ∀(st2:St)(V2:View)(K2:St->View->Prop),V.Le V2->(∀s∈R,st2.boxes s=st.boxes s)->K2 (ov p q st2) V2->sZ Q0 o.dst st2 V2 K2:=by
 cases Q0 with
 | fail=>exact hv.elim
 | ret sc x=>
  obtain ⟨h1,h2⟩:=(dE sc _).1 hv
  refine ⟨one o.dst x,fun _=>none,fun t ht=>dH (AW ht),fun _ _=>rfl,by rw [←eK];exact h2,?_⟩
  intro st2 V2 K2 _ _ hK
  exact (dE sc _).2 ⟨h1,by rw [eK];exact hK⟩
 | new sc b x=>
  obtain ⟨e1,e2⟩:=hnew _ _ _ rfl
  simp only [sZ] at hv ⊢
  cases hd:o.dst with
  | none=>rw [hd] at hv;exact hv.elim
  | some d=>
   have hdl:dX o=[d]:=by simp [dX,hd]
   rw [hd] at hv
   dsimp only at hv ⊢
   split at hv
   ·rename_i hn
    obtain ⟨h1,h2⟩:=(dE sc _).1 hv
    refine ⟨one (some d) (x d),one (some d) b,fun t ht=>dH (by intro e;apply ht;rw [hdl];simpa using e.symm),fun s hs=>dH (by intro e;apply hs;rw [←e1,hdl];simpa using e.symm),by rw [←zk];exact h2,?_⟩
    intro st2 V2 K2 _ hR hK
    rw [hR d (by rw [←e2,hdl];simp),hn]
    exact (dE sc _).2 ⟨h1,by rw [zk];exact hK⟩
   ·exact hv.elim
 | sW sc s b=>
  simp only [sZ] at hv ⊢
  cases hd:o.dst with
  | some d=>rw [hd] at hv;exact hv.elim
  | none=>
   rw [hd] at hv
   dsimp only at hv ⊢
   obtain ⟨h1,h2⟩:=(dE sc _).1 hv
   refine ⟨fun _=>none,one (some s) b,fun _ _=>rfl,fun t ht=>dH (by intro e;apply ht;have:=UD _ _ _ rfl;simp at e;rw [←e];exact this),by rw [←EH];exact h2,?_⟩
   intro st2 V2 K2 _ _ hK
   exact (dE sc _).2 ⟨h1,by rw [EH];exact hK⟩
 | rd a sh=>
  obtain ⟨x,h1,h2⟩:=sh.split hv
  obtain ⟨h3,h4⟩:=pR.1 h1
  refine ⟨one o.dst x,fun _=>none,fun t ht=>dH (AW ht),fun _ _=>rfl,by rw [←eK];exact h4,?_⟩
  intro st2 V2 K2 hle _ hK
  exact h2 _ (pR.2 ⟨O5 hle h3,by rw [eK];exact hK⟩)
 | nO vs of size sh=>
  obtain ⟨x,h1,h2⟩:=sh.split hv
  refine ⟨one o.dst x,fun _=>none,fun t ht=>dH (AW ht),fun _ _=>rfl,by rw [←eK];exact h1.2,?_⟩
  intro st2 V2 K2 hle _ hK
  exact h2 _ ⟨h1.1,by rw [eK];exact hK⟩
 | app a b c d e f g i j=>exact absurd rfl happ
 | qY a b c d e f g i=>exact absurd rfl happ
theorem vW {o:Oper}(h:mr (bf LF RF o.op)=true)(st:St)(V:View)(K:St->View->Prop):cO P T m o st V K=sZ (aJ T st.aY st.boxes o.op) o.dst st V K:=by
 unfold cO
 split
 ·rename_i f args ts hop
  rw [hop] at h
  exfalso
  cases f with
  | func f=>
   simp only [bf] at h
   split at h
   ·split at h<;>cases h
   ·split at h
    ·cases h
    ·split at h<;>cases h
  | _=>cases h
 ·rename_i recv name args ts hop
  rw [hop] at h
  cases h
 ·rfl
theorem oB {ρ:Operand->Option SV}{bx:Nat->Option aQ}{op:Op}:df (aJ T ρ bx op)=2->bf LF RF op=.alloc:=by
 have fY:∀{q:Q} {X:Prop},df q<=1->df q=2->X:=by intro q X h h';omega
 unfold aJ
 split
 case h_8=>
  split
  ·intro h;rcases rk (bx:=bx) with h'|h'|h'|h'<;>(rw [h'] at h;cases h)
  ·exact fY (Nat.zero_le _)
 case h_9=>
  split
  ·intro h;rcases oE (bx:=bx) with h'|h'<;>(rw [h'] at h;cases h)
  ·exact fY (Nat.zero_le _)
 case h_11=>
  split
  ·split
   ·split
    ·exact fY qc
    ·exact fY (Nat.zero_le _)
   ·exact fY qc
  ·exact fY (Nat.zero_le _)
 case h_17=>exact fun _=>rfl
 case h_18=>
  split
  ·split
   ·split
    ·exact fY wj
    ·exact fY (Nat.zero_le _)
   ·exact fY (Nat.zero_le _)
  ·exact fY (Nat.zero_le _)
 case h_21=>
  split
  ·exact fY mE
  ·exact fY (Nat.zero_le _)
 case h_23 c=>
  split
  ·intro h
   exfalso
   split at h<;>(try split at h)<;>(try split at h)<;>(try split at h)<;>first|(rcases mD (bx:=bx) with h'|h'<;>(rw [h'] at h;cases h))|cases h
  ·split
   ·intro h;rcases oD (T:=T) (bx:=bx) with h'|h'<;>(rw [h'] at h;cases h)
   ·exact fY (Nat.zero_le _)
  ·split
   ·split
    ·exact fY qe
    ·exact fY (Nat.zero_le _)
   ·exact fY (Nat.zero_le _)
  ·exact fY (Nat.zero_le _)
 all_goals
  first
  | exact fun _=>rfl
  | exact fY (Nat.zero_le _)
  | ((repeat' split)<;>first|exact fY (Nat.zero_le _)|exact fY (Nat.le_refl _)|exact fY nQ|(unfold vU;(repeat' split)<;>first|exact fY (Nat.zero_le _)|exact fY (Nat.le_refl _)))
theorem zS {st st2:St}{op:Op}(h:∀t∈ic op,st2.au t=st.au t):bS st2.aY (ib op)=bS st.aY (ib op):=
 dZ _ fun _ hx=>ni h (vI hx)
theorem nk {h:Hint}{o:Oper}{st:St}{V:View}{K:St->View->Prop}{R W:List Nat}(hq:mr (bf LF RF o.op)=true)(hrw:pV (bf LF RF o.op) h (dX o)=some (R,W))
  (hv:cH P T m h o st V K):∃p q,Outcome P T m h o st V R W K p q:=by
 have core:(∀st2:St,(∀t∈ic o.op,st2.au t=st.au t)->(∀s∈R,st2.boxes s=st.boxes s)->aJ T st2.aY st2.boxes o.op=aJ T st.aY st.boxes o.op) ->
   (∀sc b x,aJ T st.aY st.boxes o.op=.new sc b x->dX o=W/\dX o=R)->(∀sc s b,aJ T st.aY st.boxes o.op=.sW sc s b->s∈W) ->
   (∀(st2:St)(V2:View)(K2:St->View->Prop),(∀t∈ic o.op,st2.au t=st.au t)->cO P T m o st2 V2 K2->cH P T m h o st2 V2 K2) ->
   cO P T m o st V K->∃p q,Outcome P T m h o st V R W K p q:=by
  intro he hn hu hb hv
  rw [vW hq] at hv
  obtain ⟨p,q,h1,h2,h3,h4⟩:=M5 (R:=R) (W:=W) hn hu (fun hQ=>by
   obtain ⟨cl,hop,pD⟩:=(fA (T:=T) (ρ:=st.aY) (bx:=st.boxes) (op:=o.op)).2.2 hQ
   rw [hop] at hq
   obtain ⟨Gw,args,ts⟩:=cl
   dsimp only at pD
   subst pD
   cases hq) hv
  refine ⟨p,q,h1,h2,h3,fun st2 V2 K2 hle hsl hbx hK=>?_⟩
  refine hb st2 V2 K2 hsl ?_
  rw [vW hq,he st2 hsl hbx]
  exact h4 st2 V2 K2 hle hbx hK
 have Br:bf LF RF o.op=.pure\/bf LF RF o.op=.alloc->h=.free->(bf LF RF o.op=.alloc->R=dX o/\W=dX o)->∃p q,Outcome P T m h o st V R W K p q:=by
  intro hc hf hd
  subst hf
  refine core (fun st2 hs _=>?_) (fun sc b x hQ=>?_) (fun sc s b hQ=>?_) (fun _ _ _ _ hb=>hb) hv
  ·rw [Kw (bx':=st.boxes) hc]
   exact mq fun x hx=>ni hs hx
  ·have:=hd (oB (by rw [hQ];rfl));exact ⟨this.2.symm,this.1.symm⟩
  ·rcases (fA (T:=T) (ρ:=st.aY) (bx:=st.boxes) (op:=o.op)).1 (by rw [hQ];rfl) with ⟨t,y,x,hop⟩|⟨⟨Gw,args,ts⟩,hop,pD⟩
   ·rw [hop] at hc
    rcases hc with hc|hc<;>cases hc
   ·dsimp only at pD
    subst pD
    rw [hop] at hc
    rcases hc with hc|hc<;>cases hc
 generalize hc:bf LF RF o.op=c at hrw hq Br
 cases c with
 | pure=>
  cases h with
  | free=>exact Br (.inl rfl) rfl (fun e=>by cases e)
  | own l=>cases hrw
 | alloc=>
  cases h with
  | free=>
   simp only [pV,Option.some.injEq,Prod.mk.injEq] at hrw
   exact Br (.inr rfl) rfl (fun _=>⟨hrw.1.symm,hrw.2.symm⟩)
  | own l=>cases hrw
 | load=>
  cases h with
  | free=>cases hrw
  | own l=>
   simp only [pV,Option.some.injEq,Prod.mk.injEq] at hrw
   obtain ⟨rfl,rfl⟩:=hrw
   have hop:∃t a,o.op=.load t a:=by
    generalize o.op=op at hc
    cases op with
    | load t a=>exact ⟨t,a,rfl⟩
    | call c=>obtain ⟨Gw,args,ts⟩:=c;cases Gw with
     | builtin b=>cases b<;>cases hc
     | value f=>cases f with
      | func f=>simp only [bf] at hc;split at hc<;>(try split at hc)<;>(try split at hc)<;>(try split at hc)<;>cases hc
      | _=>cases hc
     | _=>cases hc
    | _=>cases hc
   obtain ⟨t,a,hop⟩:=hop
   unfold cH at hv
   dsimp only at hv
   split at hv
   ·rename_i xs hxs
    split at hv
    ·rename_i hsub
     have fF:∀v,st.aY a=some v->∀s∈v.ids,s∈l:=by
      intro v vx s hs
      rw [wi] at hsub
      apply hsub
      rw [hop] at hxs
      obtain ⟨u,hu,hm⟩:=re hxs a (by simp [ib])
      rw [hop]
      simp only [eC]
      rw [vx] at hu
      cases hu
      exact List.mem_flatMap.2 ⟨_,hm,hs⟩
     refine core (fun st2 hs hb=>?_) (fun sc b x hQ=>?_) (fun sc s b hQ=>?_) (fun st2 V2 K2 hs hb=>?_) hv
     ·rw [hop] at hs ⊢
      rw [mq (ρ':=st.aY) fun x hx=>ni hs hx]
      simp only [aJ]
      split
      ·rename_i i v hi IP
       exact (Ky fun s hs'=>hb s (fF v IP s hs')).symm
      ·rfl
     ·have:=oB (LF:=LF) (RF:=RF) (op:=o.op) (T:=T) (ρ:=st.aY) (bx:=st.boxes) (by rw [hQ];rfl)
      rw [hop] at this;cases this
     ·rcases (fA (T:=T) (ρ:=st.aY) (bx:=st.boxes) (op:=o.op)).1 (by rw [hQ];rfl) with ⟨t,y,x,hop'⟩|⟨c,hop',-⟩<;>(rw [hop] at hop';cases hop')
     ·unfold cH
      dsimp only
      rw [zS hs,hxs]
      dsimp only
      have:eC st2.boxes o.op (xs.flatMap SV.ids)=eC st.boxes o.op (xs.flatMap SV.ids):=by rw [hop];rfl
      rw [this,hsub]
      exact hb
    ·exact hv.elim
   ·exact hv.elim
 | store=>
  cases h with
  | free=>cases hrw
  | own l=>
   simp only [pV,Option.some.injEq,Prod.mk.injEq] at hrw
   obtain ⟨rfl,rfl⟩:=hrw
   have hop:∃t a x,o.op=.store t a x:=by
    generalize o.op=op at hc
    cases op with
    | store t a x=>exact ⟨t,a,x,rfl⟩
    | call c=>obtain ⟨Gw,args,ts⟩:=c;cases Gw with
     | builtin b=>cases b<;>cases hc
     | value f=>cases f with
      | func f=>simp only [bf] at hc;split at hc<;>(try split at hc)<;>(try split at hc)<;>(try split at hc)<;>cases hc
      | _=>cases hc
     | _=>cases hc
    | _=>cases hc
   obtain ⟨t,a,y,hop⟩:=hop
   unfold cH at hv
   dsimp only at hv
   split at hv
   ·rename_i xs hxs
    split at hv
    ·rename_i hsub
     have fF:∀v,st.aY a=some v->∀s∈v.ids,s∈l:=by
      intro v vx s hs
      rw [wi] at hsub
      apply hsub
      rw [hop] at hxs
      obtain ⟨u,hu,hm⟩:=re hxs a (by simp [ib])
      rw [hop]
      simp only [eC]
      rw [vx] at hu
      cases hu
      exact List.mem_flatMap.2 ⟨_,hm,hs⟩
     refine core (fun st2 hs hb=>?_) (fun sc b x hQ=>?_) (fun sc s b hQ=>?_) (fun st2 V2 K2 hs hb=>?_) hv
     ·rw [hop] at hs ⊢
      rw [mq (ρ':=st.aY) fun x hx=>ni hs hx]
      simp only [aJ]
      split
      ·rename_i i v w hi IP hw
       exact (Io fun s hs'=>hb s (fF v IP s hs')).symm
      ·rfl
     ·have:=oB (LF:=LF) (RF:=RF) (op:=o.op) (T:=T) (ρ:=st.aY) (bx:=st.boxes) (by rw [hQ];rfl)
      rw [hop] at this;cases this
     ·rw [hop] at hQ
      simp only [aJ] at hQ
      split at hQ
      ·rename_i i v w hi IP hw
       exact fF v IP s (FE hQ)
      ·cases hQ
     ·unfold cH
      dsimp only
      rw [zS hs,hxs]
      dsimp only
      have:eC st2.boxes o.op (xs.flatMap SV.ids)=eC st.boxes o.op (xs.flatMap SV.ids):=by rw [hop];rfl
      rw [this,hsub]
      exact hb
    ·exact hv.elim
   ·exact hv.elim
 | _=>cases hq
end Go.bE
namespace Go.bE
variable {P:Program} {T:cV} {LF RF:List Nat} {m:CM}
def Good (p:Nat->Option SV)(q:Nat->Option aQ)(W D:List Nat)(st:St)(V:View)(K:St->View->Prop):St->View->Prop:=
 fun st2 V2=>V.Le V2/\(∀t,t∉D->st2.au t=st.au t)/\(∀s,s∉W->st2.boxes s=st.boxes s)/\K (ov p q st2) V2
theorem oU {bx bx':Nat->Option aQ}:∀{l:List Nat},(∀s∈l,bx' s=bx s)->l.flatMap (kF bx')=l.flatMap (kF bx)
 | [],_=>rfl
 | s::r,h=>by
  simp only [List.flatMap_cons]
  rw [oU fun s hs=>h s (by simp [hs])]
  simp only [kF]
  rw [h s (by simp)]
theorem mu {bx bx':Nat->Option aQ}:∀(n:Nat)(l:List Nat),(∀s∈reach bx n l,bx' s=bx s)->reach bx' n l=reach bx n l
 | 0,_,_=>rfl
 | n+1,l,h=>by
  have hl:∀s∈l,bx' s=bx s:=fun s hs=>h s (eE (n+1) l s hs)
  simp only [reach] at h ⊢
  rw [oU hl]
  exact mu n _ h
theorem xM {bx bx':Nat->Option aQ}{l:List Nat}(h:∀s∈l,bx' s=bx s):gN bx' l=gN bx l:=by
 unfold gN
 rw [Bool.eq_iff_iff,List.all_eq_true,List.all_eq_true]
 constructor
 ·intro g s hs;have:=g s hs;simp only [kF] at this ⊢;rw [h s hs] at this;exact this
 ·intro g s hs;have:=g s hs;simp only [kF] at this ⊢;rw [h s hs];exact this
theorem iG:∀{L:List Nat} {β:Nat->Nat} {k k':(Nat->Nat)->Prop},(∀β,k β->k' β)->lI L β k->lI L β k'
 | [],_,_,_,h,g=>h _ g
 | _::_,_,_,_,h,g=>fun b=>iG h (g b)
theorem vO {bx bx':Nat->Option aQ}{b:aQ}{β:Nat->Nat}{s:Nat}:∀{r:List Nat} {k k':Prop},(∀t∈r,bx' t=bx t)->(k->k')->NC bx b β s r k->NC bx' b β s r k'
 | [],_,_,_,h,g=>h g
 | t::r,k,k',hb,h,g=>by
  have hr:=fun t ht=>hb t (List.mem_cons_of_mem _ ht)
  simp only [NC] at g ⊢
  rw [hb t (by simp)]
  cases hbq:Nat.beq s t with
  | true=>rw [hbq] at g;exact vO hr h g
  | false=>
   rw [hbq] at g
   simp only [cond_false] at g ⊢
   split at g
   ·exact fun hn=>vO hr h (g hn)
   ·exact g
theorem iV {bx bx':Nat->Option aQ}{β:Nat->Nat}{V:View}:∀{L:List Nat} {k k':Prop},(∀s∈L,bx' s=bx s)->((∀s∈L,∃b,bx s=some b/\(b.live->V.H (β s)))->k->k')->ik bx β V L k->ik bx' β V L k'
 | [],_,_,_,h,g=>h (fun s hs=>absurd hs (by simp)) g
 | s::r,k,k',hb,h,g=>by
  have hr:=fun t ht=>hb t (List.mem_cons_of_mem _ ht)
  simp only [ik] at g ⊢
  rw [hb s (by simp)]
  split at g
  ·rename_i b hbs
   refine fun h1 h2=>iV hr (fun hf=>vO hr (fun hk=>h (fun t ht=>?_) hk)) (g h1 h2)
   rcases List.mem_cons.1 ht with rfl|ht
   ·exact ⟨b,hbs,fe.1 h2⟩
   ·exact hf t ht
  ·exact g
theorem jv {mv:Option (Nat×Nat)}:∀{cs zs:List C} {K K':List C->Prop},(∀c,K c->K' c)->kT mv cs zs K->kT mv cs zs K'
 | [],_,_,_,h,g=>h _ g
 | _::_,[],_,_,_,g=>g.elim
 | c::r,z::zr,K,K',h,g=>by
  simp only [kT] at g ⊢
  split at g
  ·split at g
   ·split at g
    ·obtain ⟨n,c,g⟩:=g
     exact ⟨n,c,jv (fun cs hk=>h _ hk) g⟩
    ·exact g.elim
   ·exact g.elim
  ·split at g
   ·obtain ⟨v,h1,h2⟩:=xi.split _ g
    rename_i hc
    rw [hc] at *
    exact h2 _ (jv (fun cs hk=>h _ hk) h1)
   ·exact jv (fun cs hk=>h _ hk) g
variable {p:Nat->Option SV} {q:Nat->Option aQ}
theorem jx {mv:Option (Nat×Nat)}{β:Nat->Nat}{V:View}{W:List Nat}:∀{L:List Nat} {st:St} {k k':St->Prop},(∀s∈L,q s=none/\s∈W) ->
  (∀st',(∀t,st'.au t=st.au t)->(∀s,s∉W->st'.boxes s=st.boxes s)->k (ov p q st')->k' st')->dY T mv β V L (ov p q st) k->dY T mv β V L st k'
 | [],st,k,k',_,h,g=>h st (fun _=>rfl) (fun _ _=>rfl) g
 | s::r,st,k,k',hq,h,g=>by
  obtain ⟨OE,QF⟩:=hq s (by simp)
  have hr:∀s∈r,q s=none/\s∈W:=fun s hs=>hq s (by simp [hs])
  have Oq:∀b:aQ,∀k1:St->Prop,(∀st',k1 st'=k st')->dY T mv β V r ((ov p q st).box s b) k1->dY T mv β V r (st.box s b) k':=by
   intro b k1 hk1 g
   rw [kY OE] at g
   refine jx hr (fun st' h1 h2 hk=>h st' h1 (fun s' hs'=>?_) (by rw [←hk1];exact hk)) g
   rw [h2 s' hs',ai,if_neg (fun e=>hs' (by rw [e];exact QF))]
  simp only [dY] at g ⊢
  rw [cA OE] at g
  split at g
  ·rename_i cs ty hb
   split at g
   ·rename_i i hi
    exact jv (fun cs' hk=>⟨hk.1,Oq _ _ (fun _=>rfl) hk.2⟩) g
   ·exact g
  ·obtain ⟨vs,h1,h2⟩:=g
   exact ⟨vs,h1,Oq _ _ (fun _=>rfl) h2⟩
  ·obtain ⟨h0,vs,h3,h1,h2⟩:=g
   exact ⟨h0,vs,h3,h1,Oq _ _ (fun _=>rfl) h2⟩
  ·exact g
theorem tY (V:View)(l:List Nat):V.Le (V.cG l):=fun _ _ h=>h
theorem GS (V:View):V.Le V.shut:=fun _ _ h=>h
theorem JX {V V' eN:View}{P:Prop}{b:Nat}(h:V.Le eN)(h':V.Le V')(hb:P->V'.w.heap.size<=b\/V'.H b):V.Le (eN.shut.mf P b):=by
 intro x o hx
 obtain ⟨h1,h2⟩:=h x o hx
 obtain ⟨h3,h4⟩:=h' x o hx
 refine ⟨fun hh=>?_,h2⟩
 rcases hh with hh|⟨hp,e,-⟩
 ·exact h1 hh
 ·subst e
  rcases hb hp with h5|h5
  ·have:=aE h4;omega
  ·exact h3 h5
theorem J9 {m:Option Nat}{d:Nat}:eU m d=d\/eU m d=d+200000:=by
 cases m with
 | none=>exact .inl rfl
 | some m=>
  simp only [eU,nC]
  cases Nat.blt m 100000 with
  | true=>exact .inl rfl
  | false=>exact .inr rfl
theorem oq {give:Bool}{sh:Sh}{L:List Nat}{mm:Option Nat}{d:Nat}{ety:TypeId}{β:Nat->Nat}{st:St}{V V' eN:View}{K K':St->View->Prop}{W D:List Nat}{r':Value}
  (hL:∀s∈L,q s=none/\s∈W)(hm:∀k,mm=some k->k∈L)(hp:p d=none/\d∈D)(hq:q (eU mm d)=none/\eU mm d∈W)(hV:V.Le V')(hV2:V.Le eN)
  (hlv:∀s∈L,∃b,st.boxes s=some b/\(b.live->V'.H (β s)))(hK:∀s2 V2,Good p q W D st V K s2 V2->K' s2 V2)
  (h:cj T give sh L mm d ety β (ov p q st) V' K r' eN):cj T give sh L mm d ety β st V' K' r' eN:=by
 unfold cj at h ⊢
 obtain ⟨b',vs',h1,h2,h3⟩:=h
 have h2':vs'≠[]->V'.w.heap.size<=b'\/xd mm st β b':=by
  intro hne
  refine (h2 hne).imp id fun h=>?_
  unfold xd at h ⊢
  cases mm with
  | none=>exact h
  | some k=>
   dsimp only at h ⊢
   rw [cA (hL k (hm k rfl)).1] at h
   exact h
 have qS:vs'≠[]->V'.w.heap.size<=b'\/V'.H b':=by
  intro hne
  refine (h2' hne).imp id fun h=>?_
  unfold xd at h
  cases mm with
  | none=>exact h.elim
  | some k=>
   dsimp only at h
   obtain ⟨b0,hb0,hHk⟩:=hlv k (hm k rfl)
   rw [hb0] at h
   obtain ⟨cs,ty⟩:=b0
   cases cs with
   | lit cs=>have h:b'=β k:=h;rw [h];exact hHk cL
   | row cs=>have h:b'=β k:=h;rw [h];exact hHk cd
   | a_ vs=>have h:vs≠[]/\b'=β k:=h;rw [h.2];exact hHk (fw h.1)
 refine ⟨b',vs',h1,h2',Sh.mono h3 fun x hx=>⟨hx.1,?_⟩⟩
 have e1:(pC mm ety (ov p q st)).box (eU mm d) ⟨.a_ vs',ety⟩=ov p q ((pC mm ety st).box (eU mm d) ⟨.a_ vs',ety⟩):=by
  cases mm with
  | none=>exact kY hq.1
  | some k=>
   simp only [pC]
   rw [kY (hL k (hm k rfl)).1,kY hq.1]
 have hx2:=hx.2
 rw [e1] at hx2
 have hsub:∀s∈GU mm L,q s=none/\s∈W:=by
  intro s hs
  cases mm with
  | none=>exact hL s hs
  | some k=>exact hL s (vL.1 hs).1
 refine jx hsub (fun st' g1 g2 hk=>?_) hx2
 rw [jN (fun k hk=>by cases hk;exact hp.1)] at hk
 refine hK _ _ ⟨JX hV2 hV qS,?_,?_,hk⟩
 ·intro t ht
  rw [dk,if_neg (fun e=>ht (by rw [e];exact hp.2)),g1]
  cases mm<;>rfl
 ·intro s hs
  show st'.boxes s=_
  rw [g2 s hs,ai,if_neg (fun e=>hs (by rw [e];exact hq.2))]
  cases mm with
  | none=>rfl
  | some k=>simp only [pC];rw [ai,if_neg (fun e=>hs (by rw [e];exact (hL k (hm k rfl)).2))]
theorem J2 {bx:Nat->Option aQ}{L:List Nat}(hcl:gN bx L=true):∀k,k∈pO bx L->k∈L:=by
 intro k hk
 unfold pO at hk
 obtain ⟨s,hs,hk⟩:=List.mem_flatMap.1 (bK.1 hk)
 split at hk
 ·rename_i cs ty hb
  refine gS hcl hs hb k ?_
  have:∀cs:List C,k∈ot cs->k∈cs.flatMap C.ids:=by
   intro cs
   induction cs with
   | nil=>exact fun h=>nomatch h
   | cons c r ih=>
    intro h
    rw [List.flatMap_cons,List.mem_append]
    cases c<;>simp only [ot,List.mem_cons] at h<;>first
     | exact .inr (ih h)
     | (rcases h with h|h
        ·left;simp [C.ids,h]
        ·exact .inr (ih h))
  exact this cs hk
 ·cases hk
theorem vi {xs:List SV}:∀k,k∈kV xs->k∈xs.flatMap SV.ids:=by
 intro k
 induction xs with
 | nil=>exact fun h=>nomatch h
 | cons x r ih=>
  intro h
  rw [List.flatMap_cons,List.mem_append]
  unfold kV at h
  split at h
  ·rename_i heq;cases heq
  ·rename_i s n c r' heq;cases heq;exact .inl h
  ·rename_i s n c r' heq;cases heq;exact .inl h
  ·cases h
  ·rename_i heq;cases heq;exact .inr (ih h)
theorem sk {bx bx':Nat->Option aQ}{L:List Nat}(h:∀s∈L,bx' s=bx s):pO bx' L=pO bx L:=by
 unfold pO
 congr 1
 induction L with
 | nil=>rfl
 | cons s r ih=>simp only [List.flatMap_cons];rw [h s (by simp),ih fun s hs=>h s (by simp [hs])]
theorem iy {st:St}{mm:Option Nat}{d:Nat}(h:q (eU mm d)=none):jM (ov p q st) mm d=jM st mm d:=by
 unfold jM;rw [cA h]
theorem rZ {bx bx':Nat->Option aQ}{β:Nat->Nat}{N:Nat}{L:List Nat}(h:∀s∈L,bx' s=bx s):L.map (dG bx' β N)=L.map (dG bx β N):=
 List.map_congr_left fun s hs=>by unfold dG;rw [h s hs]
theorem iD {f:FuncId}{xs:List SV}{ty:TypeId}{dst:Option Nat}{st:St}{V:View}{K:St->View->Prop}{W D:List Nat}
  (hm:m=.none\/((m=.cG\/m=.give)/\(∀s∈reach (ov p q st).boxes 3 (dedup (xs.flatMap SV.ids)),q s=none/\s∈W)/\∀k,dst=some k->∀mm,q (eU mm k)=none/\eU mm k∈W))(hd:∀k,dst=some k->p k=none/\k∈D)
  {K':St->View->Prop}(hK:∀s2 V2,Good p q W D st V K s2 V2->K' s2 V2)(hv:fj P T m f xs ty dst (ov p q st) V K):fj P T m f xs ty dst st V K':=by
 have hput:∀(st':St)(x:SV),(∀t,st'.au t=st.au t)->∀t,t∉D->(st'.put dst x).au t=st.au t:=by
  intro st' x h t ht
  cases dst with
  | none=>exact h t
  | some d=>rw [dk,if_neg (fun e=>ht (by rw [e];exact (hd d rfl).2))];exact h t
 have hbx:∀(st':St)(x:SV),(st'.put dst x).boxes=st'.boxes:=by intro st' x;cases dst<;>rfl
 unfold fj at hv ⊢
 split at hv
 ·exact hv.elim
 ·rename_i sh hsh
  have hre:∀L,reach (ov p q st).boxes 3 (dedup (xs.flatMap SV.ids))=L->(∀s∈L,q s=none)->reach st.boxes 3 (dedup (xs.flatMap SV.ids))=L:=by
   intro L hL ZO
   rw [←hL]
   exact mu 3 _ fun s hs=>(cA (ZO s (by rw [←hL];exact hs))).symm
  have Nv:∀s∈xs.flatMap SV.ids,s∈reach (ov p q st).boxes 3 (dedup (xs.flatMap SV.ids)):=fun s hs=>eE 3 _ s (bK.2 hs)
  generalize hr:reach (ov p q st).boxes 3 (dedup (xs.flatMap SV.ids))=L at hv hm Nv
  cases L with
  | nil=>
   rw [hre _ hr (fun s hs=>nomatch hs)]
   have plain:(∀V':View,V.Le V'->ab P f (aT (fun _=>0) xs) V' fun r eN=>sh.ex fun x=>r=x.den (fun _=>0)/\K ((ov p q st).put dst x) eN) ->
     ∀V':View,V.Le V'->ab P f (aT (fun _=>0) xs) V' fun r eN=>sh.ex fun x=>r=x.den (fun _=>0)/\K' (st.put dst x) eN:=by
    intro hv V' hV'
    refine (hv V' hV').mono fun r eN hle hk=>Sh.mono hk fun x hx=>⟨hx.1,?_⟩
    have h2:=hx.2
    rw [jN (fun k hk=>(hd k hk).1)] at h2
    exact hK _ _ ⟨hV'.trans hle,hput st x fun _=>rfl,fun s _=>by rw [hbx],h2⟩
   rcases hm with rfl|⟨rfl|rfl,-,hnb⟩
   ·exact plain hv
   ·exact plain hv
   ·dsimp only at hv ⊢
    split at hv
    ·rename_i d ety hgt
     rw [iy (hnb d rfl Option.none).1] at hv
     split at hv
     ·exact hv.elim
     ·rename_i hfree
      intro V' hV'
      refine (hv V' hV').mono fun r eN hle hk=>?_
      exact oq (W:=W) (D:=D) (fun s hs=>absurd hs (by simp)) (fun k hk=>by cases hk) (hd d rfl) (hnb d rfl Option.none) hV' (hV'.trans hle) (fun s hs=>absurd hs (by simp)) hK hk
    ·exact hv.elim
  | cons s r=>
   dsimp only at hv
   split at hv
   ·exact hv.elim
   ·rename_i hcl
    have cG:m=.cG\/m=.give->(∀t∈s::r,q t=none/\t∈W)->(∀k,dst=some k->∀mm,q (eU mm k)=none/\eU mm k∈W) ->
      ∀{give:Bool} {mm:Option Nat} {d:Nat} {ety:TypeId},dst=some d->(∀k,mm=some k->k∈s::r) ->
      (∀V':View,V.Le V'->lI (s::r) (fun _=>0) fun β=>ik (ov p q st).boxes β V' (s::r) (ab P f (aT β xs) (V'.cG ((s::r).map (dG (ov p q st).boxes β V'.w.heap.size))) (cj T give sh (s::r) mm d ety β (ov p q st) V' K))) ->
      ∀V':View,V.Le V'->lI (s::r) (fun _=>0) fun β=>ik st.boxes β V' (s::r) (ab P f (aT β xs) (V'.cG ((s::r).map (dG st.boxes β V'.w.heap.size))) (cj T give sh (s::r) mm d ety β st V' K')):=by
     intro _ hmm hnb give mm d ety hdst Ux hv V' hV'
     have CR:∀t∈s::r,st.boxes t=(ov p q st).boxes t:=fun t ht=>(cA (hmm t ht).1).symm
     refine iG (fun β hb=>?_) (hv V' hV')
     rw [rZ (bx:=(ov p q st).boxes) CR]
     refine iV (bx:=(ov p q st).boxes) CR (fun hH hfn=>?_) hb
     refine hfn.mono fun r' eN hle hk=>?_
     have hle2:V.Le eN:=(hV'.trans (tY V' _)).trans hle
     exact oq hmm Ux (hd d hdst) (hnb d hdst mm) hV' hle2 (fun t ht=>by rw [CR t ht];exact hH t ht) hK hk
    have base:m=.cG\/m=.give->(∀t∈s::r,q t=none/\t∈W)/\(∀k,dst=some k->∀mm,q (eU mm k)=none/\eU mm k∈W):=by
     intro h
     rcases hm with rfl|⟨-,h1,h2⟩
     ·rcases h with h|h<;>cases h
     ·exact ⟨h1,h2⟩
    have W0:(∀t∈s::r,q t=none/\t∈W)->gN st.boxes (s::r)=true:=fun hmm=>by
     rw [xM (bx:=(ov p q st).boxes) (fun t ht=>(cA (hmm t ht).1).symm)];exact hcl
    split at hv
    ·exact hv.elim
    ·exact hv.elim
    ·
     obtain ⟨hmm,hnb⟩:=base (.inr rfl)
     rw [hre _ hr (fun t ht=>(hmm t ht).1)]
     dsimp only
     rw [W0 hmm]
     dsimp only
     have hmv:=sk (bx:=(ov p q st).boxes) (bx':=st.boxes) (L:=s::r) (fun t ht=>(cA (hmm t ht).1).symm)
     rw [hmv]
     split at hv
     ·rename_i d ety h1 h2 h3
      rw [iy (hnb d rfl _).1] at hv
      split at hv
      ·exact hv.elim
      ·rename_i hfree
       exact cG (.inr rfl) hmm hnb rfl (fun k hk=>by cases hk) hv
     ·rename_i d ety k h1 h2 h3
      rw [iy (hnb d rfl _).1] at hv
      split at hv
      ·exact hv.elim
      ·rename_i hfree
       exact cG (.inr rfl) hmm hnb rfl (fun j hj=>by cases hj;exact Nv k (vi k (by rw [h2];simp))) hv
     ·exact hv.elim
    ·
     obtain ⟨hmm,hnb⟩:=base (.inl rfl)
     rw [hre _ hr (fun t ht=>(hmm t ht).1)]
     dsimp only
     rw [W0 hmm]
     dsimp only
     have CR:∀t∈s::r,st.boxes t=(ov p q st).boxes t:=fun t ht=>(cA (hmm t ht).1).symm
     have hmv:=sk (bx:=(ov p q st).boxes) (bx':=st.boxes) (L:=s::r) CR
     rw [hmv]
     split at hv
     ·intro V' hV'
      refine iG (fun β hb=>?_) (hv V' hV')
      rw [rZ (bx:=(ov p q st).boxes) CR]
      refine iV (bx:=(ov p q st).boxes) CR (fun _ hfn=>?_) hb
      refine hfn.mono fun r' eN hle hk=>Sh.mono hk fun x hx=>⟨hx.1,?_⟩
      refine jx hmm (fun st' h1 h2 hk=>?_) hx.2
      rw [jN (fun k hk=>(hd k hk).1)] at hk
      exact hK _ _ ⟨((hV'.trans (tY V' _)).trans hle).trans (GS _),hput st' x h1,fun t ht=>by rw [hbx];exact h2 t ht,hk⟩
     ·rename_i k hk
      have Oy:k∈s::r:=J2 hcl k (by rw [hk];simp)
      have hty:kc st.boxes k=kc (ov p q st).boxes k:=by unfold kc;rw [CR k Oy]
      rw [hty]
      split at hv
      ·rename_i d ety hbt
       rw [iy (hnb d rfl _).1] at hv
       split at hv
       ·exact hv.elim
       ·rename_i hfree
        exact cG (.inl rfl) hmm hnb rfl (fun j hj=>by cases hj;exact Oy) hv
      ·exact hv.elim
     ·exact hv.elim
    ·rcases hm with h|h
     ·cases h
     ·rcases h.1 with h|h<;>cases h
theorem DC {bx:Nat->Option aQ}:∀(n:Nat) {l l':List Nat},(∀x∈l,x∈l')->∀x∈reach bx n l,x∈reach bx n l'
 | 0,_,_,h,x,hx=>h x hx
 | n+1,l,l',h,x,hx=>by
  simp only [reach] at hx ⊢
  refine DC n (fun y hy=>?_) x hx
  rw [bK,List.mem_append] at hy ⊢
  rcases hy with hy|hy
  ·exact .inl (h y hy)
  ·obtain ⟨z,hz,hy⟩:=List.mem_flatMap.1 hy
   exact .inr (List.mem_flatMap.2 ⟨z,h z hz,hy⟩)
theorem sK {f:FuncId}{xs:List SV}{ty:TypeId}{dst:Option Nat}{st:St}{V:View}{K:St->View->Prop}{W D:List Nat}
  (hm:m=.none\/((m=.cG\/m=.give)/\(∀s∈reach (ov p q st).boxes 3 (dedup (xs.flatMap SV.ids)),q s=none/\s∈W)/\∀k,dst=some k->∀mm,q (eU mm k)=none/\eU mm k∈W))(hd:∀k,dst=some k->p k=none/\k∈D)
  {K':St->View->Prop}(hK:∀s2 V2,Good p q W D st V K s2 V2->K' s2 V2)(hv:jU P T m f xs ty dst (ov p q st) V K):jU P T m f xs ty dst st V K':=by
 have hm0:=hm
 cases m with
 | cG=>
  obtain ⟨h1,h2⟩:(∀s∈reach (ov p q st).boxes 3 (dedup (xs.flatMap SV.ids)),q s=none/\s∈W)/\∀k,dst=some k->∀mm,q (eU mm k)=none/\eU mm k∈W:=by
   rcases hm with h|⟨-,h1,h2⟩
   ·cases h
   ·exact ⟨h1,h2⟩
  unfold jU at hv ⊢
  dsimp only at hv ⊢
  rw [pZ (bx:=st.boxes) (bx':=(ov p q st).boxes) (fun s hs=>cA (h1 s (eE 3 _ s (bK.2 hs))).1)] at hv
  split at hv
  ·rename_i vs c xs' e
   exact ⟨fun he=>⟨(hv.1 he).1,iD (.inr ⟨.inl rfl,fun s hs=>h1 s (DC 3 (fun x hx=>bK.2 (wh e x (bK.1 hx))) s hs),h2⟩) hd hK (hv.1 he).2⟩,fun he=>iD hm0 hd hK (hv.2 he)⟩
  ·exact iD hm0 hd hK hv
 | _=>exact iD hm0 hd hK hv
theorem Bp {p2:Nat->Option SV}{q2:Nat->Option aQ}{st:St}(hp:∀t,p t=none\/p2 t=none)(hq:∀t,q t=none\/q2 t=none):ov p q (ov p2 q2 st)=ov p2 q2 (ov p q st):=by
 unfold ov
 congr 1
 ·funext t
  dsimp only
  rcases hp t with h|h<;>rw [h]
 ·funext t
  dsimp only
  rcases hq t with h|h<;>rw [h]
def As:Q->Option Nat
 | .app old _ _ _ _ _ _ _ _=>old
 | .qY s _ _ _ _ _ _ _=>some s
 | _=>none
def G7 (T:cV)(bx:Nat->Option aQ)(l:Option (List SV))(ts:List TypeId):Q:=
 match l,ts with
 | some [b,x],[t,t']=>match aC T t,aC T t' with
  | some i,some i'=>match i.k,i'.k with
   | .slice e,.slice _=>match aC T e with
    | some ei=>bX bx e ei b x
    | none=>.fail
   | _,_=>.fail
  | _,_=>.fail
 | _,_=>.fail
def At (bx:Nat->Option aQ)(sz:Nat)(x:SV):Option (OA×Nat ⊕ List Value):=
 match x with
 | .c (.v (.slice a k _))=>some (.inl (a,k))
 | .c (.lR s o k _)=>match bx s with
  | some ⟨.row ws,_⟩=>some (.inr (jC ws o (k*sz)))
  | _=>match ef bx s with
   | some ws=>if Nat.ble (o+k*sz) ws.length then some (.inr ((ws.drop o).take (k*sz))) else none
   | none=>none
 | _=>none
def Gt (bx:Nat->Option aQ)(e:TypeId)(ei:TI)(b:SV)(src:OA×Nat ⊕ List Value):Q:=
 match b with
 | .c (.v (.slice a n c))=>.app none a [] n c src ei.size ei.bytes e
 | .c (.lR s 0 n c)=>match ef bx s,kc bx s with
  | some vs,some ty=>if Nat.beq ty e then .app (some s) none vs n c src ei.size ei.bytes e else .fail
  | _,_=>.fail
 | .c (.jY s n c)=>match bx s with
  | some ⟨.a_ vs,ty⟩=>if Nat.beq ty e then .qY s vs n c src ei.size ei.bytes e else .fail
  | _=>.fail
 | _=>.fail
theorem vT {bx:Nat->Option aQ}{e:TypeId}{ei:TI}{b x:SV}:bX bx e ei b x=match ky ei.zero with
  | none=>.fail
  | some zs=>if Nat.beq ei.bytes 0||Nat.beq ei.size 0||!(Nat.beq ei.size zs.length) then .fail else match At bx ei.size x with
   | none=>.fail
   | some src=>Gt bx e ei b src:=rfl
theorem Hv {bx bx':Nat->Option aQ}{sz:Nat}{x:SV}:(∀s∈x.ids,bx' s=bx s)->At bx sz x=At bx' sz x:=by
 unfold At
 split
 ·exact fun _=>rfl
 ·intro h;unfold ef;rw [h _ (by simp [SV.ids,C.ids])]
 ·exact fun _=>rfl
theorem I3 {bx bx':Nat->Option aQ}{e:TypeId}{ei:TI}{b:SV}{src:OA×Nat ⊕ List Value}:(∀s∈b.ids,bx' s=bx s)->Gt bx e ei b src=Gt bx' e ei b src:=by
 unfold Gt
 split
 ·exact fun _=>rfl
 ·intro h;unfold ef kc;rw [h _ (by simp [SV.ids,C.ids])]
 ·intro h;rw [h _ (by simp [SV.ids,C.ids])]
 ·exact fun _=>rfl
theorem Fy {bx bx':Nat->Option aQ}{e:TypeId}{ei:TI}{b x:SV}(h:∀s∈b.ids++x.ids,bx' s=bx s):bX bx e ei b x=bX bx' e ei b x:=by
 rw [vT,vT,Hv fun s hs=>h s (List.mem_append_right _ hs)]
 have:=fun src=>I3 (bx:=bx) (bx':=bx') (e:=e) (ei:=ei) (b:=b) (src:=src) fun s hs=>h s (List.mem_append_left _ hs)
 simp only [this]
theorem Dw {bx:Nat->Option aQ}{e:TypeId}{ei:TI}{b x:SV}:∀s,As (bX bx e ei b x)=some s->s∈b.ids:=by
 intro s h
 unfold bX at h
 split at h
 ·cases h
 ·split at h
  ·cases h
  ·dsimp only at h
   split at h
   ·cases h
   ·split at h
    ·cases h
    ·split at h
     ·split at h
      ·cases h;simp [SV.ids,C.ids]
      ·cases h
     ·cases h
    ·split at h
     ·split at h
      ·cases h;simp [SV.ids,C.ids]
      ·cases h
     ·cases h
    ·cases h
theorem ME {bx bx':Nat->Option aQ}{ys:List SV}{ts:List TypeId}{R:List Nat}(h:∀s∈ys.flatMap SV.ids,bx' s=bx s)(hR:∀s∈ys.flatMap SV.ids,s∈R) :
  G7 T bx (some ys) ts=G7 T bx' (some ys) ts/\∀s,As (G7 T bx (some ys) ts)=some s->s∈R:=by
 unfold G7
 split
 ·rename_i b x t t' hb
  cases hb
  split
  ·split
   ·split
    ·exact ⟨Fy fun s hs=>h s (by simpa using hs),fun s hs=>hR s (by simp [Dw s hs])⟩
    ·exact ⟨rfl,fun s hs=>nomatch hs⟩
   ·exact ⟨rfl,fun s hs=>nomatch hs⟩
  ·exact ⟨rfl,fun s hs=>nomatch hs⟩
 ·exact ⟨rfl,fun s hs=>nomatch hs⟩
theorem Ii {bx:Nat->Option aQ}{e:TypeId}{ei:TI}{b x:SV}:df (bX bx e ei b x)=6\/bX bx e ei b x=.fail:=by
 unfold bX
 split
 ·exact .inr rfl
 ·split
  ·exact .inr rfl
  ·dsimp only
   split
   ·exact .inr rfl
   ·split<;>(try split)<;>(try split)<;>first|exact .inl rfl|exact .inr rfl
theorem Kv {ρ:Operand->Option SV}{bx:Nat->Option aQ}{args:Array Operand}{ts:Array TypeId}:df (aJ T ρ bx (.call ⟨.builtin .append,args,ts⟩))=6\/aJ T ρ bx (.call ⟨.builtin .append,args,ts⟩)=.fail:=by
 simp only [aJ]
 split
 ·split
  ·split
   ·split
    ·exact Ii
    ·exact .inr rfl
   ·exact .inr rfl
  ·exact .inr rfl
 ·exact .inr rfl
theorem BJ {Q0:Q}{dst:Option Nat}{st:St}{V:View}{K K':St->View->Prop}{W D:List Nat}(ht:df Q0=6\/Q0=.fail)
  (ho:∀s,As Q0=some s->q s=none/\s∈W)(hd:∀k,dst=some k->(p k=none/\k∈D)/\∀s,q (nC s k)=none/\nC s k∈W)(hd0:∀k,dst=some k->q k=none/\k∈W)
  (hK:∀s2 V2,Good p q W D st V K s2 V2->K' s2 V2)(h:sZ Q0 dst (ov p q st) V K):sZ Q0 dst st V K':=by
 cases Q0 with
 | qY s vs n c x size bytes ty=>
  simp only [sZ] at h ⊢
  cases dst with
  | none=>exact h.elim
  | some d=>
   dsimp only at h ⊢
   obtain ⟨⟨hp,hD⟩,hn⟩:=hd d rfl
   obtain ⟨hs,QF⟩:=ho s rfl
   have core:∀k xs,r_ s vs n c size bytes ty d (ov p q st) V K k xs->r_ s vs n c size bytes ty d st V K' k xs:=by
    rintro k xs ⟨h1,h2,h3,h4,h5,h6⟩
    refine ⟨h1,h2,h3,h4,h5,?_⟩
    rw [cA (hn s).1] at h6
    split at h6
    ·exact h6.elim
    ·intro spare c' g1 g2
     have:=h6 spare c' g1 g2
     rw [kY hs,kY (hn s).1,jN (fun k hk=>by cases hk;exact hp)] at this
     refine hK _ _ ⟨View.Le.refl V,?_,?_,this⟩
     ·intro t ht;rw [dk,if_neg (fun e=>ht (by rw [e];exact hD))];rfl
     ·intro t ht
      show ((st.box s _).box _ _).boxes t=_
      rw [ai,if_neg (fun e=>ht (by rw [e];exact (hn s).2)),ai,if_neg (fun e=>ht (by rw [e];exact QF))]
   cases x with
   | inr xs=>exact core _ _ h
   | inl ak=>obtain ⟨xs,h1,h2,h3⟩:=h;exact ⟨xs,h1,h2,core _ _ h3⟩
 | app old ba vs n c x size bytes ty=>
  simp only [sZ] at h ⊢
  cases dst with
  | none=>exact h.elim
  | some d=>
   dsimp only at h ⊢
   obtain ⟨⟨hp,hD⟩,hn⟩:=hd d rfl
   cases old with
   | some s=>
    dsimp only at h ⊢
    obtain ⟨hs,QF⟩:=ho s rfl
    have core:∀k xs,Ce s vs n c size bytes ty d (ov p q st) V K k xs->Ce s vs n c size bytes ty d st V K' k xs:=by
     rintro k xs ⟨h1,h2,h3,h4,h5,h6⟩
     refine ⟨h1,h2,h3,h4,h5,?_⟩
     rw [cA (hn s).1] at h6
     split at h6
     ·exact h6.elim
     ·intro b J spare c' g1 g2
      have:=h6 b J spare c' g1 g2
      rw [kY hs,kY (hn s).1,jN (fun k hk=>by cases hk;exact hp)] at this
      refine hK _ _ ⟨View.Le.refl V,?_,?_,this⟩
      ·intro t ht;rw [dk,if_neg (fun e=>ht (by rw [e];exact hD))];rfl
      ·intro t ht
       show ((st.box s _).box _ _).boxes t=_
       rw [ai,if_neg (fun e=>ht (by rw [e];exact (hn s).2)),ai,if_neg (fun e=>ht (by rw [e];exact QF))]
    cases x with
    | inr xs=>exact core _ _ h
    | inl ak=>obtain ⟨xs,h1,h2,h3⟩:=h;exact ⟨xs,h1,h2,core _ _ h3⟩
   | none=>
    dsimp only at h ⊢
    obtain ⟨q1,q2⟩:=hd0 d rfl
    obtain ⟨vs',g1,g2,g3,g4,h⟩:=h
    have core:∀k xs,Cf vs' n c size bytes ty d (ov p q st) V K k xs->Cf vs' n c size bytes ty d st V K' k xs:=by
     rintro k xs ⟨h1,h2,h3,h4,h5⟩
     refine ⟨h1,h2,h3,h4,?_⟩
     rw [cA q1] at h5
     split at h5
     ·exact h5.elim
     ·intro spare c' k1 k2
      have:=h5 spare c' k1 k2
      rw [kY q1,jN (fun k hk=>by cases hk;exact hp)] at this
      refine hK _ _ ⟨View.Le.refl V,?_,?_,this⟩
      ·intro t ht;rw [dk,if_neg (fun e=>ht (by rw [e];exact hD))];rfl
      ·intro t ht
       show (st.box d _).boxes t=_
       rw [ai,if_neg (fun e=>ht (by rw [e];exact q2))]
    refine ⟨vs',g1,g2,g3,g4,?_⟩
    cases x with
    | inr xs=>exact core _ _ h
    | inl ak=>
     obtain ⟨xs,h1,h2,h3,h4⟩:=h
     refine ⟨xs,h1,h2,fun e=>?_,fun e=>core _ _ (h4 e)⟩
     have:=h3 e
     rw [jN (fun k hk=>by cases hk;exact hp)] at this
     refine hK _ _ ⟨View.Le.refl V,?_,fun t ht=>rfl,this⟩
     intro t ht;rw [dk,if_neg (fun e=>ht (by rw [e];exact hD))]
 | fail=>exact h.elim
 | _=>rcases ht with ht|ht<;>cases ht
theorem qC {h:Hint}{o:Oper}{st:St}{V:View}{K:St->View->Prop}{R W:List Nat}
  (hm:mr (bf LF RF o.op)=true\/(bf LF RF o.op=.call/\m=.none)\/((bf LF RF o.op=.kl/\m=.cG)\/(bf LF RF o.op=.give/\m=.give)\/bf LF RF o.op=.app))
  (hrw:pV (bf LF RF o.op) h (dX o)=some (R,W))(hp:∀t,t∈ic o.op\/t∈dX o->p t=none)(hq:∀s∈R,q s=none)
  (XJ:∀s∈W,q s=none){K':St->View->Prop}(hK:∀s2 V2,Good p q W (dX o) st V K s2 V2->K' s2 V2)(hv:cH P T m h o (ov p q st) V K):cH P T m h o st V K':=by
 have Fh:∀t∈ic o.op,st.au t=(ov p q st).au t:=fun t ht=>by simp [ov,hp t (.inl ht)]
 rcases hm with hm|hm
 ·obtain ⟨p2,q2,hO⟩:=nk hm hrw hv
  refine hO.again st V _ (View.Le.refl V) Fh (fun s hs=>(cA (hq s hs)).symm) ?_
  refine hK _ _ ⟨View.Le.refl V,fun t ht=>by simp [ov,hO.pd t ht],fun s hs=>by simp [ov,hO.qd s hs],?_⟩
  rw [Bp]
  ·exact hO.next
  ·intro t
   by_cases h:t∈dX o
   ·exact .inl (hp t (.inr h))
   ·exact .inr (hO.pd t h)
  ·intro s
   by_cases h:s∈W
   ·exact .inl (XJ s h)
   ·exact .inr (hO.qd s h)
 ·
  have hval:∀(x:Operand),x∈o.op.operands.toList->(ov p q st).aY x=st.aY x:=fun x hx=>Mx fun t e=>hp t (.inl (vJ hx e))
  have hdst:∀k,o.dst=some k->p k=none/\k∈dX o:=fun k hk=>by
   have:k∈dX o:=by simp [dX,hk]
   exact ⟨hp k (.inr this),this⟩
  have body:(¬bf LF RF o.op=.app)->∀(hh:∀xs f ss Li args ts,o.op=.call ⟨.value Li,args,ts⟩->bS (ov p q st).aY args.toList=some xs->(ov p q st).aY Li=some (.c (.CC f ss)) ->
    m=.none\/((m=.cG\/m=.give)/\(∀s∈reach (ov p q st).boxes 3 (dedup ((xs++uW ss).flatMap SV.ids)),q s=none/\s∈W)/\∀k,o.dst=some k->∀mm,q (eU mm k)=none/\eU mm k∈W)),
    cO P T m o (ov p q st) V K->cO P T m o st V K':=by
   intro happ hh hv
   unfold cO at hv ⊢
   split at hv
   ·rename_i Li args ts hop
    have e1:bS (ov p q st).aY args.toList=bS st.aY args.toList:=dZ _ fun x hx=>hval x (by rw [hop];simp [Op.operands,Call.operands];exact .inr (by simpa using hx))
    have e2:(ov p q st).aY Li=st.aY Li:=hval Li (by rw [hop];simp [Op.operands,Call.operands])
    split at hv
    ·rename_i xs hxs
     split at hv
     ·rename_i f ss hf
      have hmm:=hh _ _ _ _ _ _ hop hxs hf
      rw [e1] at hxs
      rw [e2] at hf
      simp only [hxs,hf]
      exact sK hmm hdst hK hv
     ·exact hv.elim
    ·exact hv.elim
   ·rename_i recv name args ts hop
    have hmn:m=.none:=by
     rw [hop] at hm
     rcases hm with ⟨-,h⟩|⟨h,-⟩|⟨h,-⟩|h
     ·exact h
     ·cases h
     ·cases h
     ·cases h
    have e1:bS (ov p q st).aY args.toList=bS st.aY args.toList:=dZ _ fun x hx=>hval x (by rw [hop];simp [Op.operands,Call.operands];exact .inr (by simpa using hx))
    have e2:(ov p q st).aY recv=st.aY recv:=hval recv (by rw [hop];simp [Op.operands,Call.operands])
    split at hv
    ·rename_i xs hxs
     split at hv
     ·rename_i t v hf
      split at hv
      ·rename_i f JK
       rw [e1] at hxs
       rw [e2] at hf
       simp only [hxs,hf,JK]
       exact sK (.inl hmn) hdst hK hv
      ·exact hv.elim
     ·exact hv.elim
    ·exact hv.elim
   ·rename_i hnc QB
    exfalso
    have hc4:bf LF RF o.op=.call\/bf LF RF o.op=.kl\/bf LF RF o.op=.give:=by
     rcases hm with ⟨h,-⟩|⟨h,-⟩|⟨h,-⟩|h
     ·exact .inl h
     ·exact .inr (.inl h)
     ·exact .inr (.inr h)
     ·exact absurd h happ
    clear hm happ hh
    generalize hop:o.op=op at hc4 hnc QB
    cases op with
    | call c=>
     obtain ⟨Gw,args,ts⟩:=c
     cases Gw with
     | builtin b=>cases b<;>rcases hc4 with h|h|h<;>cases h
     | value f=>exact hnc f args ts rfl
     | invoke r nm=>exact QB r nm args ts rfl
    | _=>rcases hc4 with h|h|h<;>cases h
  have U7:∀l:List Nat,W=l++dX o++(dX o).map (·+ 200000)->∀k,o.dst=some k->∀mm,q (eU mm k)=none/\eU mm k∈W:=by
   intro l hW k hk mm
   have:eU mm k∈W:=by
    rw [hW]
    have hkd:=(hdst k hk).2
    rcases J9 (m:=mm) (d:=k) with h|h<;>rw [h]<;>simp [hkd]
   exact ⟨XJ _ this,this⟩
  have own:∀l:List Nat,h=.own l->R=l->W=l++dX o++(dX o).map (·+ 200000)->(bf LF RF o.op=.kl\/bf LF RF o.op=.give\/bf LF RF o.op=.app)->(¬bf LF RF o.op=.app->m=.cG\/m=.give)->cH P T m h o st V K':=by
   intro l hh hR hW hcl hmm
   subst hh hR
   unfold cH at hv ⊢
   dsimp only at hv ⊢
   split at hv
   ·rename_i ys hys
    split at hv
    ·rename_i hsub
     have e0:bS (ov p q st).aY (ib o.op)=bS st.aY (ib o.op):=dZ _ fun x hx=>hval x (vI hx)
     rw [←e0,hys]
     dsimp only
     have hin:∀s∈eC (ov p q st).boxes o.op (ys.flatMap SV.ids),s∈R:=wi.1 hsub
     have e3:eC st.boxes o.op (ys.flatMap SV.ids)=eC (ov p q st).boxes o.op (ys.flatMap SV.ids):=by
      revert hin
      unfold eC
      split
      ·intro hin
       exact mu 3 _ fun s hs=>(cA (hq s (hin s hs))).symm
      ·exact fun _=>rfl
     rw [e3,hsub]
     dsimp only
     have XE:∀s∈R,s∈W:=fun s hs=>by rw [hW];simp [hs]
     by_cases happ:bf LF RF o.op=.app
     ·
      have hop:∃args ts,o.op=.call ⟨.builtin .append,args,ts⟩:=by
       generalize o.op=op at happ
       cases op with
       | call c=>
        obtain ⟨Gw,args,ts⟩:=c
        cases Gw with
        | builtin b=>cases b<;>first|exact ⟨args,ts,rfl⟩|cases happ
        | value f=>cases f with
         | func f=>simp only [bf] at happ;split at happ<;>(try split at happ)<;>(try split at happ)<;>(try split at happ)<;>cases happ
         | _=>cases happ
        | _=>cases happ
       | _=>cases happ
      obtain ⟨args,ts,hop⟩:=hop
      have e4:aJ T st.aY st.boxes o.op=aJ T (ov p q st).aY (ov p q st).boxes o.op/\∀s,As (aJ T st.aY st.boxes o.op)=some s->s∈R:=by
       have e5:bS (ov p q st).aY args.toList=bS st.aY args.toList:=by rw [hop] at e0;exact e0
       have UH:bS st.aY args.toList=some ys:=by rw [hop] at hys;rw [←e5];exact hys
       have hin':∀s∈ys.flatMap SV.ids,s∈R:=by
        intro s hs
        refine hin s ?_
        rw [hop]
        simp only [eC]
        exact eE 3 _ s (bK.2 hs)
       rw [hop]
       simp only [aJ]
       rw [e5,UH]
       exact ME (fun s hs=>by rw [cA (hq s (hin' s hs))]) hin'
      have hvb:sZ (aJ T (ov p q st).aY (ov p q st).boxes o.op) o.dst (ov p q st) V K:=by
       unfold cO at hv
       rw [hop] at hv ⊢
       exact hv
      have hgoal:sZ (aJ T st.aY st.boxes o.op) o.dst st V K'->cO P T m o st V K':=by
       intro h
       unfold cO
       rw [hop] at h ⊢
       exact h
      rw [←e4.1] at hvb
      refine hgoal ?_
      have htag:∀Q0,aJ T st.aY st.boxes o.op=Q0->df Q0=6\/Q0=.fail:=by
       intro Q0 hQ
       rw [←hQ,hop]
       exact Kv
      generalize Zx:aJ T st.aY st.boxes o.op=Q0 at hvb e4
      exact BJ (htag Q0 Zx) (fun s hs=>⟨hq s (e4.2 s hs),XE s (e4.2 s hs)⟩) (fun k hk=>⟨hdst k hk,fun s=>by
       have:=U7 R hW k hk (some s)
       exact this⟩) (fun k hk=>U7 R hW k hk Option.none) hK hvb
     ·have hmode:=hmm happ
      refine body happ (fun xs f ss Li args ts hop hxs hf=>.inr ⟨hmode,fun s hs=>?_,U7 R hW⟩) hv
      have:s∈R:=by
       apply hin
       rw [hop] at hys ⊢
       simp only [eC]
       have hy:ys.flatMap SV.ids=(xs++uW ss).flatMap SV.ids:=by
        have:∀(l:List Operand)(xs:List SV)(x:Operand)(v:SV),bS (ov p q st).aY l=some xs->(ov p q st).aY x=some v->bS (ov p q st).aY (l++[x])=some (xs++[v]):=by
         intro l
         induction l with
         | nil=>intro xs x v h1 h2;simp only [bS,Option.some.injEq] at h1;subst h1;simp [bS,h2]
         | cons o r ih=>
          intro xs x v h1 h2
          simp only [bS] at h1
          split at h1
          ·rename_i y l' h3 h4
           cases h1
           simp only [List.cons_append,bS,h3,ih _ x v h4 h2]
          ·cases h1
        simp only [ib] at hys
        rw [this _ _ _ _ hxs hf] at hys
        cases hys
        simp only [List.flatMap_append]
        congr 1
        simp [uW,SV.ids,C.ids,List.flatMap_map]
       rw [hy]
       exact hs
      exact ⟨hq s this,XE s this⟩
    ·exact hv.elim
   ·exact hv.elim
  rcases hm with ⟨hc,hm⟩|⟨hc,hm⟩|⟨hc,hm⟩|hc
  ·rw [hc] at hrw
   cases h with
   | own l=>cases hrw
   | free=>exact body (by rw [hc];exact fun h=>by cases h) (fun _ _ _ _ _ _ _ _ _=>.inl hm) hv
  ·rw [hc] at hrw
   cases h with
   | free=>cases hrw
   | own l=>
    simp only [pV,Option.some.injEq,Prod.mk.injEq] at hrw
    exact own l rfl hrw.1.symm hrw.2.symm (.inl hc) (fun _=>.inl hm)
  ·rw [hc] at hrw
   cases h with
   | free=>cases hrw
   | own l=>
    simp only [pV,Option.some.injEq,Prod.mk.injEq] at hrw
    exact own l rfl hrw.1.symm hrw.2.symm (.inr (.inl hc)) (fun _=>.inr hm)
  ·rw [hc] at hrw
   cases h with
   | free=>cases hrw
   | own l=>
    simp only [pV,Option.some.injEq,Prod.mk.injEq] at hrw
    exact own l rfl hrw.1.symm hrw.2.symm (.inr (.inr hc)) (fun h=>absurd hc h)
end Go.bE
namespace Go.bE
variable {P:Program} {T:cV} {LF RF:List Nat}
def xk (ops:Array Oper)(o:Oper)(st:St)(k:St->Bool->Prop):Prop:=
 match o.guard with
 | none=>k st true
 | some (j,b)=>match (ops[j]?).bind (·.dst) with
  | none=>False
  | some g=>match st.au g with
   | some (.c .tt)=>k st b
   | some (.c .ff)=>k st (!b)
   | some (.c (.v (.bool c)))=>(c=true->k (st.put (some g) (.c .tt)) b)/\(c=false->k (st.put (some g) (.c .ff)) (!b))
   | some (.oQ _)=>k st false
   | _=>False
def lB (P:Program)(T:cV)(m:CM)(h:Hint)(o:Oper)(V:View)(K:St->View->Prop)(st:St)(w:Bool):Prop:=
 match w with
 | true=>cH P T m h o st V K
 | false=>K (st.put o.dst ja) V
theorem BI {m:CM}{h:Hint}{ops:Array Oper}{o:Oper}{st:St}{V:View}{K:St->View->Prop} :
  qj P T m h ops o st V K↔xk ops o st (lB P T m h o V K):=by
 unfold qj xk
 cases hg:o.guard with
 | none=>rfl
 | some jb=>
  obtain ⟨j,b⟩:=jb
  dsimp only
  cases hd:(ops[j]?).bind (·.dst) with
  | none=>rfl
  | some g=>
   dsimp only
   split<;>simp_all<;>cases b<;>rfl
def iX:Nat->Option aQ:=fun _=>none
structure Tc (ops:Array Oper) (o:Oper) (st:St) (k:St->Bool->Prop) (p:Nat->Option SV) (w:Bool):Prop where
 pd:∀t,t∉dK ops o->p t=none
 next:k (ov p iX st) w
 again:∀(st2:St)(k2:St->Bool->Prop),(∀t∈dK ops o,st2.au t=st.au t)->k2 (ov p iX st2) w->xk ops o st2 k2
theorem fu {ops:Array Oper}{o:Oper}{st:St}{k:St->Bool->Prop}(h:xk ops o st k):∃p w,Tc ops o st k p w:=by
 unfold xk at h
 split at h
 ·rename_i hg
  exact ⟨fun _=>none,true,fun _ _=>rfl,h,fun st2 k2 _ hk=>by unfold xk;rw [hg];exact hk⟩
 ·rename_i j b hg
  split at h
  ·exact h.elim
  ·rename_i g hd
   have hgt:dK ops o=[g]:=by simp only [dK,hg,hd]
   split at h
   ·rename_i hs
    exact ⟨fun _=>none,b,fun _ _=>rfl,h,fun st2 k2 ha hk=>by unfold xk;simp only [hg,hd,ha g (by simp [hgt]),hs];exact hk⟩
   ·rename_i hs
    exact ⟨fun _=>none,!b,fun _ _=>rfl,h,fun st2 k2 ha hk=>by unfold xk;simp only [hg,hd,ha g (by simp [hgt]),hs];exact hk⟩
   ·rename_i c hs
    cases c with
    | true=>
     refine ⟨one (some g) (.c .tt),b,fun t ht=>dH (by intro e;apply ht;rw [hgt];simpa using e.symm),?_,fun st2 k2 ha hk=>?_⟩
     ·have:=h.1 rfl;rw [eK] at this;exact this
     ·unfold xk;simp only [hg,hd,ha g (by simp [hgt]),hs]
      exact ⟨fun _=>by rw [eK];exact hk,fun e=>by cases e⟩
    | false=>
     refine ⟨one (some g) (.c .ff),!b,fun t ht=>dH (by intro e;apply ht;rw [hgt];simpa using e.symm),?_,fun st2 k2 ha hk=>?_⟩
     ·have:=h.2 rfl;rw [eK] at this;exact this
     ·unfold xk;simp only [hg,hd,ha g (by simp [hgt]),hs]
      exact ⟨fun e=>(by cases e),fun _=>by rw [eK];exact hk⟩
   ·rename_i xs hs
    exact ⟨fun _=>none,false,fun _ _=>rfl,h,fun st2 k2 ha hk=>by unfold xk;simp only [hg,hd,ha g (by simp [hgt]),hs];exact hk⟩
   ·exact h.elim
theorem mH {ops:Array Oper}{o:Oper}{st:St}{k k':St->Bool->Prop}(hk:∀s w,k s w->k' s w)(h:xk ops o st k):xk ops o st k':=by
 obtain ⟨p,w,hO⟩:=fu h
 exact hO.again st k' (fun _ _=>rfl) (hk _ _ hO.next)
theorem put_comm {st:St}{d d':Option Nat}{x y:SV}(h:∀k,d=some k->d'≠some k):(st.put d x).put d' y=(st.put d' y).put d x:=by
 cases d with
 | none=>rfl
 | some d=>
  cases d' with
  | none=>rfl
  | some d'=>
   have hne:d≠d':=fun e=>h d rfl (by rw [e])
   simp only [St.put]
   congr 1
   funext t
   by_cases e:t=d
   ·subst e;simp [Nat.beq_refl,dw hne]
   ·simp [dw e]
theorem E8 {ops:Array Oper}{o1 o2:Oper}{st:St}{F:St->Bool->Bool->Prop}(h:xk ops o1 st fun s w1=>xk ops o2 s fun s' w2=>F s' w1 w2) :
  xk ops o2 st fun s w2=>xk ops o1 s fun s' w1=>F s' w1 w2:=by
 by_cases hsh:∃g,dK ops o1=[g]/\dK ops o2=[g]
 ·obtain ⟨g,e1,e2⟩:=hsh
  unfold dK at e1 e2
  split at e1
  ·cases e1
  ·rename_i j1 b1 hg1
   split at e1
   ·rename_i g1 hd1
    cases e1
    split at e2
    ·cases e2
    ·rename_i j2 b2 hg2
     split at e2
     ·rename_i g2 hd2
      cases e2
      unfold xk at h ⊢
      simp only [hg1,hg2,hd1,hd2] at h ⊢
      split at h
      ·rename_i hs;exact h
      ·rename_i hs;exact h
      ·rename_i c hs
       simp only [dk,if_true] at h ⊢
       exact h
      ·rename_i xs hs;exact h
      ·exact h.elim
     ·cases e2
   ·cases e1
 ·obtain ⟨p1,w1,h1⟩:=fu h
  obtain ⟨p2,w2,h2⟩:=fu h1.next
  have Q9:∀o:Oper,dK ops o=[]\/∃g,dK ops o=[g]:=by
   intro o;unfold dK
   split
   ·exact .inl rfl
   ·split
    ·exact .inr ⟨_,rfl⟩
    ·exact .inl rfl
  have hdj:∀t,t∈dK ops o1->t∉dK ops o2:=by
   intro t ht1 ht2
   rcases Q9 o1 with e1|⟨g1,e1⟩
   ·rw [e1] at ht1;cases ht1
   ·rcases Q9 o2 with e2|⟨g2,e2⟩
    ·rw [e2] at ht2;cases ht2
    ·rw [e1] at ht1;rw [e2] at ht2
     simp at ht1 ht2
     exact hsh ⟨t,by rw [e1,ht1],by rw [e2,ht2]⟩
  refine h2.again st _ (fun t ht=>?_) (h1.again _ _ (fun t ht=>?_) ?_)
  ·show st.au t=(ov p1 iX st).au t
   simp [ov,h1.pd t (fun h=>hdj t h ht)]
  ·show (ov p2 iX st).au t=st.au t
   simp [ov,h2.pd t (hdj t ht)]
  ·have e:ov p1 iX (ov p2 iX st)=ov p2 iX (ov p1 iX st):=Bp (fun t=>by
    by_cases ht:t∈dK ops o1
    ·exact .inr (h2.pd t (hdj t ht))
    ·exact .inl (h1.pd t ht)) (fun _=>.inl rfl)
   show F (ov p1 iX (ov p2 iX st)) w1 w2
   rw [e]
   exact h2.next
theorem ir {o:Oper}{k:Nat}(h:o.dst=some k):k∈dX o:=by simp [dX,h]
theorem Mv {ops:Array Oper}{m1 m2:CM}{h1 h2:Hint}{o1 o2:Oper}{st:St}{V:View}{K:St->View->Prop}
  (hi:indep LF RF ops h1 h2 o1 o2=true)
  (hm:mr (bf LF RF o2.op)=true\/(bf LF RF o2.op=.call/\m2=.none)\/((bf LF RF o2.op=.kl/\m2=.cG)\/(bf LF RF o2.op=.give/\m2=.give)\/bf LF RF o2.op=.app))
  (hv:qj P T m1 h1 ops o1 st V fun st1 V1=>qj P T m2 h2 ops o2 st1 V1 K) :
  qj P T m2 h2 ops o2 st V fun st2 V2=>qj P T m1 h1 ops o1 st2 V2 K:=by
 unfold indep at hi
 simp only [Bool.and_eq_true] at hi
 obtain ⟨⟨⟨⟨⟨hq1,hd1⟩,hd2⟩,hg1⟩,hg2⟩,hrw⟩:=hi
 split at hrw
 ·rename_i R1 W1 R2 W2 hr1 hr2
  simp only [Bool.and_eq_true] at hrw
  obtain ⟨⟨QO,QP⟩,XN⟩:=hrw
  rw [CN] at hd1 hd2 hg1 hg2 QO QP XN
  have Uj:∀k,o2.dst=some k->o1.dst≠some k:=fun k hk hk'=>hd1 k (ir hk') (by simp [ir hk])
  simp only [BI] at hv ⊢
  have sa:xk ops o1 st fun s w1=>xk ops o2 s fun s' w2=>lB P T m1 h1 o1 V (fun s'' eN=>lB P T m2 h2 o2 eN K s'' w2) s' w1:=by
   refine mH (fun s w1 hb=>?_) hv
   cases w1 with
   | true=>
    obtain ⟨p,q,hO⟩:=nk hq1 hr1 hb
    obtain ⟨p2,w2,hG⟩:=fu hO.next
    refine hG.again s _ (fun t ht=>?_) ?_
    ·show s.au t=(ov p q s).au t
     simp [ov,hO.pd t (fun h=>hd1 t h (by simp [ht]))]
    ·refine hO.again _ V _ (View.Le.refl V) (fun t ht=>?_) (fun _ _=>rfl) ?_
     ·show (ov p2 iX s).au t=s.au t
      simp [ov,hG.pd t (fun h=>hg2 t h ht)]
     ·rw [Bp (q2:=iX) _ (fun _=>.inr rfl)]
      ·exact hG.next
      ·intro t
       by_cases ht:t∈dK ops o2
       ·exact .inl (hO.pd t (fun h=>hd1 t h (by simp [ht])))
       ·exact .inr (hG.pd t ht)
   | false=>
    simp only [lB] at hb
    obtain ⟨p2,w2,hG⟩:=fu hb
    have hp:∀k,o1.dst=some k->p2 k=none:=fun k hk=>hG.pd k (fun h=>hd1 k (ir hk) (by simp [h]))
    refine hG.again s _ (fun t ht=>?_) ?_
    ·rw [eK]
     simp [ov,dH (d:=o1.dst) (x:=ja) (t:=t) (fun h=>hd1 t (ir h) (by simp [ht]))]
    ·show lB P T m2 h2 o2 V K ((ov p2 iX s).put o1.dst ja) w2
     rw [jN hp]
     exact hG.next
  have sb:=E8 sa
  have sc:xk ops o2 st fun s w2=>xk ops o1 s fun s' w1=>lB P T m2 h2 o2 V (fun s'' eN=>lB P T m1 h1 o1 eN K s'' w1) s' w2:=by
   refine mH (fun s w2 hb=>mH (fun s' w1 hb=>?_) hb) sb
   cases w1 with
   | true=>
    obtain ⟨p,q,hO⟩:=nk hq1 hr1 hb
    cases w2 with
    | true=>
     refine qC hm hr2 (fun t ht=>hO.pd t (fun h=>hd1 t h (by rcases ht with ht|ht<;>simp [ht]))) (fun s hs=>hO.qd s (fun h=>QO s h hs)) (fun s hs=>hO.qd s (fun h=>XN s h hs)) (fun s2 V2 hG=>?_) hO.next
     obtain ⟨g1,g2,g3,g4⟩:=hG
     exact hO.again s2 V2 K g1 (fun t ht=>g2 t (fun h=>hd2 t h (by simp [ht]))) (fun s hs=>g3 s (fun h=>QP s h hs)) g4
    | false=>
     refine hO.again _ V K (View.Le.refl V) (fun t ht=>?_) (fun s _=>by cases o2.dst<;>rfl) ?_
     ·rw [eK]
      simp [ov,dH (d:=o2.dst) (x:=ja) (t:=t) (fun h=>hd2 t (ir h) (by simp [ht]))]
     ·have:=hO.next
      simp only [lB] at this
      rw [jN (fun k hk=>hO.pd k (fun h=>hd1 k h (by simp [ir hk])))] at this
      exact this
   | false=>
    cases w2 with
    | true=>
     simp only [lB] at hb ⊢
     rw [eK] at hb
     refine qC hm hr2 (fun t ht=>dH (fun e=>hd1 t (ir e) (by rcases ht with ht|ht<;>simp [ht]))) (fun s hs=>rfl) (fun s hs=>rfl) (fun s2 V2 hG=>?_) hb
     have:=hG.2.2.2
     rw [←eK] at this
     exact this
    | false=>
     simp only [lB] at hb ⊢
     rw [put_comm Uj]
     exact hb
  refine mH (fun s w2 hb=>?_) sc
  cases w2 with
  | true=>
   simp only [lB] at hb ⊢
   obtain ⟨p,w1,hG⟩:=fu hb
   refine qC hm hr2 (fun t ht=>hG.pd t (fun h=>?_)) (fun _ _=>rfl) (fun _ _=>rfl) (fun s2 V2 Zt=>?_) hG.next
   ·rcases ht with ht|ht
    ·exact hg1 t h ht
    ·exact hd2 t ht (by simp [h])
   ·obtain ⟨g1,g2,g3,g4⟩:=Zt
    exact hG.again s2 _ (fun t ht=>g2 t (fun h=>hd2 t h (by simp [ht]))) g4
  | false=>
   simp only [lB] at hb ⊢
   obtain ⟨p,w1,hG⟩:=fu hb
   refine hG.again _ _ (fun t ht=>?_) ?_
   ·rw [eK]
    simp [ov,dH (d:=o2.dst) (x:=ja) (t:=t) (fun h=>hd2 t (ir h) (by simp [ht]))]
   ·have:=hG.next
    rw [jN (fun k hk=>hG.pd k (fun h=>hd2 k (ir hk) (by simp [h])))] at this
    exact this
 ·cases hrw
end Go.bE
